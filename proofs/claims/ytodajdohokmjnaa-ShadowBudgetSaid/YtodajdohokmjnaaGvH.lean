/-
  The library of the decompiler, part H: slices of the call's own: append, letting them go; slices written out. Conditions: none; it is about whatever program.
-/
import Derived.Test.YtodajdohokmjnaaGvG
namespace Gv
open Go
set_option linter.unusedVariables false
set_option linter.unusedSimpArgs false

/-- the slice value at the head of a block of the call's own, or nil -/
def slv : Option Nat → Nat → Nat → Value
  | some p, n, cap => .slice (some ⟨p, 0, none⟩) n cap
  | none, _, _ => .slice none 0 0

theorem set_ks_none {L : List Ent} {i : Nat} {cp : CP} : ∀ k ∈ ks (L.set i ⟨none, cp⟩), ∃ j e, j ≠ i ∧ L[j]? = some e ∧ e.key = some k := by
  intro k hk
  obtain ⟨e, he, hek⟩ := mem_ks.1 hk
  obtain ⟨j, hj⟩ := List.mem_iff_getElem?.1 he
  rw [List.getElem?_set] at hj
  split at hj
  · split at hj
    · simp only [Option.some.injEq] at hj; subst hj; cases hek
    · cases hj
  · rename_i hne
    exact ⟨j, e, fun h => hne h.symm, hj, hek⟩

theorem ks_set_none_sub {L : List Ent} {i : Nat} {cp : CP} : ks (L.set i ⟨none, cp⟩) |>.Sublist (ks L) := by
  induction L generalizing i with
  | nil => simp [ks]
  | cons x r ih =>
    cases i with
    | zero =>
      cases hk : x.key with
      | none => simp [ks, hk]
      | some p => simp [ks, hk]
    | succ i =>
      cases hk : x.key with
      | none => simpa [ks, hk] using ih
      | some p => simpa [ks, hk] using ih

/-- an entry is struck out -/
theorem St.kill {c E L a W} (h : St c E L a W) (i : Nat) : St c E (L.set i ⟨none, .dead⟩) a W := by
  have hsub := ks_set_none_sub (L := L) (i := i) (cp := .dead)
  have hk : ∀ k ∈ ks (L.set i ⟨none, .dead⟩), k ∈ ks L := fun k hk => hsub.subset hk
  have hext : Ext (ks L ++ c.A0) W (ks (L.set i ⟨none, .dead⟩) ++ c.A0) W := .drop fun k hm => by
    rcases List.mem_append.1 hm with hm | hm
    · exact List.mem_append.2 (.inl (hk k hm))
    · exact List.mem_append.2 (.inr hm)
  exact
  { defers := h.defers
    size := h.size
    env := fun t τ hl => let ⟨v, h1, h2⟩ := h.env t τ hl; ⟨v, h1, τ.mono hext h2⟩
    fr := h.fr
    own := fun e he => by
      obtain ⟨j, hj⟩ := List.mem_iff_getElem?.1 he
      rw [List.getElem?_set] at hj
      split at hj
      · split at hj
        · simp only [Option.some.injEq] at hj; subst hj; trivial
        · cases hj
      · have h1 := h.own e (List.mem_of_getElem? hj)
        unfold Ent.ok at *
        split at h1
        · obtain ⟨o', ho, hh⟩ := h1
          exact ⟨o', ho, CP.mono _ hext hh⟩
        · exact h1
    nodup := h.nodup.sublist hsub
    lt := fun k hm => h.lt k (hk k hm)
    mine := fun k hm => h.mine k (hk k hm)
    old := fun k hm => ⟨(h.old k hm).1, fun h2 => (h.old k hm).2 (hk k h2)⟩ }

theorem St.not_left {c E L a W} (h : St c E L a W) {i p : Nat} {cp : CP} (hi : L[i]? = some ⟨some p, cp⟩) : p ∉ ks (L.set i ⟨none, .dead⟩) ++ c.A0 := by
  intro hm
  rcases List.mem_append.1 hm with hm | hm
  · obtain ⟨j, e, hne, hj, hek⟩ := set_ks_none p hm
    exact hne (ks_inj h.nodup hj hi hek rfl)
  · exact (h.old p hm).2 (mem_ks.2 ⟨_, List.mem_of_getElem? hi, rfl⟩)

theorem reps_prefix {α : Type} [Rp α] {A W} {cs : Array Value} {xs : List α} {cap : Nat} (h : cs.size = cap * Rp.size α) (hn : xs.length ≤ cap) (hr : Reps A W (cs.toList.take (xs.length * Rp.size α)) xs) :
    0 + xs.length * Rp.size α ≤ cs.size ∧ Reps A W ((cs.toList.drop 0).take (xs.length * Rp.size α)) xs := by
  refine ⟨?_, by simpa using hr⟩
  rw [h, Nat.zero_add]; exact Nat.mul_le_mul_right _ hn

section
variable {c : Cx} {E : List (Nat × VP)} {L : List Ent} {ops : Array Oper} {Q : Exit → Act → World → Prop}
variable {d : Option Tmp} {ty : TypeId} {pos : String} {af : Array Edge} {g : Option (Nat × Bool)} {x y : Operand} {t t2 : TypeId}

/-- a slice of the call's own is let go: it reads as a list from here on -/
theorem St.freeze {a : Act} {W : World} {α : Type} [Rp α] {i s cap T : Nat} {key : Option Nat} {xs : List α} (h : St c E L a W) (hl : look E s = some (.eq (slv key xs.length cap))) (hL : L[i]? = some ⟨key, .row T xs cap⟩) :
    St c ((s, .of xs) :: E) (L.set i ⟨none, .dead⟩) a W := by
  have hk := h.kill i
  refine { hk with env := fun t τ hlk => ?_ }
  simp only [look] at hlk
  by_cases e : Nat.beq s t = true
  · rw [e] at hlk
    simp only [cond_true, Option.some.injEq] at hlk
    subst hlk
    have := look_beq.1 e
    subst this
    obtain ⟨v, h1, h2⟩ := h.env s _ hl
    refine ⟨v, h1, of_list.2 ?_⟩
    have h2' : v = slv key xs.length cap := h2
    subst h2'
    have ho := h.own _ (List.mem_of_getElem? hL)
    cases key with
    | none => exact .inl ⟨rfl, ho.1⟩
    | some p =>
      obtain ⟨o, hob, cs, rfl, hsz, hn, hcm, hr⟩ := ho
      obtain ⟨h3, h4⟩ := reps_prefix hsz hn hr
      refine .inr ⟨p, 0, cap, cs, T, (0, 0), rfl, h.not_left hL, hob, hn, by omega, h3, ?_⟩
      have hsub := ks_set_none_sub (L := L) (i := i) (cp := .dead)
      exact h4.mono (.drop fun k hm => by
        rcases List.mem_append.1 hm with hm | hm
        · exact List.mem_append.2 (.inl (hsub.subset hm))
        · exact List.mem_append.2 (.inr hm))
  · simp only [Bool.not_eq_true] at e
    rw [e] at hlk
    exact hk.env t τ hlk

theorem Sq.freeze {l : List Oper} {α : Type} [Rp α] {key : Option Nat} {xs : List α} {cap T : Nat} (i s : Nat) (hl : look E s = some (.eq (slv key xs.length cap))) (hL : L[i]? = some ⟨key, .row T xs cap⟩)
    (k : Sq c ops Q l ((s, .of xs) :: E) (L.set i ⟨none, .dead⟩)) : Sq c ops Q l E L := fun a W st => k a W (st.freeze hl hL)
theorem To.freeze {x : Exit} {α : Type} [Rp α] {key : Option Nat} {xs : List α} {cap T : Nat} (i s : Nat) (hl : look E s = some (.eq (slv key xs.length cap))) (hL : L[i]? = some ⟨key, .row T xs cap⟩)
    (k : To c Q x ((s, .of xs) :: E) (L.set i ⟨none, .dead⟩)) : To c Q x E L := fun a W st => k a W (st.freeze hl hL)
theorem Wp.freeze {code : Code} {α : Type} [Rp α] {key : Option Nat} {xs : List α} {cap T : Nat} (i s : Nat) (hl : look E s = some (.eq (slv key xs.length cap))) (hL : L[i]? = some ⟨key, .row T xs cap⟩)
    (k : Wp c Q code ((s, .of xs) :: E) (L.set i ⟨none, .dead⟩)) : Wp c Q code E L := fun a W st => k a W (st.freeze hl hL)

/-- a nil slice begins a slice of the call's own -/
theorem St.ownNil {a : Act} {W : World} {α : Type} [Rp α] (T : TypeId) (h : St c E L a W) : St c E (⟨none, .row T ([] : List α) 0⟩ :: L) a W :=
  { h with own := fun e he => by
            rcases List.mem_cons.1 he with rfl | he
            · exact ⟨rfl, rfl⟩
            · exact h.own e he }
theorem Sq.own {l : List Oper} {α : Type} [Rp α] (T : TypeId) (k : Sq c ops Q l E (⟨none, .row T ([] : List α) 0⟩ :: L)) : Sq c ops Q l E L := fun a W st => k a W (st.ownNil T)

theorem look_own : Look c E L (.const (.slice none 0 0)) (.eq (slv none 0 0)) := fun _ _ _ => rfl

theorem r_lenO {key : Option Nat} {n cap : Nat} {e i T : Nat} {α : Type} [Rp α] {xs : List α} (hu : c.P.underlying t = some (.slice e)) (hx : Look c E L x (.eq (slv key n cap))) (hn : n = xs.length) (hL : L[i]? = some ⟨key, .row T xs cap⟩) : HR c E L ⟨d, .call ⟨.builtin .len, #[x], #[t]⟩, ty, pos, af, g⟩ (.of (n : Int)) := .pure fun a W s => by
  subst hn
  have h1 : a.eval x = _ := hx a W s
  have ho := s.own _ (List.mem_of_getElem? hL)
  cases key with
  | none =>
    have : xs = [] := ho.1
    subst this
    exact ⟨.int .i64 0, by simp [execOp, resolve, invoke, builtin, Builtin.len_, h1, slv, run_underlying hu, goInt], of_int.2 rfl⟩
  | some p => exact ⟨.int .i64 xs.length, by simp [execOp, resolve, invoke, builtin, Builtin.len_, h1, slv, run_underlying hu, goInt], of_int.2 rfl⟩

/-! ### append -/

theorem Reps.one {α : Type} [Rp α] {A W} {cs : List Value} {xs : List α} (h : Reps A W cs xs) : ∀ u ∈ cs, u.oneCell' = true := by
  intro u hu
  obtain ⟨j, hj⟩ := List.mem_iff_getElem?.1 hu
  have hlt := (List.getElem?_eq_some_iff.1 hj).1
  have h1 := h.1
  by_cases hs : Rp.size α = 0
  · rw [hs, Nat.mul_zero] at h1; omega
  · have hp : 0 < Rp.size α := Nat.pos_of_ne_zero hs
    have hi : j / Rp.size α < _ := (Nat.div_lt_iff_lt_mul hp).2 (by rw [h1] at hlt; exact hlt)
    refine Rp.one (h.2 _ hi) u (List.mem_iff_getElem?.2 ⟨j % Rp.size α, ?_⟩)
    rw [List.getElem?_take, if_pos (Nat.mod_lt _ hp), List.getElem?_drop, Nat.mul_comm, Nat.div_add_mod]
    exact hj

theorem reps_append {α : Type} [Rp α] {A W} {cs ds : List Value} {xs ys : List α} (h : Reps A W cs xs) (h' : Reps A W ds ys) : Reps A W (cs ++ ds) (xs ++ ys) := by
  refine ⟨by rw [List.length_append, h.1, h'.1, List.length_append, Nat.add_mul], fun i hi => ?_⟩
  rw [List.length_append] at hi
  by_cases hlt : i < xs.length
  · have h1 := h.2 i hlt
    have hle : (i + 1) * Rp.size α ≤ xs.length * Rp.size α := Nat.mul_le_mul_right _ hlt
    rw [Nat.succ_mul] at hle
    have hcl := h.1
    rw [List.drop_append_of_le_length (by omega), List.take_append_of_le_length (by simp; omega)]
    rw [List.getElem_append_left hlt]
    exact h1
  · have h1 := h'.2 (i - xs.length) (by omega)
    have e : i * Rp.size α = cs.length + (i - xs.length) * Rp.size α := by
      rw [h.1, ← Nat.add_mul]; congr 1; omega
    rw [e, List.drop_append, List.drop_of_length_le (by omega), List.nil_append, show cs.length + (i - xs.length) * Rp.size α - cs.length = (i - xs.length) * Rp.size α by omega]
    rw [List.getElem_append_right (by omega)]
    exact h1

/-- the cells of a list that is read, as an append takes them -/
theorem Sl.cells {α : Type} [Rp α] {A W v} {ys : List α} (h : Sl A W v ys) :
    (v = .slice none 0 0 ∧ ys = []) ∨ ∃ (b off cap : Nat) (news : List Value), v = .slice (some ⟨b, off, none⟩) ys.length cap ∧ news.length = ys.length * Rp.size α ∧ (∀ (j : Nat) (u : Value), news[j]? = some u → W.cell? ((⟨b, off, none⟩ : Addr).add j) = some u) ∧
      (∀ u ∈ news, u.oneCell' = true) ∧ Reps A W news ys := by
  rcases h with h | ⟨b, off, cap, cur, T, fz, h1, h2, h3, h4, h5, h6, h7⟩
  · exact .inl h
  · refine .inr ⟨b, off, cap, _, h1, h7.1, fun j u hu => ?_, fun u hu => ?_, h7⟩
    · rw [List.getElem?_take] at hu
      split at hu
      · rw [addr_add, cell_of_row W b (off + j) cur T fz h3]
        rw [List.getElem?_drop] at hu
        simpa using hu
      · cases hu
    · exact h7.one u hu

theorem St.grow {a : Act} {W : World} (h : St c E L a W) {i : Nat} {e0 : Ent} (hi : L[i]? = some e0) {o : Obj} {cp : CP} (hc : cp.holds (ks L ++ c.A0) W o) :
    St c E (L.set i ⟨some W.heap.size, cp⟩) a (W.alloc o) := by
  have h1 := h.alloc hc
  refine h1.sub (fun e he => ?_) ?_
  · obtain ⟨j, hj⟩ := List.mem_iff_getElem?.1 he
    rw [List.getElem?_set] at hj
    split at hj
    · split at hj
      · simp only [Option.some.injEq] at hj; subst hj; simp
      · cases hj
    · exact List.mem_cons_of_mem _ (List.mem_of_getElem? hj)
  · have hnew : W.heap.size ∉ ks L := fun hm => Nat.lt_irrefl _ (h.lt _ hm)
    have key : ∀ (L : List Ent) (i : Nat) (q : Nat), q ∉ ks L → (ks L).Nodup → (ks (L.set i ⟨some q, cp⟩)).Nodup ∧ ∀ k ∈ ks (L.set i ⟨some q, cp⟩), k = q ∨ k ∈ ks L := by
      intro L
      induction L with
      | nil => intro i q _ hn; exact ⟨by simpa using hn, by simp [ks]⟩
      | cons x r ih =>
        intro i q hq hn
        cases hx : x.key with
        | none =>
          have hq' : q ∉ ks r := by simpa [ks, hx] using hq
          have hn' : (ks r).Nodup := by simpa [ks, hx] using hn
          cases i with
          | zero => exact ⟨by simp only [List.set_cons_zero, ks]; exact List.nodup_cons.2 ⟨hq', hn'⟩, fun k hk => by
              simp only [List.set_cons_zero, ks, List.mem_cons] at hk; rcases hk with rfl | hk
              · exact .inl rfl
              · exact .inr (by simpa [ks, hx] using hk)⟩
          | succ i =>
            obtain ⟨h1, h2⟩ := ih i q hq' hn'
            exact ⟨by simpa [ks, hx] using h1, fun k hk => by have := h2 k (by simpa [ks, hx] using hk); simpa [ks, hx] using this⟩
        | some p =>
          simp only [ks, hx, List.mem_cons, not_or] at hq
          simp only [ks, hx] at hn
          obtain ⟨hp, hn'⟩ := List.nodup_cons.1 hn
          cases i with
          | zero => exact ⟨by simp only [List.set_cons_zero, ks]; exact List.nodup_cons.2 ⟨hq.2, hn'⟩, fun k hk => by
              simp only [List.set_cons_zero, ks, List.mem_cons] at hk; rcases hk with rfl | hk
              · exact .inl rfl
              · exact .inr (by simp [ks, hx, hk])⟩
          | succ i =>
            obtain ⟨h1, h2⟩ := ih i q hq.2 hn'
            refine ⟨?_, fun k hk => ?_⟩
            · simp only [List.set_cons_succ, ks, hx]
              refine List.nodup_cons.2 ⟨fun hm => ?_, h1⟩
              rcases h2 p hm with e | hm'
              · exact hq.1 e.symm
              · exact hp hm'
            · simp only [List.set_cons_succ, ks, hx, List.mem_cons] at hk
              rcases hk with rfl | hk
              · exact .inr (by simp [ks, hx])
              · rcases h2 k hk with e | hm'
                · exact .inl e
                · exact .inr (by simp [ks, hx, hm'])
    exact (key L i _ hnew h.nodup).1

theorem row_new {α : Type} [Rp α] {A W} {cs ds : List Value} {xs : List α} {T cap : Nat} (h : Reps A W cs xs) (hz : ds.length = (cap - xs.length) * Rp.size α) (hn : xs.length ≤ cap) (hm : cap ≤ maxLen) {arr : Array Value} (ha : arr.toList = cs ++ ds) :
    (CP.row T xs cap).holds A W (.cells arr T (0, 0)) := by
  refine ⟨arr, rfl, ?_, hn, hm, ?_⟩
  · have : arr.size = (cs ++ ds).length := by rw [← ha]; simp
    rw [this, List.length_append, h.1, hz, ← Nat.add_mul]; congr 1; omega
  · rw [ha, ← h.1, List.take_left]; exact h

theorem Sq.app {α : Type} [Rp α] {rest : List Oper} {dd i e bytes cap : Nat} {key : Option Nat} {xs ys r : List α} {z : α} (hu : c.P.underlying t = some (.slice e)) (te : Ty c.P e α) (zr : Zr c.P e z)
    (hby : (c.P.info? e).map (·.bytes) = some bytes) (hs : Look c E L x (.eq (slv key xs.length cap))) (hL : L[i]? = some ⟨key, .row e xs cap⟩) (hy : Look c E L y (.of ys)) (h : appM bytes xs ys = some r) (hn : Nat.blt dd c.n = true)
    (k : ∀ key' cap', Sq c ops Q rest ((dd, .eq (slv key' r.length cap')) :: E) (L.set i ⟨key', .row e r cap'⟩)) :
    Sq c ops Q (⟨some dd, .call ⟨.builtin .append, #[x, y], #[t, t]⟩, ty, pos, af, none⟩ :: rest) E L := fun a W s => by
  obtain ⟨hb1, hb2, rfl⟩ := appM_some h
  obtain ⟨ie, zv, hie, hz, hzh⟩ := zr.zero
  have hie2 : ie.size = Rp.size α := by
    obtain ⟨i2, h1, h2⟩ := te.info
    rw [hie] at h1; cases h1; exact h2
  have hbytes : ie.bytes = bytes := by simpa [hie] using hby
  have hzs : zv.cells.size = Rp.size α := by have := Rp.len (hzh [] W).2; simpa using this
  subst hbytes
  have h1 : a.eval x = _ := hs a W s
  have ho := s.own _ (List.mem_of_getElem? hL)
  have hN : dd < c.n := by simpa using hn
  have hY := (of_list.1 (hy a W s)).cells
  have hml : maxLen = 9223372036854775807 := rfl
  -- what the operation does, as one fact
  have main : ∃ key' cap' W', (Builtin.append_ #[t, t] ty #[a.eval x, a.eval y]).run c.P W = .ok (slv key' (xs ++ ys).length cap') W' ∧ St c E (L.set i ⟨key', .row e (xs ++ ys) cap'⟩) a W' := by
    cases key with
    | none =>
      obtain ⟨hx0, hc0⟩ : xs = [] ∧ cap = 0 := ho
      subst hx0
      subst hc0
      have hself : L.set i ⟨none, .row e ([] : List α) 0⟩ = L := by
        obtain ⟨hlt, he⟩ := List.getElem?_eq_some_iff.1 hL
        rw [← he]; exact List.set_getElem_self hlt
      rcases hY with ⟨hv, rfl⟩ | ⟨b, off, cp, news, hv, hnl, hnews, h1c, hrep⟩
      · refine ⟨none, 0, W, ?_, by simpa [hself] using s⟩
        simp [h1, hv, slv, Builtin.append_, run_underlying hu, Go.sizeOf, typeInfo, hie, Builtin.lenOf, Builtin.firstCells]
      · by_cases hm : ys.length = 0
        · have : ys = [] := List.eq_nil_of_length_eq_zero hm
          subst this
          refine ⟨none, 0, W, ?_, by simpa [hself] using s⟩
          simp [h1, hv, slv, Builtin.append_, run_underlying hu, Go.sizeOf, typeInfo, hie, Builtin.lenOf, Builtin.firstCells, loadCells, loadCellsFrom]
        · simp only [List.length_nil, Nat.zero_add] at hb1 hb2
          have hr := run_append_nil (P := c.P) W t ty e ie zv hu hie hz ⟨b, off, none⟩ ys.length cp news (by rw [hie2]; exact hnl) hnews (by omega) (by omega) (by omega)
          refine ⟨some W.heap.size, grownCap W ys.length 0 e, _, by rw [h1, hv]; simpa [slv] using hr, ?_⟩
          have hge := grownCap_ge W ys.length 0 e
          have hle := grownCap_le_maxLen W ys.length 0 e hb2
          have := (s.world (Fr.drew W)).grow hL (o := .cells (news.toArray ++ Builtin.zeroCells zv.cells (grownCap W ys.length 0 e - ys.length)) e) (cp := .row e ([] ++ ys) (grownCap W ys.length 0 e))
            (row_new (T := e) (hrep.mono (Ext.fr (Fr.drew W))) (ds := (Builtin.zeroCells zv.cells (grownCap W ys.length 0 e - ys.length)).toList) (by rw [Array.length_toList, size_zeroCells, hzs]) hge hle (by simp))
          simpa using this
    | some p =>
      obtain ⟨ob, hob, cs, rfl, hsz, hxn, hcm, hrx⟩ := ho
      have hx1 : a.eval x = .slice (some ⟨p, 0, none⟩) xs.length cap := h1
      rcases hY with ⟨hv, rfl⟩ | ⟨b, off, cp, news, hv, hnl, hnews, h1c, hrep⟩
      · refine ⟨some p, cap, W, ?_, ?_⟩
        · simp [hx1, hv, slv, Builtin.append_, run_underlying hu, Go.sizeOf, typeInfo, hie, Builtin.lenOf, Builtin.firstCells, storeCells, hxn]
        · have : L.set i ⟨some p, .row e (xs ++ []) cap⟩ = L := by
            obtain ⟨hlt, he⟩ := List.getElem?_eq_some_iff.1 hL
            rw [List.append_nil, ← he]; exact List.set_getElem_self hlt
          rw [this]; exact s
      · by_cases hroom : xs.length + ys.length ≤ cap
        · have hfit : xs.length * ie.size + news.length ≤ cs.size := by rw [hie2, hnl, hsz, ← Nat.add_mul]; exact Nat.mul_le_mul_right _ hroom
          have hr := run_append_room (P := c.P) W t ty e ie hu hie p xs.length cap cs hob ⟨b, off, none⟩ ys.length cp news (by rw [hie2]; exact hnl) hnews h1c hroom hfit
          refine ⟨some p, cap, _, by rw [hx1, hv]; simpa [slv] using hr, ?_⟩
          refine s.store hL hob ⟨_, rfl, ?_, by simpa using hroom, hcm, ?_⟩
          · simp only [List.size_toArray, List.length_append, List.length_take, List.length_drop, Array.length_toList]; omega
          · have hl : (cs.toList.take (xs.length * ie.size)).length = xs.length * Rp.size α := by rw [hie2]; exact hrx.1
            have hcat := reps_append hrx hrep
            rw [hie2]
            have hlen : (xs ++ ys).length * Rp.size α = (cs.toList.take (xs.length * Rp.size α) ++ news).length := by rw [hcat.1]
            have e9 : ((cs.toList.take (xs.length * Rp.size α) ++ news ++ cs.toList.drop (xs.length * Rp.size α + news.length)).toArray).toList.take ((xs ++ ys).length * Rp.size α) = cs.toList.take (xs.length * Rp.size α) ++ news := by
              rw [hlen]; exact List.take_left
            rw [List.append_assoc] at e9
            rw [e9]
            exact hcat
        · have holds : ∀ (j : Nat) u, (cs.toList.take (xs.length * Rp.size α))[j]? = some u → W.cell? ((⟨p, 0, none⟩ : Addr).add j) = some u := by
            intro j u hu'
            rw [List.getElem?_take] at hu'
            split at hu'
            · rw [addr_add, Nat.zero_add, cell_of_row W p j cs e (0, 0) hob]; simpa using hu'
            · cases hu'
          have hr := run_append_grow (P := c.P) W t ty e ie zv hu hie hz ⟨p, 0, none⟩ xs.length cap _ (by rw [hie2]; exact hrx.1) holds ⟨b, off, none⟩ ys.length cp news (by rw [hie2]; exact hnl) hnews (by omega) (by omega) (growslice_fits (by omega) hb1)
          have hge := grownCap_ge W (xs.length + ys.length) cap e
          have hle := grownCap_le_maxLen W (xs.length + ys.length) cap e hb2
          refine ⟨some W.heap.size, grownCap W (xs.length + ys.length) cap e, _, by rw [hx1, hv]; simpa [slv] using hr, ?_⟩
          have hcat := (reps_append hrx hrep).mono (Ext.fr (Fr.drew W))
          have := (s.world (Fr.drew W)).grow hL (o := .cells ((cs.toList.take (xs.length * Rp.size α)).toArray ++ news.toArray ++ Builtin.zeroCells zv.cells (grownCap W (xs.length + ys.length) cap e - (xs.length + ys.length))) e)
            (cp := .row e (xs ++ ys) (grownCap W (xs.length + ys.length) cap e))
            (row_new (T := e) hcat (ds := (Builtin.zeroCells zv.cells (grownCap W (xs.length + ys.length) cap e - (xs.length + ys.length))).toList) (by rw [Array.length_toList, size_zeroCells, hzs, List.length_append]) (by rw [List.length_append]; exact hge) hle (by simp))
          simpa using this
  obtain ⟨key', cap', W', hrun, hst⟩ := main
  refine wpList_op rfl (R := fun v W1 => v = slv key' (xs ++ ys).length cap' ∧ W1 = W') (.of_run ?_ ⟨rfl, rfl⟩) fun v W1 ⟨hv, hw⟩ => ?_
  · simp only [execOp, resolve, invoke, builtin, Sem.run_bind, Sem.run_pure, Result.andThen_ok]
    have e1 : (#[x, y] : Array Operand).map a.eval = #[a.eval x, a.eval y] := by simp
    rw [e1, hrun]
    rfl
  · subst hv
    subst hw
    exact k key' cap' _ _ (hst.put hN rfl)

/-! ### Slices written out -/

inductive FillsL (c : Cx) (E : List (Nat × VP)) (L : List Ent) {α : Type} [Rp α] : List α → List (Nat × Operand) → List α → Prop
  | nil {b} : FillsL c E L b [] b
  | cons {b b' : List α} {v : α} {i : Nat} {x : Operand} {r : List (Nat × Operand)} : i < b.length → Look c E L x (.of v) → FillsL c E L (b.set i v) r b' → FillsL c E L b ((i, x) :: r) b'

theorem FillsL.run {α : Type} [Rp α] {b b' : List α} {ps : List (Nat × Operand)} (h : FillsL c E L b ps b') : ∀ a W, St c E L a W → ∀ cs : Array Value, Reps (ks L ++ c.A0) W cs.toList b →
    ∃ cs', Instr.fill (fun i => some (i * Rp.size α, Rp.size α)) cs (ps.map fun (i, x) => (i, a.eval x)) = some cs' ∧ Reps (ks L ++ c.A0) W cs'.toList b' ∧ b'.length = b.length := by
  induction h with
  | nil => intro a W s cs hr; exact ⟨cs, rfl, hr, rfl⟩
  | @cons b b' v i x r hi h2 _ ih =>
    intro a W s cs hr
    have hv := h2 a W s
    have hsz : (a.eval x).cells.size = Rp.size α := by have := Rp.len hv.2; simpa using this
    have hl := hr.1
    have hle : (i + 1) * Rp.size α ≤ b.length * Rp.size α := Nat.mul_le_mul_right _ hi
    rw [Nat.succ_mul] at hle
    rw [List.map_cons, run_fill rfl hsz (by simp at hl; omega)]
    obtain ⟨cs', h3, h4, h5⟩ := ih a W s (splice cs.toList (i * Rp.size α) (a.eval x).cells.toList).toArray (by
      have := reps_set hr hi hv.2
      simpa [splice, Rp.len hv.2] using this)
    exact ⟨cs', h3, h4, by rw [h5, List.length_set]⟩

theorem reps_zero {α : Type} [Rp α] {A W} {z : α} {zv : Value} (h : (VP.of z).holds A W zv) (n : Nat) (hs : Rp.size α ≠ 0) : Reps A W ((Array.range (n * Rp.size α)).map (zv.cells[· % zv.cells.size]!)).toList (List.replicate n z) := by
  have hl : zv.cells.size = Rp.size α := by have := Rp.len h.2; simpa using this
  have hp : 0 < Rp.size α := Nat.pos_of_ne_zero hs
  refine ⟨by simp, fun i hi => ?_⟩
  have hi' : i < n := by simpa using hi
  have hle : (i + 1) * Rp.size α ≤ n * Rp.size α := Nat.mul_le_mul_right _ hi'
  rw [Nat.succ_mul] at hle
  have : ((((Array.range (n * Rp.size α)).map (zv.cells[· % zv.cells.size]!)).toList.drop (i * Rp.size α)).take (Rp.size α)) = zv.cells.toList := by
    apply List.ext_getElem?
    intro j
    rw [List.getElem?_take]
    split
    · rename_i hj
      rw [List.getElem?_drop]
      have hlt : i * Rp.size α + j < n * Rp.size α := by omega
      have hmod : (i * Rp.size α + j) % Rp.size α = j := by rw [Nat.mul_comm, Nat.mul_add_mod]; exact Nat.mod_eq_of_lt hj
      simp only [Array.getElem?_toList, Array.getElem?_map, Array.getElem?_range, hlt, if_true, Option.map_some, hl, hmod]
      rw [getElem!_pos zv.cells j (by omega)]
      simp [hl, hj]
    · rename_i hj
      symm
      simp only [Array.getElem?_toList]
      exact Array.getElem?_eq_none (by omega)
  rw [this]
  simpa using h.2

theorem r_bsl {α : Type} [Rp α] {e n : Nat} {z : α} {r : List α} {ps : List (Nat × Operand)} (hu : c.P.underlying t = some (.slice e)) (te : Ty c.P e α) (zr : Zr c.P e z) (hs : Nat.beq (Rp.size α) 0 = false) (hn : Nat.ble (n * Rp.size α) 16777216 = true)
    (hf : FillsL c E L (List.replicate n z) ps r) : HR c E L ⟨d, .buildSlice t n ps.toArray, ty, pos, af, g⟩ (.of r) := fun a W s => by
  obtain ⟨ie, zv, hie, hz, hzh⟩ := zr.zero
  have hie2 : ie.size = Rp.size α := by
    obtain ⟨i2, h1, h2⟩ := te.info
    rw [hie] at h1; cases h1; exact h2
  have hs' : Rp.size α ≠ 0 := fun h => by rw [h] at hs; cases hs
  have hz0 := reps_zero (hzh (ks L ++ c.A0) W) n hs'
  obtain ⟨cs', h3, h4, h5⟩ := hf.run a W s _ hz0
  have hlen : r.length = n := by rw [h5]; simp
  have hm : (ps.toArray.map fun (x : Nat × Operand) => (x.1, a.eval x.2)).toList = ps.map fun (i, x) => (i, a.eval x) := by simp
  have hble := Nat.le_of_ble_eq_true hn
  refine .of_run (v := .slice (some ⟨W.heap.size, 0, none⟩) n n) (W' := W.alloc (.cells cs' e)) ?_ ⟨Fr.alloc W _, of_list.2 ?_⟩
  · simp only [execOp, Instr.buildSlice, Sem.run_bind, run_underlying hu, Result.andThen_ok, Go.sizeOf, typeInfo, run_program, hie, Sem.run_pure, hie2]
    rw [if_neg (by omega)]
    try simp only [Sem.run_pure, Result.andThen_ok, Sem.run_bind]
    by_cases h0 : n * Rp.size α = 0
    · have hn0 : n = 0 := by
        rcases Nat.mul_eq_zero.1 h0 with h | h
        · exact h
        · exact absurd h hs'
      subst hn0
      simp only [Nat.zero_mul, if_true, Sem.run_pure, Result.andThen_ok]
      try simp only [Nat.zero_mul] at h3
      have e0 : ((Array.range 0).map (fun x => (#[] : Array Value)[x % (#[] : Array Value).size]!)) = ((Array.range 0).map (zv.cells[· % zv.cells.size]!)) := by simp
      simp only [pure_bind]
      rw [e0, hm, h3]
      simp [newRow]
    · simp only [h0, if_false, Sem.run_bind, zeroValue, typeInfo, run_program, Result.andThen_ok, hie, hz, Sem.run_pure]
      rw [hm, h3]
      simp [newRow]
  · have hext : Ext (ks L ++ c.A0) W (ks L ++ c.A0) (W.alloc (.cells cs' e)) := Ext.fr (Fr.alloc W _)
    refine .inr ⟨W.heap.size, 0, n, cs', e, (0, 0), by rw [hlen], fun hmem => Nat.lt_irrefl _ (s.all_lt _ hmem), ha_new W _, by omega, ?_, ?_, ?_⟩
    · have : r.length * 1 ≤ n * Rp.size α := by rw [hlen]; exact Nat.mul_le_mul_left _ (by omega)
      have : maxLen = 9223372036854775807 := rfl
      omega
    · have := h4.1; simp at this; omega
    · have h6 := h4.1
      rw [List.drop_zero, ← h6, List.take_length]
      exact h4.mono hext
end
end Gv
