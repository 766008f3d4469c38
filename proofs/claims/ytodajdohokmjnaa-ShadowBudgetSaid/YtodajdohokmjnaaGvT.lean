/-
  The library of the decompiler, part T: what a struct type's own text is made of; facts on a program's table of types; the steps of a program that may fail. Conditions: none; it is about whatever program.
-/
import Derived.Test.YtodajdohokmjnaaGvH
namespace Gv
open Go
set_option linter.unusedVariables false
set_option linter.unusedSimpArgs false

/-! ### Cells of a struct -/

theorem mem_cut {cs : List Value} {o s : Nat} {u : Value} (h : u ∈ cs.drop o) : u ∈ (cs.drop o).take s ∨ u ∈ cs.drop (o + s) := by
  rw [← List.take_append_drop s (cs.drop o)] at h
  rcases List.mem_append.1 h with h | h
  · exact .inl h
  · rw [List.drop_drop] at h; exact .inr h
theorem mem_end {cs : List Value} {n o : Nat} {u : Value} {p : Prop} (hl : cs.length = n) (ho : o = n) (h : u ∈ cs.drop o) : p := by
  rw [List.drop_of_length_le (by omega)] at h; cases h

theorem sp_len {cs ds : List Value} {o s n : Nat} (hl : cs.length = n) (hd : ds.length = s) (h : o + s ≤ n) : (cs.take o ++ ds ++ cs.drop (o + s)).length = n := by
  simp only [List.length_append, List.length_take, List.length_drop]; omega
theorem sp_same {cs ds : List Value} {o s n : Nat} (hl : cs.length = n) (hd : ds.length = s) (h : o + s ≤ n) : ((cs.take o ++ ds ++ cs.drop (o + s)).drop o).take s = ds := by
  have h1 : (cs.take o).length = o := by simp; omega
  rw [List.append_assoc, List.drop_append, h1, List.drop_of_length_le (by omega), List.nil_append, Nat.sub_self, List.drop_zero, List.take_append_of_le_length (by omega), List.take_of_length_le (by omega)]
theorem sp_other {cs ds : List Value} {o s n o2 s2 : Nat} (hl : cs.length = n) (hd : ds.length = s) (h : o + s ≤ n) (hne : o2 + s2 ≤ o ∨ o + s ≤ o2) : ((cs.take o ++ ds ++ cs.drop (o + s)).drop o2).take s2 = (cs.drop o2).take s2 := by
  apply List.ext_getElem?
  intro i
  simp only [List.getElem?_take, List.getElem?_drop]
  split
  · rename_i hi
    simp only [List.getElem?_append, List.length_append, List.length_take, List.getElem?_take, List.getElem?_drop]
    have h1 : min o cs.length = o := by omega
    rw [h1, hd]
    rcases hne with h2 | h2
    · rw [if_pos (by omega), if_pos (by omega), if_pos (by omega)]
    · rw [if_neg (by omega)]; congr 1; omega
  · rfl

/-! ### Zero values -/

class Zc (α : Type) [Rp α] [Inhabited α] where
  cells : List Value
  ok : ∀ A W, Rp.rep A W cells (default : α)

instance : Zc Bool := ⟨[.bool false], fun _ _ => rfl⟩
instance : Zc Int := ⟨[.int .i64 0], fun _ _ => rfl⟩
instance : Zc (BitVec 64) := ⟨[.int .u64 0], fun _ _ => rfl⟩
instance : Zc (BitVec 32) := ⟨[.int .u32 0], fun _ _ => rfl⟩
instance : Zc (BitVec 16) := ⟨[.int .u16 0], fun _ _ => rfl⟩
instance : Zc (BitVec 8) := ⟨[.int .u8 0], fun _ _ => rfl⟩
instance : Zc ByteArray := ⟨[.string ByteArray.empty], fun _ _ => rfl⟩
instance {α : Type} [Rp α] : Zc (List α) := ⟨[.slice none 0 0], fun _ _ => ⟨_, rfl, .inl ⟨rfl, rfl⟩⟩⟩

theorem reps_rep {α : Type} [Rp α] {A W} {zs : List Value} {z : α} (h : Rp.rep A W zs z) : ∀ n, Reps A W (List.replicate n zs).flatten (List.replicate n z)
  | 0 => ⟨by simp, fun i hi => by simp at hi⟩
  | n + 1 => by
    have h1 := reps_rep h n
    have h2 : Reps A W zs [z] := ⟨by simp [Rp.len h], fun i hi => by
      have : i = 0 := by simpa using hi
      subst this
      rw [Nat.zero_mul, List.drop_zero, ← Rp.len h, List.take_length]; exact h⟩
    have := reps_append h2 h1
    simpa [List.replicate_succ] using this

instance {α : Type} [Rp α] [Inhabited α] [Zc α] {n : Nat} : Zc (Vector α n) := ⟨(List.replicate n (Zc.cells α)).flatten, fun A W => by
  have := reps_rep (Zc.ok (α := α) A W) n
  show Reps A W _ (Vector.replicate n default).toList
  simpa using this⟩

/-- the zero value, written out of its cells -/
def zval (α : Type) [Rp α] [Inhabited α] [Zc α] : Value := if Rp.agg α = true then .agg (Zc.cells α).toArray else (Zc.cells α).headD undef

theorem Zr.of {P : Program} {t : TypeId} {α : Type} [Rp α] [Inhabited α] [Zc α] (h : (P.info? t).bind (·.zero) = some (zval α)) : Zr P t (default : α) where
  zero := by
    cases hi : P.info? t with
    | none => simp [hi] at h
    | some i =>
      refine ⟨i, zval α, rfl, by simpa [hi] using h, fun A W => ?_⟩
      have ok := Zc.ok (α := α) A W
      unfold zval
      cases ha : Rp.agg α with
      | true => simp only [if_true]; exact ⟨by simp [shaped, ha], by simpa [Value.cells] using ok⟩
      | false =>
        have h1 := Rp.len ok
        rw [Rp.flat ha] at h1
        obtain ⟨v, hv⟩ := List.length_eq_one_iff.1 h1
        have h3 : v.oneCell' = true := Rp.one ok v (by rw [hv]; simp)
        simp only [Bool.false_eq_true, if_false, hv, List.headD_cons]
        exact ⟨by simp [shaped, ha, h3], by rw [cells_one h3]; rw [hv] at ok; exact ok⟩

theorem Ty.of {P : Program} {t : TypeId} {α : Type} [Rp α] {d : TypeDesc} (ha : (match d with | .struct _ | .array _ _ => true | _ => false) = Rp.agg α) (hu : P.underlying t = some d) (hs : (P.info? t).map (·.size) = some (Rp.size α)) : Ty P t α := ⟨hs, d, hu, ha⟩

theorem FdA.of {P : Program} {s f o : Nat} {fs : Array Field} {fd : Field} {γ : Type} [Rp γ] (hu : P.underlying s = some (.struct fs)) (hf : fs[f]? = some fd) (ho : fd.offset = o) (tt : Ty P fd.type γ) (hs : Nat.beq (Rp.size γ) 0 = false) : FdA P s f o := by
  obtain ⟨i, h1, h2⟩ := tt.info
  exact ⟨fs, fd, i, hu, hf, ho, h1, fun h => by rw [← h2, h] at hs; cases hs⟩

theorem Ar.of {P : Program} {t n e s : Nat} {γ : Type} [Rp γ] (hu : P.underlying t = some (.array n e)) (tt : Ty P e γ) (hs : Rp.size γ = s) : Ar P t n s := by
  obtain ⟨i, h1, h2⟩ := tt.info
  exact ⟨e, i, hu, h1, by rw [h2, hs]⟩

/-! ### Programs that may fail -/

theorem bind_some {α β : Type} {m : Option α} {f : α → Option β} {r : β} (h : m.bind f = some r) : ∃ y, m = some y ∧ f y = some r := Option.bind_eq_some_iff.1 h
theorem cond_t {α : Type} {b : Bool} {p q : Option α} {r : α} (hb : b = true) (h : cond b p q = some r) : p = some r := by rw [hb] at h; exact h
theorem cond_f {α : Type} {b : Bool} {p q : Option α} {r : α} (hb : b = false) (h : cond b p q = some r) : q = some r := by rw [hb] at h; exact h
theorem some_in {α : Type} {a b : α} (h : some a = some b) : a = b := Option.some.inj h

/-- m where b says so; else the zero value -/
def condM {α : Type} [Inhabited α] (b want : Bool) (m : Option α) : Option α := if b = want then m else some default
theorem condM_some {α : Type} [Inhabited α] {b want : Bool} {m : Option α} {y : α} (h : condM b want m = some y) (hb : b = want) : m = some y := by unfold condM at h; rw [if_pos hb] at h; exact h

/-- more rounds than any loop of the program makes -/
def FUEL : Nat := 2 ^ 80

theorem St.dropL {c E L a W} (h : St c E L a W) (n : Nat) : St c E (L.drop n) a W :=
  h.sub (fun e he => List.mem_of_mem_drop he) (by
    have : (ks (L.drop n)).Sublist (ks L) := by
      induction L generalizing n with
      | nil => simp
      | cons x r ih =>
        cases n with
        | zero => simp
        | succ n =>
          have hr : ∀ n, (ks (r.drop n)).Sublist (ks r) := by
            intro n
            have key : ∀ (r : List Ent) n, (ks (r.drop n)).Sublist (ks r) := by
              intro r
              induction r with
              | nil => intro n; simp
              | cons y r ih2 =>
                intro n
                cases n with
                | zero => simp
                | succ n =>
                  simp only [List.drop_succ_cons]
                  cases hk : y.key with
                  | none => simpa [ks, hk] using ih2 n
                  | some p => simp only [ks, hk]; exact (ih2 n).cons _
            exact key r n
          simp only [List.drop_succ_cons]
          cases hk : x.key with
          | none => simpa [ks, hk] using hr n
          | some p => simp only [ks, hk]; exact (hr n).cons _
    exact h.nodup.sublist this)

section
variable {c : Cx} {E : List (Nat × VP)} {L : List Ent} {ops : Array Oper} {Q : Exit → Act → World → Prop}

/-- ways that meet again: E', L' hold behind both -/
theorem Wp.condM {γ : Type} {x : Operand} {b : Bool} {y z : Code} (E' : γ → List (Nat × VP)) (L' : γ → List Ent) (hl : Look c E L x (.of b)) (hM : ∀ g, To c Q .normal (E' g) (L' g))
    (ht : (∀ g, To c Q .normal (E' g) (L' g)) → b = true → Wp c Q y E L) (hf : (∀ g, To c Q .normal (E' g) (L' g)) → b = false → Wp c Q z E L) : Wp c Q (.cond x y z) E L :=
  Wp.cond hl (ht hM) (hf hM)

theorem To.meet {x : Exit} {E' : List (Nat × VP)} {L' : List Ent} (n : Nat) (hL : L.drop n = L') (h : Le E E') (k : To c Q x E' L') : To c Q x E L := fun a W s => k a W (by rw [← hL]; exact (s.dropL n).less h.look)

/-- where a round ends, with what is hidden (addresses, capacities) -/
def LQG {σ ε γ δ : Type} (c : Cx) (E : σ → γ → List (Nat × VP)) (L : σ → γ → List Ent) (xs : ε → Exit) (Ex : ε → δ → List (Nat × VP)) (Lx : ε → δ → List Ent) : σ ⊕ ε → Exit → Act → World → Prop
  | .inl s, x, a, W => x = .normal ∧ ∃ g, St c (E s g) (L s g) a W
  | .inr e, x, a, W => x ≠ .normal ∧ x = xs e ∧ ∃ g, St c (Ex e g) (Lx e g) a W

theorem To.roundG {σ ε γ δ : Type} {E' : σ → γ → List (Nat × VP)} {L' : σ → γ → List Ent} {xs : ε → Exit} {Ex : ε → δ → List (Nat × VP)} {Lx : ε → δ → List Ent} {s : σ} (g : γ) (n : Nat)
    (hL : L.drop n = L' s g) (h : Le E (E' s g)) : To c (LQG c E' L' xs Ex Lx (.inl s)) .normal E L := fun a W st => ⟨rfl, g, by rw [← hL]; exact (st.dropL n).less h.look⟩
theorem To.leaveG {σ ε γ δ : Type} {E' : σ → γ → List (Nat × VP)} {L' : σ → γ → List Ent} {xs : ε → Exit} {Ex : ε → δ → List (Nat × VP)} {Lx : ε → δ → List Ent} {e : ε} {x : Exit} (g : δ) (n : Nat)
    (hx : x = xs e) (hn : x ≠ .normal) (hL : L.drop n = Lx e g) (h : Le E (Ex e g)) : To c (LQG c E' L' xs Ex Lx (.inr e)) x E L := fun a W st => ⟨hn, hx, g, by rw [← hL]; exact (st.dropL n).less h.look⟩

theorem Wp.loopG {σ ε γ δ : Type} {body : Code} {N : Nat} {b : σ → Option (σ ⊕ ε)} {s0 : σ} {e : ε} (hl : loopM N b s0 = some e)
    (E' : σ → γ → List (Nat × VP)) (L' : σ → γ → List Ent) (xs : ε → Exit) (Ex : ε → δ → List (Nat × VP)) (Lx : ε → δ → List Ent) (g0 : γ) (hL : L = L' s0 g0) (hE : Le E (E' s0 g0))
    (hbody : ∀ s r, b s = some r → ∀ g, Wp c (LQG c E' L' xs Ex Lx r) body (E' s g) (L' s g))
    (hafter : ∀ g, To c Q (xs e) (Ex e g) (Lx e g)) : Wp c Q (.loop body) E L := fun a W st => by
  subst hL
  exact loop_core b (fun s a W => ∃ g, St c (E' s g) (L' s g) a W) (fun e x a W => x = xs e ∧ ∃ g, St c (Ex e g) (Lx e g) a W)
    (fun s r hs a W ⟨g, hI⟩ => wpIn_mono (hbody s r hs g a W hI) (fun x a W h => by
      cases r with
      | inl s' => exact h
      | inr e' => exact ⟨h.1, h.2⟩)) Q e (fun x a W ⟨hx, g, hs⟩ => by subst hx; exact hafter g a W hs) hl ⟨g0, st.less hE.look⟩
end
end Gv
