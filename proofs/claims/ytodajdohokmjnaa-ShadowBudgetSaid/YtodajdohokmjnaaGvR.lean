/-
  The library of the decompiler, part R: a region that draws its order, whatever its operations do: a state for each set of operations that may have come up. Conditions: none; it is about whatever program.
-/
import Derived.Test.YtodajdohokmjnaaGvQ
namespace Gv
open Go
set_option linter.unusedVariables false
set_option linter.unusedSimpArgs false

/-- the region goes on from here, whatever order it draws; 'listed': what has come up -/
def AnyS (c : Cx) (ops : Array Oper) (Q : Exit → Act → World → Prop) (f : Nat) (listed : Array Bool) (E : List (Nat × VP)) (L : List Ent) : Prop :=
  ∀ a W, St c E L a W → wpAnyIn c.F 9 c.P .any ops Q f listed a W

/-- what holds where an operation ends: the region goes on; other ways out as they were -/
def QK (K : Act → World → Prop) (Q : Exit → Act → World → Prop) : Exit → Act → World → Prop
  | .normal, a, W => K a W
  | x, a, W => Q x a W

section
variable {c : Cx} {E : List (Nat × VP)} {L : List Ent} {ops : Array Oper} {Q : Exit → Act → World → Prop}

theorem QK.out {K : Act → World → Prop} (h : LetsOut (QK K Q)) : LetsOut Q := h

theorem Oper.uponIn_QK {F : Fence} {n : Nat} {P : Program} {o : Oper} {a : Act} {K : Act → World → Prop} {r : Result Next} (h : o.uponIn F n P a K (QK K Q) r) : o.uponIn F n P a K Q r := by
  cases r with
  | ok m w' =>
    cases m <;> simp only [Oper.uponIn] at h ⊢ <;>
      first
        | exact h
        | exact ⟨h.1, CallsIn.mono h.2 (fun e w'' he => by cases e <;> exact he)⟩
        | exact ⟨h.1, RoundIn.mono h.2 (fun e w'' he => by cases e <;> exact he)⟩
  | halt x w' => cases x <;> simp only [Oper.uponIn] at h ⊢ <;> exact h

theorem wpOp_of_list {i : Nat} {o : Oper} {K : Act → World → Prop} {a : Act} {W : World} (hi : ops[i]? = some o) (h : c.wpl ops (QK K Q) [o] a W) : wpOpIn c.F 9 c.P ops Q i K a W := by
  unfold wpOpIn
  simp only [hi]
  simp only [Cx.wpl, wpListIn] at h
  split
  · rename_i hw
    rw [if_pos hw] at h
    exact ⟨h.1, Oper.uponIn_QK h.2⟩
  · rename_i hw
    rw [if_neg hw] at h
    exact h

/-- each operation that may come up next -/
def NextS (c : Cx) (ops : Array Oper) (Q : Exit → Act → World → Prop) (f : Nat) (listed : Array Bool) (E : List (Nat × VP)) (L : List Ent) : List Nat → Prop
  | [] => True
  | i :: r => (∃ o, ops[i]? = some o ∧ Sq c ops (QK (wpAnyIn c.F 9 c.P .any ops Q f (listed.setIfInBounds i true)) Q) [o] E L) ∧ NextS c ops Q f listed E L r

theorem NextS.get {f : Nat} {listed : Array Bool} : ∀ {rl : List Nat}, NextS c ops Q f listed E L rl → ∀ i ∈ rl, ∃ o, ops[i]? = some o ∧ Sq c ops (QK (wpAnyIn c.F 9 c.P .any ops Q f (listed.setIfInBounds i true)) Q) [o] E L
  | _ :: _, h, i, hi => by
    rcases List.mem_cons.1 hi with rfl | hi
    · exact h.1
    · exact NextS.get h.2 i hi

theorem AnyS.step {f : Nat} {listed : Array Bool} (rl : List Nat) (hr : Region.ready .any ops listed = rl) (hne : rl.isEmpty = false) (h : NextS c ops Q f listed E L rl) : AnyS c ops Q (f + 1) listed E L := fun a W s =>
  ⟨fun h0 => (by rw [← hr, h0] at hne; exact absurd hne (by simp)), fun i hi => (by
    rw [hr] at hi
    obtain ⟨o, h1, h2⟩ := h.get i hi
    exact wpOp_of_list h1 (h2 a W s))⟩

theorem AnyS.last {f : Nat} {listed : Array Bool} (hr : Region.ready .any ops listed = []) (h : To c Q .normal E L) : AnyS c ops Q f listed E L := fun a W s => by
  cases f with
  | zero => exact ⟨hr, h a W s⟩
  | succ f => exact ⟨fun _ => h a W s, fun i hi => (by rw [hr] at hi; exact absurd hi (by simp))⟩

theorem AnyS.le {f : Nat} {listed : Array Bool} {E' : List (Nat × VP)} (h : Le E E') (k : AnyS c ops Q f listed E' L) : AnyS c ops Q f listed E L := fun a W s => k a W (s.less h.look)

/-- where an operation has ended -/
theorem To.any {f : Nat} {listed listed' : Array Bool} (hl : listed = listed') (k : AnyS c ops Q f listed' E L) : To c (QK (wpAnyIn c.F 9 c.P .any ops Q f listed) Q) .normal E L := fun a W s => by
  subst hl
  exact k a W s

theorem AnyS.cut {γ : Type} (f' : Nat) (listed' : Array Bool) (E' : γ → List (Nat × VP)) (L' : γ → List Ent) {f : Nat} {listed : Array Bool} (h1 : ∀ g, AnyS c ops Q f' listed' (E' g) (L' g))
    (h2 : (∀ g, AnyS c ops Q f' listed' (E' g) (L' g)) → AnyS c ops Q f listed E L) : AnyS c ops Q f listed E L := h2 h1

theorem Wp.drawE {rid : Nat} {l : List Oper} (hm : c.P.follows .mixedOrders = true) (n : Nat) (ls : Array Bool) (hn : l.length = n) (hls : Array.replicate n false = ls) (h : AnyS c l.toArray Q n ls E L) : Wp c Q (.region rid l.toArray true) E L := fun a W s => by
  subst hn hls
  refine wpIn_region_any hm ?_
  have := h a W.drew (s.world (Fr.drew W))
  simpa using this

theorem To.perm {x : Exit} {L' : List Ent} (h : L.Perm L') (k : To c Q x E L') : To c Q x E L := fun a W s => k a W (s.perm h)
end
end Gv
