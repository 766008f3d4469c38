/-
  The library of the decompiler, part K: functions handed on as values. Conditions: none; it is about whatever program.
-/
import Derived.Test.YtodajdohokmjnaaGvT
namespace Gv
open Go
set_option linter.unusedVariables false
set_option linter.unusedSimpArgs false

theorem HR.as {c E L o} {α : Type} [Rp α] {a b : α} (h : HR c E L o (.of a)) (e : a = b) : HR c E L o (.of b) := by subst e; exact h

/-- a function value that does what F says, in whatever world comes later -/
def VP.fn1 {α β : Type} [Rp α] [Rp β] (P : Program) (F : α → Option β) : VP where
  holds A W v := ∃ f cap, v = .func (.func f) #[] cap ∧ En P f ∧ ∀ A' W', Ext A W A' W' → (∀ k ∈ A', k < W'.heap.size) → ∀ x r vx, F x = some r → (VP.of x).holds A' W' vx →
    Calls P f (#[vx] ++ cap) W' fun e W'' => ∃ v, e = .returned v ∧ Fr [] W' W'' ∧ (VP.of r).holds A' W'' v
  mono e h := let ⟨f, cap, h1, h2, h3⟩ := h; ⟨f, cap, h1, h2, fun A' W' e' => h3 A' W' (e.trans e')⟩

def VP.fn2 {α β γ : Type} [Rp α] [Rp β] [Rp γ] (P : Program) (F : α → β → Option γ) : VP where
  holds A W v := ∃ f cap, v = .func (.func f) #[] cap ∧ En P f ∧ ∀ A' W', Ext A W A' W' → (∀ k ∈ A', k < W'.heap.size) → ∀ x y r vx vy, F x y = some r → (VP.of x).holds A' W' vx → (VP.of y).holds A' W' vy →
    Calls P f (#[vx, vy] ++ cap) W' fun e W'' => ∃ v, e = .returned v ∧ Fr [] W' W'' ∧ (VP.of r).holds A' W'' v
  mono e h := let ⟨f, cap, h1, h2, h3⟩ := h; ⟨f, cap, h1, h2, fun A' W' e' => h3 A' W' (e.trans e')⟩

section
variable {c : Cx} {E : List (Nat × VP)} {L : List Ent} {d : Option Tmp} {ty : TypeId} {pos : String} {af : Array Edge} {g : Option (Nat × Bool)}

theorem look_fn1 {α β : Type} [Rp α] [Rp β] {F : α → Option β} {f : FuncId} (en : En c.P f) (h : ∀ x r, F x = some r → Meets c.P f [.of x] (.of r)) : Look c E L (.func f) (.fn1 c.P F) := fun a W s =>
  ⟨f, #[], rfl, en, fun A' W' _ hA x r vx hF hx => by simpa using h x r hF A' W' [vx] hA (.cons hx .nil)⟩

theorem look_fn2 {α β γ : Type} [Rp α] [Rp β] [Rp γ] {F : α → β → Option γ} {f : FuncId} (en : En c.P f) (h : ∀ x y r, F x y = some r → Meets c.P f [.of x, .of y] (.of r)) : Look c E L (.func f) (.fn2 c.P F) := fun a W s =>
  ⟨f, #[], rfl, en, fun A' W' _ hA x y r vx vy hF hx hy => by simpa using h x y r hF A' W' [vx, vy] hA (.cons hx (.cons hy .nil))⟩

theorem r_callF1 {α β : Type} [Rp α] [Rp β] {F : α → Option β} {fo x : Operand} {ats : Array TypeId} {xa : α} {r : β} (hf : Look c E L fo (.fn1 c.P F)) (hx : Look c E L x (.of xa)) (h : F xa = some r) :
    HR c E L ⟨d, .call ⟨.value fo, #[x], ats⟩, ty, pos, af, g⟩ (.of r) := fun a W s => by
  obtain ⟨f, cap, h1, en, h2⟩ := hf a W s
  refine .of_enter (f := f) (args := #[a.eval x] ++ cap) (W' := W) ?_ (h2 _ W (Ext.refl _ _) s.all_lt _ _ _ h (hx a W s))
  simp [execOp, resolve, Deferred.ofValue, h1, invoke, en.run]

theorem r_callF2 {α β γ : Type} [Rp α] [Rp β] [Rp γ] {F : α → β → Option γ} {fo x y : Operand} {ats : Array TypeId} {xa : α} {ya : β} {r : γ} (hf : Look c E L fo (.fn2 c.P F)) (hx : Look c E L x (.of xa)) (hy : Look c E L y (.of ya)) (h : F xa ya = some r) :
    HR c E L ⟨d, .call ⟨.value fo, #[x, y], ats⟩, ty, pos, af, g⟩ (.of r) := fun a W s => by
  obtain ⟨f, cap, h1, en, h2⟩ := hf a W s
  refine .of_enter (f := f) (args := #[a.eval x, a.eval y] ++ cap) (W' := W) ?_ (h2 _ W (Ext.refl _ _) s.all_lt _ _ _ _ _ h (hx a W s) (hy a W s))
  simp [execOp, resolve, Deferred.ofValue, h1, invoke, en.run]
end
end Gv
