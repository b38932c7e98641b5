/- When two structs are one. -/
import Derived.Test.YtncamojfjhbanaaDoorK12
namespace Sd
open Go Go.RowKit Sk
section
variable {P : Program} {w : World}
end
end Sd
namespace Sk
open Go Go.RowKit Sd
theorem SlT.one {α : Type} {T : Ty α} {lo hi : Nat} {xs : List α} {v : Value} {w : World} (h : SlT T lo hi xs v w) : v.oneCell' = true := by
  obtain ⟨a, cap, rfl, _⟩ := h; rfl
theorem SlT.cells {α : Type} {T : Ty α} {lo hi : Nat} {xs : List α} {v : Value} {w : World} (h : SlT T lo hi xs v w) : v.cells = #[v] := by
  obtain ⟨a, cap, rfl, _⟩ := h; rfl
/-- A struct of which a part is known by a predicate. -/
def Pr.ag {R : World → World → Prop} (f : Value → Value) (p : Pr R) : Pr R := ⟨fun v w => ∃ x, v = f x ∧ p.p x w, fun _ _ _ ⟨x, hv, h⟩ k => ⟨x, hv, p.st _ _ _ h k⟩⟩
def Pr.ag2 {R : World → World → Prop} (f : Value → Value → Value) (p q : Pr R) : Pr R := ⟨fun v w => ∃ x y, v = f x y ∧ p.p x w ∧ q.p y w, fun _ _ _ ⟨x, y, hv, h, h2⟩ k => ⟨x, y, hv, p.st _ _ _ h k, q.st _ _ _ h2 k⟩⟩
end Sk
namespace Sk
open Go
theorem parts0 {ev : Operand → Value} : ((#[] : Array (Nat × Operand)).map fun (i, x) => (i, ev x)) = #[] := by simp
end Sk
