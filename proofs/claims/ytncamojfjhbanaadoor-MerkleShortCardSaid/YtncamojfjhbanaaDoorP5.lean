/- Plain: a proof used up from its end as a stack, and both checks. -/
import Derived.Test.YtncamojfjhbanaaDoorK14
namespace Sd

/-- The root of n with a leaf at a place; what is left of the proof (its end is used first), and was there enough? -/
def upS (n i : Nat) (leaf : Dg) (l : List Dg) (ok : Bool) : Dg × List Dg × Bool :=
  if _h : 2 ≤ n then
    if i < half n then (pair (upS (half n) i leaf l.dropLast (ok && !l.isEmpty)).1 (l.getLastD Dg.zero), (upS (half n) i leaf l.dropLast (ok && !l.isEmpty)).2)
    else (pair (l.getLastD Dg.zero) (upS (n - half n) (i - half n) leaf l.dropLast (ok && !l.isEmpty)).1, (upS (n - half n) (i - half n) leaf l.dropLast (ok && !l.isEmpty)).2)
  else (leaf, l, ok)
  termination_by n
  decreasing_by
  all_goals (have := half_lt _h; have := half_pos n; omega)
/-- Is a leaf in, as the document says it. -/
def checks (r : Dg) (n i : Int) (leaf : Dg) (l : List Dg) : Bool := decide (n ≤ 1000 ∧ 0 ≤ i ∧ i < n) && check r n.toNat i.toNat leaf l

/-! ### A list that goes on. -/

def bothS (old : Dg) (m n : Nat) (whole : Bool) (l : List Dg) (ok : Bool) : Dg × Dg × List Dg × Bool :=
  if _h : 2 ≤ n ∧ m ≠ n then
    if m ≤ half n then ((bothS old m (half n) whole l.dropLast (ok && !l.isEmpty)).1, pair (bothS old m (half n) whole l.dropLast (ok && !l.isEmpty)).2.1 (l.getLastD Dg.zero), (bothS old m (half n) whole l.dropLast (ok && !l.isEmpty)).2.2)
    else (pair (l.getLastD Dg.zero) (bothS old (m - half n) (n - half n) false l.dropLast (ok && !l.isEmpty)).1, pair (l.getLastD Dg.zero) (bothS old (m - half n) (n - half n) false l.dropLast (ok && !l.isEmpty)).2.1, (bothS old (m - half n) (n - half n) false l.dropLast (ok && !l.isEmpty)).2.2)
  else if whole then (old, old, l, ok) else (l.getLastD Dg.zero, l.getLastD Dg.zero, l.dropLast, ok && !l.isEmpty)
  termination_by n
  decreasing_by
  all_goals (have := half_lt _h.1; have := half_pos n; omega)
/-- The stack's way agrees with the list's. -/
structure Agree (s : Dg × Dg × List Dg × Bool) (ok : Bool) (b : Dg × Dg × Bool) : Prop where
  form : (s.2.2.2 && s.2.2.1.isEmpty) = (ok && b.2.2)
  roots : (ok && b.2.2) = true → s.1 = b.1 ∧ s.2.1 = b.2.1
theorem Agree.map {s : Dg × Dg × List Dg × Bool} {ok : Bool} {b : Dg × Dg × Bool} (h : Agree s ok b) (f g : Dg → Dg) : Agree (f s.1, g s.2.1, s.2.2) ok (f b.1, g b.2.1, b.2.2) :=
  ⟨h.form, fun k => ⟨congrArg f (h.roots k).1, congrArg g (h.roots k).2⟩⟩
theorem Agree.not {s : Dg × Dg × List Dg × Bool} {ok : Bool} {b : Dg × Dg × Bool} (h : Agree s false b) (x y u v : Dg) : Agree (x, y, s.2.2) ok (u, v, false) :=
  ⟨by have := h.form; rw [Bool.false_and] at this; rw [Bool.and_false]; exact this, fun k => by rw [Bool.and_false] at k; cases k⟩
def checksOn (old : Dg) (m : Int) (r : Dg) (n : Int) (l : List Dg) : Bool := decide (n ≤ 1000 ∧ 1 ≤ m ∧ m ≤ n) && checkOn old m.toNat r n.toNat l
end Sd
