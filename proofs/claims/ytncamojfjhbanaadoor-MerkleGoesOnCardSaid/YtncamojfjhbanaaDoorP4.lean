/- Plain clashes of trees of digests: no program in sight. -/
import Derived.Test.YtncamojfjhbanaaDoorP3
namespace Sd

abbrev Two := Dg × Dg
def Two.zero : Two := (Dg.zero, Dg.zero)
/-- What both halves come to. -/
def halves (k : Nat) (l : List Dg) : Two := (root (l.take k), root (l.drop k))

/-- Two unlike pairs with one Pair, of two lists with one root. -/
def clash (a b : List Dg) : Two × Two × Bool :=
  if _h : 2 ≤ a.length ∧ a.length = b.length ∧ a ≠ b ∧ root a = root b then
    if halves (half a.length) a ≠ halves (half a.length) b then (halves (half a.length) a, halves (half a.length) b, true)
    else if a.take (half a.length) ≠ b.take (half a.length) then clash (a.take (half a.length)) (b.take (half a.length))
    else clash (a.drop (half a.length)) (b.drop (half a.length))
  else (Two.zero, Two.zero, false)
  termination_by a.length
  decreasing_by
  · have := half_lt _h.1
    simp only [List.length_take]; omega
  · have := half_pos a.length
    simp only [List.length_drop]; omega

/-- Do two unlike pairs on the way have one Pair? The proof's end first. -/
def fooled (l : List Dg) (i : Nat) (leaf : Dg) (p : List Dg) : Bool :=
  if _h : 2 ≤ l.length then
    match p with
    | [] => false
    | z :: q =>
      if i < half l.length then
        (decide ((root (l.take (half l.length)), root (l.drop (half l.length))) ≠ ((up (half l.length) i leaf q).1, z)) &&
          decide (pair (root (l.take (half l.length))) (root (l.drop (half l.length))) = pair (up (half l.length) i leaf q).1 z)) || fooled (l.take (half l.length)) i leaf q
      else
        (decide ((root (l.take (half l.length)), root (l.drop (half l.length))) ≠ (z, (up (l.length - half l.length) (i - half l.length) leaf q).1)) &&
          decide (pair (root (l.take (half l.length))) (root (l.drop (half l.length))) = pair z (up (l.length - half l.length) (i - half l.length) leaf q).1)) || fooled (l.drop (half l.length)) (i - half l.length) leaf q
  else false
  termination_by l.length
  decreasing_by
  · have := half_lt _h
    simp only [List.length_take]; omega
  · have := half_pos l.length
    simp only [List.length_drop]; omega

end Sd
