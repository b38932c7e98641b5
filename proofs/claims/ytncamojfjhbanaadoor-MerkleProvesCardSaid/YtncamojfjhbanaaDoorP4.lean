/- Plain clashes of trees of digests: no program in sight. -/
import Derived.Test.YtncamojfjhbanaaDoorP3
namespace Sd

abbrev Two := Dg × Dg
def Two.zero : Two := (Dg.zero, Dg.zero)
/-- What both halves come to. -/
def halves (k : Nat) (l : List Dg) : Two := (root (l.take k), root (l.drop k))

/-- Two unlike pairs with one Pair, of two lists with one root. -/
def clash (a b : List Dg) : Two × Two × Bool :=
  if _h : 2 ≤ a.length ∧ a.length = b.length ∧ a ≠ b ∧ root a = root b then
    if halves (half a.length) a ≠ halves (half a.length) b then (halves (half a.length) a, halves (half a.length) b, true)
    else if a.take (half a.length) ≠ b.take (half a.length) then clash (a.take (half a.length)) (b.take (half a.length))
    else clash (a.drop (half a.length)) (b.drop (half a.length))
  else (Two.zero, Two.zero, false)
  termination_by a.length
  decreasing_by
  · have := half_lt _h.1
    simp only [List.length_take]; omega
  · have := half_pos a.length
    simp only [List.length_drop]; omega

/-- Do two unlike pairs on the way have one Pair? The proof's end first. -/
def fooled (l : List Dg) (i : Nat) (leaf : Dg) (p : List Dg) : Bool :=
  if _h : 2 ≤ l.length then
    match p with
    | [] => false
    | z :: q =>
      if i < half l.length then
        (decide ((root (l.take (half l.length)), root (l.drop (half l.length))) ≠ ((up (half l.length) i leaf q).1, z)) &&
          decide (pair (root (l.take (half l.length))) (root (l.drop (half l.length))) = pair (up (half l.length) i leaf q).1 z)) || fooled (l.take (half l.length)) i leaf q
      else
        (decide ((root (l.take (half l.length)), root (l.drop (half l.length))) ≠ (z, (up (l.length - half l.length) (i - half l.length) leaf q).1)) &&
          decide (pair (root (l.take (half l.length))) (root (l.drop (half l.length))) = pair z (up (l.length - half l.length) (i - half l.length) leaf q).1)) || fooled (l.drop (half l.length)) (i - half l.length) leaf q
  else false
  termination_by l.length
  decreasing_by
  · have := half_lt _h
    simp only [List.length_take]; omega
  · have := half_pos l.length
    simp only [List.length_drop]; omega

/-- A proof has just one length. -/
theorem up_len : ∀ (n k i : Nat) (leaf : Dg) (p q : List Dg), n ≤ k → (up n i leaf p).2 = true → (up n i leaf q).2 = true → p.length = q.length
  | n, k, i, leaf, p, q, hk, hp, hq => by
    by_cases h : 2 ≤ n
    · have hl := half_lt h
      have hpos := half_pos n
      cases k with
      | zero => omega
      | succ k =>
        cases p with
        | nil => rw [up_nil h] at hp; cases hp
        | cons y p =>
          cases q with
          | nil => rw [up_nil h] at hq; cases hq
          | cons z q =>
            by_cases hlt : i < half n
            · rw [up_lo h hlt] at hp hq
              have := up_len (half n) k i leaf p q (by omega) hp hq
              simp [this]
            · rw [up_hi h hlt] at hp hq
              have := up_len (n - half n) k (i - half n) leaf p q (by omega) hp hq
              simp [this]
    · rw [up_one (by omega)] at hp hq
      simp only [List.isEmpty_iff] at hp hq
      rw [hp, hq]

/-- How long a proof is, at most. -/
theorem way_len : ∀ (j : Nat) (l : List Dg) (i : Nat), i < l.length → l.length ≤ 2 ^ j → (way l i).length ≤ j
  | 0, l, i, hi, h => by rw [way_one (by omega)]; simp
  | j + 1, l, i, hi, h => by
    by_cases h2 : 2 ≤ l.length
    · have hl := half_lt h2
      have hp := half_pos l.length
      have hh : half l.length ≤ 2 ^ j := by
        unfold half
        refine Nat.pow_le_pow_right (by omega) ?_
        have : Nat.log2 (l.length - 1) < j + 1 := (Nat.log2_lt (by omega)).2 (by omega)
        omega
      have h3 := @half_two l.length
      rw [Nat.pow_succ] at h
      by_cases hlt : i < half l.length
      · rw [way_lo h2 hlt]
        have := way_len j (l.take (half l.length)) i (by rw [List.length_take]; omega) (by rw [List.length_take]; omega)
        simp; omega
      · rw [way_hi h2 hlt]
        have := way_len j (l.drop (half l.length)) (i - half l.length) (by rw [List.length_drop]; omega) (by rw [List.length_drop]; omega)
        simp; omega
    · rw [way_one (by omega)]; simp

end Sd
