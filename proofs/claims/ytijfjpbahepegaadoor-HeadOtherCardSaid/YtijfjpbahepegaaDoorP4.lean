/- Plain clashes of trees of digests: no program in sight. -/
import Derived.Test.YtijfjpbahepegaaDoorP3
namespace Sd

abbrev Two := Dg × Dg
def Two.zero : Two := (Dg.zero, Dg.zero)
/-- What both halves come to. -/
def halves (k : Nat) (l : List Dg) : Two := (root (l.take k), root (l.drop k))

/-- Two unlike pairs with one Pair, of two lists with one root. -/
def clash (a b : List Dg) : Two × Two × Bool :=
  if _h : 2 ≤ a.length ∧ a.length = b.length ∧ a ≠ b ∧ root a = root b then
    if halves (half a.length) a ≠ halves (half a.length) b then (halves (half a.length) a, halves (half a.length) b, true)
    else if a.take (half a.length) ≠ b.take (half a.length) then clash (a.take (half a.length)) (b.take (half a.length))
    else clash (a.drop (half a.length)) (b.drop (half a.length))
  else (Two.zero, Two.zero, false)
  termination_by a.length
  decreasing_by
  · have := half_lt _h.1
    simp only [List.length_take]; omega
  · have := half_pos a.length
    simp only [List.length_drop]; omega

theorem unlike_two {a b : List Dg} (hl : a.length = b.length) (hab : a ≠ b) (hr : root a = root b) : 2 ≤ a.length := by
  rcases Nat.lt_or_ge a.length 2 with h | h
  · exfalso
    match a, b, hl, h with
    | [], [], _, _ => exact hab rfl
    | [x], [y], _, _ => rw [root_one, root_one] at hr; exact hab (by rw [hr])
  · exact h

theorem clash_no {a b : List Dg} (h : ¬ (a.length = b.length ∧ a ≠ b ∧ root a = root b)) : clash a b = (Two.zero, Two.zero, false) := by
  rw [clash.eq_def, dif_neg (fun hh => h ⟨hh.2.1, hh.2.2.1, hh.2.2.2⟩)]
theorem clash_here {a b : List Dg} (h : a.length = b.length ∧ a ≠ b ∧ root a = root b) (hx : halves (half a.length) a ≠ halves (half a.length) b) :
    clash a b = (halves (half a.length) a, halves (half a.length) b, true) := by
  rw [clash.eq_def, dif_pos ⟨unlike_two h.1 h.2.1 h.2.2, h⟩, if_pos hx]
theorem clash_lo {a b : List Dg} (h : a.length = b.length ∧ a ≠ b ∧ root a = root b) (hx : halves (half a.length) a = halves (half a.length) b)
    (ht : a.take (half a.length) ≠ b.take (half a.length)) : clash a b = clash (a.take (half a.length)) (b.take (half a.length)) := by
  rw [clash.eq_def, dif_pos ⟨unlike_two h.1 h.2.1 h.2.2, h⟩, if_neg (fun hh => hh hx), if_pos ht]
theorem clash_hi {a b : List Dg} (h : a.length = b.length ∧ a ≠ b ∧ root a = root b) (hx : halves (half a.length) a = halves (half a.length) b)
    (ht : a.take (half a.length) = b.take (half a.length)) : clash a b = clash (a.drop (half a.length)) (b.drop (half a.length)) := by
  rw [clash.eq_def, dif_pos ⟨unlike_two h.1 h.2.1 h.2.2, h⟩, if_neg (fun hh => hh hx), if_neg (fun hh => hh ht)]

/-- What goes on in a half. -/
theorem half_unlike {a b : List Dg} (hab : a ≠ b) (k : Nat) (ht : a.take k = b.take k) : a.drop k ≠ b.drop k := fun hd =>
  hab (by rw [← List.take_append_drop k a, ← List.take_append_drop k b, ht, hd])

theorem clash_spec : ∀ (n : Nat) (a b : List Dg), a.length ≤ n → a.length = b.length → a ≠ b → root a = root b →
    (clash a b).2.2 = true ∧ (clash a b).1 ≠ (clash a b).2.1 ∧ pair (clash a b).1.1 (clash a b).1.2 = pair (clash a b).2.1.1 (clash a b).2.1.2
  | n, a, b, hn, hl, hab, hr => by
    have h2 := unlike_two hl hab hr
    by_cases hx : halves (half a.length) a = halves (half a.length) b
    · have hlt := half_lt h2
      have hp := half_pos a.length
      cases n with
      | zero => omega
      | succ n =>
        by_cases ht : a.take (half a.length) = b.take (half a.length)
        · rw [clash_hi ⟨hl, hab, hr⟩ hx ht]
          exact clash_spec n _ _ (by rw [List.length_drop]; omega) (by rw [List.length_drop, List.length_drop, hl]) (half_unlike hab _ ht) (congrArg Prod.snd hx)
        · rw [clash_lo ⟨hl, hab, hr⟩ hx ht]
          exact clash_spec n _ _ (by rw [List.length_take]; omega) (by rw [List.length_take, List.length_take, hl]) ht (congrArg Prod.fst hx)
    · rw [clash_here ⟨hl, hab, hr⟩ hx]
      refine ⟨rfl, hx, ?_⟩
      have e1 : root a = pair (halves (half a.length) a).1 (halves (half a.length) a).2 := root_two h2
      have e2 : root b = pair (halves (half a.length) b).1 (halves (half a.length) b).2 := by rw [hl]; exact root_two (by omega)
      rw [← e1, ← e2, hr]

/-- Do two unlike pairs on the way have one Pair? The proof's end first. -/
def fooled (l : List Dg) (i : Nat) (leaf : Dg) (p : List Dg) : Bool :=
  if _h : 2 ≤ l.length then
    match p with
    | [] => false
    | z :: q =>
      if i < half l.length then
        (decide ((root (l.take (half l.length)), root (l.drop (half l.length))) ≠ ((up (half l.length) i leaf q).1, z)) &&
          decide (pair (root (l.take (half l.length))) (root (l.drop (half l.length))) = pair (up (half l.length) i leaf q).1 z)) || fooled (l.take (half l.length)) i leaf q
      else
        (decide ((root (l.take (half l.length)), root (l.drop (half l.length))) ≠ (z, (up (l.length - half l.length) (i - half l.length) leaf q).1)) &&
          decide (pair (root (l.take (half l.length))) (root (l.drop (half l.length))) = pair z (up (l.length - half l.length) (i - half l.length) leaf q).1)) || fooled (l.drop (half l.length)) (i - half l.length) leaf q
  else false
  termination_by l.length
  decreasing_by
  · have := half_lt _h
    simp only [List.length_take]; omega
  · have := half_pos l.length
    simp only [List.length_drop]; omega

end Sd
