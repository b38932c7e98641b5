/- Plain: a proof used up from its end as a stack, and both checks. -/
import Derived.Test.YtncamojfjhbanaaDoorK14
namespace Sd

/-- The root of n with a leaf at a place; what is left of the proof (its end is used first), and was there enough? -/
def upS (n i : Nat) (leaf : Dg) (l : List Dg) (ok : Bool) : Dg × List Dg × Bool :=
  if _h : 2 ≤ n then
    if i < half n then (pair (upS (half n) i leaf l.dropLast (ok && !l.isEmpty)).1 (l.getLastD Dg.zero), (upS (half n) i leaf l.dropLast (ok && !l.isEmpty)).2)
    else (pair (l.getLastD Dg.zero) (upS (n - half n) (i - half n) leaf l.dropLast (ok && !l.isEmpty)).1, (upS (n - half n) (i - half n) leaf l.dropLast (ok && !l.isEmpty)).2)
  else (leaf, l, ok)
  termination_by n
  decreasing_by
  all_goals (have := half_lt _h; have := half_pos n; omega)
theorem upS_one {n : Nat} (h : n < 2) (i : Nat) (leaf : Dg) (l : List Dg) (ok : Bool) : upS n i leaf l ok = (leaf, l, ok) := by rw [upS.eq_def, dif_neg (by omega)]
theorem upS_lo {n : Nat} (h : 2 ≤ n) {i : Nat} (hi : i < half n) (leaf : Dg) (l : List Dg) (ok : Bool) :
    upS n i leaf l ok = (pair (upS (half n) i leaf l.dropLast (ok && !l.isEmpty)).1 (l.getLastD Dg.zero), (upS (half n) i leaf l.dropLast (ok && !l.isEmpty)).2) := by
  rw [upS.eq_def, dif_pos h, if_pos hi]
theorem upS_hi {n : Nat} (h : 2 ≤ n) {i : Nat} (hi : ¬ i < half n) (leaf : Dg) (l : List Dg) (ok : Bool) :
    upS n i leaf l ok = (pair (l.getLastD Dg.zero) (upS (n - half n) (i - half n) leaf l.dropLast (ok && !l.isEmpty)).1, (upS (n - half n) (i - half n) leaf l.dropLast (ok && !l.isEmpty)).2) := by
  rw [upS.eq_def, dif_pos h, if_neg hi]

theorem snoc_of {α : Type} : ∀ {l : List α}, l ≠ [] → ∃ q z, l = q ++ [z] := fun {l} h => ⟨l.dropLast, l.getLast h, (List.dropLast_concat_getLast h).symm⟩

theorem upS_up (n : Nat) : ∀ (i : Nat) (leaf : Dg) (l : List Dg) (ok : Bool),
    ((upS n i leaf l ok).2.2 && (upS n i leaf l ok).2.1.isEmpty) = (ok && (up n i leaf l.reverse).2) ∧ ((ok && (up n i leaf l.reverse).2) = true → (upS n i leaf l ok).1 = (up n i leaf l.reverse).1) := by
  induction n using Nat.strongRecOn with
  | _ n ih =>
    intro i leaf l ok
    by_cases h : 2 ≤ n
    · have hl := half_lt h
      have hp := half_pos n
      by_cases hz : l = []
      · subst hz
        rw [List.reverse_nil, up_nil h]
        by_cases hi : i < half n
        · rw [upS_lo h hi]
          have := (ih (half n) hl i leaf [] false).1
          simpa using this
        · rw [upS_hi h hi]
          have := (ih (n - half n) (by omega) (i - half n) leaf [] false).1
          simpa using this
      · obtain ⟨q, z, rfl⟩ := snoc_of hz
        have e : (ok && !(q ++ [z]).isEmpty) = ok := by simp
        rw [List.reverse_append, List.reverse_singleton, List.singleton_append]
        by_cases hi : i < half n
        · rw [upS_lo h hi, up_lo h hi, e]
          have := ih (half n) hl i leaf q ok
          simp at this ⊢
          refine ⟨this.1, fun h1 h2 => ?_⟩
          rw [this.2 h1 h2]
        · rw [upS_hi h hi, up_hi h hi, e]
          have := ih (n - half n) (by omega) (i - half n) leaf q ok
          simp at this ⊢
          refine ⟨this.1, fun h1 h2 => ?_⟩
          rw [this.2 h1 h2]
    · rw [upS_one (by omega), up_one (by omega)]
      simp

/-- Is a leaf in, as the document says it. -/
def checks (r : Dg) (n i : Int) (leaf : Dg) (l : List Dg) : Bool := decide (n ≤ 1000 ∧ 0 ≤ i ∧ i < n) && check r n.toNat i.toNat leaf l

theorem up_bound {n i j : Nat} {leaf : Dg} {p : List Dg} (hi : i < n) (hj : n ≤ 2 ^ j) (h : (up n i leaf p).2 = true) : p.length ≤ j ∧ p.length + 1 ≤ n := by
  have hl : (List.replicate n leaf).length = n := List.length_replicate
  have hx : (List.replicate n leaf)[i]? = some leaf := by rw [List.getElem?_replicate, if_pos hi]
  have h1 := up_way n (List.replicate n leaf) i leaf hx (by omega)
  rw [hl] at h1
  have h2 := up_len n n i leaf p _ (Nat.le_refl _) h (by rw [h1])
  have h3 := way_len j (List.replicate n leaf) i (by omega) (by omega)
  have h4 := way_le (List.replicate n leaf) i (by omega)
  rw [h2, List.length_reverse]
  omega
theorem check_no {r : Dg} {n i : Int} {leaf : Dg} {l : List Dg} (h : ¬ (n ≤ 1000 ∧ 0 ≤ i ∧ i < n)) : checks r n i leaf l = false := by
  unfold checks; rw [decide_eq_false h, Bool.false_and]
theorem check_long {r : Dg} {n i : Int} {leaf : Dg} {l : List Dg} (h : 20 < l.length ∨ n < l.length) : checks r n i leaf l = false := by
  by_cases hn : n ≤ 1000 ∧ 0 ≤ i ∧ i < n
  · unfold checks check
    cases hu : (up n.toNat i.toNat leaf l.reverse).2 with
    | false => simp
    | true =>
      have := up_bound (j := 10) (by omega) (by omega) hu
      rw [List.length_reverse] at this
      omega
  · exact check_no hn
theorem check_yes {r : Dg} {n i : Int} {leaf : Dg} {l : List Dg} (h : n ≤ 1000 ∧ 0 ≤ i ∧ i < n) : checks r n i leaf l = ((up n.toNat i.toNat leaf l.reverse).2 && decide ((up n.toNat i.toNat leaf l.reverse).1 = r)) := by
  unfold checks check; rw [decide_eq_true h, Bool.true_and]
theorem check_yesS {r : Dg} {n i : Int} {leaf : Dg} {l : List Dg} (h : n ≤ 1000 ∧ 0 ≤ i ∧ i < n) :
    checks r n i leaf l = (((upS n.toNat i.toNat leaf l true).2.2 && decide ((upS n.toNat i.toNat leaf l true).2.1.length = 0)) && decide ((upS n.toNat i.toNat leaf l true).1 = r)) := by
  rw [check_yes h]
  obtain ⟨h1, h2⟩ := upS_up n.toNat i.toNat leaf l true
  rw [Bool.true_and] at h1 h2
  have e : decide ((upS n.toNat i.toNat leaf l true).2.1.length = 0) = (upS n.toNat i.toNat leaf l true).2.1.isEmpty := by
    cases (upS n.toNat i.toNat leaf l true).2.1 <;> simp
  rw [e, h1]
  cases hu : (up n.toNat i.toNat leaf l.reverse).2 with
  | false => simp
  | true => rw [h2 hu]

/-! ### A list that goes on. -/

def bothS (old : Dg) (m n : Nat) (whole : Bool) (l : List Dg) (ok : Bool) : Dg × Dg × List Dg × Bool :=
  if _h : 2 ≤ n ∧ m ≠ n then
    if m ≤ half n then ((bothS old m (half n) whole l.dropLast (ok && !l.isEmpty)).1, pair (bothS old m (half n) whole l.dropLast (ok && !l.isEmpty)).2.1 (l.getLastD Dg.zero), (bothS old m (half n) whole l.dropLast (ok && !l.isEmpty)).2.2)
    else (pair (l.getLastD Dg.zero) (bothS old (m - half n) (n - half n) false l.dropLast (ok && !l.isEmpty)).1, pair (l.getLastD Dg.zero) (bothS old (m - half n) (n - half n) false l.dropLast (ok && !l.isEmpty)).2.1, (bothS old (m - half n) (n - half n) false l.dropLast (ok && !l.isEmpty)).2.2)
  else if whole then (old, old, l, ok) else (l.getLastD Dg.zero, l.getLastD Dg.zero, l.dropLast, ok && !l.isEmpty)
  termination_by n
  decreasing_by
  all_goals (have := half_lt _h.1; have := half_pos n; omega)
/-- The stack's way agrees with the list's. -/
structure Agree (s : Dg × Dg × List Dg × Bool) (ok : Bool) (b : Dg × Dg × Bool) : Prop where
  form : (s.2.2.2 && s.2.2.1.isEmpty) = (ok && b.2.2)
  roots : (ok && b.2.2) = true → s.1 = b.1 ∧ s.2.1 = b.2.1
theorem Agree.map {s : Dg × Dg × List Dg × Bool} {ok : Bool} {b : Dg × Dg × Bool} (h : Agree s ok b) (f g : Dg → Dg) : Agree (f s.1, g s.2.1, s.2.2) ok (f b.1, g b.2.1, b.2.2) :=
  ⟨h.form, fun k => ⟨congrArg f (h.roots k).1, congrArg g (h.roots k).2⟩⟩
theorem Agree.not {s : Dg × Dg × List Dg × Bool} {ok : Bool} {b : Dg × Dg × Bool} (h : Agree s false b) (x y u v : Dg) : Agree (x, y, s.2.2) ok (u, v, false) :=
  ⟨by have := h.form; rw [Bool.false_and] at this; rw [Bool.and_false]; exact this, fun k => by rw [Bool.and_false] at k; cases k⟩
def checksOn (old : Dg) (m : Int) (r : Dg) (n : Int) (l : List Dg) : Bool := decide (n ≤ 1000 ∧ 1 ≤ m ∧ m ≤ n) && checkOn old m.toNat r n.toNat l
end Sd
