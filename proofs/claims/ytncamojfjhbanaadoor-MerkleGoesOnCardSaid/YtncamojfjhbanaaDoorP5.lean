/- Plain: a proof used up from its end as a stack, and both checks. -/
import Derived.Test.YtncamojfjhbanaaDoorK14
namespace Sd

/-- The root of n with a leaf at a place; what is left of the proof (its end is used first), and was there enough? -/
def upS (n i : Nat) (leaf : Dg) (l : List Dg) (ok : Bool) : Dg × List Dg × Bool :=
  if _h : 2 ≤ n then
    if i < half n then (pair (upS (half n) i leaf l.dropLast (ok && !l.isEmpty)).1 (l.getLastD Dg.zero), (upS (half n) i leaf l.dropLast (ok && !l.isEmpty)).2)
    else (pair (l.getLastD Dg.zero) (upS (n - half n) (i - half n) leaf l.dropLast (ok && !l.isEmpty)).1, (upS (n - half n) (i - half n) leaf l.dropLast (ok && !l.isEmpty)).2)
  else (leaf, l, ok)
  termination_by n
  decreasing_by
  all_goals (have := half_lt _h; have := half_pos n; omega)
theorem snoc_of {α : Type} : ∀ {l : List α}, l ≠ [] → ∃ q z, l = q ++ [z] := fun {l} h => ⟨l.dropLast, l.getLast h, (List.dropLast_concat_getLast h).symm⟩

/-- Is a leaf in, as the document says it. -/
def checks (r : Dg) (n i : Int) (leaf : Dg) (l : List Dg) : Bool := decide (n ≤ 1000 ∧ 0 ≤ i ∧ i < n) && check r n.toNat i.toNat leaf l

/-! ### A list that goes on. -/

def bothS (old : Dg) (m n : Nat) (whole : Bool) (l : List Dg) (ok : Bool) : Dg × Dg × List Dg × Bool :=
  if _h : 2 ≤ n ∧ m ≠ n then
    if m ≤ half n then ((bothS old m (half n) whole l.dropLast (ok && !l.isEmpty)).1, pair (bothS old m (half n) whole l.dropLast (ok && !l.isEmpty)).2.1 (l.getLastD Dg.zero), (bothS old m (half n) whole l.dropLast (ok && !l.isEmpty)).2.2)
    else (pair (l.getLastD Dg.zero) (bothS old (m - half n) (n - half n) false l.dropLast (ok && !l.isEmpty)).1, pair (l.getLastD Dg.zero) (bothS old (m - half n) (n - half n) false l.dropLast (ok && !l.isEmpty)).2.1, (bothS old (m - half n) (n - half n) false l.dropLast (ok && !l.isEmpty)).2.2)
  else if whole then (old, old, l, ok) else (l.getLastD Dg.zero, l.getLastD Dg.zero, l.dropLast, ok && !l.isEmpty)
  termination_by n
  decreasing_by
  all_goals (have := half_lt _h.1; have := half_pos n; omega)
theorem bothS_end {m n : Nat} (h : ¬ (2 ≤ n ∧ m ≠ n)) (old : Dg) (l : List Dg) (ok : Bool) : bothS old m n true l ok = (old, old, l, ok) := by rw [bothS.eq_def, dif_neg h]; rfl
theorem bothS_cut {m n : Nat} (h : ¬ (2 ≤ n ∧ m ≠ n)) (old : Dg) (l : List Dg) (ok : Bool) : bothS old m n false l ok = (l.getLastD Dg.zero, l.getLastD Dg.zero, l.dropLast, ok && !l.isEmpty) := by rw [bothS.eq_def, dif_neg h]; rfl
theorem bothS_lo {m n : Nat} (h : 2 ≤ n ∧ m ≠ n) (hm : m ≤ half n) (old : Dg) (whole : Bool) (l : List Dg) (ok : Bool) : bothS old m n whole l ok =
    ((bothS old m (half n) whole l.dropLast (ok && !l.isEmpty)).1, pair (bothS old m (half n) whole l.dropLast (ok && !l.isEmpty)).2.1 (l.getLastD Dg.zero), (bothS old m (half n) whole l.dropLast (ok && !l.isEmpty)).2.2) := by
  rw [bothS.eq_def, dif_pos h, if_pos hm]
theorem bothS_hi {m n : Nat} (h : 2 ≤ n ∧ m ≠ n) (hm : ¬ m ≤ half n) (old : Dg) (whole : Bool) (l : List Dg) (ok : Bool) : bothS old m n whole l ok =
    (pair (l.getLastD Dg.zero) (bothS old (m - half n) (n - half n) false l.dropLast (ok && !l.isEmpty)).1, pair (l.getLastD Dg.zero) (bothS old (m - half n) (n - half n) false l.dropLast (ok && !l.isEmpty)).2.1, (bothS old (m - half n) (n - half n) false l.dropLast (ok && !l.isEmpty)).2.2) := by
  rw [bothS.eq_def, dif_pos h, if_neg hm]

theorem both_cut_snoc {m n : Nat} (h : ¬ (2 ≤ n ∧ m ≠ n)) (old : Dg) (l : List Dg) : (both old m n false l.reverse).2.2 = decide (l.length = 1) ∧ ((both old m n false l.reverse).2.2 = true → (both old m n false l.reverse).1 = l.getLastD Dg.zero ∧ (both old m n false l.reverse).2.1 = l.getLastD Dg.zero) := by
  match l with
  | [] => rw [List.reverse_nil, both_end0 h old (by simp)]; simp
  | [x] => rw [List.reverse_singleton, both_end1 h]; simp
  | x :: y :: q => rw [both_end0 h old (by simp)]; simp
theorem cut_len (l : List Dg) (ok : Bool) : ((ok && !l.isEmpty) && l.dropLast.isEmpty) = (ok && decide (l.length = 1)) := by
  match l with
  | [] => simp
  | [x] => simp
  | x :: y :: q => simp
/-- The stack's way agrees with the list's. -/
structure Agree (s : Dg × Dg × List Dg × Bool) (ok : Bool) (b : Dg × Dg × Bool) : Prop where
  form : (s.2.2.2 && s.2.2.1.isEmpty) = (ok && b.2.2)
  roots : (ok && b.2.2) = true → s.1 = b.1 ∧ s.2.1 = b.2.1
theorem Agree.map {s : Dg × Dg × List Dg × Bool} {ok : Bool} {b : Dg × Dg × Bool} (h : Agree s ok b) (f g : Dg → Dg) : Agree (f s.1, g s.2.1, s.2.2) ok (f b.1, g b.2.1, b.2.2) :=
  ⟨h.form, fun k => ⟨congrArg f (h.roots k).1, congrArg g (h.roots k).2⟩⟩
theorem Agree.not {s : Dg × Dg × List Dg × Bool} {ok : Bool} {b : Dg × Dg × Bool} (h : Agree s false b) (x y u v : Dg) : Agree (x, y, s.2.2) ok (u, v, false) :=
  ⟨by have := h.form; rw [Bool.false_and] at this; rw [Bool.and_false]; exact this, fun k => by rw [Bool.and_false] at k; cases k⟩
theorem bothS_both (n : Nat) : ∀ (m : Nat) (old : Dg) (whole : Bool) (l : List Dg) (ok : Bool), Agree (bothS old m n whole l ok) ok (both old m n whole l.reverse) := by
  induction n using Nat.strongRecOn with
  | _ n ih =>
    intro m old whole l ok
    by_cases h : 2 ≤ n ∧ m ≠ n
    · have hl := half_lt h.1
      have hp := half_pos n
      by_cases hz : l = []
      · subst hz
        have e : (ok && !([] : List Dg).isEmpty) = false := by simp
        rw [List.reverse_nil, both_nil h]
        by_cases hi : m ≤ half n
        · rw [bothS_lo h hi, e]
          exact (ih (half n) hl m old whole [] false).not _ _ _ _
        · rw [bothS_hi h hi, e]
          exact (ih (n - half n) (by omega) (m - half n) old false [] false).not _ _ _ _
      · obtain ⟨q, z, rfl⟩ := snoc_of hz
        have e : (ok && !(q ++ [z]).isEmpty) = ok := by simp
        rw [List.reverse_append, List.reverse_singleton, List.singleton_append]
        by_cases hi : m ≤ half n
        · rw [bothS_lo h hi, both_lo h hi, e, List.dropLast_concat, List.getLastD_concat]
          exact (ih (half n) hl m old whole q ok).map (fun x => x) (fun x => pair x z)
        · rw [bothS_hi h hi, both_hi h hi, e, List.dropLast_concat, List.getLastD_concat]
          exact (ih (n - half n) (by omega) (m - half n) old false q ok).map (pair z) (pair z)
    · cases whole with
      | true => rw [bothS_end h, both_end h]; exact ⟨by simp, fun _ => ⟨rfl, rfl⟩⟩
      | false =>
        obtain ⟨h1, h2⟩ := both_cut_snoc h old l
        rw [bothS_cut h]
        refine ⟨by rw [h1]; exact cut_len l ok, fun h3 => ?_⟩
        have := h2 (by simp only [Bool.and_eq_true] at h3; exact h3.2)
        exact ⟨this.1.symm, this.2.symm⟩

theorem prod3 {α β γ : Type} {s : α × β × γ} {a : α} {b : β} {c : γ} (h : s = (a, b, c)) : s.2.2 = c := by rw [h]
theorem both_lo3 {m n : Nat} (h : 2 ≤ n ∧ m ≠ n) (hm : m ≤ half n) (old z : Dg) (whole : Bool) (q : List Dg) : (both old m n whole (z :: q)).2.2 = (both old m (half n) whole q).2.2 := prod3 (both_lo h hm old z whole q)
theorem both_hi3 {m n : Nat} (h : 2 ≤ n ∧ m ≠ n) (hm : ¬ m ≤ half n) (old z : Dg) (whole : Bool) (q : List Dg) : (both old m n whole (z :: q)).2.2 = (both old (m - half n) (n - half n) false q).2.2 := prod3 (both_hi h hm old z whole q)
theorem both_end3 {m n : Nat} (h : ¬ (2 ≤ n ∧ m ≠ n)) (old : Dg) (whole : Bool) (p : List Dg) (hb : (both old m n whole p).2.2 = true) : p.length ≤ 1 := by
  cases whole with
  | true =>
    have hp : p.isEmpty = true := (prod3 (both_end h old p)).symm.trans hb
    rw [List.isEmpty_iff.1 hp]
    exact Nat.zero_le _
  | false =>
    by_cases hp : p.length = 1
    · omega
    · exact absurd ((prod3 (both_end0 h old hp)).symm.trans hb) Bool.false_ne_true
theorem both_bound (j : Nat) : ∀ (m n : Nat) (old : Dg) (whole : Bool) (p : List Dg), 1 ≤ m → m ≤ n → n ≤ 2 ^ j → (both old m n whole p).2.2 = true → p.length ≤ j + 1 ∧ p.length ≤ n := by
  induction j with
  | zero =>
    intro m n old whole p h1 hm hj hb
    have := both_end3 (by simp at hj; omega) old whole p hb
    omega
  | succ j ih =>
    intro m n old whole p h1 hm hj hb
    by_cases h : 2 ≤ n ∧ m ≠ n
    · have hl := half_lt h.1
      have hp := half_pos n
      have hh : half n ≤ 2 ^ j := by
        unfold half
        refine Nat.pow_le_pow_right (by omega) ?_
        have : Nat.log2 (n - 1) < j + 1 := (Nat.log2_lt (by omega)).2 (by omega)
        omega
      have h3 := @half_two n
      rw [Nat.pow_succ] at hj
      cases p with
      | nil => simp
      | cons z q =>
        rw [List.length_cons]
        by_cases hi : m ≤ half n
        · have := ih m (half n) old whole q h1 hi hh ((both_lo3 h hi old z whole q).symm.trans hb)
          omega
        · have := ih (m - half n) (n - half n) old false q (by omega) (by omega) (by omega) ((both_hi3 h hi old z whole q).symm.trans hb)
          omega
    · have := both_end3 h old whole p hb
      omega

def checksOn (old : Dg) (m : Int) (r : Dg) (n : Int) (l : List Dg) : Bool := decide (n ≤ 1000 ∧ 1 ≤ m ∧ m ≤ n) && checkOn old m.toNat r n.toNat l
theorem checkOn_no {old r : Dg} {m n : Int} {l : List Dg} (h : ¬ (n ≤ 1000 ∧ 1 ≤ m ∧ m ≤ n)) : checksOn old m r n l = false := by
  unfold checksOn; rw [decide_eq_false h, Bool.false_and]
theorem checkOn_long {old r : Dg} {m n : Int} {l : List Dg} (h : 20 < l.length ∨ n < l.length) : checksOn old m r n l = false := by
  by_cases hn : n ≤ 1000 ∧ 1 ≤ m ∧ m ≤ n
  · unfold checksOn checkOn
    cases hu : (both old m.toNat n.toNat true l.reverse).2.2 with
    | false => simp
    | true =>
      have := both_bound 10 m.toNat n.toNat old true l.reverse (by omega) (by omega) (by omega) hu
      rw [List.length_reverse] at this
      omega
  · exact checkOn_no hn
theorem checkOn_yes {old r : Dg} {m n : Int} {l : List Dg} (h : n ≤ 1000 ∧ 1 ≤ m ∧ m ≤ n) : checksOn old m r n l =
    (((both old m.toNat n.toNat true l.reverse).2.2 && decide ((both old m.toNat n.toNat true l.reverse).1 = old)) && decide ((both old m.toNat n.toNat true l.reverse).2.1 = r)) := by
  unfold checksOn checkOn; rw [decide_eq_true h, Bool.true_and, Bool.and_assoc]
theorem checkOn_yesS {old r : Dg} {m n : Int} {l : List Dg} (h : n ≤ 1000 ∧ 1 ≤ m ∧ m ≤ n) : checksOn old m r n l =
    ((((bothS old m.toNat n.toNat true l true).2.2.2 && decide ((bothS old m.toNat n.toNat true l true).2.2.1.length = 0)) && decide ((bothS old m.toNat n.toNat true l true).1 = old)) && decide ((bothS old m.toNat n.toNat true l true).2.1 = r)) := by
  rw [checkOn_yes h]
  obtain ⟨h1, h2⟩ := bothS_both n.toNat m.toNat old true l true
  rw [Bool.true_and] at h1 h2
  have e : decide ((bothS old m.toNat n.toNat true l true).2.2.1.length = 0) = (bothS old m.toNat n.toNat true l true).2.2.1.isEmpty := by
    cases (bothS old m.toNat n.toNat true l true).2.2.1 <;> simp
  rw [e, h1]
  cases hu : (both old m.toNat n.toNat true l.reverse).2.2 with
  | false => simp
  | true => obtain ⟨h3, h4⟩ := h2 hu; rw [h3, h4]
end Sd
