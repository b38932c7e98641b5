/- Plain laws for checks of proofs. -/
import Derived.Test.YtncamojfjhbanaaDoorK15
namespace Sd
theorem checkOn_wrong {old r : Dg} {m n : Int} {l : List Dg} (h : (n ≤ 1000 ∧ 1 ≤ m ∧ m ≤ n) → 20 < l.length ∨ n < (l.length : Int)) : checksOn old m r n l = false := by
  by_cases hn : n ≤ 1000 ∧ 1 ≤ m ∧ m ≤ n
  · exact checkOn_long (h hn)
  · exact checkOn_no hn
/-- Four guards, one behind the other. -/
theorem or4 {a b c d : Prop} [Decidable a] [Decidable b] [Decidable c] [Decidable d] (h : (((decide a || decide b) || decide c) || decide d) = true) : a ∨ b ∨ c ∨ d := by simpa [or_assoc] using h
theorem nor4 {a b c d : Prop} [Decidable a] [Decidable b] [Decidable c] [Decidable d] (h : (((decide a || decide b) || decide c) || decide d) = false) : ¬ a ∧ ¬ b ∧ ¬ c ∧ ¬ d := by simpa [and_assoc] using h
end Sd
