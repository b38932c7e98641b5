/-
  NARROWER THAN 'FOR EVERY INPUT', by the rows' own cells (each row's printed sentence says how): HeadLost: laid · HeadOf: laid · HeadTail: laid · HeadOther: laid · HeadOn: laid · HeadGoes: laid · HeadChecks: laid · HeadSigns: laid · SystemOn: laid.
  DERIVED. THE GIVEN ROWS OF THIS SEAT. 9 by the template 'for every input the law returns true; each argument reads behind the call as it read before'; 0 by the template 'total and deterministic' (their statements: YtijfjpbahepegaaDoorTotals.lean).
  GIVEN WITH THE SEED: the statements are not yours to turn. If you find one false, say at which input.
  Laid BY PROGRAM, IN A SANDBOX (cutbox-rows.mjs): the forced cells as the released guide's own fill.sh prints them over the translation 76fdf43e3b5929ac… (all of the seat's roots in one cut). By AI agents, Wed Nov 11 2026. No macro, syntax, notation, axiom, sorry.
-/
import Derived.Test.YtijfjpbahepegaaDoorChecked
import GoSem.Claim
import GoSem.ClaimJoined
import GoSem.ClaimMapViews
import Derived.JoinedTies
import Derived.KernelRfl
namespace Go.Proofs.YtijfjpbahepegaaDoor
/- THE CELL 'sum', in the pinned program and in every row, IS THE sha256 OF THE DUMP (.gsa) THAT YtijfjpbahepegaaDoorProg.lean LOADS. Nothing in Lean hashes anything: it is a label: what it is worth is what the hold of that sum in a sandbox is worth. -/
noncomputable def Tryd.pinned : Pinned := { name := "ytijfjpbahepegaadoor", sum := "76fdf43e3b5929ac4057012d09a438157928fbb5fbc5c6ecf270fe1cfa3a4e7e", checked := Tryd.checked }
namespace Rows
def none {H : Type} : Left H := { results := [], args := [] }

/- WHAT THE LISTED PACKAGE-LEVEL VARIABLES READ AS WHEN THE CALL BEGINS. Each datum BY PROGRAM (the guide's laid-datum.mjs) off the statement by which the dump's own 'gosem.cut.vars' lays the variable. In a bare row this is a premise. The card (YtijfjpbahepegaaDoorCards.lean) ties it to the program's text. -/
def laid_seedcorn_digest_turns {H : Type} : DataW H := .agg [.lit (.int .i64 7), .lit (.int .i64 9), .lit (.int .i64 13), .lit (.int .i64 18)]

/-- 'seedcornlaw43.HeadLost': WHATEVER THE INPUT: true; the input reads as it did. -/
def headLostSpec : ChangeSpec := { name := "headLost", fn := fun _ => fun
  | [d1, d2] => { results := [.lit (.bool true)], args := [d1, d2] }
  | _ => none }
def headLostRow : OpenClaim := { program := "ytijfjpbahepegaadoor", sum := "76fdf43e3b5929ac4057012d09a438157928fbb5fbc5c6ecf270fe1cfa3a4e7e", func := "seedcorn/seedcornlaw43.HeadLost", spec := "headLost", inPlace := ["internal/abi.NoEscape", "internal/bytealg.MakeNoZero"], recurses := true, named := ["seedcorn/digest.turns"], apart := false, laid := [("seedcorn/digest.turns", laid_seedcorn_digest_turns)] }
def HeadLostSaid : Prop := headLostRow.holds Tryd.pinned (OpenSpec.ofChange headLostSpec)

/-- ITS FALSE NEIGHBOUR: 'it returns false'. Refute it at one input. -/
def headLostWrong : ChangeSpec := { name := "headLost", fn := fun _ => fun
  | [d1, d2] => { results := [.lit (.bool false)], args := [d1, d2] }
  | _ => none }
def HeadLostWrongFalsely : Prop := headLostRow.holds Tryd.pinned (OpenSpec.ofChange headLostWrong)

/-- 'seedcornlaw43.HeadOf': WHATEVER THE INPUT: true; the input reads as it did. -/
def headOfSpec : ChangeSpec := { name := "headOf", fn := fun _ => fun
  | [d1, d2] => { results := [.lit (.bool true)], args := [d1, d2] }
  | _ => none }
def headOfRow : OpenClaim := { program := "ytijfjpbahepegaadoor", sum := "76fdf43e3b5929ac4057012d09a438157928fbb5fbc5c6ecf270fe1cfa3a4e7e", func := "seedcorn/seedcornlaw43.HeadOf", spec := "headOf", inPlace := ["internal/abi.NoEscape", "internal/bytealg.MakeNoZero"], recurses := true, named := ["seedcorn/digest.turns"], apart := false, laid := [("seedcorn/digest.turns", laid_seedcorn_digest_turns)] }
def HeadOfSaid : Prop := headOfRow.holds Tryd.pinned (OpenSpec.ofChange headOfSpec)

/-- ITS FALSE NEIGHBOUR: 'it returns false'. Refute it at one input. -/
def headOfWrong : ChangeSpec := { name := "headOf", fn := fun _ => fun
  | [d1, d2] => { results := [.lit (.bool false)], args := [d1, d2] }
  | _ => none }
def HeadOfWrongFalsely : Prop := headOfRow.holds Tryd.pinned (OpenSpec.ofChange headOfWrong)

/-- 'seedcornlaw43.HeadTail': WHATEVER THE INPUT: true; the input reads as it did. -/
def headTailSpec : ChangeSpec := { name := "headTail", fn := fun _ => fun
  | [d1, d2, d3] => { results := [.lit (.bool true)], args := [d1, d2, d3] }
  | _ => none }
def headTailRow : OpenClaim := { program := "ytijfjpbahepegaadoor", sum := "76fdf43e3b5929ac4057012d09a438157928fbb5fbc5c6ecf270fe1cfa3a4e7e", func := "seedcorn/seedcornlaw43.HeadTail", spec := "headTail", inPlace := ["internal/abi.NoEscape", "internal/bytealg.MakeNoZero"], unfollowed := true, recurses := true, named := ["seedcorn/digest.turns"], apart := false, laid := [("seedcorn/digest.turns", laid_seedcorn_digest_turns)] }
def HeadTailSaid : Prop := headTailRow.holds Tryd.pinned (OpenSpec.ofChange headTailSpec)

/-- ITS FALSE NEIGHBOUR: 'it returns false'. Refute it at one input. -/
def headTailWrong : ChangeSpec := { name := "headTail", fn := fun _ => fun
  | [d1, d2, d3] => { results := [.lit (.bool false)], args := [d1, d2, d3] }
  | _ => none }
def HeadTailWrongFalsely : Prop := headTailRow.holds Tryd.pinned (OpenSpec.ofChange headTailWrong)

/-- 'seedcornlaw43.HeadOther': WHATEVER THE INPUT: true; the input reads as it did. -/
def headOtherSpec : ChangeSpec := { name := "headOther", fn := fun _ => fun
  | [d1, d2, d3] => { results := [.lit (.bool true)], args := [d1, d2, d3] }
  | _ => none }
def headOtherRow : OpenClaim := { program := "ytijfjpbahepegaadoor", sum := "76fdf43e3b5929ac4057012d09a438157928fbb5fbc5c6ecf270fe1cfa3a4e7e", func := "seedcorn/seedcornlaw43.HeadOther", spec := "headOther", inPlace := ["internal/abi.NoEscape", "internal/bytealg.MakeNoZero"], unfollowed := true, recurses := true, named := ["seedcorn/digest.turns"], apart := false, laid := [("seedcorn/digest.turns", laid_seedcorn_digest_turns)] }
def HeadOtherSaid : Prop := headOtherRow.holds Tryd.pinned (OpenSpec.ofChange headOtherSpec)

/-- ITS FALSE NEIGHBOUR: 'it returns false'. Refute it at one input. -/
def headOtherWrong : ChangeSpec := { name := "headOther", fn := fun _ => fun
  | [d1, d2, d3] => { results := [.lit (.bool false)], args := [d1, d2, d3] }
  | _ => none }
def HeadOtherWrongFalsely : Prop := headOtherRow.holds Tryd.pinned (OpenSpec.ofChange headOtherWrong)

/-- 'seedcornlaw43.HeadOn': WHATEVER THE INPUT: true; the input reads as it did. -/
def headOnSpec : ChangeSpec := { name := "headOn", fn := fun _ => fun
  | [d] => { results := [.lit (.bool true)], args := [d] }
  | _ => none }
def headOnRow : OpenClaim := { program := "ytijfjpbahepegaadoor", sum := "76fdf43e3b5929ac4057012d09a438157928fbb5fbc5c6ecf270fe1cfa3a4e7e", func := "seedcorn/seedcornlaw43.HeadOn", spec := "headOn", inPlace := ["internal/abi.NoEscape", "internal/bytealg.MakeNoZero"], recurses := true, named := ["seedcorn/digest.turns"], apart := false, laid := [("seedcorn/digest.turns", laid_seedcorn_digest_turns)] }
def HeadOnSaid : Prop := headOnRow.holds Tryd.pinned (OpenSpec.ofChange headOnSpec)

/-- ITS FALSE NEIGHBOUR: 'it returns false'. Refute it at one input. -/
def headOnWrong : ChangeSpec := { name := "headOn", fn := fun _ => fun
  | [d] => { results := [.lit (.bool false)], args := [d] }
  | _ => none }
def HeadOnWrongFalsely : Prop := headOnRow.holds Tryd.pinned (OpenSpec.ofChange headOnWrong)

/-- 'seedcornlaw43.HeadGoes': WHATEVER THE INPUT: true; the input reads as it did. -/
def headGoesSpec : ChangeSpec := { name := "headGoes", fn := fun _ => fun
  | [d1, d2] => { results := [.lit (.bool true)], args := [d1, d2] }
  | _ => none }
def headGoesRow : OpenClaim := { program := "ytijfjpbahepegaadoor", sum := "76fdf43e3b5929ac4057012d09a438157928fbb5fbc5c6ecf270fe1cfa3a4e7e", func := "seedcorn/seedcornlaw43.HeadGoes", spec := "headGoes", inPlace := ["internal/abi.NoEscape", "internal/bytealg.MakeNoZero"], recurses := true, named := ["seedcorn/digest.turns"], apart := false, laid := [("seedcorn/digest.turns", laid_seedcorn_digest_turns)] }
def HeadGoesSaid : Prop := headGoesRow.holds Tryd.pinned (OpenSpec.ofChange headGoesSpec)

/-- ITS FALSE NEIGHBOUR: 'it returns false'. Refute it at one input. -/
def headGoesWrong : ChangeSpec := { name := "headGoes", fn := fun _ => fun
  | [d1, d2] => { results := [.lit (.bool false)], args := [d1, d2] }
  | _ => none }
def HeadGoesWrongFalsely : Prop := headGoesRow.holds Tryd.pinned (OpenSpec.ofChange headGoesWrong)

/-- 'seedcornlaw43.HeadChecks': WHATEVER THE INPUT: true; the input reads as it did. -/
def headChecksSpec : ChangeSpec := { name := "headChecks", fn := fun _ => fun
  | [d1, d2] => { results := [.lit (.bool true)], args := [d1, d2] }
  | _ => none }
def headChecksRow : OpenClaim := { program := "ytijfjpbahepegaadoor", sum := "76fdf43e3b5929ac4057012d09a438157928fbb5fbc5c6ecf270fe1cfa3a4e7e", func := "seedcorn/seedcornlaw43.HeadChecks", spec := "headChecks", inPlace := ["internal/abi.NoEscape", "internal/bytealg.MakeNoZero"], unfollowed := true, recurses := true, named := ["seedcorn/digest.turns"], apart := false, laid := [("seedcorn/digest.turns", laid_seedcorn_digest_turns)] }
def HeadChecksSaid : Prop := headChecksRow.holds Tryd.pinned (OpenSpec.ofChange headChecksSpec)

/-- ITS FALSE NEIGHBOUR: 'it returns false'. Refute it at one input. -/
def headChecksWrong : ChangeSpec := { name := "headChecks", fn := fun _ => fun
  | [d1, d2] => { results := [.lit (.bool false)], args := [d1, d2] }
  | _ => none }
def HeadChecksWrongFalsely : Prop := headChecksRow.holds Tryd.pinned (OpenSpec.ofChange headChecksWrong)

/-- 'seedcornlaw43.HeadSigns': WHATEVER THE INPUT: true; the input reads as it did. -/
def headSignsSpec : ChangeSpec := { name := "headSigns", fn := fun _ => fun
  | [d1, d2, d3] => { results := [.lit (.bool true)], args := [d1, d2, d3] }
  | _ => none }
def headSignsRow : OpenClaim := { program := "ytijfjpbahepegaadoor", sum := "76fdf43e3b5929ac4057012d09a438157928fbb5fbc5c6ecf270fe1cfa3a4e7e", func := "seedcorn/seedcornlaw43.HeadSigns", spec := "headSigns", inPlace := ["internal/abi.NoEscape", "internal/bytealg.MakeNoZero"], unfollowed := true, recurses := true, named := ["seedcorn/digest.turns"], apart := false, laid := [("seedcorn/digest.turns", laid_seedcorn_digest_turns)] }
def HeadSignsSaid : Prop := headSignsRow.holds Tryd.pinned (OpenSpec.ofChange headSignsSpec)

/-- ITS FALSE NEIGHBOUR: 'it returns false'. Refute it at one input. -/
def headSignsWrong : ChangeSpec := { name := "headSigns", fn := fun _ => fun
  | [d1, d2, d3] => { results := [.lit (.bool false)], args := [d1, d2, d3] }
  | _ => none }
def HeadSignsWrongFalsely : Prop := headSignsRow.holds Tryd.pinned (OpenSpec.ofChange headSignsWrong)

/-- 'seedcorntop.SystemOn': WHATEVER THE INPUT: true; the input reads as it did. -/
def systemOnSpec : ChangeSpec := { name := "systemOn", fn := fun _ => fun
  | [d1, d2, d3] => { results := [.lit (.bool true)], args := [d1, d2, d3] }
  | _ => none }
def systemOnRow : OpenClaim := { program := "ytijfjpbahepegaadoor", sum := "76fdf43e3b5929ac4057012d09a438157928fbb5fbc5c6ecf270fe1cfa3a4e7e", func := "seedcorn/seedcorntop.SystemOn", spec := "systemOn", inPlace := ["internal/abi.NoEscape", "internal/bytealg.MakeNoZero"], unfollowed := true, recurses := true, named := ["seedcorn/digest.turns"], apart := false, laid := [("seedcorn/digest.turns", laid_seedcorn_digest_turns)] }
def SystemOnSaid : Prop := systemOnRow.holds Tryd.pinned (OpenSpec.ofChange systemOnSpec)

/-- ITS FALSE NEIGHBOUR: 'it returns false'. Refute it at one input. -/
def systemOnWrong : ChangeSpec := { name := "systemOn", fn := fun _ => fun
  | [d1, d2, d3] => { results := [.lit (.bool false)], args := [d1, d2, d3] }
  | _ => none }
def SystemOnWrongFalsely : Prop := systemOnRow.holds Tryd.pinned (OpenSpec.ofChange systemOnWrong)

/- THE SECOND FORM. 'bulk': how many values and letters a reading holds, each counted each time it is reached (what is shared counts as often as it is met; a slice's spare places count too). A statement '..UptoSaid' is the law's where the arguments, and the package variables that the reading takes, are together of bulk at most 1048576: NARROWER than '..Said'. Prove '..Said' where nothing that the law and all that it calls make is longer than what came in: it says more and counts as full. Else prove '..UptoSaid'. A law counts once. -/
mutual
def uptoBulk {H : Type} : DataW H → Nat
  | .lit (.string bytes) => bytes.length + 1
  | .lit _ => 1
  | .nil => 1
  | .ptr d => uptoBulk d + 1
  | .slice elems spare => uptoBulkAll elems + uptoBulkAll spare + 1
  | .agg parts => uptoBulkAll parts + 1
  | .iface _ d => uptoBulk d + 1
  | .map entries => uptoBulkEntries entries + 1
  | .held _ => 1
def uptoBulkAll {H : Type} : List (DataW H) → Nat
  | [] => 0
  | d :: r => uptoBulk d + uptoBulkAll r
def uptoBulkEntries {H : Type} : List (Lit × DataW H) → Nat
  | [] => 0
  | x :: r => uptoBulkEntry x + uptoBulkEntries r
def uptoBulkEntry {H : Type} : Lit × DataW H → Nat
  | (.string bytes, d) => bytes.length + uptoBulk d + 1
  | (_, d) => uptoBulk d + 1
 end
def uptoSmall : (H : Type) → List (DataW H) → Bool := fun _ ds => decide (uptoBulkAll ds ≤ 1048576)
def OpenSpec.upto (s : _root_.Go.ChangeSpec) : _root_.Go.OpenSpec := { _root_.Go.OpenSpec.ofChange s with cond := some uptoSmall }

/-- 'seedcornlaw43.HeadLost', WHERE WHAT IT READS IS OF BULK AT MOST 1048576: true; the input reads as it did. -/
def headLostUptoRow : OpenClaim := { program := "ytijfjpbahepegaadoor", sum := "76fdf43e3b5929ac4057012d09a438157928fbb5fbc5c6ecf270fe1cfa3a4e7e", func := "seedcorn/seedcornlaw43.HeadLost", spec := "headLost", inPlace := ["internal/abi.NoEscape", "internal/bytealg.MakeNoZero"], recurses := true, named := ["seedcorn/digest.turns"], apart := false, laid := [("seedcorn/digest.turns", laid_seedcorn_digest_turns)], narrowed := true }
def HeadLostUptoSaid : Prop := headLostUptoRow.holds Tryd.pinned (OpenSpec.upto headLostSpec)

/-- 'seedcornlaw43.HeadOf', WHERE WHAT IT READS IS OF BULK AT MOST 1048576: true; the input reads as it did. -/
def headOfUptoRow : OpenClaim := { program := "ytijfjpbahepegaadoor", sum := "76fdf43e3b5929ac4057012d09a438157928fbb5fbc5c6ecf270fe1cfa3a4e7e", func := "seedcorn/seedcornlaw43.HeadOf", spec := "headOf", inPlace := ["internal/abi.NoEscape", "internal/bytealg.MakeNoZero"], recurses := true, named := ["seedcorn/digest.turns"], apart := false, laid := [("seedcorn/digest.turns", laid_seedcorn_digest_turns)], narrowed := true }
def HeadOfUptoSaid : Prop := headOfUptoRow.holds Tryd.pinned (OpenSpec.upto headOfSpec)

/-- 'seedcornlaw43.HeadTail', WHERE WHAT IT READS IS OF BULK AT MOST 1048576: true; the input reads as it did. -/
def headTailUptoRow : OpenClaim := { program := "ytijfjpbahepegaadoor", sum := "76fdf43e3b5929ac4057012d09a438157928fbb5fbc5c6ecf270fe1cfa3a4e7e", func := "seedcorn/seedcornlaw43.HeadTail", spec := "headTail", inPlace := ["internal/abi.NoEscape", "internal/bytealg.MakeNoZero"], unfollowed := true, recurses := true, named := ["seedcorn/digest.turns"], apart := false, laid := [("seedcorn/digest.turns", laid_seedcorn_digest_turns)], narrowed := true }
def HeadTailUptoSaid : Prop := headTailUptoRow.holds Tryd.pinned (OpenSpec.upto headTailSpec)

/-- 'seedcornlaw43.HeadOther', WHERE WHAT IT READS IS OF BULK AT MOST 1048576: true; the input reads as it did. -/
def headOtherUptoRow : OpenClaim := { program := "ytijfjpbahepegaadoor", sum := "76fdf43e3b5929ac4057012d09a438157928fbb5fbc5c6ecf270fe1cfa3a4e7e", func := "seedcorn/seedcornlaw43.HeadOther", spec := "headOther", inPlace := ["internal/abi.NoEscape", "internal/bytealg.MakeNoZero"], unfollowed := true, recurses := true, named := ["seedcorn/digest.turns"], apart := false, laid := [("seedcorn/digest.turns", laid_seedcorn_digest_turns)], narrowed := true }
def HeadOtherUptoSaid : Prop := headOtherUptoRow.holds Tryd.pinned (OpenSpec.upto headOtherSpec)

/-- 'seedcornlaw43.HeadOn', WHERE WHAT IT READS IS OF BULK AT MOST 1048576: true; the input reads as it did. -/
def headOnUptoRow : OpenClaim := { program := "ytijfjpbahepegaadoor", sum := "76fdf43e3b5929ac4057012d09a438157928fbb5fbc5c6ecf270fe1cfa3a4e7e", func := "seedcorn/seedcornlaw43.HeadOn", spec := "headOn", inPlace := ["internal/abi.NoEscape", "internal/bytealg.MakeNoZero"], recurses := true, named := ["seedcorn/digest.turns"], apart := false, laid := [("seedcorn/digest.turns", laid_seedcorn_digest_turns)], narrowed := true }
def HeadOnUptoSaid : Prop := headOnUptoRow.holds Tryd.pinned (OpenSpec.upto headOnSpec)

/-- 'seedcornlaw43.HeadGoes', WHERE WHAT IT READS IS OF BULK AT MOST 1048576: true; the input reads as it did. -/
def headGoesUptoRow : OpenClaim := { program := "ytijfjpbahepegaadoor", sum := "76fdf43e3b5929ac4057012d09a438157928fbb5fbc5c6ecf270fe1cfa3a4e7e", func := "seedcorn/seedcornlaw43.HeadGoes", spec := "headGoes", inPlace := ["internal/abi.NoEscape", "internal/bytealg.MakeNoZero"], recurses := true, named := ["seedcorn/digest.turns"], apart := false, laid := [("seedcorn/digest.turns", laid_seedcorn_digest_turns)], narrowed := true }
def HeadGoesUptoSaid : Prop := headGoesUptoRow.holds Tryd.pinned (OpenSpec.upto headGoesSpec)

/-- 'seedcornlaw43.HeadChecks', WHERE WHAT IT READS IS OF BULK AT MOST 1048576: true; the input reads as it did. -/
def headChecksUptoRow : OpenClaim := { program := "ytijfjpbahepegaadoor", sum := "76fdf43e3b5929ac4057012d09a438157928fbb5fbc5c6ecf270fe1cfa3a4e7e", func := "seedcorn/seedcornlaw43.HeadChecks", spec := "headChecks", inPlace := ["internal/abi.NoEscape", "internal/bytealg.MakeNoZero"], unfollowed := true, recurses := true, named := ["seedcorn/digest.turns"], apart := false, laid := [("seedcorn/digest.turns", laid_seedcorn_digest_turns)], narrowed := true }
def HeadChecksUptoSaid : Prop := headChecksUptoRow.holds Tryd.pinned (OpenSpec.upto headChecksSpec)

/-- 'seedcornlaw43.HeadSigns', WHERE WHAT IT READS IS OF BULK AT MOST 1048576: true; the input reads as it did. -/
def headSignsUptoRow : OpenClaim := { program := "ytijfjpbahepegaadoor", sum := "76fdf43e3b5929ac4057012d09a438157928fbb5fbc5c6ecf270fe1cfa3a4e7e", func := "seedcorn/seedcornlaw43.HeadSigns", spec := "headSigns", inPlace := ["internal/abi.NoEscape", "internal/bytealg.MakeNoZero"], unfollowed := true, recurses := true, named := ["seedcorn/digest.turns"], apart := false, laid := [("seedcorn/digest.turns", laid_seedcorn_digest_turns)], narrowed := true }
def HeadSignsUptoSaid : Prop := headSignsUptoRow.holds Tryd.pinned (OpenSpec.upto headSignsSpec)

/-- 'seedcorntop.SystemOn', WHERE WHAT IT READS IS OF BULK AT MOST 1048576: true; the input reads as it did. -/
def systemOnUptoRow : OpenClaim := { program := "ytijfjpbahepegaadoor", sum := "76fdf43e3b5929ac4057012d09a438157928fbb5fbc5c6ecf270fe1cfa3a4e7e", func := "seedcorn/seedcorntop.SystemOn", spec := "systemOn", inPlace := ["internal/abi.NoEscape", "internal/bytealg.MakeNoZero"], unfollowed := true, recurses := true, named := ["seedcorn/digest.turns"], apart := false, laid := [("seedcorn/digest.turns", laid_seedcorn_digest_turns)], narrowed := true }
def SystemOnUptoSaid : Prop := systemOnUptoRow.holds Tryd.pinned (OpenSpec.upto systemOnSpec)

end Rows
end Go.Proofs.YtijfjpbahepegaaDoor
