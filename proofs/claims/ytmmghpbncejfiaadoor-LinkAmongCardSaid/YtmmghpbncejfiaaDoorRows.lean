/-
  NARROWER THAN 'FOR EVERY INPUT', by the rows' own cells (each row's printed sentence says how): LinkOf: laid · LinkTwice: laid · LinkOthers: laid · LinkShown: laid · LinkAmong: laid.
  DERIVED. THE GIVEN ROWS OF THIS SEAT. 5 by the template 'for every input the law returns true; each argument reads behind the call as it read before'; 0 by the template 'total and deterministic' (their statements: YtmmghpbncejfiaaDoorTotals.lean).
  GIVEN WITH THE SEED: the statements are not yours to turn. If you find one false, say at which input.
  Laid BY PROGRAM, IN A SANDBOX (cutbox-rows.mjs): the forced cells as the released guide's own fill.sh prints them over the translation b6e37b594ef8d669… (all of the seat's roots in one cut). By AI agents, Wed Nov 11 2026. No macro, syntax, notation, axiom, sorry.
-/
import Derived.Test.YtmmghpbncejfiaaDoorChecked
import GoSem.Claim
import GoSem.ClaimJoined
import GoSem.ClaimMapViews
import Derived.JoinedTies
import Derived.KernelRfl
namespace Go.Proofs.YtmmghpbncejfiaaDoor
/- THE CELL 'sum', in the pinned program and in every row, IS THE sha256 OF THE DUMP (.gsa) THAT YtmmghpbncejfiaaDoorProg.lean LOADS. Nothing in Lean hashes anything: it is a label: what it is worth is what the hold of that sum in a sandbox is worth. -/
noncomputable def Tryd.pinned : Pinned := { name := "ytmmghpbncejfiaadoor", sum := "b6e37b594ef8d6698fd3019197b90e610e1171693519ac6feec667ccbe5fccaa", checked := Tryd.checked }
namespace Rows
def none {H : Type} : Left H := { results := [], args := [] }

/- WHAT THE LISTED PACKAGE-LEVEL VARIABLES READ AS WHEN THE CALL BEGINS. Each datum BY PROGRAM (the guide's laid-datum.mjs) off the statement by which the dump's own 'gosem.cut.vars' lays the variable. In a bare row this is a premise. The card (YtmmghpbncejfiaaDoorCards.lean) ties it to the program's text. -/
def laid_seedcorn_digest_turns {H : Type} : DataW H := .agg [.lit (.int .i64 7), .lit (.int .i64 9), .lit (.int .i64 13), .lit (.int .i64 18)]

/-- 'seedcornlaw44.LinkOf': WHATEVER THE INPUT: true; the input reads as it did. -/
def linkOfSpec : ChangeSpec := { name := "linkOf", fn := fun _ => fun
  | [d1, d2] => { results := [.lit (.bool true)], args := [d1, d2] }
  | _ => none }
def linkOfRow : OpenClaim := { program := "ytmmghpbncejfiaadoor", sum := "b6e37b594ef8d6698fd3019197b90e610e1171693519ac6feec667ccbe5fccaa", func := "seedcorn/seedcornlaw44.LinkOf", spec := "linkOf", inPlace := ["internal/abi.NoEscape", "internal/bytealg.MakeNoZero"], unfollowed := true, recurses := true, named := ["seedcorn/digest.turns"], apart := false, laid := [("seedcorn/digest.turns", laid_seedcorn_digest_turns)] }
def LinkOfSaid : Prop := linkOfRow.holds Tryd.pinned (OpenSpec.ofChange linkOfSpec)

/-- ITS FALSE NEIGHBOUR: 'it returns false'. Refute it at one input. -/
def linkOfWrong : ChangeSpec := { name := "linkOf", fn := fun _ => fun
  | [d1, d2] => { results := [.lit (.bool false)], args := [d1, d2] }
  | _ => none }
def LinkOfWrongFalsely : Prop := linkOfRow.holds Tryd.pinned (OpenSpec.ofChange linkOfWrong)

/-- 'seedcornlaw44.LinkTwice': WHATEVER THE INPUT: true; the input reads as it did. -/
def linkTwiceSpec : ChangeSpec := { name := "linkTwice", fn := fun _ => fun
  | [d] => { results := [.lit (.bool true)], args := [d] }
  | _ => none }
def linkTwiceRow : OpenClaim := { program := "ytmmghpbncejfiaadoor", sum := "b6e37b594ef8d6698fd3019197b90e610e1171693519ac6feec667ccbe5fccaa", func := "seedcorn/seedcornlaw44.LinkTwice", spec := "linkTwice", inPlace := ["internal/abi.NoEscape", "internal/bytealg.MakeNoZero"], unfollowed := true, recurses := true, named := ["seedcorn/digest.turns"], apart := false, laid := [("seedcorn/digest.turns", laid_seedcorn_digest_turns)] }
def LinkTwiceSaid : Prop := linkTwiceRow.holds Tryd.pinned (OpenSpec.ofChange linkTwiceSpec)

/-- ITS FALSE NEIGHBOUR: 'it returns false'. Refute it at one input. -/
def linkTwiceWrong : ChangeSpec := { name := "linkTwice", fn := fun _ => fun
  | [d] => { results := [.lit (.bool false)], args := [d] }
  | _ => none }
def LinkTwiceWrongFalsely : Prop := linkTwiceRow.holds Tryd.pinned (OpenSpec.ofChange linkTwiceWrong)

/-- 'seedcornlaw44.LinkOthers': WHATEVER THE INPUT: true; the input reads as it did. -/
def linkOthersSpec : ChangeSpec := { name := "linkOthers", fn := fun _ => fun
  | [d1, d2, d3] => { results := [.lit (.bool true)], args := [d1, d2, d3] }
  | _ => none }
def linkOthersRow : OpenClaim := { program := "ytmmghpbncejfiaadoor", sum := "b6e37b594ef8d6698fd3019197b90e610e1171693519ac6feec667ccbe5fccaa", func := "seedcorn/seedcornlaw44.LinkOthers", spec := "linkOthers", inPlace := ["internal/abi.NoEscape", "internal/bytealg.MakeNoZero"], unfollowed := true, recurses := true, named := ["seedcorn/digest.turns"], apart := false, laid := [("seedcorn/digest.turns", laid_seedcorn_digest_turns)] }
def LinkOthersSaid : Prop := linkOthersRow.holds Tryd.pinned (OpenSpec.ofChange linkOthersSpec)

/-- ITS FALSE NEIGHBOUR: 'it returns false'. Refute it at one input. -/
def linkOthersWrong : ChangeSpec := { name := "linkOthers", fn := fun _ => fun
  | [d1, d2, d3] => { results := [.lit (.bool false)], args := [d1, d2, d3] }
  | _ => none }
def LinkOthersWrongFalsely : Prop := linkOthersRow.holds Tryd.pinned (OpenSpec.ofChange linkOthersWrong)

/-- 'seedcornlaw44.LinkShown': WHATEVER THE INPUT: true; the input reads as it did. -/
def linkShownSpec : ChangeSpec := { name := "linkShown", fn := fun _ => fun
  | [d1, d2, d3] => { results := [.lit (.bool true)], args := [d1, d2, d3] }
  | _ => none }
def linkShownRow : OpenClaim := { program := "ytmmghpbncejfiaadoor", sum := "b6e37b594ef8d6698fd3019197b90e610e1171693519ac6feec667ccbe5fccaa", func := "seedcorn/seedcornlaw44.LinkShown", spec := "linkShown", inPlace := ["internal/abi.NoEscape", "internal/bytealg.MakeNoZero"], unfollowed := true, recurses := true, named := ["seedcorn/digest.turns"], apart := false, laid := [("seedcorn/digest.turns", laid_seedcorn_digest_turns)] }
def LinkShownSaid : Prop := linkShownRow.holds Tryd.pinned (OpenSpec.ofChange linkShownSpec)

/-- ITS FALSE NEIGHBOUR: 'it returns false'. Refute it at one input. -/
def linkShownWrong : ChangeSpec := { name := "linkShown", fn := fun _ => fun
  | [d1, d2, d3] => { results := [.lit (.bool false)], args := [d1, d2, d3] }
  | _ => none }
def LinkShownWrongFalsely : Prop := linkShownRow.holds Tryd.pinned (OpenSpec.ofChange linkShownWrong)

/-- 'seedcornlaw44.LinkAmong': WHATEVER THE INPUT: true; the input reads as it did. -/
def linkAmongSpec : ChangeSpec := { name := "linkAmong", fn := fun _ => fun
  | [d1, d2] => { results := [.lit (.bool true)], args := [d1, d2] }
  | _ => none }
def linkAmongRow : OpenClaim := { program := "ytmmghpbncejfiaadoor", sum := "b6e37b594ef8d6698fd3019197b90e610e1171693519ac6feec667ccbe5fccaa", func := "seedcorn/seedcornlaw44.LinkAmong", spec := "linkAmong", inPlace := ["internal/abi.NoEscape", "internal/bytealg.MakeNoZero"], unfollowed := true, recurses := true, named := ["seedcorn/digest.turns"], apart := false, laid := [("seedcorn/digest.turns", laid_seedcorn_digest_turns)] }
def LinkAmongSaid : Prop := linkAmongRow.holds Tryd.pinned (OpenSpec.ofChange linkAmongSpec)

/-- ITS FALSE NEIGHBOUR: 'it returns false'. Refute it at one input. -/
def linkAmongWrong : ChangeSpec := { name := "linkAmong", fn := fun _ => fun
  | [d1, d2] => { results := [.lit (.bool false)], args := [d1, d2] }
  | _ => none }
def LinkAmongWrongFalsely : Prop := linkAmongRow.holds Tryd.pinned (OpenSpec.ofChange linkAmongWrong)

/- THE SECOND FORM. 'bulk': how many values and letters a reading holds, each counted each time it is reached (what is shared counts as often as it is met; a slice's spare places count too). A statement '..UptoSaid' is the law's where the arguments, and the package variables that the reading takes, are together of bulk at most 1048576: NARROWER than '..Said'. Prove '..Said' where nothing that the law and all that it calls make is longer than what came in: it says more and counts as full. Else prove '..UptoSaid'. A law counts once. -/
mutual
def uptoBulk {H : Type} : DataW H → Nat
  | .lit (.string bytes) => bytes.length + 1
  | .lit _ => 1
  | .nil => 1
  | .ptr d => uptoBulk d + 1
  | .slice elems spare => uptoBulkAll elems + uptoBulkAll spare + 1
  | .agg parts => uptoBulkAll parts + 1
  | .iface _ d => uptoBulk d + 1
  | .map entries => uptoBulkEntries entries + 1
  | .held _ => 1
def uptoBulkAll {H : Type} : List (DataW H) → Nat
  | [] => 0
  | d :: r => uptoBulk d + uptoBulkAll r
def uptoBulkEntries {H : Type} : List (Lit × DataW H) → Nat
  | [] => 0
  | x :: r => uptoBulkEntry x + uptoBulkEntries r
def uptoBulkEntry {H : Type} : Lit × DataW H → Nat
  | (.string bytes, d) => bytes.length + uptoBulk d + 1
  | (_, d) => uptoBulk d + 1
 end
def uptoSmall : (H : Type) → List (DataW H) → Bool := fun _ ds => decide (uptoBulkAll ds ≤ 1048576)
def OpenSpec.upto (s : _root_.Go.ChangeSpec) : _root_.Go.OpenSpec := { _root_.Go.OpenSpec.ofChange s with cond := some uptoSmall }

/-- 'seedcornlaw44.LinkOf', WHERE WHAT IT READS IS OF BULK AT MOST 1048576: true; the input reads as it did. -/
def linkOfUptoRow : OpenClaim := { program := "ytmmghpbncejfiaadoor", sum := "b6e37b594ef8d6698fd3019197b90e610e1171693519ac6feec667ccbe5fccaa", func := "seedcorn/seedcornlaw44.LinkOf", spec := "linkOf", inPlace := ["internal/abi.NoEscape", "internal/bytealg.MakeNoZero"], unfollowed := true, recurses := true, named := ["seedcorn/digest.turns"], apart := false, laid := [("seedcorn/digest.turns", laid_seedcorn_digest_turns)], narrowed := true }
def LinkOfUptoSaid : Prop := linkOfUptoRow.holds Tryd.pinned (OpenSpec.upto linkOfSpec)

/-- 'seedcornlaw44.LinkTwice', WHERE WHAT IT READS IS OF BULK AT MOST 1048576: true; the input reads as it did. -/
def linkTwiceUptoRow : OpenClaim := { program := "ytmmghpbncejfiaadoor", sum := "b6e37b594ef8d6698fd3019197b90e610e1171693519ac6feec667ccbe5fccaa", func := "seedcorn/seedcornlaw44.LinkTwice", spec := "linkTwice", inPlace := ["internal/abi.NoEscape", "internal/bytealg.MakeNoZero"], unfollowed := true, recurses := true, named := ["seedcorn/digest.turns"], apart := false, laid := [("seedcorn/digest.turns", laid_seedcorn_digest_turns)], narrowed := true }
def LinkTwiceUptoSaid : Prop := linkTwiceUptoRow.holds Tryd.pinned (OpenSpec.upto linkTwiceSpec)

/-- 'seedcornlaw44.LinkOthers', WHERE WHAT IT READS IS OF BULK AT MOST 1048576: true; the input reads as it did. -/
def linkOthersUptoRow : OpenClaim := { program := "ytmmghpbncejfiaadoor", sum := "b6e37b594ef8d6698fd3019197b90e610e1171693519ac6feec667ccbe5fccaa", func := "seedcorn/seedcornlaw44.LinkOthers", spec := "linkOthers", inPlace := ["internal/abi.NoEscape", "internal/bytealg.MakeNoZero"], unfollowed := true, recurses := true, named := ["seedcorn/digest.turns"], apart := false, laid := [("seedcorn/digest.turns", laid_seedcorn_digest_turns)], narrowed := true }
def LinkOthersUptoSaid : Prop := linkOthersUptoRow.holds Tryd.pinned (OpenSpec.upto linkOthersSpec)

/-- 'seedcornlaw44.LinkShown', WHERE WHAT IT READS IS OF BULK AT MOST 1048576: true; the input reads as it did. -/
def linkShownUptoRow : OpenClaim := { program := "ytmmghpbncejfiaadoor", sum := "b6e37b594ef8d6698fd3019197b90e610e1171693519ac6feec667ccbe5fccaa", func := "seedcorn/seedcornlaw44.LinkShown", spec := "linkShown", inPlace := ["internal/abi.NoEscape", "internal/bytealg.MakeNoZero"], unfollowed := true, recurses := true, named := ["seedcorn/digest.turns"], apart := false, laid := [("seedcorn/digest.turns", laid_seedcorn_digest_turns)], narrowed := true }
def LinkShownUptoSaid : Prop := linkShownUptoRow.holds Tryd.pinned (OpenSpec.upto linkShownSpec)

/-- 'seedcornlaw44.LinkAmong', WHERE WHAT IT READS IS OF BULK AT MOST 1048576: true; the input reads as it did. -/
def linkAmongUptoRow : OpenClaim := { program := "ytmmghpbncejfiaadoor", sum := "b6e37b594ef8d6698fd3019197b90e610e1171693519ac6feec667ccbe5fccaa", func := "seedcorn/seedcornlaw44.LinkAmong", spec := "linkAmong", inPlace := ["internal/abi.NoEscape", "internal/bytealg.MakeNoZero"], unfollowed := true, recurses := true, named := ["seedcorn/digest.turns"], apart := false, laid := [("seedcorn/digest.turns", laid_seedcorn_digest_turns)], narrowed := true }
def LinkAmongUptoSaid : Prop := linkAmongUptoRow.holds Tryd.pinned (OpenSpec.upto linkAmongSpec)

end Rows
end Go.Proofs.YtmmghpbncejfiaaDoor
