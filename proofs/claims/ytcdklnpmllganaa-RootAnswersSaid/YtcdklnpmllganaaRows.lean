/-
  No cell of these rows narrows 'for every input' (looked for: loops, veiled, ifaces, maps, wideKeys, modest, calm, conditions, laid).
  DERIVED. THE GIVEN ROWS OF THIS SEAT. 6 by the template 'for every input the law returns true; each argument reads behind the call as it read before'; 0 by the template 'total and deterministic' (their statements: YtcdklnpmllganaaTotals.lean).
  GIVEN WITH THE SEED: the statements are not yours to turn. If you find one false, say at which input.
  Laid BY PROGRAM, IN A SANDBOX (cutbox-rows.mjs): the forced cells as the released guide's own fill.sh prints them over the translation ff5d782f29bdf9a7… (all of the seat's roots in one cut). By AI agents, Wed Nov 11 2026. No macro, syntax, notation, axiom, sorry.
-/
import Derived.Test.YtcdklnpmllganaaChecked
import GoSem.Claim
import GoSem.ClaimJoined
import GoSem.ClaimMapViews
import Derived.JoinedTies
import Derived.KernelRfl
namespace Go.Proofs.Ytcdklnpmllganaa
/- THE CELL 'sum', in the pinned program and in every row, IS THE sha256 OF THE DUMP (.gsa) THAT YtcdklnpmllganaaProg.lean LOADS. Nothing in Lean hashes anything: it is a label: what it is worth is what the hold of that sum in a sandbox is worth. -/
noncomputable def Try.pinned : Pinned := { name := "ytcdklnpmllganaa", sum := "ff5d782f29bdf9a79bcd1db882f9baef85b65e856fd463d34efd9dc5a11e303d", checked := Try.checked }
namespace Rows
def none {H : Type} : Left H := { results := [], args := [] }

/-- 'shapesearchlaw02.RootAnswers': WHATEVER THE INPUT: true; the input reads as it did. -/
def rootAnswersSpec : ChangeSpec := { name := "rootAnswers", fn := fun _ => fun
  | [d1, d2, d3] => { results := [.lit (.bool true)], args := [d1, d2, d3] }
  | _ => none }
def rootAnswersRow : OpenClaim := { program := "ytcdklnpmllganaa", sum := "ff5d782f29bdf9a79bcd1db882f9baef85b65e856fd463d34efd9dc5a11e303d", func := "shapesearch/shapesearchlaw02.RootAnswers", spec := "rootAnswers", apart := false }
def RootAnswersSaid : Prop := rootAnswersRow.holds Try.pinned (OpenSpec.ofChange rootAnswersSpec)

/-- ITS FALSE NEIGHBOUR: 'it returns false'. Refute it at one input. -/
def rootAnswersWrong : ChangeSpec := { name := "rootAnswers", fn := fun _ => fun
  | [d1, d2, d3] => { results := [.lit (.bool false)], args := [d1, d2, d3] }
  | _ => none }
def RootAnswersWrongFalsely : Prop := rootAnswersRow.holds Try.pinned (OpenSpec.ofChange rootAnswersWrong)

/-- 'shapesearchlaw02.RootSquares': WHATEVER THE INPUT: true; the input reads as it did. -/
def rootSquaresSpec : ChangeSpec := { name := "rootSquares", fn := fun _ => fun
  | [d] => { results := [.lit (.bool true)], args := [d] }
  | _ => none }
def rootSquaresRow : OpenClaim := { program := "ytcdklnpmllganaa", sum := "ff5d782f29bdf9a79bcd1db882f9baef85b65e856fd463d34efd9dc5a11e303d", func := "shapesearch/shapesearchlaw02.RootSquares", spec := "rootSquares", apart := false }
def RootSquaresSaid : Prop := rootSquaresRow.holds Try.pinned (OpenSpec.ofChange rootSquaresSpec)

/-- ITS FALSE NEIGHBOUR: 'it returns false'. Refute it at one input. -/
def rootSquaresWrong : ChangeSpec := { name := "rootSquares", fn := fun _ => fun
  | [d] => { results := [.lit (.bool false)], args := [d] }
  | _ => none }
def RootSquaresWrongFalsely : Prop := rootSquaresRow.holds Try.pinned (OpenSpec.ofChange rootSquaresWrong)

/-- 'shapesearchlaw02.RootQuotients': WHATEVER THE INPUT: true; the input reads as it did. -/
def rootQuotientsSpec : ChangeSpec := { name := "rootQuotients", fn := fun _ => fun
  | [d1, d2] => { results := [.lit (.bool true)], args := [d1, d2] }
  | _ => none }
def rootQuotientsRow : OpenClaim := { program := "ytcdklnpmllganaa", sum := "ff5d782f29bdf9a79bcd1db882f9baef85b65e856fd463d34efd9dc5a11e303d", func := "shapesearch/shapesearchlaw02.RootQuotients", spec := "rootQuotients", apart := false }
def RootQuotientsSaid : Prop := rootQuotientsRow.holds Try.pinned (OpenSpec.ofChange rootQuotientsSpec)

/-- ITS FALSE NEIGHBOUR: 'it returns false'. Refute it at one input. -/
def rootQuotientsWrong : ChangeSpec := { name := "rootQuotients", fn := fun _ => fun
  | [d1, d2] => { results := [.lit (.bool false)], args := [d1, d2] }
  | _ => none }
def RootQuotientsWrongFalsely : Prop := rootQuotientsRow.holds Try.pinned (OpenSpec.ofChange rootQuotientsWrong)

/-- 'shapesearchlaw02.RootTurns': WHATEVER THE INPUT: true; the input reads as it did. -/
def rootTurnsSpec : ChangeSpec := { name := "rootTurns", fn := fun _ => fun
  | [d1, d2] => { results := [.lit (.bool true)], args := [d1, d2] }
  | _ => none }
def rootTurnsRow : OpenClaim := { program := "ytcdklnpmllganaa", sum := "ff5d782f29bdf9a79bcd1db882f9baef85b65e856fd463d34efd9dc5a11e303d", func := "shapesearch/shapesearchlaw02.RootTurns", spec := "rootTurns", apart := false }
def RootTurnsSaid : Prop := rootTurnsRow.holds Try.pinned (OpenSpec.ofChange rootTurnsSpec)

/-- ITS FALSE NEIGHBOUR: 'it returns false'. Refute it at one input. -/
def rootTurnsWrong : ChangeSpec := { name := "rootTurns", fn := fun _ => fun
  | [d1, d2] => { results := [.lit (.bool false)], args := [d1, d2] }
  | _ => none }
def RootTurnsWrongFalsely : Prop := rootTurnsRow.holds Try.pinned (OpenSpec.ofChange rootTurnsWrong)

/-- 'shapesearchlaw02.RootMonotone': WHATEVER THE INPUT: true; the input reads as it did. -/
def rootMonotoneSpec : ChangeSpec := { name := "rootMonotone", fn := fun _ => fun
  | [d1, d2, d3, d4] => { results := [.lit (.bool true)], args := [d1, d2, d3, d4] }
  | _ => none }
def rootMonotoneRow : OpenClaim := { program := "ytcdklnpmllganaa", sum := "ff5d782f29bdf9a79bcd1db882f9baef85b65e856fd463d34efd9dc5a11e303d", func := "shapesearch/shapesearchlaw02.RootMonotone", spec := "rootMonotone", apart := false }
def RootMonotoneSaid : Prop := rootMonotoneRow.holds Try.pinned (OpenSpec.ofChange rootMonotoneSpec)

/-- ITS FALSE NEIGHBOUR: 'it returns false'. Refute it at one input. -/
def rootMonotoneWrong : ChangeSpec := { name := "rootMonotone", fn := fun _ => fun
  | [d1, d2, d3, d4] => { results := [.lit (.bool false)], args := [d1, d2, d3, d4] }
  | _ => none }
def RootMonotoneWrongFalsely : Prop := rootMonotoneRow.holds Try.pinned (OpenSpec.ofChange rootMonotoneWrong)

/-- 'shapesearchlaw02.RootScales': WHATEVER THE INPUT: true; the input reads as it did. -/
def rootScalesSpec : ChangeSpec := { name := "rootScales", fn := fun _ => fun
  | [d1, d2, d3] => { results := [.lit (.bool true)], args := [d1, d2, d3] }
  | _ => none }
def rootScalesRow : OpenClaim := { program := "ytcdklnpmllganaa", sum := "ff5d782f29bdf9a79bcd1db882f9baef85b65e856fd463d34efd9dc5a11e303d", func := "shapesearch/shapesearchlaw02.RootScales", spec := "rootScales", apart := false }
def RootScalesSaid : Prop := rootScalesRow.holds Try.pinned (OpenSpec.ofChange rootScalesSpec)

/-- ITS FALSE NEIGHBOUR: 'it returns false'. Refute it at one input. -/
def rootScalesWrong : ChangeSpec := { name := "rootScales", fn := fun _ => fun
  | [d1, d2, d3] => { results := [.lit (.bool false)], args := [d1, d2, d3] }
  | _ => none }
def RootScalesWrongFalsely : Prop := rootScalesRow.holds Try.pinned (OpenSpec.ofChange rootScalesWrong)

/- THE SECOND FORM. 'bulk': how many values and letters a reading holds, each counted each time it is reached (what is shared counts as often as it is met; a slice's spare places count too). A statement '..UptoSaid' is the law's where the arguments, and the package variables that the reading takes, are together of bulk at most 1048576: NARROWER than '..Said'. Prove '..Said' where nothing that the law and all that it calls make is longer than what came in: it says more and counts as full. Else prove '..UptoSaid'. A law counts once. -/
mutual
def uptoBulk {H : Type} : DataW H → Nat
  | .lit (.string bytes) => bytes.length + 1
  | .lit _ => 1
  | .nil => 1
  | .ptr d => uptoBulk d + 1
  | .slice elems spare => uptoBulkAll elems + uptoBulkAll spare + 1
  | .agg parts => uptoBulkAll parts + 1
  | .iface _ d => uptoBulk d + 1
  | .map entries => uptoBulkEntries entries + 1
  | .held _ => 1
def uptoBulkAll {H : Type} : List (DataW H) → Nat
  | [] => 0
  | d :: r => uptoBulk d + uptoBulkAll r
def uptoBulkEntries {H : Type} : List (Lit × DataW H) → Nat
  | [] => 0
  | x :: r => uptoBulkEntry x + uptoBulkEntries r
def uptoBulkEntry {H : Type} : Lit × DataW H → Nat
  | (.string bytes, d) => bytes.length + uptoBulk d + 1
  | (_, d) => uptoBulk d + 1
 end
def uptoSmall : (H : Type) → List (DataW H) → Bool := fun _ ds => decide (uptoBulkAll ds ≤ 1048576)
def OpenSpec.upto (s : _root_.Go.ChangeSpec) : _root_.Go.OpenSpec := { _root_.Go.OpenSpec.ofChange s with cond := some uptoSmall }

/-- 'shapesearchlaw02.RootAnswers', WHERE WHAT IT READS IS OF BULK AT MOST 1048576: true; the input reads as it did. -/
def rootAnswersUptoRow : OpenClaim := { program := "ytcdklnpmllganaa", sum := "ff5d782f29bdf9a79bcd1db882f9baef85b65e856fd463d34efd9dc5a11e303d", func := "shapesearch/shapesearchlaw02.RootAnswers", spec := "rootAnswers", apart := false, narrowed := true }
def RootAnswersUptoSaid : Prop := rootAnswersUptoRow.holds Try.pinned (OpenSpec.upto rootAnswersSpec)

/-- 'shapesearchlaw02.RootSquares', WHERE WHAT IT READS IS OF BULK AT MOST 1048576: true; the input reads as it did. -/
def rootSquaresUptoRow : OpenClaim := { program := "ytcdklnpmllganaa", sum := "ff5d782f29bdf9a79bcd1db882f9baef85b65e856fd463d34efd9dc5a11e303d", func := "shapesearch/shapesearchlaw02.RootSquares", spec := "rootSquares", apart := false, narrowed := true }
def RootSquaresUptoSaid : Prop := rootSquaresUptoRow.holds Try.pinned (OpenSpec.upto rootSquaresSpec)

/-- 'shapesearchlaw02.RootQuotients', WHERE WHAT IT READS IS OF BULK AT MOST 1048576: true; the input reads as it did. -/
def rootQuotientsUptoRow : OpenClaim := { program := "ytcdklnpmllganaa", sum := "ff5d782f29bdf9a79bcd1db882f9baef85b65e856fd463d34efd9dc5a11e303d", func := "shapesearch/shapesearchlaw02.RootQuotients", spec := "rootQuotients", apart := false, narrowed := true }
def RootQuotientsUptoSaid : Prop := rootQuotientsUptoRow.holds Try.pinned (OpenSpec.upto rootQuotientsSpec)

/-- 'shapesearchlaw02.RootTurns', WHERE WHAT IT READS IS OF BULK AT MOST 1048576: true; the input reads as it did. -/
def rootTurnsUptoRow : OpenClaim := { program := "ytcdklnpmllganaa", sum := "ff5d782f29bdf9a79bcd1db882f9baef85b65e856fd463d34efd9dc5a11e303d", func := "shapesearch/shapesearchlaw02.RootTurns", spec := "rootTurns", apart := false, narrowed := true }
def RootTurnsUptoSaid : Prop := rootTurnsUptoRow.holds Try.pinned (OpenSpec.upto rootTurnsSpec)

/-- 'shapesearchlaw02.RootMonotone', WHERE WHAT IT READS IS OF BULK AT MOST 1048576: true; the input reads as it did. -/
def rootMonotoneUptoRow : OpenClaim := { program := "ytcdklnpmllganaa", sum := "ff5d782f29bdf9a79bcd1db882f9baef85b65e856fd463d34efd9dc5a11e303d", func := "shapesearch/shapesearchlaw02.RootMonotone", spec := "rootMonotone", apart := false, narrowed := true }
def RootMonotoneUptoSaid : Prop := rootMonotoneUptoRow.holds Try.pinned (OpenSpec.upto rootMonotoneSpec)

/-- 'shapesearchlaw02.RootScales', WHERE WHAT IT READS IS OF BULK AT MOST 1048576: true; the input reads as it did. -/
def rootScalesUptoRow : OpenClaim := { program := "ytcdklnpmllganaa", sum := "ff5d782f29bdf9a79bcd1db882f9baef85b65e856fd463d34efd9dc5a11e303d", func := "shapesearch/shapesearchlaw02.RootScales", spec := "rootScales", apart := false, narrowed := true }
def RootScalesUptoSaid : Prop := rootScalesUptoRow.holds Try.pinned (OpenSpec.upto rootScalesSpec)

end Rows
end Go.Proofs.Ytcdklnpmllganaa
