/-
  No cell of these rows narrows 'for every input' (looked for: loops, veiled, ifaces, maps, wideKeys, modest, calm, conditions, laid).
  DERIVED. THE GIVEN ROWS OF THIS SEAT. 7 by the template 'for every input the law returns true; each argument reads behind the call as it read before'; 0 by the template 'total and deterministic' (their statements: YtnceoalphoodaaaTotals.lean).
  GIVEN WITH THE SEED: the statements are not yours to turn. If you find one false, say at which input.
  Laid BY PROGRAM, IN A SANDBOX (cutbox-rows.mjs): the forced cells as the released guide's own fill.sh prints them over the translation 1501972e1d47a932… (all of the seat's roots in one cut). By AI agents, Wed Nov 11 2026. No macro, syntax, notation, axiom, sorry.
-/
import Derived.Test.YtnceoalphoodaaaChecked
import GoSem.Claim
import GoSem.ClaimJoined
import GoSem.ClaimMapViews
import Derived.JoinedTies
import Derived.KernelRfl
namespace Go.Proofs.Ytnceoalphoodaaa
/- THE CELL 'sum', in the pinned program and in every row, IS THE sha256 OF THE DUMP (.gsa) THAT YtnceoalphoodaaaProg.lean LOADS. Nothing in Lean hashes anything: it is a label: what it is worth is what the hold of that sum in a sandbox is worth. -/
noncomputable def Try.pinned : Pinned := { name := "ytnceoalphoodaaa", sum := "1501972e1d47a9321485672ccb8c63f31884ee18d7ce654814c176174ccf86c7", checked := Try.checked }
namespace Rows
def none {H : Type} : Left H := { results := [], args := [] }

/-- 'shapesearchlaw14.WarpAll': WHATEVER THE INPUT: true; the input reads as it did. -/
def warpAllSpec : ChangeSpec := { name := "warpAll", fn := fun _ => fun
  | [d] => { results := [.lit (.bool true)], args := [d] }
  | _ => none }
def warpAllRow : OpenClaim := { program := "ytnceoalphoodaaa", sum := "1501972e1d47a9321485672ccb8c63f31884ee18d7ce654814c176174ccf86c7", func := "shapesearch/shapesearchlaw14.WarpAll", spec := "warpAll", recurses := true, apart := false }
def WarpAllSaid : Prop := warpAllRow.holds Try.pinned (OpenSpec.ofChange warpAllSpec)

/-- ITS FALSE NEIGHBOUR: 'it returns false'. Refute it at one input. -/
def warpAllWrong : ChangeSpec := { name := "warpAll", fn := fun _ => fun
  | [d] => { results := [.lit (.bool false)], args := [d] }
  | _ => none }
def WarpAllWrongFalsely : Prop := warpAllRow.holds Try.pinned (OpenSpec.ofChange warpAllWrong)

/-- 'shapesearchlaw14.WarpBands': WHATEVER THE INPUT: true; the input reads as it did. -/
def warpBandsSpec : ChangeSpec := { name := "warpBands", fn := fun _ => fun
  | [d1, d2] => { results := [.lit (.bool true)], args := [d1, d2] }
  | _ => none }
def warpBandsRow : OpenClaim := { program := "ytnceoalphoodaaa", sum := "1501972e1d47a9321485672ccb8c63f31884ee18d7ce654814c176174ccf86c7", func := "shapesearch/shapesearchlaw14.WarpBands", spec := "warpBands", apart := false }
def WarpBandsSaid : Prop := warpBandsRow.holds Try.pinned (OpenSpec.ofChange warpBandsSpec)

/-- ITS FALSE NEIGHBOUR: 'it returns false'. Refute it at one input. -/
def warpBandsWrong : ChangeSpec := { name := "warpBands", fn := fun _ => fun
  | [d1, d2] => { results := [.lit (.bool false)], args := [d1, d2] }
  | _ => none }
def WarpBandsWrongFalsely : Prop := warpBandsRow.holds Try.pinned (OpenSpec.ofChange warpBandsWrong)

/-- 'shapesearchlaw14.WarpMoves': WHATEVER THE INPUT: true; the input reads as it did. -/
def warpMovesSpec : ChangeSpec := { name := "warpMoves", fn := fun _ => fun
  | [d1, d2] => { results := [.lit (.bool true)], args := [d1, d2] }
  | _ => none }
def warpMovesRow : OpenClaim := { program := "ytnceoalphoodaaa", sum := "1501972e1d47a9321485672ccb8c63f31884ee18d7ce654814c176174ccf86c7", func := "shapesearch/shapesearchlaw14.WarpMoves", spec := "warpMoves", apart := false }
def WarpMovesSaid : Prop := warpMovesRow.holds Try.pinned (OpenSpec.ofChange warpMovesSpec)

/-- ITS FALSE NEIGHBOUR: 'it returns false'. Refute it at one input. -/
def warpMovesWrong : ChangeSpec := { name := "warpMoves", fn := fun _ => fun
  | [d1, d2] => { results := [.lit (.bool false)], args := [d1, d2] }
  | _ => none }
def WarpMovesWrongFalsely : Prop := warpMovesRow.holds Try.pinned (OpenSpec.ofChange warpMovesWrong)

/-- 'shapesearchlaw14.WarpRepeats': WHATEVER THE INPUT: true; the input reads as it did. -/
def warpRepeatsSpec : ChangeSpec := { name := "warpRepeats", fn := fun _ => fun
  | [d] => { results := [.lit (.bool true)], args := [d] }
  | _ => none }
def warpRepeatsRow : OpenClaim := { program := "ytnceoalphoodaaa", sum := "1501972e1d47a9321485672ccb8c63f31884ee18d7ce654814c176174ccf86c7", func := "shapesearch/shapesearchlaw14.WarpRepeats", spec := "warpRepeats", apart := false }
def WarpRepeatsSaid : Prop := warpRepeatsRow.holds Try.pinned (OpenSpec.ofChange warpRepeatsSpec)

/-- ITS FALSE NEIGHBOUR: 'it returns false'. Refute it at one input. -/
def warpRepeatsWrong : ChangeSpec := { name := "warpRepeats", fn := fun _ => fun
  | [d] => { results := [.lit (.bool false)], args := [d] }
  | _ => none }
def WarpRepeatsWrongFalsely : Prop := warpRepeatsRow.holds Try.pinned (OpenSpec.ofChange warpRepeatsWrong)

/-- 'shapesearchlaw14.WarpEnds': WHATEVER THE INPUT: true; the input reads as it did. -/
def warpEndsSpec : ChangeSpec := { name := "warpEnds", fn := fun _ => fun
  | [d1, d2] => { results := [.lit (.bool true)], args := [d1, d2] }
  | _ => none }
def warpEndsRow : OpenClaim := { program := "ytnceoalphoodaaa", sum := "1501972e1d47a9321485672ccb8c63f31884ee18d7ce654814c176174ccf86c7", func := "shapesearch/shapesearchlaw14.WarpEnds", spec := "warpEnds", apart := false }
def WarpEndsSaid : Prop := warpEndsRow.holds Try.pinned (OpenSpec.ofChange warpEndsSpec)

/-- ITS FALSE NEIGHBOUR: 'it returns false'. Refute it at one input. -/
def warpEndsWrong : ChangeSpec := { name := "warpEnds", fn := fun _ => fun
  | [d1, d2] => { results := [.lit (.bool false)], args := [d1, d2] }
  | _ => none }
def WarpEndsWrongFalsely : Prop := warpEndsRow.holds Try.pinned (OpenSpec.ofChange warpEndsWrong)

/-- 'shapesearchlaw14.WarpLeast': WHATEVER THE INPUT: true; the input reads as it did. -/
def warpLeastSpec : ChangeSpec := { name := "warpLeast", fn := fun _ => fun
  | [d1, d2] => { results := [.lit (.bool true)], args := [d1, d2] }
  | _ => none }
def warpLeastRow : OpenClaim := { program := "ytnceoalphoodaaa", sum := "1501972e1d47a9321485672ccb8c63f31884ee18d7ce654814c176174ccf86c7", func := "shapesearch/shapesearchlaw14.WarpLeast", spec := "warpLeast", apart := false }
def WarpLeastSaid : Prop := warpLeastRow.holds Try.pinned (OpenSpec.ofChange warpLeastSpec)

/-- ITS FALSE NEIGHBOUR: 'it returns false'. Refute it at one input. -/
def warpLeastWrong : ChangeSpec := { name := "warpLeast", fn := fun _ => fun
  | [d1, d2] => { results := [.lit (.bool false)], args := [d1, d2] }
  | _ => none }
def WarpLeastWrongFalsely : Prop := warpLeastRow.holds Try.pinned (OpenSpec.ofChange warpLeastWrong)

/-- 'shapesearchlaw14.WarpAnswers': WHATEVER THE INPUT: true; the input reads as it did. -/
def warpAnswersSpec : ChangeSpec := { name := "warpAnswers", fn := fun _ => fun
  | [d1, d2, d3, d4, d5, d6] => { results := [.lit (.bool true)], args := [d1, d2, d3, d4, d5, d6] }
  | _ => none }
def warpAnswersRow : OpenClaim := { program := "ytnceoalphoodaaa", sum := "1501972e1d47a9321485672ccb8c63f31884ee18d7ce654814c176174ccf86c7", func := "shapesearch/shapesearchlaw14.WarpAnswers", spec := "warpAnswers", apart := false }
def WarpAnswersSaid : Prop := warpAnswersRow.holds Try.pinned (OpenSpec.ofChange warpAnswersSpec)

/-- ITS FALSE NEIGHBOUR: 'it returns false'. Refute it at one input. -/
def warpAnswersWrong : ChangeSpec := { name := "warpAnswers", fn := fun _ => fun
  | [d1, d2, d3, d4, d5, d6] => { results := [.lit (.bool false)], args := [d1, d2, d3, d4, d5, d6] }
  | _ => none }
def WarpAnswersWrongFalsely : Prop := warpAnswersRow.holds Try.pinned (OpenSpec.ofChange warpAnswersWrong)

/- THE SECOND FORM. 'bulk': how many values and letters a reading holds, each counted each time it is reached (what is shared counts as often as it is met; a slice's spare places count too). A statement '..UptoSaid' is the law's where the arguments, and the package variables that the reading takes, are together of bulk at most 1048576: NARROWER than '..Said'. Prove '..Said' where nothing that the law and all that it calls make is longer than what came in: it says more and counts as full. Else prove '..UptoSaid'. A law counts once. -/
mutual
def uptoBulk {H : Type} : DataW H → Nat
  | .lit (.string bytes) => bytes.length + 1
  | .lit _ => 1
  | .nil => 1
  | .ptr d => uptoBulk d + 1
  | .slice elems spare => uptoBulkAll elems + uptoBulkAll spare + 1
  | .agg parts => uptoBulkAll parts + 1
  | .iface _ d => uptoBulk d + 1
  | .map entries => uptoBulkEntries entries + 1
  | .held _ => 1
def uptoBulkAll {H : Type} : List (DataW H) → Nat
  | [] => 0
  | d :: r => uptoBulk d + uptoBulkAll r
def uptoBulkEntries {H : Type} : List (Lit × DataW H) → Nat
  | [] => 0
  | x :: r => uptoBulkEntry x + uptoBulkEntries r
def uptoBulkEntry {H : Type} : Lit × DataW H → Nat
  | (.string bytes, d) => bytes.length + uptoBulk d + 1
  | (_, d) => uptoBulk d + 1
 end
def uptoSmall : (H : Type) → List (DataW H) → Bool := fun _ ds => decide (uptoBulkAll ds ≤ 1048576)
def OpenSpec.upto (s : _root_.Go.ChangeSpec) : _root_.Go.OpenSpec := { _root_.Go.OpenSpec.ofChange s with cond := some uptoSmall }

/-- 'shapesearchlaw14.WarpAll', WHERE WHAT IT READS IS OF BULK AT MOST 1048576: true; the input reads as it did. -/
def warpAllUptoRow : OpenClaim := { program := "ytnceoalphoodaaa", sum := "1501972e1d47a9321485672ccb8c63f31884ee18d7ce654814c176174ccf86c7", func := "shapesearch/shapesearchlaw14.WarpAll", spec := "warpAll", recurses := true, apart := false, narrowed := true }
def WarpAllUptoSaid : Prop := warpAllUptoRow.holds Try.pinned (OpenSpec.upto warpAllSpec)

/-- 'shapesearchlaw14.WarpBands', WHERE WHAT IT READS IS OF BULK AT MOST 1048576: true; the input reads as it did. -/
def warpBandsUptoRow : OpenClaim := { program := "ytnceoalphoodaaa", sum := "1501972e1d47a9321485672ccb8c63f31884ee18d7ce654814c176174ccf86c7", func := "shapesearch/shapesearchlaw14.WarpBands", spec := "warpBands", apart := false, narrowed := true }
def WarpBandsUptoSaid : Prop := warpBandsUptoRow.holds Try.pinned (OpenSpec.upto warpBandsSpec)

/-- 'shapesearchlaw14.WarpMoves', WHERE WHAT IT READS IS OF BULK AT MOST 1048576: true; the input reads as it did. -/
def warpMovesUptoRow : OpenClaim := { program := "ytnceoalphoodaaa", sum := "1501972e1d47a9321485672ccb8c63f31884ee18d7ce654814c176174ccf86c7", func := "shapesearch/shapesearchlaw14.WarpMoves", spec := "warpMoves", apart := false, narrowed := true }
def WarpMovesUptoSaid : Prop := warpMovesUptoRow.holds Try.pinned (OpenSpec.upto warpMovesSpec)

/-- 'shapesearchlaw14.WarpRepeats', WHERE WHAT IT READS IS OF BULK AT MOST 1048576: true; the input reads as it did. -/
def warpRepeatsUptoRow : OpenClaim := { program := "ytnceoalphoodaaa", sum := "1501972e1d47a9321485672ccb8c63f31884ee18d7ce654814c176174ccf86c7", func := "shapesearch/shapesearchlaw14.WarpRepeats", spec := "warpRepeats", apart := false, narrowed := true }
def WarpRepeatsUptoSaid : Prop := warpRepeatsUptoRow.holds Try.pinned (OpenSpec.upto warpRepeatsSpec)

/-- 'shapesearchlaw14.WarpEnds', WHERE WHAT IT READS IS OF BULK AT MOST 1048576: true; the input reads as it did. -/
def warpEndsUptoRow : OpenClaim := { program := "ytnceoalphoodaaa", sum := "1501972e1d47a9321485672ccb8c63f31884ee18d7ce654814c176174ccf86c7", func := "shapesearch/shapesearchlaw14.WarpEnds", spec := "warpEnds", apart := false, narrowed := true }
def WarpEndsUptoSaid : Prop := warpEndsUptoRow.holds Try.pinned (OpenSpec.upto warpEndsSpec)

/-- 'shapesearchlaw14.WarpLeast', WHERE WHAT IT READS IS OF BULK AT MOST 1048576: true; the input reads as it did. -/
def warpLeastUptoRow : OpenClaim := { program := "ytnceoalphoodaaa", sum := "1501972e1d47a9321485672ccb8c63f31884ee18d7ce654814c176174ccf86c7", func := "shapesearch/shapesearchlaw14.WarpLeast", spec := "warpLeast", apart := false, narrowed := true }
def WarpLeastUptoSaid : Prop := warpLeastUptoRow.holds Try.pinned (OpenSpec.upto warpLeastSpec)

/-- 'shapesearchlaw14.WarpAnswers', WHERE WHAT IT READS IS OF BULK AT MOST 1048576: true; the input reads as it did. -/
def warpAnswersUptoRow : OpenClaim := { program := "ytnceoalphoodaaa", sum := "1501972e1d47a9321485672ccb8c63f31884ee18d7ce654814c176174ccf86c7", func := "shapesearch/shapesearchlaw14.WarpAnswers", spec := "warpAnswers", apart := false, narrowed := true }
def WarpAnswersUptoSaid : Prop := warpAnswersUptoRow.holds Try.pinned (OpenSpec.upto warpAnswersSpec)

end Rows
end Go.Proofs.Ytnceoalphoodaaa
