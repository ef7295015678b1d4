/-
  No cell of these rows narrows 'for every input' (looked for: loops, veiled, ifaces, maps, wideKeys, modest, calm, conditions, laid).
  DERIVED. THE GIVEN ROWS OF THIS SEAT. 6 by the template 'for every input the law returns true; each argument reads behind the call as it read before'; 0 by the template 'total and deterministic' (their statements: YtkiacebcedpljaaTotals.lean).
  GIVEN WITH THE SEED: the statements are not yours to turn. If you find one false, say at which input.
  Laid BY PROGRAM, IN A SANDBOX (cutbox-rows.mjs): the forced cells as the released guide's own fill.sh prints them over the translation 285f26839e268f3d… (all of the seat's roots in one cut). By AI agents, Wed Nov 11 2026. No macro, syntax, notation, axiom, sorry.
-/
import Derived.Test.YtkiacebcedpljaaChecked
import GoSem.Claim
import GoSem.ClaimJoined
import GoSem.ClaimMapViews
import Derived.JoinedTies
import Derived.KernelRfl
namespace Go.Proofs.Ytkiacebcedpljaa
/- THE CELL 'sum', in the pinned program and in every row, IS THE sha256 OF THE DUMP (.gsa) THAT YtkiacebcedpljaaProg.lean LOADS. Nothing in Lean hashes anything: it is a label: what it is worth is what the hold of that sum in a sandbox is worth. -/
noncomputable def Try.pinned : Pinned := { name := "ytkiacebcedpljaa", sum := "285f26839e268f3d0c785331e4763a4c8d271da6be00fb3cc12d05b4b0bc1677", checked := Try.checked }
namespace Rows
def none {H : Type} : Left H := { results := [], args := [] }

/-- 'shapesearchlaw18.PiecesDivide': WHATEVER THE INPUT: true; the input reads as it did. -/
def piecesDivideSpec : ChangeSpec := { name := "piecesDivide", fn := fun _ => fun
  | [d1, d2] => { results := [.lit (.bool true)], args := [d1, d2] }
  | _ => none }
def piecesDivideRow : OpenClaim := { program := "ytkiacebcedpljaa", sum := "285f26839e268f3d0c785331e4763a4c8d271da6be00fb3cc12d05b4b0bc1677", func := "shapesearch/shapesearchlaw18.PiecesDivide", spec := "piecesDivide", inPlace := ["math/bits.Add64"], unfollowed := true, recurses := true, named := ["math/bits.divideError", "math/bits.overflowError"], apart := false }
def PiecesDivideSaid : Prop := piecesDivideRow.holds Try.pinned (OpenSpec.ofChange piecesDivideSpec)

/-- ITS FALSE NEIGHBOUR: 'it returns false'. Refute it at one input. -/
def piecesDivideWrong : ChangeSpec := { name := "piecesDivide", fn := fun _ => fun
  | [d1, d2] => { results := [.lit (.bool false)], args := [d1, d2] }
  | _ => none }
def PiecesDivideWrongFalsely : Prop := piecesDivideRow.holds Try.pinned (OpenSpec.ofChange piecesDivideWrong)

/-- 'shapesearchlaw18.PiecesSums': WHATEVER THE INPUT: true; the input reads as it did. -/
def piecesSumsSpec : ChangeSpec := { name := "piecesSums", fn := fun _ => fun
  | [d1, d2] => { results := [.lit (.bool true)], args := [d1, d2] }
  | _ => none }
def piecesSumsRow : OpenClaim := { program := "ytkiacebcedpljaa", sum := "285f26839e268f3d0c785331e4763a4c8d271da6be00fb3cc12d05b4b0bc1677", func := "shapesearch/shapesearchlaw18.PiecesSums", spec := "piecesSums", inPlace := ["math/bits.Add64"], unfollowed := true, recurses := true, named := ["math/bits.divideError", "math/bits.overflowError"], apart := false }
def PiecesSumsSaid : Prop := piecesSumsRow.holds Try.pinned (OpenSpec.ofChange piecesSumsSpec)

/-- ITS FALSE NEIGHBOUR: 'it returns false'. Refute it at one input. -/
def piecesSumsWrong : ChangeSpec := { name := "piecesSums", fn := fun _ => fun
  | [d1, d2] => { results := [.lit (.bool false)], args := [d1, d2] }
  | _ => none }
def PiecesSumsWrongFalsely : Prop := piecesSumsRow.holds Try.pinned (OpenSpec.ofChange piecesSumsWrong)

/-- 'shapesearchlaw18.PiecesAnswers': WHATEVER THE INPUT: true; the input reads as it did. -/
def piecesAnswersSpec : ChangeSpec := { name := "piecesAnswers", fn := fun _ => fun
  | [d1, d2, d3, d4, d5] => { results := [.lit (.bool true)], args := [d1, d2, d3, d4, d5] }
  | _ => none }
def piecesAnswersRow : OpenClaim := { program := "ytkiacebcedpljaa", sum := "285f26839e268f3d0c785331e4763a4c8d271da6be00fb3cc12d05b4b0bc1677", func := "shapesearch/shapesearchlaw18.PiecesAnswers", spec := "piecesAnswers", inPlace := ["math/bits.Add64"], unfollowed := true, recurses := true, named := ["math/bits.divideError", "math/bits.overflowError"], apart := false }
def PiecesAnswersSaid : Prop := piecesAnswersRow.holds Try.pinned (OpenSpec.ofChange piecesAnswersSpec)

/-- ITS FALSE NEIGHBOUR: 'it returns false'. Refute it at one input. -/
def piecesAnswersWrong : ChangeSpec := { name := "piecesAnswers", fn := fun _ => fun
  | [d1, d2, d3, d4, d5] => { results := [.lit (.bool false)], args := [d1, d2, d3, d4, d5] }
  | _ => none }
def PiecesAnswersWrongFalsely : Prop := piecesAnswersRow.holds Try.pinned (OpenSpec.ofChange piecesAnswersWrong)

/-- 'shapesearchlaw18.PiecesBound': WHATEVER THE INPUT: true; the input reads as it did. -/
def piecesBoundSpec : ChangeSpec := { name := "piecesBound", fn := fun _ => fun
  | [d] => { results := [.lit (.bool true)], args := [d] }
  | _ => none }
def piecesBoundRow : OpenClaim := { program := "ytkiacebcedpljaa", sum := "285f26839e268f3d0c785331e4763a4c8d271da6be00fb3cc12d05b4b0bc1677", func := "shapesearch/shapesearchlaw18.PiecesBound", spec := "piecesBound", inPlace := ["math/bits.Add64"], unfollowed := true, recurses := true, named := ["math/bits.divideError", "math/bits.overflowError"], apart := false }
def PiecesBoundSaid : Prop := piecesBoundRow.holds Try.pinned (OpenSpec.ofChange piecesBoundSpec)

/-- ITS FALSE NEIGHBOUR: 'it returns false'. Refute it at one input. -/
def piecesBoundWrong : ChangeSpec := { name := "piecesBound", fn := fun _ => fun
  | [d] => { results := [.lit (.bool false)], args := [d] }
  | _ => none }
def PiecesBoundWrongFalsely : Prop := piecesBoundRow.holds Try.pinned (OpenSpec.ofChange piecesBoundWrong)

/-- 'shapesearchlaw18.PiecesFiner': WHATEVER THE INPUT: true; the input reads as it did. -/
def piecesFinerSpec : ChangeSpec := { name := "piecesFiner", fn := fun _ => fun
  | [d] => { results := [.lit (.bool true)], args := [d] }
  | _ => none }
def piecesFinerRow : OpenClaim := { program := "ytkiacebcedpljaa", sum := "285f26839e268f3d0c785331e4763a4c8d271da6be00fb3cc12d05b4b0bc1677", func := "shapesearch/shapesearchlaw18.PiecesFiner", spec := "piecesFiner", inPlace := ["math/bits.Add64"], unfollowed := true, recurses := true, named := ["math/bits.divideError", "math/bits.overflowError"], apart := false }
def PiecesFinerSaid : Prop := piecesFinerRow.holds Try.pinned (OpenSpec.ofChange piecesFinerSpec)

/-- ITS FALSE NEIGHBOUR: 'it returns false'. Refute it at one input. -/
def piecesFinerWrong : ChangeSpec := { name := "piecesFiner", fn := fun _ => fun
  | [d] => { results := [.lit (.bool false)], args := [d] }
  | _ => none }
def PiecesFinerWrongFalsely : Prop := piecesFinerRow.holds Try.pinned (OpenSpec.ofChange piecesFinerWrong)

/-- 'shapesearchlaw18.PiecesMoves': WHATEVER THE INPUT: true; the input reads as it did. -/
def piecesMovesSpec : ChangeSpec := { name := "piecesMoves", fn := fun _ => fun
  | [d1, d2] => { results := [.lit (.bool true)], args := [d1, d2] }
  | _ => none }
def piecesMovesRow : OpenClaim := { program := "ytkiacebcedpljaa", sum := "285f26839e268f3d0c785331e4763a4c8d271da6be00fb3cc12d05b4b0bc1677", func := "shapesearch/shapesearchlaw18.PiecesMoves", spec := "piecesMoves", inPlace := ["math/bits.Add64"], unfollowed := true, recurses := true, named := ["math/bits.divideError", "math/bits.overflowError"], apart := false }
def PiecesMovesSaid : Prop := piecesMovesRow.holds Try.pinned (OpenSpec.ofChange piecesMovesSpec)

/-- ITS FALSE NEIGHBOUR: 'it returns false'. Refute it at one input. -/
def piecesMovesWrong : ChangeSpec := { name := "piecesMoves", fn := fun _ => fun
  | [d1, d2] => { results := [.lit (.bool false)], args := [d1, d2] }
  | _ => none }
def PiecesMovesWrongFalsely : Prop := piecesMovesRow.holds Try.pinned (OpenSpec.ofChange piecesMovesWrong)

/- THE SECOND FORM. 'bulk': how many values and letters a reading holds, each counted each time it is reached (what is shared counts as often as it is met; a slice's spare places count too). A statement '..UptoSaid' is the law's where the arguments, and the package variables that the reading takes, are together of bulk at most 1048576: NARROWER than '..Said'. Prove '..Said' where nothing that the law and all that it calls make is longer than what came in: it says more and counts as full. Else prove '..UptoSaid'. A law counts once. -/
mutual
def uptoBulk {H : Type} : DataW H → Nat
  | .lit (.string bytes) => bytes.length + 1
  | .lit _ => 1
  | .nil => 1
  | .ptr d => uptoBulk d + 1
  | .slice elems spare => uptoBulkAll elems + uptoBulkAll spare + 1
  | .agg parts => uptoBulkAll parts + 1
  | .iface _ d => uptoBulk d + 1
  | .map entries => uptoBulkEntries entries + 1
  | .held _ => 1
def uptoBulkAll {H : Type} : List (DataW H) → Nat
  | [] => 0
  | d :: r => uptoBulk d + uptoBulkAll r
def uptoBulkEntries {H : Type} : List (Lit × DataW H) → Nat
  | [] => 0
  | x :: r => uptoBulkEntry x + uptoBulkEntries r
def uptoBulkEntry {H : Type} : Lit × DataW H → Nat
  | (.string bytes, d) => bytes.length + uptoBulk d + 1
  | (_, d) => uptoBulk d + 1
 end
def uptoSmall : (H : Type) → List (DataW H) → Bool := fun _ ds => decide (uptoBulkAll ds ≤ 1048576)
def OpenSpec.upto (s : _root_.Go.ChangeSpec) : _root_.Go.OpenSpec := { _root_.Go.OpenSpec.ofChange s with cond := some uptoSmall }

/-- 'shapesearchlaw18.PiecesDivide', WHERE WHAT IT READS IS OF BULK AT MOST 1048576: true; the input reads as it did. -/
def piecesDivideUptoRow : OpenClaim := { program := "ytkiacebcedpljaa", sum := "285f26839e268f3d0c785331e4763a4c8d271da6be00fb3cc12d05b4b0bc1677", func := "shapesearch/shapesearchlaw18.PiecesDivide", spec := "piecesDivide", inPlace := ["math/bits.Add64"], unfollowed := true, recurses := true, named := ["math/bits.divideError", "math/bits.overflowError"], apart := false, narrowed := true }
def PiecesDivideUptoSaid : Prop := piecesDivideUptoRow.holds Try.pinned (OpenSpec.upto piecesDivideSpec)

/-- 'shapesearchlaw18.PiecesSums', WHERE WHAT IT READS IS OF BULK AT MOST 1048576: true; the input reads as it did. -/
def piecesSumsUptoRow : OpenClaim := { program := "ytkiacebcedpljaa", sum := "285f26839e268f3d0c785331e4763a4c8d271da6be00fb3cc12d05b4b0bc1677", func := "shapesearch/shapesearchlaw18.PiecesSums", spec := "piecesSums", inPlace := ["math/bits.Add64"], unfollowed := true, recurses := true, named := ["math/bits.divideError", "math/bits.overflowError"], apart := false, narrowed := true }
def PiecesSumsUptoSaid : Prop := piecesSumsUptoRow.holds Try.pinned (OpenSpec.upto piecesSumsSpec)

/-- 'shapesearchlaw18.PiecesAnswers', WHERE WHAT IT READS IS OF BULK AT MOST 1048576: true; the input reads as it did. -/
def piecesAnswersUptoRow : OpenClaim := { program := "ytkiacebcedpljaa", sum := "285f26839e268f3d0c785331e4763a4c8d271da6be00fb3cc12d05b4b0bc1677", func := "shapesearch/shapesearchlaw18.PiecesAnswers", spec := "piecesAnswers", inPlace := ["math/bits.Add64"], unfollowed := true, recurses := true, named := ["math/bits.divideError", "math/bits.overflowError"], apart := false, narrowed := true }
def PiecesAnswersUptoSaid : Prop := piecesAnswersUptoRow.holds Try.pinned (OpenSpec.upto piecesAnswersSpec)

/-- 'shapesearchlaw18.PiecesBound', WHERE WHAT IT READS IS OF BULK AT MOST 1048576: true; the input reads as it did. -/
def piecesBoundUptoRow : OpenClaim := { program := "ytkiacebcedpljaa", sum := "285f26839e268f3d0c785331e4763a4c8d271da6be00fb3cc12d05b4b0bc1677", func := "shapesearch/shapesearchlaw18.PiecesBound", spec := "piecesBound", inPlace := ["math/bits.Add64"], unfollowed := true, recurses := true, named := ["math/bits.divideError", "math/bits.overflowError"], apart := false, narrowed := true }
def PiecesBoundUptoSaid : Prop := piecesBoundUptoRow.holds Try.pinned (OpenSpec.upto piecesBoundSpec)

/-- 'shapesearchlaw18.PiecesFiner', WHERE WHAT IT READS IS OF BULK AT MOST 1048576: true; the input reads as it did. -/
def piecesFinerUptoRow : OpenClaim := { program := "ytkiacebcedpljaa", sum := "285f26839e268f3d0c785331e4763a4c8d271da6be00fb3cc12d05b4b0bc1677", func := "shapesearch/shapesearchlaw18.PiecesFiner", spec := "piecesFiner", inPlace := ["math/bits.Add64"], unfollowed := true, recurses := true, named := ["math/bits.divideError", "math/bits.overflowError"], apart := false, narrowed := true }
def PiecesFinerUptoSaid : Prop := piecesFinerUptoRow.holds Try.pinned (OpenSpec.upto piecesFinerSpec)

/-- 'shapesearchlaw18.PiecesMoves', WHERE WHAT IT READS IS OF BULK AT MOST 1048576: true; the input reads as it did. -/
def piecesMovesUptoRow : OpenClaim := { program := "ytkiacebcedpljaa", sum := "285f26839e268f3d0c785331e4763a4c8d271da6be00fb3cc12d05b4b0bc1677", func := "shapesearch/shapesearchlaw18.PiecesMoves", spec := "piecesMoves", inPlace := ["math/bits.Add64"], unfollowed := true, recurses := true, named := ["math/bits.divideError", "math/bits.overflowError"], apart := false, narrowed := true }
def PiecesMovesUptoSaid : Prop := piecesMovesUptoRow.holds Try.pinned (OpenSpec.upto piecesMovesSpec)

end Rows
end Go.Proofs.Ytkiacebcedpljaa
