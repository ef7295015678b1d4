/-
  No cell of these rows narrows 'for every input' (looked for: loops, veiled, ifaces, maps, wideKeys, modest, calm, conditions, laid).
  DERIVED. THE GIVEN ROWS OF THIS SEAT. 6 by the template 'for every input the law returns true; each argument reads behind the call as it read before'; 0 by the template 'total and deterministic' (their statements: YtdelnjemfjihpaaTotals.lean).
  GIVEN WITH THE SEED: the statements are not yours to turn. If you find one false, say at which input.
  Laid BY PROGRAM, IN A SANDBOX (cutbox-rows.mjs): the forced cells as the released guide's own fill.sh prints them over the translation 55b202d9c5e5eabc… (all of the seat's roots in one cut). By AI agents, Wed Nov 11 2026. No macro, syntax, notation, axiom, sorry.
-/
import Derived.Test.YtdelnjemfjihpaaChecked
import GoSem.Claim
import GoSem.ClaimJoined
import GoSem.ClaimMapViews
import Derived.JoinedTies
import Derived.KernelRfl
namespace Go.Proofs.Ytdelnjemfjihpaa
/- THE CELL 'sum', in the pinned program and in every row, IS THE sha256 OF THE DUMP (.gsa) THAT YtdelnjemfjihpaaProg.lean LOADS. Nothing in Lean hashes anything: it is a label: what it is worth is what the hold of that sum in a sandbox is worth. -/
noncomputable def Try.pinned : Pinned := { name := "ytdelnjemfjihpaa", sum := "55b202d9c5e5eabc1f997a6ef8ddfe3c33b175c43171292d357af6e2a067cfea", checked := Try.checked }
namespace Rows
def none {H : Type} : Left H := { results := [], args := [] }

/-- 'shapesearchlaw20.EnvelopeHolds': WHATEVER THE INPUT: true; the input reads as it did. -/
def envelopeHoldsSpec : ChangeSpec := { name := "envelopeHolds", fn := fun _ => fun
  | [d1, d2] => { results := [.lit (.bool true)], args := [d1, d2] }
  | _ => none }
def envelopeHoldsRow : OpenClaim := { program := "ytdelnjemfjihpaa", sum := "55b202d9c5e5eabc1f997a6ef8ddfe3c33b175c43171292d357af6e2a067cfea", func := "shapesearch/shapesearchlaw20.EnvelopeHolds", spec := "envelopeHolds", inPlace := ["math/bits.Add64"], unfollowed := true, recurses := true, named := ["math/bits.divideError", "math/bits.overflowError"], apart := false }
def EnvelopeHoldsSaid : Prop := envelopeHoldsRow.holds Try.pinned (OpenSpec.ofChange envelopeHoldsSpec)

/-- ITS FALSE NEIGHBOUR: 'it returns false'. Refute it at one input. -/
def envelopeHoldsWrong : ChangeSpec := { name := "envelopeHolds", fn := fun _ => fun
  | [d1, d2] => { results := [.lit (.bool false)], args := [d1, d2] }
  | _ => none }
def EnvelopeHoldsWrongFalsely : Prop := envelopeHoldsRow.holds Try.pinned (OpenSpec.ofChange envelopeHoldsWrong)

/-- 'shapesearchlaw20.EnvelopeBands': WHATEVER THE INPUT: true; the input reads as it did. -/
def envelopeBandsSpec : ChangeSpec := { name := "envelopeBands", fn := fun _ => fun
  | [d1, d2] => { results := [.lit (.bool true)], args := [d1, d2] }
  | _ => none }
def envelopeBandsRow : OpenClaim := { program := "ytdelnjemfjihpaa", sum := "55b202d9c5e5eabc1f997a6ef8ddfe3c33b175c43171292d357af6e2a067cfea", func := "shapesearch/shapesearchlaw20.EnvelopeBands", spec := "envelopeBands", inPlace := ["math/bits.Add64"], unfollowed := true, recurses := true, named := ["math/bits.divideError", "math/bits.overflowError"], apart := false }
def EnvelopeBandsSaid : Prop := envelopeBandsRow.holds Try.pinned (OpenSpec.ofChange envelopeBandsSpec)

/-- ITS FALSE NEIGHBOUR: 'it returns false'. Refute it at one input. -/
def envelopeBandsWrong : ChangeSpec := { name := "envelopeBands", fn := fun _ => fun
  | [d1, d2] => { results := [.lit (.bool false)], args := [d1, d2] }
  | _ => none }
def EnvelopeBandsWrongFalsely : Prop := envelopeBandsRow.holds Try.pinned (OpenSpec.ofChange envelopeBandsWrong)

/-- 'shapesearchlaw20.EnvelopeNests': WHATEVER THE INPUT: true; the input reads as it did. -/
def envelopeNestsSpec : ChangeSpec := { name := "envelopeNests", fn := fun _ => fun
  | [d1, d2] => { results := [.lit (.bool true)], args := [d1, d2] }
  | _ => none }
def envelopeNestsRow : OpenClaim := { program := "ytdelnjemfjihpaa", sum := "55b202d9c5e5eabc1f997a6ef8ddfe3c33b175c43171292d357af6e2a067cfea", func := "shapesearch/shapesearchlaw20.EnvelopeNests", spec := "envelopeNests", inPlace := ["math/bits.Add64"], unfollowed := true, recurses := true, named := ["math/bits.divideError", "math/bits.overflowError"], apart := false }
def EnvelopeNestsSaid : Prop := envelopeNestsRow.holds Try.pinned (OpenSpec.ofChange envelopeNestsSpec)

/-- ITS FALSE NEIGHBOUR: 'it returns false'. Refute it at one input. -/
def envelopeNestsWrong : ChangeSpec := { name := "envelopeNests", fn := fun _ => fun
  | [d1, d2] => { results := [.lit (.bool false)], args := [d1, d2] }
  | _ => none }
def EnvelopeNestsWrongFalsely : Prop := envelopeNestsRow.holds Try.pinned (OpenSpec.ofChange envelopeNestsWrong)

/-- 'shapesearchlaw20.EnvelopeAnswers': WHATEVER THE INPUT: true; the input reads as it did. -/
def envelopeAnswersSpec : ChangeSpec := { name := "envelopeAnswers", fn := fun _ => fun
  | [d1, d2, d3, d4, d5, d6] => { results := [.lit (.bool true)], args := [d1, d2, d3, d4, d5, d6] }
  | _ => none }
def envelopeAnswersRow : OpenClaim := { program := "ytdelnjemfjihpaa", sum := "55b202d9c5e5eabc1f997a6ef8ddfe3c33b175c43171292d357af6e2a067cfea", func := "shapesearch/shapesearchlaw20.EnvelopeAnswers", spec := "envelopeAnswers", inPlace := ["math/bits.Add64"], unfollowed := true, recurses := true, named := ["math/bits.divideError", "math/bits.overflowError"], apart := false }
def EnvelopeAnswersSaid : Prop := envelopeAnswersRow.holds Try.pinned (OpenSpec.ofChange envelopeAnswersSpec)

/-- ITS FALSE NEIGHBOUR: 'it returns false'. Refute it at one input. -/
def envelopeAnswersWrong : ChangeSpec := { name := "envelopeAnswers", fn := fun _ => fun
  | [d1, d2, d3, d4, d5, d6] => { results := [.lit (.bool false)], args := [d1, d2, d3, d4, d5, d6] }
  | _ => none }
def EnvelopeAnswersWrongFalsely : Prop := envelopeAnswersRow.holds Try.pinned (OpenSpec.ofChange envelopeAnswersWrong)

/-- 'shapesearchlaw20.EnvelopeCascade': WHATEVER THE INPUT: true; the input reads as it did. -/
def envelopeCascadeSpec : ChangeSpec := { name := "envelopeCascade", fn := fun _ => fun
  | [d] => { results := [.lit (.bool true)], args := [d] }
  | _ => none }
def envelopeCascadeRow : OpenClaim := { program := "ytdelnjemfjihpaa", sum := "55b202d9c5e5eabc1f997a6ef8ddfe3c33b175c43171292d357af6e2a067cfea", func := "shapesearch/shapesearchlaw20.EnvelopeCascade", spec := "envelopeCascade", inPlace := ["math/bits.Add64"], unfollowed := true, recurses := true, named := ["math/bits.divideError", "math/bits.overflowError"], apart := false }
def EnvelopeCascadeSaid : Prop := envelopeCascadeRow.holds Try.pinned (OpenSpec.ofChange envelopeCascadeSpec)

/-- ITS FALSE NEIGHBOUR: 'it returns false'. Refute it at one input. -/
def envelopeCascadeWrong : ChangeSpec := { name := "envelopeCascade", fn := fun _ => fun
  | [d] => { results := [.lit (.bool false)], args := [d] }
  | _ => none }
def EnvelopeCascadeWrongFalsely : Prop := envelopeCascadeRow.holds Try.pinned (OpenSpec.ofChange envelopeCascadeWrong)

/-- 'shapesearchlaw20.EnvelopeMoves': WHATEVER THE INPUT: true; the input reads as it did. -/
def envelopeMovesSpec : ChangeSpec := { name := "envelopeMoves", fn := fun _ => fun
  | [d1, d2] => { results := [.lit (.bool true)], args := [d1, d2] }
  | _ => none }
def envelopeMovesRow : OpenClaim := { program := "ytdelnjemfjihpaa", sum := "55b202d9c5e5eabc1f997a6ef8ddfe3c33b175c43171292d357af6e2a067cfea", func := "shapesearch/shapesearchlaw20.EnvelopeMoves", spec := "envelopeMoves", inPlace := ["math/bits.Add64"], unfollowed := true, recurses := true, named := ["math/bits.divideError", "math/bits.overflowError"], apart := false }
def EnvelopeMovesSaid : Prop := envelopeMovesRow.holds Try.pinned (OpenSpec.ofChange envelopeMovesSpec)

/-- ITS FALSE NEIGHBOUR: 'it returns false'. Refute it at one input. -/
def envelopeMovesWrong : ChangeSpec := { name := "envelopeMoves", fn := fun _ => fun
  | [d1, d2] => { results := [.lit (.bool false)], args := [d1, d2] }
  | _ => none }
def EnvelopeMovesWrongFalsely : Prop := envelopeMovesRow.holds Try.pinned (OpenSpec.ofChange envelopeMovesWrong)

/- THE SECOND FORM. 'bulk': how many values and letters a reading holds, each counted each time it is reached (what is shared counts as often as it is met; a slice's spare places count too). A statement '..UptoSaid' is the law's where the arguments, and the package variables that the reading takes, are together of bulk at most 1048576: NARROWER than '..Said'. Prove '..Said' where nothing that the law and all that it calls make is longer than what came in: it says more and counts as full. Else prove '..UptoSaid'. A law counts once. -/
mutual
def uptoBulk {H : Type} : DataW H → Nat
  | .lit (.string bytes) => bytes.length + 1
  | .lit _ => 1
  | .nil => 1
  | .ptr d => uptoBulk d + 1
  | .slice elems spare => uptoBulkAll elems + uptoBulkAll spare + 1
  | .agg parts => uptoBulkAll parts + 1
  | .iface _ d => uptoBulk d + 1
  | .map entries => uptoBulkEntries entries + 1
  | .held _ => 1
def uptoBulkAll {H : Type} : List (DataW H) → Nat
  | [] => 0
  | d :: r => uptoBulk d + uptoBulkAll r
def uptoBulkEntries {H : Type} : List (Lit × DataW H) → Nat
  | [] => 0
  | x :: r => uptoBulkEntry x + uptoBulkEntries r
def uptoBulkEntry {H : Type} : Lit × DataW H → Nat
  | (.string bytes, d) => bytes.length + uptoBulk d + 1
  | (_, d) => uptoBulk d + 1
 end
def uptoSmall : (H : Type) → List (DataW H) → Bool := fun _ ds => decide (uptoBulkAll ds ≤ 1048576)
def OpenSpec.upto (s : _root_.Go.ChangeSpec) : _root_.Go.OpenSpec := { _root_.Go.OpenSpec.ofChange s with cond := some uptoSmall }

/-- 'shapesearchlaw20.EnvelopeHolds', WHERE WHAT IT READS IS OF BULK AT MOST 1048576: true; the input reads as it did. -/
def envelopeHoldsUptoRow : OpenClaim := { program := "ytdelnjemfjihpaa", sum := "55b202d9c5e5eabc1f997a6ef8ddfe3c33b175c43171292d357af6e2a067cfea", func := "shapesearch/shapesearchlaw20.EnvelopeHolds", spec := "envelopeHolds", inPlace := ["math/bits.Add64"], unfollowed := true, recurses := true, named := ["math/bits.divideError", "math/bits.overflowError"], apart := false, narrowed := true }
def EnvelopeHoldsUptoSaid : Prop := envelopeHoldsUptoRow.holds Try.pinned (OpenSpec.upto envelopeHoldsSpec)

/-- 'shapesearchlaw20.EnvelopeBands', WHERE WHAT IT READS IS OF BULK AT MOST 1048576: true; the input reads as it did. -/
def envelopeBandsUptoRow : OpenClaim := { program := "ytdelnjemfjihpaa", sum := "55b202d9c5e5eabc1f997a6ef8ddfe3c33b175c43171292d357af6e2a067cfea", func := "shapesearch/shapesearchlaw20.EnvelopeBands", spec := "envelopeBands", inPlace := ["math/bits.Add64"], unfollowed := true, recurses := true, named := ["math/bits.divideError", "math/bits.overflowError"], apart := false, narrowed := true }
def EnvelopeBandsUptoSaid : Prop := envelopeBandsUptoRow.holds Try.pinned (OpenSpec.upto envelopeBandsSpec)

/-- 'shapesearchlaw20.EnvelopeNests', WHERE WHAT IT READS IS OF BULK AT MOST 1048576: true; the input reads as it did. -/
def envelopeNestsUptoRow : OpenClaim := { program := "ytdelnjemfjihpaa", sum := "55b202d9c5e5eabc1f997a6ef8ddfe3c33b175c43171292d357af6e2a067cfea", func := "shapesearch/shapesearchlaw20.EnvelopeNests", spec := "envelopeNests", inPlace := ["math/bits.Add64"], unfollowed := true, recurses := true, named := ["math/bits.divideError", "math/bits.overflowError"], apart := false, narrowed := true }
def EnvelopeNestsUptoSaid : Prop := envelopeNestsUptoRow.holds Try.pinned (OpenSpec.upto envelopeNestsSpec)

/-- 'shapesearchlaw20.EnvelopeAnswers', WHERE WHAT IT READS IS OF BULK AT MOST 1048576: true; the input reads as it did. -/
def envelopeAnswersUptoRow : OpenClaim := { program := "ytdelnjemfjihpaa", sum := "55b202d9c5e5eabc1f997a6ef8ddfe3c33b175c43171292d357af6e2a067cfea", func := "shapesearch/shapesearchlaw20.EnvelopeAnswers", spec := "envelopeAnswers", inPlace := ["math/bits.Add64"], unfollowed := true, recurses := true, named := ["math/bits.divideError", "math/bits.overflowError"], apart := false, narrowed := true }
def EnvelopeAnswersUptoSaid : Prop := envelopeAnswersUptoRow.holds Try.pinned (OpenSpec.upto envelopeAnswersSpec)

/-- 'shapesearchlaw20.EnvelopeCascade', WHERE WHAT IT READS IS OF BULK AT MOST 1048576: true; the input reads as it did. -/
def envelopeCascadeUptoRow : OpenClaim := { program := "ytdelnjemfjihpaa", sum := "55b202d9c5e5eabc1f997a6ef8ddfe3c33b175c43171292d357af6e2a067cfea", func := "shapesearch/shapesearchlaw20.EnvelopeCascade", spec := "envelopeCascade", inPlace := ["math/bits.Add64"], unfollowed := true, recurses := true, named := ["math/bits.divideError", "math/bits.overflowError"], apart := false, narrowed := true }
def EnvelopeCascadeUptoSaid : Prop := envelopeCascadeUptoRow.holds Try.pinned (OpenSpec.upto envelopeCascadeSpec)

/-- 'shapesearchlaw20.EnvelopeMoves', WHERE WHAT IT READS IS OF BULK AT MOST 1048576: true; the input reads as it did. -/
def envelopeMovesUptoRow : OpenClaim := { program := "ytdelnjemfjihpaa", sum := "55b202d9c5e5eabc1f997a6ef8ddfe3c33b175c43171292d357af6e2a067cfea", func := "shapesearch/shapesearchlaw20.EnvelopeMoves", spec := "envelopeMoves", inPlace := ["math/bits.Add64"], unfollowed := true, recurses := true, named := ["math/bits.divideError", "math/bits.overflowError"], apart := false, narrowed := true }
def EnvelopeMovesUptoSaid : Prop := envelopeMovesUptoRow.holds Try.pinned (OpenSpec.upto envelopeMovesSpec)

end Rows
end Go.Proofs.Ytdelnjemfjihpaa
