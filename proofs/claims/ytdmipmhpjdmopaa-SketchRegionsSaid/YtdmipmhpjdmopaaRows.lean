/-
  No cell of these rows narrows 'for every input' (looked for: loops, veiled, ifaces, maps, wideKeys, modest, calm, conditions, laid).
  DERIVED. THE GIVEN ROWS OF THIS SEAT. 6 by the template 'for every input the law returns true; each argument reads behind the call as it read before'; 0 by the template 'total and deterministic' (their statements: YtdmipmhpjdmopaaTotals.lean).
  GIVEN WITH THE SEED: the statements are not yours to turn. If you find one false, say at which input.
  Laid BY PROGRAM, IN A SANDBOX (cutbox-rows.mjs): the forced cells as the released guide's own fill.sh prints them over the translation 55340c8a19db87eb… (all of the seat's roots in one cut). By AI agents, Wed Nov 11 2026. No macro, syntax, notation, axiom, sorry.
-/
import Derived.Test.YtdmipmhpjdmopaaChecked
import GoSem.Claim
import GoSem.ClaimJoined
import GoSem.ClaimMapViews
import Derived.JoinedTies
import Derived.KernelRfl
namespace Go.Proofs.Ytdmipmhpjdmopaa
/- THE CELL 'sum', in the pinned program and in every row, IS THE sha256 OF THE DUMP (.gsa) THAT YtdmipmhpjdmopaaProg.lean LOADS. Nothing in Lean hashes anything: it is a label: what it is worth is what the hold of that sum in a sandbox is worth. -/
noncomputable def Try.pinned : Pinned := { name := "ytdmipmhpjdmopaa", sum := "55340c8a19db87ebdfe4ed8d9268f49932a1de3af831c7be49607b6bb7b975f2", checked := Try.checked }
namespace Rows
def none {H : Type} : Left H := { results := [], args := [] }

/-- 'shapesearchlaw21.SketchBounds': WHATEVER THE INPUT: true; the input reads as it did. -/
def sketchBoundsSpec : ChangeSpec := { name := "sketchBounds", fn := fun _ => fun
  | [d] => { results := [.lit (.bool true)], args := [d] }
  | _ => none }
def sketchBoundsRow : OpenClaim := { program := "ytdmipmhpjdmopaa", sum := "55340c8a19db87ebdfe4ed8d9268f49932a1de3af831c7be49607b6bb7b975f2", func := "shapesearch/shapesearchlaw21.SketchBounds", spec := "sketchBounds", unfollowed := true, recurses := true, apart := false }
def SketchBoundsSaid : Prop := sketchBoundsRow.holds Try.pinned (OpenSpec.ofChange sketchBoundsSpec)

/-- ITS FALSE NEIGHBOUR: 'it returns false'. Refute it at one input. -/
def sketchBoundsWrong : ChangeSpec := { name := "sketchBounds", fn := fun _ => fun
  | [d] => { results := [.lit (.bool false)], args := [d] }
  | _ => none }
def SketchBoundsWrongFalsely : Prop := sketchBoundsRow.holds Try.pinned (OpenSpec.ofChange sketchBoundsWrong)

/-- 'shapesearchlaw21.SketchShifts': WHATEVER THE INPUT: true; the input reads as it did. -/
def sketchShiftsSpec : ChangeSpec := { name := "sketchShifts", fn := fun _ => fun
  | [d1, d2, d3] => { results := [.lit (.bool true)], args := [d1, d2, d3] }
  | _ => none }
def sketchShiftsRow : OpenClaim := { program := "ytdmipmhpjdmopaa", sum := "55340c8a19db87ebdfe4ed8d9268f49932a1de3af831c7be49607b6bb7b975f2", func := "shapesearch/shapesearchlaw21.SketchShifts", spec := "sketchShifts", unfollowed := true, recurses := true, apart := false }
def SketchShiftsSaid : Prop := sketchShiftsRow.holds Try.pinned (OpenSpec.ofChange sketchShiftsSpec)

/-- ITS FALSE NEIGHBOUR: 'it returns false'. Refute it at one input. -/
def sketchShiftsWrong : ChangeSpec := { name := "sketchShifts", fn := fun _ => fun
  | [d1, d2, d3] => { results := [.lit (.bool false)], args := [d1, d2, d3] }
  | _ => none }
def SketchShiftsWrongFalsely : Prop := sketchShiftsRow.holds Try.pinned (OpenSpec.ofChange sketchShiftsWrong)

/-- 'shapesearchlaw21.SketchFull': WHATEVER THE INPUT: true; the input reads as it did. -/
def sketchFullSpec : ChangeSpec := { name := "sketchFull", fn := fun _ => fun
  | [d] => { results := [.lit (.bool true)], args := [d] }
  | _ => none }
def sketchFullRow : OpenClaim := { program := "ytdmipmhpjdmopaa", sum := "55340c8a19db87ebdfe4ed8d9268f49932a1de3af831c7be49607b6bb7b975f2", func := "shapesearch/shapesearchlaw21.SketchFull", spec := "sketchFull", unfollowed := true, recurses := true, apart := false }
def SketchFullSaid : Prop := sketchFullRow.holds Try.pinned (OpenSpec.ofChange sketchFullSpec)

/-- ITS FALSE NEIGHBOUR: 'it returns false'. Refute it at one input. -/
def sketchFullWrong : ChangeSpec := { name := "sketchFull", fn := fun _ => fun
  | [d] => { results := [.lit (.bool false)], args := [d] }
  | _ => none }
def SketchFullWrongFalsely : Prop := sketchFullRow.holds Try.pinned (OpenSpec.ofChange sketchFullWrong)

/-- 'shapesearchlaw21.SketchAnswers': WHATEVER THE INPUT: true; the input reads as it did. -/
def sketchAnswersSpec : ChangeSpec := { name := "sketchAnswers", fn := fun _ => fun
  | [d1, d2, d3, d4, d5] => { results := [.lit (.bool true)], args := [d1, d2, d3, d4, d5] }
  | _ => none }
def sketchAnswersRow : OpenClaim := { program := "ytdmipmhpjdmopaa", sum := "55340c8a19db87ebdfe4ed8d9268f49932a1de3af831c7be49607b6bb7b975f2", func := "shapesearch/shapesearchlaw21.SketchAnswers", spec := "sketchAnswers", unfollowed := true, recurses := true, apart := false }
def SketchAnswersSaid : Prop := sketchAnswersRow.holds Try.pinned (OpenSpec.ofChange sketchAnswersSpec)

/-- ITS FALSE NEIGHBOUR: 'it returns false'. Refute it at one input. -/
def sketchAnswersWrong : ChangeSpec := { name := "sketchAnswers", fn := fun _ => fun
  | [d1, d2, d3, d4, d5] => { results := [.lit (.bool false)], args := [d1, d2, d3, d4, d5] }
  | _ => none }
def SketchAnswersWrongFalsely : Prop := sketchAnswersRow.holds Try.pinned (OpenSpec.ofChange sketchAnswersWrong)

/-- 'shapesearchlaw21.SketchRegions': WHATEVER THE INPUT: true; the input reads as it did. -/
def sketchRegionsSpec : ChangeSpec := { name := "sketchRegions", fn := fun _ => fun
  | [d] => { results := [.lit (.bool true)], args := [d] }
  | _ => none }
def sketchRegionsRow : OpenClaim := { program := "ytdmipmhpjdmopaa", sum := "55340c8a19db87ebdfe4ed8d9268f49932a1de3af831c7be49607b6bb7b975f2", func := "shapesearch/shapesearchlaw21.SketchRegions", spec := "sketchRegions", unfollowed := true, recurses := true, apart := false }
def SketchRegionsSaid : Prop := sketchRegionsRow.holds Try.pinned (OpenSpec.ofChange sketchRegionsSpec)

/-- ITS FALSE NEIGHBOUR: 'it returns false'. Refute it at one input. -/
def sketchRegionsWrong : ChangeSpec := { name := "sketchRegions", fn := fun _ => fun
  | [d] => { results := [.lit (.bool false)], args := [d] }
  | _ => none }
def SketchRegionsWrongFalsely : Prop := sketchRegionsRow.holds Try.pinned (OpenSpec.ofChange sketchRegionsWrong)

/-- 'shapesearchlaw21.SketchNarrow': WHATEVER THE INPUT: true; the input reads as it did. -/
def sketchNarrowSpec : ChangeSpec := { name := "sketchNarrow", fn := fun _ => fun
  | [d] => { results := [.lit (.bool true)], args := [d] }
  | _ => none }
def sketchNarrowRow : OpenClaim := { program := "ytdmipmhpjdmopaa", sum := "55340c8a19db87ebdfe4ed8d9268f49932a1de3af831c7be49607b6bb7b975f2", func := "shapesearch/shapesearchlaw21.SketchNarrow", spec := "sketchNarrow", unfollowed := true, recurses := true, apart := false }
def SketchNarrowSaid : Prop := sketchNarrowRow.holds Try.pinned (OpenSpec.ofChange sketchNarrowSpec)

/-- ITS FALSE NEIGHBOUR: 'it returns false'. Refute it at one input. -/
def sketchNarrowWrong : ChangeSpec := { name := "sketchNarrow", fn := fun _ => fun
  | [d] => { results := [.lit (.bool false)], args := [d] }
  | _ => none }
def SketchNarrowWrongFalsely : Prop := sketchNarrowRow.holds Try.pinned (OpenSpec.ofChange sketchNarrowWrong)

/- THE SECOND FORM. 'bulk': how many values and letters a reading holds, each counted each time it is reached (what is shared counts as often as it is met; a slice's spare places count too). A statement '..UptoSaid' is the law's where the arguments, and the package variables that the reading takes, are together of bulk at most 1048576: NARROWER than '..Said'. Prove '..Said' where nothing that the law and all that it calls make is longer than what came in: it says more and counts as full. Else prove '..UptoSaid'. A law counts once. -/
mutual
def uptoBulk {H : Type} : DataW H → Nat
  | .lit (.string bytes) => bytes.length + 1
  | .lit _ => 1
  | .nil => 1
  | .ptr d => uptoBulk d + 1
  | .slice elems spare => uptoBulkAll elems + uptoBulkAll spare + 1
  | .agg parts => uptoBulkAll parts + 1
  | .iface _ d => uptoBulk d + 1
  | .map entries => uptoBulkEntries entries + 1
  | .held _ => 1
def uptoBulkAll {H : Type} : List (DataW H) → Nat
  | [] => 0
  | d :: r => uptoBulk d + uptoBulkAll r
def uptoBulkEntries {H : Type} : List (Lit × DataW H) → Nat
  | [] => 0
  | x :: r => uptoBulkEntry x + uptoBulkEntries r
def uptoBulkEntry {H : Type} : Lit × DataW H → Nat
  | (.string bytes, d) => bytes.length + uptoBulk d + 1
  | (_, d) => uptoBulk d + 1
 end
def uptoSmall : (H : Type) → List (DataW H) → Bool := fun _ ds => decide (uptoBulkAll ds ≤ 1048576)
def OpenSpec.upto (s : _root_.Go.ChangeSpec) : _root_.Go.OpenSpec := { _root_.Go.OpenSpec.ofChange s with cond := some uptoSmall }

/-- 'shapesearchlaw21.SketchBounds', WHERE WHAT IT READS IS OF BULK AT MOST 1048576: true; the input reads as it did. -/
def sketchBoundsUptoRow : OpenClaim := { program := "ytdmipmhpjdmopaa", sum := "55340c8a19db87ebdfe4ed8d9268f49932a1de3af831c7be49607b6bb7b975f2", func := "shapesearch/shapesearchlaw21.SketchBounds", spec := "sketchBounds", unfollowed := true, recurses := true, apart := false, narrowed := true }
def SketchBoundsUptoSaid : Prop := sketchBoundsUptoRow.holds Try.pinned (OpenSpec.upto sketchBoundsSpec)

/-- 'shapesearchlaw21.SketchShifts', WHERE WHAT IT READS IS OF BULK AT MOST 1048576: true; the input reads as it did. -/
def sketchShiftsUptoRow : OpenClaim := { program := "ytdmipmhpjdmopaa", sum := "55340c8a19db87ebdfe4ed8d9268f49932a1de3af831c7be49607b6bb7b975f2", func := "shapesearch/shapesearchlaw21.SketchShifts", spec := "sketchShifts", unfollowed := true, recurses := true, apart := false, narrowed := true }
def SketchShiftsUptoSaid : Prop := sketchShiftsUptoRow.holds Try.pinned (OpenSpec.upto sketchShiftsSpec)

/-- 'shapesearchlaw21.SketchFull', WHERE WHAT IT READS IS OF BULK AT MOST 1048576: true; the input reads as it did. -/
def sketchFullUptoRow : OpenClaim := { program := "ytdmipmhpjdmopaa", sum := "55340c8a19db87ebdfe4ed8d9268f49932a1de3af831c7be49607b6bb7b975f2", func := "shapesearch/shapesearchlaw21.SketchFull", spec := "sketchFull", unfollowed := true, recurses := true, apart := false, narrowed := true }
def SketchFullUptoSaid : Prop := sketchFullUptoRow.holds Try.pinned (OpenSpec.upto sketchFullSpec)

/-- 'shapesearchlaw21.SketchAnswers', WHERE WHAT IT READS IS OF BULK AT MOST 1048576: true; the input reads as it did. -/
def sketchAnswersUptoRow : OpenClaim := { program := "ytdmipmhpjdmopaa", sum := "55340c8a19db87ebdfe4ed8d9268f49932a1de3af831c7be49607b6bb7b975f2", func := "shapesearch/shapesearchlaw21.SketchAnswers", spec := "sketchAnswers", unfollowed := true, recurses := true, apart := false, narrowed := true }
def SketchAnswersUptoSaid : Prop := sketchAnswersUptoRow.holds Try.pinned (OpenSpec.upto sketchAnswersSpec)

/-- 'shapesearchlaw21.SketchRegions', WHERE WHAT IT READS IS OF BULK AT MOST 1048576: true; the input reads as it did. -/
def sketchRegionsUptoRow : OpenClaim := { program := "ytdmipmhpjdmopaa", sum := "55340c8a19db87ebdfe4ed8d9268f49932a1de3af831c7be49607b6bb7b975f2", func := "shapesearch/shapesearchlaw21.SketchRegions", spec := "sketchRegions", unfollowed := true, recurses := true, apart := false, narrowed := true }
def SketchRegionsUptoSaid : Prop := sketchRegionsUptoRow.holds Try.pinned (OpenSpec.upto sketchRegionsSpec)

/-- 'shapesearchlaw21.SketchNarrow', WHERE WHAT IT READS IS OF BULK AT MOST 1048576: true; the input reads as it did. -/
def sketchNarrowUptoRow : OpenClaim := { program := "ytdmipmhpjdmopaa", sum := "55340c8a19db87ebdfe4ed8d9268f49932a1de3af831c7be49607b6bb7b975f2", func := "shapesearch/shapesearchlaw21.SketchNarrow", spec := "sketchNarrow", unfollowed := true, recurses := true, apart := false, narrowed := true }
def SketchNarrowUptoSaid : Prop := sketchNarrowUptoRow.holds Try.pinned (OpenSpec.upto sketchNarrowSpec)

end Rows
end Go.Proofs.Ytdmipmhpjdmopaa
