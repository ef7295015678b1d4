/-
  No cell of these rows narrows 'for every input' (looked for: loops, veiled, ifaces, maps, wideKeys, modest, calm, conditions, laid).
  DERIVED. THE GIVEN ROWS OF THIS SEAT. 7 by the template 'for every input the law returns true; each argument reads behind the call as it read before'; 0 by the template 'total and deterministic' (their statements: YtdnegloonbanpaaTotals.lean).
  GIVEN WITH THE SEED: the statements are not yours to turn. If you find one false, say at which input.
  Laid BY PROGRAM, IN A SANDBOX (cutbox-rows.mjs): the forced cells as the released guide's own fill.sh prints them over the translation 81130a059079a762… (all of the seat's roots in one cut). By AI agents, Wed Nov 11 2026. No macro, syntax, notation, axiom, sorry.
-/
import Derived.Test.YtdnegloonbanpaaChecked
import GoSem.Claim
import GoSem.ClaimJoined
import GoSem.ClaimMapViews
import Derived.JoinedTies
import Derived.KernelRfl
namespace Go.Proofs.Ytdnegloonbanpaa
/- THE CELL 'sum', in the pinned program and in every row, IS THE sha256 OF THE DUMP (.gsa) THAT YtdnegloonbanpaaProg.lean LOADS. Nothing in Lean hashes anything: it is a label: what it is worth is what the hold of that sum in a sandbox is worth. -/
noncomputable def Try.pinned : Pinned := { name := "ytdnegloonbanpaa", sum := "81130a059079a762c3c59bc4bb4a3e4c69729502b87bd239aec14ff3b65a11f0", checked := Try.checked }
namespace Rows
def none {H : Type} : Left H := { results := [], args := [] }

/-- 'shapesearchlaw19.WordShifts': WHATEVER THE INPUT: true; the input reads as it did. -/
def wordShiftsSpec : ChangeSpec := { name := "wordShifts", fn := fun _ => fun
  | [d1, d2, d3] => { results := [.lit (.bool true)], args := [d1, d2, d3] }
  | _ => none }
def wordShiftsRow : OpenClaim := { program := "ytdnegloonbanpaa", sum := "81130a059079a762c3c59bc4bb4a3e4c69729502b87bd239aec14ff3b65a11f0", func := "shapesearch/shapesearchlaw19.WordShifts", spec := "wordShifts", unfollowed := true, recurses := true, apart := false }
def WordShiftsSaid : Prop := wordShiftsRow.holds Try.pinned (OpenSpec.ofChange wordShiftsSpec)

/-- ITS FALSE NEIGHBOUR: 'it returns false'. Refute it at one input. -/
def wordShiftsWrong : ChangeSpec := { name := "wordShifts", fn := fun _ => fun
  | [d1, d2, d3] => { results := [.lit (.bool false)], args := [d1, d2, d3] }
  | _ => none }
def WordShiftsWrongFalsely : Prop := wordShiftsRow.holds Try.pinned (OpenSpec.ofChange wordShiftsWrong)

/-- 'shapesearchlaw19.WordAnswers': WHATEVER THE INPUT: true; the input reads as it did. -/
def wordAnswersSpec : ChangeSpec := { name := "wordAnswers", fn := fun _ => fun
  | [d1, d2, d3] => { results := [.lit (.bool true)], args := [d1, d2, d3] }
  | _ => none }
def wordAnswersRow : OpenClaim := { program := "ytdnegloonbanpaa", sum := "81130a059079a762c3c59bc4bb4a3e4c69729502b87bd239aec14ff3b65a11f0", func := "shapesearch/shapesearchlaw19.WordAnswers", spec := "wordAnswers", unfollowed := true, recurses := true, apart := false }
def WordAnswersSaid : Prop := wordAnswersRow.holds Try.pinned (OpenSpec.ofChange wordAnswersSpec)

/-- ITS FALSE NEIGHBOUR: 'it returns false'. Refute it at one input. -/
def wordAnswersWrong : ChangeSpec := { name := "wordAnswers", fn := fun _ => fun
  | [d1, d2, d3] => { results := [.lit (.bool false)], args := [d1, d2, d3] }
  | _ => none }
def WordAnswersWrongFalsely : Prop := wordAnswersRow.holds Try.pinned (OpenSpec.ofChange wordAnswersWrong)

/-- 'shapesearchlaw19.WordRegions': WHATEVER THE INPUT: true; the input reads as it did. -/
def wordRegionsSpec : ChangeSpec := { name := "wordRegions", fn := fun _ => fun
  | [d] => { results := [.lit (.bool true)], args := [d] }
  | _ => none }
def wordRegionsRow : OpenClaim := { program := "ytdnegloonbanpaa", sum := "81130a059079a762c3c59bc4bb4a3e4c69729502b87bd239aec14ff3b65a11f0", func := "shapesearch/shapesearchlaw19.WordRegions", spec := "wordRegions", unfollowed := true, recurses := true, apart := false }
def WordRegionsSaid : Prop := wordRegionsRow.holds Try.pinned (OpenSpec.ofChange wordRegionsSpec)

/-- ITS FALSE NEIGHBOUR: 'it returns false'. Refute it at one input. -/
def wordRegionsWrong : ChangeSpec := { name := "wordRegions", fn := fun _ => fun
  | [d] => { results := [.lit (.bool false)], args := [d] }
  | _ => none }
def WordRegionsWrongFalsely : Prop := wordRegionsRow.holds Try.pinned (OpenSpec.ofChange wordRegionsWrong)

/-- 'shapesearchlaw19.WordRefines': WHATEVER THE INPUT: true; the input reads as it did. -/
def wordRefinesSpec : ChangeSpec := { name := "wordRefines", fn := fun _ => fun
  | [d1, d2] => { results := [.lit (.bool true)], args := [d1, d2] }
  | _ => none }
def wordRefinesRow : OpenClaim := { program := "ytdnegloonbanpaa", sum := "81130a059079a762c3c59bc4bb4a3e4c69729502b87bd239aec14ff3b65a11f0", func := "shapesearch/shapesearchlaw19.WordRefines", spec := "wordRefines", unfollowed := true, recurses := true, apart := false }
def WordRefinesSaid : Prop := wordRefinesRow.holds Try.pinned (OpenSpec.ofChange wordRefinesSpec)

/-- ITS FALSE NEIGHBOUR: 'it returns false'. Refute it at one input. -/
def wordRefinesWrong : ChangeSpec := { name := "wordRefines", fn := fun _ => fun
  | [d1, d2] => { results := [.lit (.bool false)], args := [d1, d2] }
  | _ => none }
def WordRefinesWrongFalsely : Prop := wordRefinesRow.holds Try.pinned (OpenSpec.ofChange wordRefinesWrong)

/-- 'shapesearchlaw19.WordSplits': WHATEVER THE INPUT: true; the input reads as it did. -/
def wordSplitsSpec : ChangeSpec := { name := "wordSplits", fn := fun _ => fun
  | [d] => { results := [.lit (.bool true)], args := [d] }
  | _ => none }
def wordSplitsRow : OpenClaim := { program := "ytdnegloonbanpaa", sum := "81130a059079a762c3c59bc4bb4a3e4c69729502b87bd239aec14ff3b65a11f0", func := "shapesearch/shapesearchlaw19.WordSplits", spec := "wordSplits", unfollowed := true, recurses := true, apart := false }
def WordSplitsSaid : Prop := wordSplitsRow.holds Try.pinned (OpenSpec.ofChange wordSplitsSpec)

/-- ITS FALSE NEIGHBOUR: 'it returns false'. Refute it at one input. -/
def wordSplitsWrong : ChangeSpec := { name := "wordSplits", fn := fun _ => fun
  | [d] => { results := [.lit (.bool false)], args := [d] }
  | _ => none }
def WordSplitsWrongFalsely : Prop := wordSplitsRow.holds Try.pinned (OpenSpec.ofChange wordSplitsWrong)

/-- 'shapesearchlaw19.WordOrder': WHATEVER THE INPUT: true; the input reads as it did. -/
def wordOrderSpec : ChangeSpec := { name := "wordOrder", fn := fun _ => fun
  | [d1, d2] => { results := [.lit (.bool true)], args := [d1, d2] }
  | _ => none }
def wordOrderRow : OpenClaim := { program := "ytdnegloonbanpaa", sum := "81130a059079a762c3c59bc4bb4a3e4c69729502b87bd239aec14ff3b65a11f0", func := "shapesearch/shapesearchlaw19.WordOrder", spec := "wordOrder", unfollowed := true, recurses := true, apart := false }
def WordOrderSaid : Prop := wordOrderRow.holds Try.pinned (OpenSpec.ofChange wordOrderSpec)

/-- ITS FALSE NEIGHBOUR: 'it returns false'. Refute it at one input. -/
def wordOrderWrong : ChangeSpec := { name := "wordOrder", fn := fun _ => fun
  | [d1, d2] => { results := [.lit (.bool false)], args := [d1, d2] }
  | _ => none }
def WordOrderWrongFalsely : Prop := wordOrderRow.holds Try.pinned (OpenSpec.ofChange wordOrderWrong)

/-- 'shapesearchlaw19.WordParts': WHATEVER THE INPUT: true; the input reads as it did. -/
def wordPartsSpec : ChangeSpec := { name := "wordParts", fn := fun _ => fun
  | [d1, d2, d3, d4, d5] => { results := [.lit (.bool true)], args := [d1, d2, d3, d4, d5] }
  | _ => none }
def wordPartsRow : OpenClaim := { program := "ytdnegloonbanpaa", sum := "81130a059079a762c3c59bc4bb4a3e4c69729502b87bd239aec14ff3b65a11f0", func := "shapesearch/shapesearchlaw19.WordParts", spec := "wordParts", unfollowed := true, recurses := true, apart := false }
def WordPartsSaid : Prop := wordPartsRow.holds Try.pinned (OpenSpec.ofChange wordPartsSpec)

/-- ITS FALSE NEIGHBOUR: 'it returns false'. Refute it at one input. -/
def wordPartsWrong : ChangeSpec := { name := "wordParts", fn := fun _ => fun
  | [d1, d2, d3, d4, d5] => { results := [.lit (.bool false)], args := [d1, d2, d3, d4, d5] }
  | _ => none }
def WordPartsWrongFalsely : Prop := wordPartsRow.holds Try.pinned (OpenSpec.ofChange wordPartsWrong)

/- THE SECOND FORM. 'bulk': how many values and letters a reading holds, each counted each time it is reached (what is shared counts as often as it is met; a slice's spare places count too). A statement '..UptoSaid' is the law's where the arguments, and the package variables that the reading takes, are together of bulk at most 1048576: NARROWER than '..Said'. Prove '..Said' where nothing that the law and all that it calls make is longer than what came in: it says more and counts as full. Else prove '..UptoSaid'. A law counts once. -/
mutual
def uptoBulk {H : Type} : DataW H → Nat
  | .lit (.string bytes) => bytes.length + 1
  | .lit _ => 1
  | .nil => 1
  | .ptr d => uptoBulk d + 1
  | .slice elems spare => uptoBulkAll elems + uptoBulkAll spare + 1
  | .agg parts => uptoBulkAll parts + 1
  | .iface _ d => uptoBulk d + 1
  | .map entries => uptoBulkEntries entries + 1
  | .held _ => 1
def uptoBulkAll {H : Type} : List (DataW H) → Nat
  | [] => 0
  | d :: r => uptoBulk d + uptoBulkAll r
def uptoBulkEntries {H : Type} : List (Lit × DataW H) → Nat
  | [] => 0
  | x :: r => uptoBulkEntry x + uptoBulkEntries r
def uptoBulkEntry {H : Type} : Lit × DataW H → Nat
  | (.string bytes, d) => bytes.length + uptoBulk d + 1
  | (_, d) => uptoBulk d + 1
 end
def uptoSmall : (H : Type) → List (DataW H) → Bool := fun _ ds => decide (uptoBulkAll ds ≤ 1048576)
def OpenSpec.upto (s : _root_.Go.ChangeSpec) : _root_.Go.OpenSpec := { _root_.Go.OpenSpec.ofChange s with cond := some uptoSmall }

/-- 'shapesearchlaw19.WordShifts', WHERE WHAT IT READS IS OF BULK AT MOST 1048576: true; the input reads as it did. -/
def wordShiftsUptoRow : OpenClaim := { program := "ytdnegloonbanpaa", sum := "81130a059079a762c3c59bc4bb4a3e4c69729502b87bd239aec14ff3b65a11f0", func := "shapesearch/shapesearchlaw19.WordShifts", spec := "wordShifts", unfollowed := true, recurses := true, apart := false, narrowed := true }
def WordShiftsUptoSaid : Prop := wordShiftsUptoRow.holds Try.pinned (OpenSpec.upto wordShiftsSpec)

/-- 'shapesearchlaw19.WordAnswers', WHERE WHAT IT READS IS OF BULK AT MOST 1048576: true; the input reads as it did. -/
def wordAnswersUptoRow : OpenClaim := { program := "ytdnegloonbanpaa", sum := "81130a059079a762c3c59bc4bb4a3e4c69729502b87bd239aec14ff3b65a11f0", func := "shapesearch/shapesearchlaw19.WordAnswers", spec := "wordAnswers", unfollowed := true, recurses := true, apart := false, narrowed := true }
def WordAnswersUptoSaid : Prop := wordAnswersUptoRow.holds Try.pinned (OpenSpec.upto wordAnswersSpec)

/-- 'shapesearchlaw19.WordRegions', WHERE WHAT IT READS IS OF BULK AT MOST 1048576: true; the input reads as it did. -/
def wordRegionsUptoRow : OpenClaim := { program := "ytdnegloonbanpaa", sum := "81130a059079a762c3c59bc4bb4a3e4c69729502b87bd239aec14ff3b65a11f0", func := "shapesearch/shapesearchlaw19.WordRegions", spec := "wordRegions", unfollowed := true, recurses := true, apart := false, narrowed := true }
def WordRegionsUptoSaid : Prop := wordRegionsUptoRow.holds Try.pinned (OpenSpec.upto wordRegionsSpec)

/-- 'shapesearchlaw19.WordRefines', WHERE WHAT IT READS IS OF BULK AT MOST 1048576: true; the input reads as it did. -/
def wordRefinesUptoRow : OpenClaim := { program := "ytdnegloonbanpaa", sum := "81130a059079a762c3c59bc4bb4a3e4c69729502b87bd239aec14ff3b65a11f0", func := "shapesearch/shapesearchlaw19.WordRefines", spec := "wordRefines", unfollowed := true, recurses := true, apart := false, narrowed := true }
def WordRefinesUptoSaid : Prop := wordRefinesUptoRow.holds Try.pinned (OpenSpec.upto wordRefinesSpec)

/-- 'shapesearchlaw19.WordSplits', WHERE WHAT IT READS IS OF BULK AT MOST 1048576: true; the input reads as it did. -/
def wordSplitsUptoRow : OpenClaim := { program := "ytdnegloonbanpaa", sum := "81130a059079a762c3c59bc4bb4a3e4c69729502b87bd239aec14ff3b65a11f0", func := "shapesearch/shapesearchlaw19.WordSplits", spec := "wordSplits", unfollowed := true, recurses := true, apart := false, narrowed := true }
def WordSplitsUptoSaid : Prop := wordSplitsUptoRow.holds Try.pinned (OpenSpec.upto wordSplitsSpec)

/-- 'shapesearchlaw19.WordOrder', WHERE WHAT IT READS IS OF BULK AT MOST 1048576: true; the input reads as it did. -/
def wordOrderUptoRow : OpenClaim := { program := "ytdnegloonbanpaa", sum := "81130a059079a762c3c59bc4bb4a3e4c69729502b87bd239aec14ff3b65a11f0", func := "shapesearch/shapesearchlaw19.WordOrder", spec := "wordOrder", unfollowed := true, recurses := true, apart := false, narrowed := true }
def WordOrderUptoSaid : Prop := wordOrderUptoRow.holds Try.pinned (OpenSpec.upto wordOrderSpec)

/-- 'shapesearchlaw19.WordParts', WHERE WHAT IT READS IS OF BULK AT MOST 1048576: true; the input reads as it did. -/
def wordPartsUptoRow : OpenClaim := { program := "ytdnegloonbanpaa", sum := "81130a059079a762c3c59bc4bb4a3e4c69729502b87bd239aec14ff3b65a11f0", func := "shapesearch/shapesearchlaw19.WordParts", spec := "wordParts", unfollowed := true, recurses := true, apart := false, narrowed := true }
def WordPartsUptoSaid : Prop := wordPartsUptoRow.holds Try.pinned (OpenSpec.upto wordPartsSpec)

end Rows
end Go.Proofs.Ytdnegloonbanpaa
