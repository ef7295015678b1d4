/-
  No cell of these rows narrows 'for every input' (looked for: loops, veiled, ifaces, maps, wideKeys, modest, calm, conditions, laid).
  DERIVED. THE GIVEN ROWS OF THIS SEAT. 4 by the template 'for every input the law returns true; each argument reads behind the call as it read before'; 0 by the template 'total and deterministic' (their statements: YtkeddnagijjbaaaGreatTotals.lean).
  GIVEN WITH THE SEED: the statements are not yours to turn. If you find one false, say at which input.
  Laid BY PROGRAM, IN A SANDBOX (cutbox-rows.mjs): the forced cells as the released guide's own fill.sh prints them over the translation 2bfb6ca5ebee172d… (all of the seat's roots in one cut). By AI agents, Wed Nov 11 2026. No macro, syntax, notation, axiom, sorry.
-/
import Derived.Test.YtkeddnagijjbaaaGreatChecked
import GoSem.Claim
import GoSem.ClaimJoined
import GoSem.ClaimMapViews
import Derived.JoinedTies
import Derived.KernelRfl
namespace Go.Proofs.YtkeddnagijjbaaaGreat
/- THE CELL 'sum', in the pinned program and in every row, IS THE sha256 OF THE DUMP (.gsa) THAT YtkeddnagijjbaaaGreatProg.lean LOADS. Nothing in Lean hashes anything: it is a label: what it is worth is what the hold of that sum in a sandbox is worth. -/
noncomputable def Tryz.pinned : Pinned := { name := "ytkeddnagijjbaaagreat", sum := "2bfb6ca5ebee172dda957889a4f86ca7d9681b03b9341018c797f1cc5610b3e2", checked := Tryz.checked }
namespace Rows
def none {H : Type} : Left H := { results := [], args := [] }

/-- 'shapesearchlaw23.StoreAnswers': WHATEVER THE INPUT: true; the input reads as it did. -/
def storeAnswersSpec : ChangeSpec := { name := "storeAnswers", fn := fun _ => fun
  | [d1, d2, d3] => { results := [.lit (.bool true)], args := [d1, d2, d3] }
  | _ => none }
def storeAnswersRow : OpenClaim := { program := "ytkeddnagijjbaaagreat", sum := "2bfb6ca5ebee172dda957889a4f86ca7d9681b03b9341018c797f1cc5610b3e2", func := "shapesearch/shapesearchlaw23.StoreAnswers", spec := "storeAnswers", unfollowed := true, recurses := true, apart := false }
def StoreAnswersSaid : Prop := storeAnswersRow.holds Tryz.pinned (OpenSpec.ofChange storeAnswersSpec)

/-- ITS FALSE NEIGHBOUR: 'it returns false'. Refute it at one input. -/
def storeAnswersWrong : ChangeSpec := { name := "storeAnswers", fn := fun _ => fun
  | [d1, d2, d3] => { results := [.lit (.bool false)], args := [d1, d2, d3] }
  | _ => none }
def StoreAnswersWrongFalsely : Prop := storeAnswersRow.holds Tryz.pinned (OpenSpec.ofChange storeAnswersWrong)

/-- 'shapesearchlaw23.StoreRaw': WHATEVER THE INPUT: true; the input reads as it did. -/
def storeRawSpec : ChangeSpec := { name := "storeRaw", fn := fun _ => fun
  | [d1, d2, d3, d4, d5, d6, d7] => { results := [.lit (.bool true)], args := [d1, d2, d3, d4, d5, d6, d7] }
  | _ => none }
def storeRawRow : OpenClaim := { program := "ytkeddnagijjbaaagreat", sum := "2bfb6ca5ebee172dda957889a4f86ca7d9681b03b9341018c797f1cc5610b3e2", func := "shapesearch/shapesearchlaw23.StoreRaw", spec := "storeRaw", unfollowed := true, recurses := true, apart := false }
def StoreRawSaid : Prop := storeRawRow.holds Tryz.pinned (OpenSpec.ofChange storeRawSpec)

/-- ITS FALSE NEIGHBOUR: 'it returns false'. Refute it at one input. -/
def storeRawWrong : ChangeSpec := { name := "storeRaw", fn := fun _ => fun
  | [d1, d2, d3, d4, d5, d6, d7] => { results := [.lit (.bool false)], args := [d1, d2, d3, d4, d5, d6, d7] }
  | _ => none }
def StoreRawWrongFalsely : Prop := storeRawRow.holds Tryz.pinned (OpenSpec.ofChange storeRawWrong)

/-- 'shapesearchlaw23.StoreMade': WHATEVER THE INPUT: true; the input reads as it did. -/
def storeMadeSpec : ChangeSpec := { name := "storeMade", fn := fun _ => fun
  | [d1, d2, d3, d4] => { results := [.lit (.bool true)], args := [d1, d2, d3, d4] }
  | _ => none }
def storeMadeRow : OpenClaim := { program := "ytkeddnagijjbaaagreat", sum := "2bfb6ca5ebee172dda957889a4f86ca7d9681b03b9341018c797f1cc5610b3e2", func := "shapesearch/shapesearchlaw23.StoreMade", spec := "storeMade", unfollowed := true, recurses := true, apart := false }
def StoreMadeSaid : Prop := storeMadeRow.holds Tryz.pinned (OpenSpec.ofChange storeMadeSpec)

/-- ITS FALSE NEIGHBOUR: 'it returns false'. Refute it at one input. -/
def storeMadeWrong : ChangeSpec := { name := "storeMade", fn := fun _ => fun
  | [d1, d2, d3, d4] => { results := [.lit (.bool false)], args := [d1, d2, d3, d4] }
  | _ => none }
def StoreMadeWrongFalsely : Prop := storeMadeRow.holds Tryz.pinned (OpenSpec.ofChange storeMadeWrong)

/-- 'shapesearchlaw23.StoreOrder': WHATEVER THE INPUT: true; the input reads as it did. -/
def storeOrderSpec : ChangeSpec := { name := "storeOrder", fn := fun _ => fun
  | [d1, d2] => { results := [.lit (.bool true)], args := [d1, d2] }
  | _ => none }
def storeOrderRow : OpenClaim := { program := "ytkeddnagijjbaaagreat", sum := "2bfb6ca5ebee172dda957889a4f86ca7d9681b03b9341018c797f1cc5610b3e2", func := "shapesearch/shapesearchlaw23.StoreOrder", spec := "storeOrder", unfollowed := true, recurses := true, apart := false }
def StoreOrderSaid : Prop := storeOrderRow.holds Tryz.pinned (OpenSpec.ofChange storeOrderSpec)

/-- ITS FALSE NEIGHBOUR: 'it returns false'. Refute it at one input. -/
def storeOrderWrong : ChangeSpec := { name := "storeOrder", fn := fun _ => fun
  | [d1, d2] => { results := [.lit (.bool false)], args := [d1, d2] }
  | _ => none }
def StoreOrderWrongFalsely : Prop := storeOrderRow.holds Tryz.pinned (OpenSpec.ofChange storeOrderWrong)

/- THE SECOND FORM. 'bulk': how many values and letters a reading holds, each counted each time it is reached (what is shared counts as often as it is met; a slice's spare places count too). A statement '..UptoSaid' is the law's where the arguments, and the package variables that the reading takes, are together of bulk at most 1048576: NARROWER than '..Said'. Prove '..Said' where nothing that the law and all that it calls make is longer than what came in: it says more and counts as full. Else prove '..UptoSaid'. A law counts once. -/
mutual
def uptoBulk {H : Type} : DataW H → Nat
  | .lit (.string bytes) => bytes.length + 1
  | .lit _ => 1
  | .nil => 1
  | .ptr d => uptoBulk d + 1
  | .slice elems spare => uptoBulkAll elems + uptoBulkAll spare + 1
  | .agg parts => uptoBulkAll parts + 1
  | .iface _ d => uptoBulk d + 1
  | .map entries => uptoBulkEntries entries + 1
  | .held _ => 1
def uptoBulkAll {H : Type} : List (DataW H) → Nat
  | [] => 0
  | d :: r => uptoBulk d + uptoBulkAll r
def uptoBulkEntries {H : Type} : List (Lit × DataW H) → Nat
  | [] => 0
  | x :: r => uptoBulkEntry x + uptoBulkEntries r
def uptoBulkEntry {H : Type} : Lit × DataW H → Nat
  | (.string bytes, d) => bytes.length + uptoBulk d + 1
  | (_, d) => uptoBulk d + 1
 end
def uptoSmall : (H : Type) → List (DataW H) → Bool := fun _ ds => decide (uptoBulkAll ds ≤ 1048576)
def OpenSpec.upto (s : _root_.Go.ChangeSpec) : _root_.Go.OpenSpec := { _root_.Go.OpenSpec.ofChange s with cond := some uptoSmall }

/-- 'shapesearchlaw23.StoreAnswers', WHERE WHAT IT READS IS OF BULK AT MOST 1048576: true; the input reads as it did. -/
def storeAnswersUptoRow : OpenClaim := { program := "ytkeddnagijjbaaagreat", sum := "2bfb6ca5ebee172dda957889a4f86ca7d9681b03b9341018c797f1cc5610b3e2", func := "shapesearch/shapesearchlaw23.StoreAnswers", spec := "storeAnswers", unfollowed := true, recurses := true, apart := false, narrowed := true }
def StoreAnswersUptoSaid : Prop := storeAnswersUptoRow.holds Tryz.pinned (OpenSpec.upto storeAnswersSpec)

/-- 'shapesearchlaw23.StoreRaw', WHERE WHAT IT READS IS OF BULK AT MOST 1048576: true; the input reads as it did. -/
def storeRawUptoRow : OpenClaim := { program := "ytkeddnagijjbaaagreat", sum := "2bfb6ca5ebee172dda957889a4f86ca7d9681b03b9341018c797f1cc5610b3e2", func := "shapesearch/shapesearchlaw23.StoreRaw", spec := "storeRaw", unfollowed := true, recurses := true, apart := false, narrowed := true }
def StoreRawUptoSaid : Prop := storeRawUptoRow.holds Tryz.pinned (OpenSpec.upto storeRawSpec)

/-- 'shapesearchlaw23.StoreMade', WHERE WHAT IT READS IS OF BULK AT MOST 1048576: true; the input reads as it did. -/
def storeMadeUptoRow : OpenClaim := { program := "ytkeddnagijjbaaagreat", sum := "2bfb6ca5ebee172dda957889a4f86ca7d9681b03b9341018c797f1cc5610b3e2", func := "shapesearch/shapesearchlaw23.StoreMade", spec := "storeMade", unfollowed := true, recurses := true, apart := false, narrowed := true }
def StoreMadeUptoSaid : Prop := storeMadeUptoRow.holds Tryz.pinned (OpenSpec.upto storeMadeSpec)

/-- 'shapesearchlaw23.StoreOrder', WHERE WHAT IT READS IS OF BULK AT MOST 1048576: true; the input reads as it did. -/
def storeOrderUptoRow : OpenClaim := { program := "ytkeddnagijjbaaagreat", sum := "2bfb6ca5ebee172dda957889a4f86ca7d9681b03b9341018c797f1cc5610b3e2", func := "shapesearch/shapesearchlaw23.StoreOrder", spec := "storeOrder", unfollowed := true, recurses := true, apart := false, narrowed := true }
def StoreOrderUptoSaid : Prop := storeOrderUptoRow.holds Tryz.pinned (OpenSpec.upto storeOrderSpec)

end Rows
end Go.Proofs.YtkeddnagijjbaaaGreat
