/- Told by a program of this session out of the translation: Lean functions with the same answers as the Go functions that the law reaches, and proofs of that; no conditions. -/
import Derived.Test.YtcdklnpmllganaaProg
import Derived.Below
import Derived.Deep.Draws
import Derived.Deep.AppendLies
import Derived.Maps.AppendAt
import Derived.OwnWalk
import Derived.Laws.BytesArg
import Derived.Laws.MakeOwn
import Derived.Laws.OwnMore
import Derived.Deep.OwnRows
import Derived.Tactics
import Derived.Lib.ConvBytes
import Derived.Laws.Slices
import Derived.WalkKit
import Derived.KernelRfl
import Derived.RowKit3
import Derived.Deep.LoopGhost
import Derived.Deep.QuietTactic
import Derived.BigQuiet
import Derived.WideLaws
import Derived.Deep.DeepCutAuto
import Derived.Deep.CutBlock
import Derived.Deep.RegionHeld3
import Derived.Laws.Rows
import Derived.Lib.AppendStr
import Derived.ArgAppend
import Derived.Laws.IdiomCopy
import Derived.OrdersHeld
import Derived.Laws.BitsLemmas
import Derived.RowKit
import Derived.WalkMore
import Derived.Test.YtcdklnpmllganaaWWords
import Derived.Test.YtcdklnpmllganaaWLast
import Derived.Test.YtcdklnpmllganaaWTab
import Derived.Test.YtcdklnpmllganaaWFour
import Derived.Test.YtcdklnpmllganaaWQPut
import Derived.Test.YtcdklnpmllganaaWApart
import Derived.Test.YtcdklnpmllganaaWArr
import Derived.Test.YtcdklnpmllganaaWZeros
import Derived.Test.YtcdklnpmllganaaWFoot
import Derived.Test.YtcdklnpmllganaaWKept
import Derived.Test.YtcdklnpmllganaaWShare
import Derived.Test.YtcdklnpmllganaaWN
import Derived.Test.YtcdklnpmllganaaWFootNe
import Derived.Test.YtcdklnpmllganaaWAt
import Derived.Test.YtcdklnpmllganaaWEqStruct
import Derived.Test.YtcdklnpmllganaaWRepsOne
import Derived.Test.YtcdklnpmllganaaWInv
import Derived.Test.YtcdklnpmllganaaWInvWords
import Derived.Test.YtcdklnpmllganaaWGuard
import Derived.Test.YtcdklnpmllganaaWNEv
import Derived.Test.YtcdklnpmllganaaWMore
namespace Go.Proofs.Ytcdklnpmllganaa.PRootScales
open Go.RowKit Go.Proofs.YtcdklnpmllganaaW.PrintWords Go.Proofs.YtcdklnpmllganaaW.PrintLast Go.Proofs.YtcdklnpmllganaaW.PrintMore
attribute [local go_sem] max2_int min2_int max_two min_two max_three min_three max_four min_four   -- for this text's walks alone
set_option linter.unusedVariables false
set_option linter.unusedSimpArgs false



def errW : Option Int → Value
  | none => .nilIface
  | some c => .iface 0 (.int .i64 c)
theorem errW_none : errW none = .nilIface := rfl
theorem errW_some (c : Int) : errW (some c) = .iface 0 (.int .i64 c) := rfl

-- the values' own types

end Go.Proofs.Ytcdklnpmllganaa.PRootScales
