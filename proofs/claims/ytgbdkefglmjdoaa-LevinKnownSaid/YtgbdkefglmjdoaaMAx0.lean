-- Written by a program of this session (a turned print); Lean checks it.
import Derived.Test.YtgbdkefglmjdoaaProg
import Derived.Below
import Derived.Deep.Draws
import Derived.Deep.AppendLies
import Derived.Maps.AppendAt
import Derived.OwnWalk
import Derived.Laws.BytesArg
import Derived.Laws.MakeOwn
import Derived.Laws.OwnMore
import Derived.Deep.OwnRows
import Derived.Tactics
import Derived.Lib.ConvBytes
import Derived.Laws.Slices
import Derived.WalkKit
import Derived.KernelRfl
import Derived.RowKit3
import Derived.Deep.LoopGhost
import Derived.Deep.QuietTactic
import Derived.BigQuiet
import Derived.WideLaws
import Derived.Deep.DeepCutAuto
import Derived.Deep.CutBlock
import Derived.Deep.RegionHeld3
import Derived.Laws.Rows
import Derived.Lib.AppendStr
import Derived.ArgAppend
import Derived.Laws.IdiomCopy
import Derived.OrdersHeld
import Derived.Laws.BitsLemmas
import Derived.RowKit
import Derived.Lib.SliceRun
import Derived.Test.YtgbdkefglmjdoaaWWords
import Derived.Test.YtgbdkefglmjdoaaWLast
import Derived.Test.YtgbdkefglmjdoaaWTab
import Derived.Test.YtgbdkefglmjdoaaWFour
import Derived.Test.YtgbdkefglmjdoaaWQPut
import Derived.Test.YtgbdkefglmjdoaaWApart
import Derived.Test.YtgbdkefglmjdoaaWArr
import Derived.Test.YtgbdkefglmjdoaaWZeros
import Derived.Test.YtgbdkefglmjdoaaWFoot
import Derived.Test.YtgbdkefglmjdoaaWKept
import Derived.Test.YtgbdkefglmjdoaaWShare
import Derived.Test.YtgbdkefglmjdoaaWN
import Derived.Test.YtgbdkefglmjdoaaWFootNe
import Derived.Test.YtgbdkefglmjdoaaWAt
import Derived.Test.YtgbdkefglmjdoaaWEqStruct
import Derived.Test.YtgbdkefglmjdoaaWRepsOne
import Derived.Test.YtgbdkefglmjdoaaWInv
import Derived.Test.YtgbdkefglmjdoaaWInvWords
import Derived.Test.YtgbdkefglmjdoaaWGuard
import Derived.Test.YtgbdkefglmjdoaaWNEv
import Derived.Test.YtgbdkefglmjdoaaWMore
namespace Go.Proofs.Ytgbdkefglmjdoaa.MA
open Go.RowKit Go.Proofs.YtgbdkefglmjdoaaW.PrintWords Go.Proofs.YtgbdkefglmjdoaaW.PrintLast Go.Proofs.YtgbdkefglmjdoaaW.PrintMore
attribute [local go_sem] max2_int min2_int max_two min_two max_three min_three max_four min_four   -- for this text's walks alone
set_option linter.unusedVariables false
set_option linter.unusedSimpArgs false



def errW : Option Int → Value
 | none => .nilIface
 | some c => .iface 0 (.int .i64 c)
theorem errW_none : errW none = .nilIface := rfl
theorem errW_some (c : Int) : errW (some c) = .iface 0 (.int .i64 c) := rfl

theorem info2 : (Try.prog.info? 2).map (fun i => (i.zero, i.size, i.bytes)) = some (some (.int .i64 0), 1, 8) := by kernel_rfl
theorem info3 : (Try.prog.info? 3).map (fun i => (i.zero, i.size, i.bytes)) = some (some (.int .i64 0), 1, 8) := by kernel_rfl
-- the values' own types

end Go.Proofs.Ytgbdkefglmjdoaa.MA
