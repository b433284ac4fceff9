-- Printed by a program of this session (over the kit's print).
import Derived.Test.YtpedenbcfbflbaaProg
import Derived.Test.YtpedenbcfbflbaaYL
import Derived.Below
import Derived.Deep.Draws
import Derived.Deep.AppendLies
import Derived.Maps.AppendAt
import Derived.OwnWalk
import Derived.Laws.BytesArg
import Derived.Laws.MakeOwn
import Derived.Laws.OwnMore
import Derived.Deep.OwnRows
import Derived.Tactics
import Derived.Lib.ConvBytes
import Derived.Laws.Slices
import Derived.WalkKit
import Derived.KernelRfl
import Derived.RowKit3
import Derived.Deep.LoopGhost
import Derived.Deep.QuietTactic
import Derived.BigQuiet
import Derived.WideLaws
import Derived.Deep.DeepCutAuto
import Derived.Deep.CutBlock
import Derived.Deep.RegionHeld3
import Derived.Laws.Rows
import Derived.Lib.AppendStr
import Derived.ArgAppend
import Derived.Laws.IdiomCopy
import Derived.OrdersHeld
import Derived.Laws.BitsLemmas
import Derived.RowKit
import Derived.Test.YtpedenbcfbflbaaWWords
import Derived.Test.YtpedenbcfbflbaaWLast
import Derived.Test.YtpedenbcfbflbaaWTab
import Derived.Test.YtpedenbcfbflbaaWFour
import Derived.Test.YtpedenbcfbflbaaWQPut
import Derived.Test.YtpedenbcfbflbaaWApart
import Derived.Test.YtpedenbcfbflbaaWArr
import Derived.Test.YtpedenbcfbflbaaWZeros
import Derived.Test.YtpedenbcfbflbaaWFoot
import Derived.Test.YtpedenbcfbflbaaWKept
import Derived.Test.YtpedenbcfbflbaaWShare
import Derived.Test.YtpedenbcfbflbaaWN
import Derived.Test.YtpedenbcfbflbaaWFootNe
import Derived.Test.YtpedenbcfbflbaaWAt
import Derived.Test.YtpedenbcfbflbaaWEqStruct
import Derived.Test.YtpedenbcfbflbaaWRepsOne
import Derived.Test.YtpedenbcfbflbaaWInv
import Derived.Test.YtpedenbcfbflbaaWInvWords
import Derived.Test.YtpedenbcfbflbaaWGuard
import Derived.Test.YtpedenbcfbflbaaWNEv
import Derived.Test.YtpedenbcfbflbaaWMore
namespace Go.Proofs.Ytpedenbcfbflbaa.D
open Go.RowKit Go.Proofs.YtpedenbcfbflbaaW.PrintWords Go.Proofs.YtpedenbcfbflbaaW.PrintLast Go.Proofs.YtpedenbcfbflbaaW.PrintMore Go.Proofs.Ytpedenbcfbflbaa.L Go.Proofs.Ytpedenbcfbflbaa.PMarkMakes
attribute [local go_sem] max2_int min2_int max_two min_two max_three min_three max_four min_four   -- for this text's walks alone
set_option linter.unusedVariables false
set_option linter.unusedSimpArgs false



def errW : Option Int → Value
  | none => .nilIface
  | some c => .iface 0 (.int .i64 c)
theorem errW_none : errW none = .nilIface := rfl
theorem errW_some (c : Int) : errW (some c) = .iface 0 (.int .i64 c) := rfl

theorem info3 : (Try.prog.info? 3).map (fun i => (i.zero, i.size, i.bytes)) = some (some (.int .i64 0), 1, 8) := by kernel_rfl
-- the values' own types

end Go.Proofs.Ytpedenbcfbflbaa.D
