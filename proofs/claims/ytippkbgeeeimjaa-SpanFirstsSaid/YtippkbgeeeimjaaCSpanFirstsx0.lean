-- Printed by a program of this session (over the kit's print).
import Derived.Test.YtippkbgeeeimjaaProg
import Derived.Test.YtippkbgeeeimjaaXLone
import Derived.Below
import Derived.Deep.Draws
import Derived.Deep.AppendLies
import Derived.Maps.AppendAt
import Derived.OwnWalk
import Derived.Laws.BytesArg
import Derived.Laws.MakeOwn
import Derived.Laws.OwnMore
import Derived.Deep.OwnRows
import Derived.Tactics
import Derived.Lib.ConvBytes
import Derived.Laws.Slices
import Derived.WalkKit
import Derived.KernelRfl
import Derived.RowKit3
import Derived.Deep.LoopGhost
import Derived.Deep.QuietTactic
import Derived.BigQuiet
import Derived.WideLaws
import Derived.Deep.DeepCutAuto
import Derived.Deep.CutBlock
import Derived.Deep.RegionHeld3
import Derived.Laws.Rows
import Derived.Lib.AppendStr
import Derived.ArgAppend
import Derived.Laws.IdiomCopy
import Derived.OrdersHeld
import Derived.Laws.BitsLemmas
import Derived.RowKit
import Derived.Test.YtippkbgeeeimjaaWWords
import Derived.Test.YtippkbgeeeimjaaWLast
import Derived.Test.YtippkbgeeeimjaaWTab
import Derived.Test.YtippkbgeeeimjaaWFour
import Derived.Test.YtippkbgeeeimjaaWQPut
import Derived.Test.YtippkbgeeeimjaaWApart
import Derived.Test.YtippkbgeeeimjaaWArr
import Derived.Test.YtippkbgeeeimjaaWZeros
import Derived.Test.YtippkbgeeeimjaaWFoot
import Derived.Test.YtippkbgeeeimjaaWKept
import Derived.Test.YtippkbgeeeimjaaWShare
import Derived.Test.YtippkbgeeeimjaaWN
import Derived.Test.YtippkbgeeeimjaaWFootNe
import Derived.Test.YtippkbgeeeimjaaWAt
import Derived.Test.YtippkbgeeeimjaaWEqStruct
import Derived.Test.YtippkbgeeeimjaaWRepsOne
import Derived.Test.YtippkbgeeeimjaaWInv
import Derived.Test.YtippkbgeeeimjaaWInvWords
import Derived.Test.YtippkbgeeeimjaaWGuard
import Derived.Test.YtippkbgeeeimjaaWNEv
import Derived.Test.YtippkbgeeeimjaaWMore
namespace Go.Proofs.Ytippkbgeeeimjaa.CSpanFirsts
open Go.RowKit Go.Proofs.YtippkbgeeeimjaaW.PrintWords Go.Proofs.YtippkbgeeeimjaaW.PrintLast Go.Proofs.YtippkbgeeeimjaaW.PrintMore Go.Proofs.Ytippkbgeeeimjaa.A Go.Proofs.Ytippkbgeeeimjaa.L Go.Proofs.Ytippkbgeeeimjaa.B
attribute [local go_sem] max2_int min2_int max_two min_two max_three min_three max_four min_four   -- for this text's walks alone
set_option linter.unusedVariables false
set_option linter.unusedSimpArgs false



def errW : Option Int → Value
  | none => .nilIface
  | some c => .iface 0 (.int .i64 c)
theorem errW_none : errW none = .nilIface := rfl
theorem errW_some (c : Int) : errW (some c) = .iface 0 (.int .i64 c) := rfl

theorem info34 : (Try.prog.info? 34).map (fun i => (i.zero, i.size, i.bytes)) = some (some (.agg #[(.int .i64 0), (.int .i64 0)]), 2, 16) := by kernel_rfl
-- the values' own types

end Go.Proofs.Ytippkbgeeeimjaa.CSpanFirsts
