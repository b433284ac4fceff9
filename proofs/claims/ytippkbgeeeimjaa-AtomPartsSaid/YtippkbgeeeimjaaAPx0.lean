-- Printed by a program of this session (over the kit's print).
import Derived.Test.YtippkbgeeeimjaaProg
import Derived.Test.YtippkbgeeeimjaaZE
import Derived.Test.YtippkbgeeeimjaaZD
import Derived.Below
import Derived.Deep.Draws
import Derived.Deep.AppendLies
import Derived.Maps.AppendAt
import Derived.OwnWalk
import Derived.Laws.BytesArg
import Derived.Laws.MakeOwn
import Derived.Laws.OwnMore
import Derived.Deep.OwnRows
import Derived.Tactics
import Derived.Lib.ConvBytes
import Derived.Laws.Slices
import Derived.WalkKit
import Derived.KernelRfl
import Derived.RowKit3
import Derived.Deep.LoopGhost
import Derived.Deep.QuietTactic
import Derived.BigQuiet
import Derived.WideLaws
import Derived.Deep.DeepCutAuto
import Derived.Deep.CutBlock
import Derived.Deep.RegionHeld3
import Derived.Laws.Rows
import Derived.Lib.AppendStr
import Derived.ArgAppend
import Derived.Laws.IdiomCopy
import Derived.OrdersHeld
import Derived.Laws.BitsLemmas
import Derived.RowKit
import Derived.Test.YtippkbgeeeimjaaWWords
import Derived.Test.YtippkbgeeeimjaaWLast
import Derived.Test.YtippkbgeeeimjaaWTab
import Derived.Test.YtippkbgeeeimjaaWFour
import Derived.Test.YtippkbgeeeimjaaWQPut
import Derived.Test.YtippkbgeeeimjaaWApart
import Derived.Test.YtippkbgeeeimjaaWArr
import Derived.Test.YtippkbgeeeimjaaWZeros
import Derived.Test.YtippkbgeeeimjaaWFoot
import Derived.Test.YtippkbgeeeimjaaWKept
import Derived.Test.YtippkbgeeeimjaaWShare
import Derived.Test.YtippkbgeeeimjaaWN
import Derived.Test.YtippkbgeeeimjaaWFootNe
import Derived.Test.YtippkbgeeeimjaaWAt
import Derived.Test.YtippkbgeeeimjaaWEqStruct
import Derived.Test.YtippkbgeeeimjaaWRepsOne
import Derived.Test.YtippkbgeeeimjaaWInv
import Derived.Test.YtippkbgeeeimjaaWInvWords
import Derived.Test.YtippkbgeeeimjaaWGuard
import Derived.Test.YtippkbgeeeimjaaWNEv
import Derived.Test.YtippkbgeeeimjaaWMore
namespace Go.Proofs.Ytippkbgeeeimjaa.AP
open Go.RowKit Go.Proofs.YtippkbgeeeimjaaW.PrintWords Go.Proofs.YtippkbgeeeimjaaW.PrintLast Go.Proofs.YtippkbgeeeimjaaW.PrintMore Go.Proofs.Ytippkbgeeeimjaa.A Go.Proofs.Ytippkbgeeeimjaa.L Go.Proofs.Ytippkbgeeeimjaa.B Go.Proofs.Ytippkbgeeeimjaa.D
attribute [local go_sem] max2_int min2_int max_two min_two max_three min_three max_four min_four   -- for this text's walks alone
set_option linter.unusedVariables false
set_option linter.unusedSimpArgs false



def errW : Option Int → Value
  | none => .nilIface
  | some c => .iface 0 (.int .i64 c)
theorem errW_none : errW none = .nilIface := rfl
theorem errW_some (c : Int) : errW (some c) = .iface 0 (.int .i64 c) := rfl

theorem info34 : (Try.prog.info? 34).map (fun i => (i.zero, i.size, i.bytes)) = some (some (.agg #[(.int .i64 0), (.int .i64 0)]), 2, 16) := by kernel_rfl
-- the values' own types

def rd_L2 (xs : List (List S34)) (i : Int) : (List S34) := xs.getD i.toNat ([] : List S34)
theorem at_L2 {w : World} {A : Option Addr} {n : Nat} {xs : List (List S34)} (h : Kd.C (Kd.slice 34 k34) w A n xs) (i : Int) (h0 : 0 ≤ i) (h1 : i < n) : ∃ ad A0 c0, A = some ad ∧ w.cell? (ad.add i.toNat) = some (.slice A0 (rd_L2 xs i).length c0) ∧ (rd_L2 xs i).length ≤ c0 ∧ k34.C w A0 (rd_L2 xs i).length (rd_L2 xs i) := by
  obtain ⟨ad, c, e, _, hK, hc0⟩ := Kd.C_get h ([] : List S34) i h0 h1
  have hc : ∀ j u, c[j]? = some u → w.cell? (ad.add (i.toNat * 1 + j)) = some u := hc0
  obtain ⟨A0, c0, rfl, l0, g0⟩ := hK
  exact ⟨ad, A0, c0, e, by have hq := hc 0 _ rfl; rwa [Nat.mul_one, Nat.add_zero] at hq, l0, g0⟩

end Go.Proofs.Ytippkbgeeeimjaa.AP
