/- Contracts by hand, in the print's shape. -/
import Derived.Test.YtippkbgeeeimjaaXEdges
import Derived.Test.YtippkbgeeeimjaaXHas
namespace Go.Proofs.Ytippkbgeeeimjaa.L
open Go.RowKit Go.Proofs.YtippkbgeeeimjaaW.PrintWords Go.Proofs.YtippkbgeeeimjaaW.PrintLast Go.Proofs.YtippkbgeeeimjaaW.PrintMore Go.Proofs.Ytippkbgeeeimjaa.A
set_option linter.unusedVariables false
def caesuraref01_Edges.f (l0 : List (List S34)) : Option (List Int) := if l0.length ≤ 100 then some (edgesF l0) else none
theorem caesuraref01_Edges.calls (A0 : Option Addr) (c0 : Nat) (l0 : List (List (S34))) (r : List Int) (w : World) (hr0 : Kd.C (Kd.slice 34 k34) w A0 l0.length l0) (hc0 : l0.length ≤ c0) (h : caesuraref01_Edges.f l0 = some r) :
    Calls Try.prog 66 #[.slice A0 l0.length c0] w fun e w' => ∃ v0_ : Value, e = .returned (v0_) ∧ Kd.R (Kd.int .i64) 3 w' w.heap.size (fun _ => True) v0_ r ∧ Below w.heap.size w w' := by
  unfold caesuraref01_Edges.f at h
  by_cases hz : l0.length ≤ 100
  · rw [if_pos hz] at h
    obtain rfl := Option.some.inj h
    exact edges_calls A0 c0 l0 w hr0 hc0 hz
  · rw [if_neg hz] at h
    cases h
end Go.Proofs.Ytippkbgeeeimjaa.L
