/- AtomParts: the walk and the plain law, joined. -/
import Derived.Test.YtippkbgeeeimjaaPLawParts
namespace Go.Proofs.Ytippkbgeeeimjaa.L
open Go.RowKit Go.Proofs.YtippkbgeeeimjaaW.PrintWords Go.Proofs.Ytippkbgeeeimjaa.A Go.Proofs.Ytippkbgeeeimjaa.P
set_option linter.unusedVariables false
theorem AtomParts_calls (A0 : Option Addr) (c0 : Nat) (l0 : List (List S34)) (a1 : Int) (a2 : Int) (w : World) (w0 : X.SmallL l0) (hr0 : Kd.C (Kd.slice 34 k34) w A0 l0.length l0) (hc0 : l0.length ≤ c0) : Calls Try.prog 7 #[.slice A0 l0.length c0, .int .i64 a1, .int .i64 a2] w fun e w' => e = .returned (.bool true) ∧ Below w.heap.size w w' := by
  obtain ⟨k, hk⟩ := (parts_law l0 a1 a2 w0).rounds
  exact AP.caesuralaw02_AtomParts.calls k A0 c0 l0 a1 a2 true w hr0 hc0 hk ⟨rfl⟩
end Go.Proofs.Ytippkbgeeeimjaa.L
