/- AtomMore: the walk and the plain law, joined. -/
import Derived.Test.YtippkbgeeeimjaaPLawMore
namespace Go.Proofs.Ytippkbgeeeimjaa.L
open Go.RowKit Go.Proofs.YtippkbgeeeimjaaW.PrintWords Go.Proofs.Ytippkbgeeeimjaa.A Go.Proofs.Ytippkbgeeeimjaa.P
set_option linter.unusedVariables false
theorem heap34 : Kd.Heap k34 := Kd.heap_iso _ (Kd.heap_pair (Kd.heap_int _) (Kd.heap_int _))
theorem heap35 : Kd.Heap (Kd.slice 34 k34) := Kd.heap_slice 34 heap34
theorem AtomMore_calls (A0 : Option Addr) (c0 : Nat) (l0 : List (List S34)) (A1 : Option Addr) (c1 : Nat) (l1 : List S34) (w : World) (w0 : X.SmallL l0) (hr0 : Kd.C (Kd.slice 34 k34) w A0 l0.length l0) (hc0 : l0.length ≤ c0) (hr1 : Kd.C k34 w A1 l1.length l1) (hc1 : l1.length ≤ c1) : Calls Try.prog 8 #[.slice A0 l0.length c0, .slice A1 l1.length c1] w fun e w' => e = .returned (.bool true) ∧ Below w.heap.size w w' := by
  obtain ⟨k, hk⟩ := (more_law l0 l1 w0).rounds
  exact AM.caesuralaw02_AtomMore.calls k (fun k => k < w.heap.size) A0 c0 l0 (fun k => k < w.heap.size) A1 c1 l1 true w (Kd.V_mk hc0 (Kd.C_F heap35 hr0)) (Kd.V_mk hc1 (Kd.C_F heap34 hr1)) hk ⟨rfl⟩
end Go.Proofs.Ytippkbgeeeimjaa.L
