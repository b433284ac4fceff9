/- AtomWithin: the walk and the plain law, joined. -/
import Derived.Test.YtippkbgeeeimjaaPLawWithin
namespace Go.Proofs.Ytippkbgeeeimjaa.L
open Go.RowKit Go.Proofs.YtippkbgeeeimjaaW.PrintWords Go.Proofs.Ytippkbgeeeimjaa.A Go.Proofs.Ytippkbgeeeimjaa.P
set_option linter.unusedVariables false
theorem wf_u8 (n : Int) : (Lit.int .u8 n).wf = true ↔ 0 ≤ n ∧ n ≤ 255 := by
  show (decide (IntKind.u8.min ≤ n) && decide (n ≤ IntKind.u8.max)) = true ↔ _
  rw [show IntKind.u8.min = 0 by decide, show IntKind.u8.max = 255 by decide]
  simp
theorem AtomWithin_calls (A0 : Option Addr) (c0 : Nat) (l0 : List (List S34)) (a1 : Int) (w : World) (w0 : X.SmallL l0) (hr0 : Kd.C (Kd.slice 34 k34) w A0 l0.length l0) (hc0 : l0.length ≤ c0) (w1 : (Lit.int .u8 a1).wf = true) : Calls Try.prog 10 #[.slice A0 l0.length c0, .int .u8 a1] w fun e w' => e = .returned (.bool true) ∧ Below w.heap.size w w' := by
  obtain ⟨k, hk⟩ := (within_law l0 a1 ((wf_u8 a1).1 w1).1 ((wf_u8 a1).1 w1).2 w0).rounds
  exact AW.caesuralaw02_AtomWithin.calls k A0 c0 l0 a1 true w hr0 hc0 hk ⟨rfl⟩
end Go.Proofs.Ytippkbgeeeimjaa.L
