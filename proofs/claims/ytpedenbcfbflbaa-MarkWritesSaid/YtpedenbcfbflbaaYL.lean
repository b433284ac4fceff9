/- The contracts that the laws' printed bodies call for, in the print's own shape. -/
import Derived.Test.YtpedenbcfbflbaaYD
namespace Go.Proofs.Ytpedenbcfbflbaa.L
set_option linter.unusedVariables false
open Go.RowKit Go.Proofs.YtpedenbcfbflbaaW.PrintWords Go.Proofs.Ytpedenbcfbflbaa.X

def mark_Of.f (a0_0 : Int) (l0_1 : List (List Int)) (l0_2 : List Bool) (a1_0 : Int) (l1_1 : List (List Int)) (l1_2 : List Bool) (a2 : Int) : Option (Int × (List (List Int)) × List Bool × Int) := some (markF a0_0 l0_1 l0_2 a1_0 l1_1 l1_2 a2)
theorem mark_Of.calls (a0_0 : Int) (A0_1 : Option Addr) (c0_1 : Nat) (l0_1 : List (List Int)) (A0_2 : Option Addr) (c0_2 : Nat) (l0_2 : List Bool) (a1_0 : Int) (A1_1 : Option Addr) (c1_1 : Nat) (l1_1 : List (List Int)) (A1_2 : Option Addr) (c1_2 : Nat) (l1_2 : List Bool) (a2 : Int) (r1 : Int) (r2 : List (List Int)) (r3 : List Bool) (r4 : Int) (w : World) (hr0_1 : Kd.C (Kd.slice 3 (Kd.int .i64)) w A0_1 l0_1.length l0_1) (hc0_1 : l0_1.length ≤ c0_1) (hr0_2 : Kd.C Kd.bool w A0_2 l0_2.length l0_2) (hc0_2 : l0_2.length ≤ c0_2) (hr1_1 : Kd.C (Kd.slice 3 (Kd.int .i64)) w A1_1 l1_1.length l1_1) (hc1_1 : l1_1.length ≤ c1_1) (hr1_2 : Kd.C Kd.bool w A1_2 l1_2.length l1_2) (hc1_2 : l1_2.length ≤ c1_2) (h : mark_Of.f a0_0 l0_1 l0_2 a1_0 l1_1 l1_2 a2 = some (r1, r2, r3, r4)) :
    Calls Try.prog 14 #[.agg #[.int .i64 a0_0, .slice A0_1 l0_1.length c0_1, .slice A0_2 l0_2.length c0_2], .agg #[.int .i64 a1_0, .slice A1_1 l1_1.length c1_1, .slice A1_2 l1_2.length c1_2], .int .i64 a2] w fun e w' => ∃ v1_ v2_ : Value, e = .returned (.tuple #[.agg #[.int .i64 r1, v1_, v2_], .int .i64 r4]) ∧ Kd.S (Kd.slice 3 (Kd.int .i64)) 33 w' w.heap.size (fun k_ => some k_ ≠ (v2_ : Value).ownBlock) v1_ r2 ∧ Kd.R Kd.bool 4 w' w.heap.size (fun k_ => True) v2_ r3 ∧ Below w.heap.size w w' :=
  X.mark_of a0_0 A0_1 c0_1 l0_1 A0_2 c0_2 l0_2 a1_0 A1_1 c1_1 l1_1 A1_2 c1_2 l1_2 a2 w hr0_1 hc0_1 hr0_2 hc0_2 hr1_1 hc1_1 hr1_2 hc1_2 r1 r2 r3 r4 (Option.some.inj h)

def rightx.f (a0_0 : Int) (l0_1 : List (List Int)) (l0_2 : List Bool) : Option (Bool) := some (rightB a0_0 l0_1 l0_2)
theorem rightx.calls (a0_0 : Int) (A0_1 : Option Addr) (c0_1 : Nat) (l0_1 : List (List Int)) (A0_2 : Option Addr) (c0_2 : Nat) (l0_2 : List Bool) (r : Bool) (w : World) (hr0_1 : Kd.C (Kd.slice 3 (Kd.int .i64)) w A0_1 l0_1.length l0_1) (hc0_1 : l0_1.length ≤ c0_1) (hr0_2 : Kd.C Kd.bool w A0_2 l0_2.length l0_2) (hc0_2 : l0_2.length ≤ c0_2) (h : rightx.f a0_0 l0_1 l0_2 = some r) :
    Calls Try.prog 24 #[.agg #[.int .i64 a0_0, .slice A0_1 l0_1.length c0_1, .slice A0_2 l0_2.length c0_2]] w fun e w' => e = .returned (.bool r) ∧ Below w.heap.size w w' := by
  obtain ⟨k, hk⟩ := right_f a0_0 l0_1 l0_2
  exact PMarkMakes.caesuraref15_Right.calls k a0_0 A0_1 c0_1 l0_1 A0_2 c0_2 l0_2 r w hr0_1 hc0_1 hr0_2 hc0_2 (hk.trans h)

def mark_One.f (a0 : Int) : Option (Int × (List (List Int)) × List Bool × Int) := some (oneF a0)
theorem mark_One.calls (a0 : Int) (r1 : Int) (r2 : List (List Int)) (r3 : List Bool) (r4 : Int) (w : World) (h : mark_One.f a0 = some (r1, r2, r3, r4)) :
    Calls Try.prog 19 #[.int .i64 a0] w fun e w' => ∃ v1_ v2_ : Value, e = .returned (.tuple #[.agg #[.int .i64 r1, v1_, v2_], .int .i64 r4]) ∧ Kd.S (Kd.slice 3 (Kd.int .i64)) 33 w' w.heap.size (fun k_ => some k_ ≠ (v2_ : Value).ownBlock) v1_ r2 ∧ Kd.R Kd.bool 4 w' w.heap.size (fun k_ => True) v2_ r3 ∧ Below w.heap.size w w' :=
  X.mark_one a0 w r1 r2 r3 r4 (Option.some.inj h)
def caesuralaw19_alive.f : Option Bool := some true
theorem caesuralaw19_alive.calls (r : Bool) (w : World) (h : caesuralaw19_alive.f = some r) : Calls Try.prog 12 #[] w fun e w' => e = .returned (.bool r) ∧ Below w.heap.size w w' := by
  cases h
  exact X.alive12 w
end Go.Proofs.Ytpedenbcfbflbaa.L
