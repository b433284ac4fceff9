/- span's rules; what orders steps. -/
import Derived.Test.YtippkbgeeeimjaaXTell
import Derived.Lib.Hide
namespace Go.Proofs.Ytippkbgeeeimjaa.L
open Go.RowKit Go.Proofs.YtippkbgeeeimjaaW.PrintWords Go.Proofs.YtippkbgeeeimjaaW.PrintLast Go.Proofs.YtippkbgeeeimjaaW.PrintMore Go.Proofs.Ytippkbgeeeimjaa.A
set_option linter.unusedVariables false
set_option linter.unusedSimpArgs false
theorem rule_or (x y : Bool) (W : World) : Calls Try.prog 43 #[.bool x, .bool y] W fun e w' => e = .returned (.bool (x || y)) ∧ w' = W := by
  cases x <;> cases y <;> (go_enter Try.func43, Try.ntmps43; go_wp2_with fail; go_ret; exact ⟨rfl, rfl⟩)
theorem rule_and (x y : Bool) (W : World) : Calls Try.prog 45 #[.bool x, .bool y] W fun e w' => e = .returned (.bool (x && y)) ∧ w' = W := by
  cases x <;> cases y <;> (go_enter Try.func45, Try.ntmps45; go_wp2_with fail; go_ret; exact ⟨rfl, rfl⟩)
theorem rule_less (x y : Bool) (W : World) : Calls Try.prog 46 #[.bool x, .bool y] W fun e w' => e = .returned (.bool (x && !y)) ∧ w' = W := by
  cases x <;> cases y <;> (go_enter Try.func46, Try.ntmps46; go_wp2_with fail; go_ret; exact ⟨rfl, rfl⟩)
theorem rule_not (x y : Bool) (W : World) : Calls Try.prog 47 #[.bool x, .bool y] W fun e w' => e = .returned (.bool (!x)) ∧ w' = W := by
  cases x <;> cases y <;> (go_enter Try.func47, Try.ntmps47; go_wp2_with fail; go_ret; exact ⟨rfl, rfl⟩)
theorem nan (x : Int) (W : World) : Calls Try.prog 71 #[.int .i64 x] W fun e w' => e = .returned (.bool false) ∧ w' = W := by
  have h : (x != x) = false := by simp
  go_enter Try.func71, Try.ntmps71
  go_wp2_with fail
  go_ret
  exact ⟨rfl, rfl⟩
def cmpI (x y : Int) : Int := if x < y then -1 else if y < x then 1 else 0
theorem cmp_int (x y : Int) (W : World) : Calls Try.prog 57 #[.int .i64 x, .int .i64 y] W fun e w' => e = .returned (.int .i64 (cmpI x y)) ∧ w' = W := by
  unfold cmpI
  by_cases h1 : x < y
  · rw [if_pos h1]
    have b1 : decide (x < y) = true := decide_eq_true h1
    clear h1
    go_enter Try.func57, Try.ntmps57
    go_wp2_with fail
    refine (nan _ _).mono ?_
    rintro e w' ⟨rfl, rfl⟩
    go_wp2_with fail
    refine (nan _ _).mono ?_
    rintro e w2 ⟨rfl, rfl⟩
    go_wp2_with fail
    go_ret
    exact ⟨rfl, rfl⟩
  · rw [if_neg h1]
    have b1 : decide (x < y) = false := decide_eq_false h1
    clear h1
    by_cases h2 : y < x
    · rw [if_pos h2]
      have b2 : decide (y < x) = true := decide_eq_true h2
      clear h2
      go_enter Try.func57, Try.ntmps57
      go_wp2_with fail
      refine (nan _ _).mono ?_
      rintro e w' ⟨rfl, rfl⟩
      go_wp2_with fail
      refine (nan _ _).mono ?_
      rintro e w2 ⟨rfl, rfl⟩
      go_wp2_with fail
      go_ret
      exact ⟨rfl, rfl⟩
    · rw [if_neg h2]
      have b2 : decide (y < x) = false := decide_eq_false h2
      clear h2
      go_enter Try.func57, Try.ntmps57
      go_wp2_with fail
      refine (nan _ _).mono ?_
      rintro e w' ⟨rfl, rfl⟩
      go_wp2_with fail
      refine (nan _ _).mono ?_
      rintro e w2 ⟨rfl, rfl⟩
      go_wp2_with fail
      go_ret
      exact ⟨rfl, rfl⟩
/-- span.sweep's order of steps: two boxes are made. -/
theorem cmp_step (x y : S68) (W : World) : Calls Try.prog 64 #[.agg #[.int .i64 x.f0, .int .i64 x.f1, .int .i64 x.f2], .agg #[.int .i64 y.f0, .int .i64 y.f1, .int .i64 y.f2]] W fun e w' => e = .returned (.int .i64 (cmpI x.f0 y.f0)) ∧ w' = (W.alloc (.cells #[.int .i64 x.f0, .int .i64 x.f1, .int .i64 x.f2] 68)).alloc (.cells #[.int .i64 y.f0, .int .i64 y.f1, .int .i64 y.f2] 68) := by
  have hc := fun W' => cmp_int x.f0 y.f0 W'
  generalize cmpI x.f0 y.f0 = r at hc ⊢
  have HC := Aside0.mk hc
  clear hc
  go_enter Try.func64, Try.ntmps64
  go_wp2_with fail
  refine (HC.out _).mono ?_
  rintro e w' ⟨rfl, rfl⟩
  go_wp2_with fail
  go_ret
  exact ⟨rfl, rfl⟩
end Go.Proofs.Ytippkbgeeeimjaa.L
