import Derived.Test.YtpedenbcfbflbaaXRight
import Derived.Maps.OwnSet
import Derived.DeepKeys4
import Derived.WideKeyPair
namespace Go.Proofs.Ytpedenbcfbflbaa.X
open Go.RowKit Go.Proofs.YtpedenbcfbflbaaW.PrintWords Go.Proofs.YtpedenbcfbflbaaW.PrintLast Go.Proofs.YtpedenbcfbflbaaW.PrintMore Go.Maps
set_option linter.unusedVariables false

theorem laidOut : laidOutB Try.prog = true := by kernel_rfl
theorem tsize : ∃ m, Try.prog.types.size = m + 1 := ⟨Try.prog.types.size - 1, by kernel_rfl⟩
theorem law82 : Keyed Try.prog 82 := Keyed.of_law (deep_law_laid laidOut (m := 5) (by omega) (of_decide_eq_true (by kernel_rfl)) (by kernel_rfl) (by kernel_rfl))
theorem law55 : Keyed Try.prog 55 := Keyed.of_law (deep_law_laid laidOut (m := 5) (by omega) (of_decide_eq_true (by kernel_rfl)) (by kernel_rfl) (by kernel_rfl))
theorem key82 {a b : Int} (wa : (Lit.int .i64 a).wf = true) (wb : (Lit.int .i64 b).wf = true) : ∃ kl, keyOf Try.prog 82 (.agg #[.int .i64 a, .int .i64 b]) = some kl := by
  have h1 : Try.prog.keyType 82 = true := by kernel_rfl
  have h2 : ∀ a b : Int, Value.formed Try.prog 82 (.agg #[.int .i64 a, .int .i64 b]) = true := fun a b => by kernel_rfl
  obtain ⟨m, hm⟩ := tsize
  have hc : Try.prog.cellsOf 82 = 2 := by kernel_rfl
  have hc3 : Try.prog.cellsOf 3 = 1 := by kernel_rfl
  refine ⟨.string (keyBytes [.int .i64 a, .int .i64 b]), ?_⟩
  unfold keyOf
  simp only [Try.underlying82, h1, h2, Bool.and_self, if_true]
  rw [hm]
  unfold Program.keyLits
  simp only [Try.underlying82, Value.cells]
  rw [if_pos (by rw [hc]; rfl), show List.range 2 = [0, 1] from rfl, List.mapM_cons, List.mapM_cons, List.mapM_nil]
  simp [hc3, Program.keyLits, Try.underlying3, wa, wb]
theorem key55 {a b : Int} (wa : (Lit.int .i64 a).wf = true) (wb : (Lit.int .i64 b).wf = true) : ∃ kl, keyOf Try.prog 55 (.agg #[.int .i64 a, .int .i64 b]) = some kl := by
  have h1 : Try.prog.keyType 55 = true := by kernel_rfl
  have h2 : ∀ a b : Int, Value.formed Try.prog 55 (.agg #[.int .i64 a, .int .i64 b]) = true := fun a b => by kernel_rfl
  obtain ⟨m, hm⟩ := tsize
  have hc : Try.prog.cellsOf 55 = 2 := by kernel_rfl
  have hc3 : Try.prog.cellsOf 3 = 1 := by kernel_rfl
  refine ⟨.string (keyBytes [.int .i64 a, .int .i64 b]), ?_⟩
  unfold keyOf
  simp only [Try.underlying55, h1, h2, Bool.and_self, if_true]
  rw [hm]
  unfold Program.keyLits
  simp only [Try.underlying55, Value.cells]
  rw [if_pos ⟨by rw [hc]; rfl, by kernel_rfl⟩, List.mapM_cons, List.mapM_cons, List.mapM_nil]
  simp [hc3, Program.keyLits, Try.underlying3, wa, wb]
theorem wf_of {x : Int} (h0 : 0 ≤ x) (h1 : x ≤ 9223372036854775807) : (Lit.int .i64 x).wf = true := WalkArith.wf_i64 (by omega)

end Go.Proofs.Ytpedenbcfbflbaa.X
