/- calc.Not's contract, whatever it is asked; small words for walks. -/
import Derived.Test.YtpedenbcfbflbaaYN
namespace Go.Proofs.Ytpedenbcfbflbaa.X
open Go.RowKit Go.Proofs.YtpedenbcfbflbaaW.PrintWords Go.Proofs.YtpedenbcfbflbaaW.PrintLast Go.Proofs.YtpedenbcfbflbaaW.PrintMore Go.Maps Num
set_option linter.unusedVariables false
set_option linter.unusedSimpArgs false

theorem calc_not_got (s : Int) (A : Option Addr) (c : Nat) (n : List (List Int)) (B : Option Addr) (d : Nat) (e : List Bool) (w : World) (g : Got 0 A c n B d e w) (r1 : Int) (r2 : List (List Int)) (r3 : List Bool) (r4 : Int) (h : notF s n e = (r1, r2, r3, r4)) :
    Calls Try.prog 38 #[.agg #[.int .i64 s, .slice A n.length c, .slice B e.length d]] w
      fun e_ w' => ∃ A1 c1 B1 d1, e_ = .returned (.tuple #[.agg #[.int .i64 r1, .slice A1 r2.length c1, .slice B1 r3.length d1], .int .i64 r4]) ∧ Got 0 A1 c1 r2 B1 d1 r3 w' ∧ Below w.heap.size w w' := by
  cases hr : rightB s n e with
  | true =>
    unfold notF at h
    rw [hr, if_pos rfl] at h
    simp only [Prod.mk.injEq] at h
    obtain ⟨rfl, rfl, rfl, rfl⟩ := h
    refine (X.calc_not s A c n B d e w g.n2 g.n1 g.e2 g.e1 hr).mono ?_
    rintro e_ w' ⟨v2, rfl, hR, hB⟩
    obtain ⟨B1, d1, rfl⟩ := Kd.R_slice hR
    exact ⟨A, c, B1, d1, rfl, ⟨g.n1, Kd.C_below g.n2 hB, (Kd.R_reads' hR).2.1, (Kd.R_reads' hR).2.2⟩, hB⟩
  | false =>
    unfold notF at h
    rw [hr, if_neg (by simp)] at h
    simp only [Prod.mk.injEq] at h
    obtain ⟨rfl, rfl, rfl, rfl⟩ := h
    refine (X.calc_not_bad s A c n B d e w g.n2 g.n1 g.e2 g.e1 hr).mono ?_
    rintro e_ w' ⟨rfl, hB⟩
    exact ⟨none, 0, none, 0, rfl, ⟨Nat.le_refl _, Kd.C_nil _ _, Nat.le_refl _, Kd.C_nil _ _⟩, hB⟩
end Go.Proofs.Ytpedenbcfbflbaa.X
