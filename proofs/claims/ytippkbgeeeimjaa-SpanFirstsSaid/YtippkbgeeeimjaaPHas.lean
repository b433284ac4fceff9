/- The document's Has, by hand's word. -/
import Derived.Test.YtippkbgeeeimjaaXBase
namespace Go.Proofs.Ytippkbgeeeimjaa.P
open Go.RowKit Go.Proofs.YtippkbgeeeimjaaW.PrintWords Go.Proofs.Ytippkbgeeeimjaa.A Go.Proofs.Ytippkbgeeeimjaa.L
set_option linter.unusedVariables false
set_option linter.unusedSimpArgs false
theorem ref_has (l : List S34) (c : Int) : Ev (fun k => caesuraref01_Has.f k l c) (hasF l c) := by
  have no : ∀ r : Bool, r = false → Ev (fun k => caesuraref01_Has.j0 k l c true) r := fun r hr => by
    rw [hr]
    exact Ev.step (f := fun _ => some false) (fun k => by rw [caesuraref01_Has.j0, if_pos rfl]) (Ev.now _)
  unfold caesuraref01_Has.f
  by_cases h1 : c < 0
  · exact ev_if h1 (no _ (by unfold hasF; rw [decide_eq_false (show ¬ 0 ≤ c by omega)]; rfl))
  refine ev_else h1 ?_
  by_cases h2 : c > 1114111
  · exact ev_if h2 (no _ (by unfold hasF; rw [decide_eq_false (show ¬ c ≤ 1114111 by omega), Bool.and_false]; rfl))
  refine ev_else h2 ?_
  have e : hasF l c = (decide (l.length ≤ 400) && Mem l c) := by
    unfold hasF hasB
    rw [decide_eq_true (show 0 ≤ c by omega), decide_eq_true (show c ≤ 1114111 by omega)]
    rfl
  rw [e]
  by_cases h3 : (l.length : Int) > 400
  · rw [decide_eq_true h3, decide_eq_false (show ¬ l.length ≤ 400 by omega)]
    exact no _ rfl
  rw [decide_eq_false h3, decide_eq_true (show l.length ≤ 400 by omega), Bool.true_and]
  refine Ev.step (fun k => by rw [caesuraref01_Has.j0, if_neg (by decide)]) ?_
  have main : ∀ d i : Nat, i + d = l.length → Ev (fun k => caesuraref01_Has.l0 k l c (i : Int)) (Mem (l.drop i) c) := by
    intro d
    induction d with
    | zero =>
      intro i h
      rw [List.drop_eq_nil_iff.2 (by omega)]
      exact Ev.step (f := fun _ => some false) (fun k => by rw [caesuraref01_Has.l0, if_neg (by omega)]) (Ev.now _)
    | succ d ih =>
      intro i h
      have hs := step_at (l := l) (i := (i : Int)) (by omega) (by omega)
      rw [Int.toNat_natCast, show ((i : Int) + 1).toNat = i + 1 from by omega] at hs
      have := ih (i + 1) (by omega)
      rw [show ((i + 1 : Nat) : Int) = (i : Int) + 1 from by omega] at this
      rw [hs]
      have hm : Mem (rd_T34 l i :: l.drop (i + 1)) c = (inR (rd_T34 l i) c || Mem (l.drop (i + 1)) c) := by simp [Mem]
      rw [hm]
      refine Ev.step (fun k => by rw [caesuraref01_Has.l0, if_pos (show (i : Int) < (l.length : Int) by omega), if_pos (show 0 ≤ (i : Int) by omega), w64 (n := (i : Int) + 1) (by omega) (by omega)]) ?_
      by_cases q1 : c ≥ (rd_T34 l i).f0
      · refine ev_if q1 ?_
        by_cases q2 : c ≤ (rd_T34 l i).f1
        · rw [inR_iff.2 ⟨q1, q2⟩, Bool.true_or]
          exact ev_if q2 (Ev.now _)
        · have : inR (rd_T34 l i) c = false := by simp [inR]; omega
          rw [this, Bool.false_or]
          exact ev_else q2 (by assumption)
      · have : inR (rd_T34 l i) c = false := by simp [inR]; omega
        rw [this, Bool.false_or]
        exact ev_else q1 (by assumption)
  exact main l.length 0 (by omega)
theorem ref_has_calls (A0 : Option Addr) (c0 : Nat) (l0 : List S34) (a1 : Int) (w : World) (hr0 : Kd.C k34 w A0 l0.length l0) (hc0 : l0.length ≤ c0) :
    Calls Try.prog 25 #[.slice A0 l0.length c0, .int .i64 a1] w fun e w' => e = .returned (.bool (hasF l0 a1)) ∧ Drawn0 w w' := by
  obtain ⟨k, hk⟩ := (ref_has l0 a1).rounds
  exact caesuraref01_Has.calls k A0 c0 l0 a1 _ w hr0 hc0 hk
end Go.Proofs.Ytippkbgeeeimjaa.P
