/- SpanFirsts: the plain law over the print. -/
import Derived.Test.YtippkbgeeeimjaaCSpanFirstsx1
import Derived.Test.YtippkbgeeeimjaaXSet
namespace Go.Proofs.Ytippkbgeeeimjaa.L
open Go.RowKit Go.Proofs.YtippkbgeeeimjaaW.PrintWords Go.Proofs.YtippkbgeeeimjaaW.PrintLast Go.Proofs.YtippkbgeeeimjaaW.PrintMore Go.Proofs.Ytippkbgeeeimjaa.A Go.Proofs.Ytippkbgeeeimjaa.P Go.Proofs.Ytippkbgeeeimjaa.B Go.Proofs.Ytippkbgeeeimjaa.CSpanFirsts
set_option linter.unusedVariables false
set_option linter.unusedSimpArgs false
theorem cnt_del {P Q : Int → Bool} {f : Int} (h0 : 0 ≤ f) (hP : P f = true) : ∀ n : Nat, n ≤ 1114112 → (∀ c, 0 ≤ c → c ≤ 1114111 → Q c = (P c && !decide (c = f))) → cnt Q n = cnt P n - if f < (n : Int) then 1 else 0
  | 0, _, _ => by rw [if_neg (by omega)]; rfl
  | n + 1, hn, h => by
    have ih := cnt_del h0 hP n (by omega) h
    rw [cnt, cnt, ih, h n (by omega) (by omega)]
    by_cases e : (n : Int) = f
    · rw [e, hP, decide_eq_true rfl]
      rw [if_neg (show ¬ f < f by omega), if_pos (show f < ((n + 1 : Nat) : Int) by omega)]
      simp
    · rw [decide_eq_false e]
      by_cases e2 : f < (n : Int)
      · rw [if_pos e2, if_pos (show f < ((n + 1 : Nat) : Int) by omega)]
        cases P (n : Int) <;> simp
      · rw [if_neg e2, if_neg (show ¬ f < ((n + 1 : Nat) : Int) by omega)]
        cases P (n : Int) <;> simp
theorem one_size {f : Int} (h0 : 0 ≤ f) (h1 : f ≤ 1114111) : sizeF [⟨f, f⟩] = 1 := by
  have e : plF [⟨f, f⟩] = [⟨f, f⟩] := by
    rw [plF_eq]
    refine canon_lit ⟨⟨fun r hr => ?_, by simp⟩, fun c _ _ => ?_⟩
    · rw [List.mem_singleton] at hr
      subst hr
      exact ⟨h0, Int.le_refl _, (show f < 1114112 by omega)⟩
    · simp [hasB]
  rw [← sizeF_eq, e]
  show (f - f + 1) + 0 = 1
  omega
theorem none_of {l : List S34} (e : plF l = []) {c : Int} (h0 : 0 ≤ c) (h1 : c ≤ 1114111) : hasB l c = false := by
  rw [plF_eq] at e
  rw [← canon_mem (hasB l) h0 h1, e]
  rfl
theorem first_of {l t : List S34} {r : S34} (e : plF l = r :: t) : 0 ≤ r.f0 ∧ r.f0 ≤ 1114111 ∧ hasB l r.f0 = true ∧ ∀ c, 0 ≤ c → c < r.f0 → hasB l c = false := by
  rw [plF_eq] at e
  have hs := canon_spec (hasB l)
  rw [e] at hs
  have hr := hs.1.1 r (List.mem_cons_self ..)
  refine ⟨hr.1, by omega, ?_, fun c h0 h1 => ?_⟩
  · rw [← hs.2 r.f0 hr.1 (by omega)]
    exact mem_iff.2 ⟨r, List.mem_cons_self .., Int.le_refl _, hr.2.1⟩
  · rw [← hs.2 c h0 (by omega)]
    cases hq : Mem (r :: t) c with
    | false => rfl
    | true =>
      obtain ⟨s, hs', k1, k2⟩ := mem_iff.1 hq
      rcases List.mem_cons.1 hs' with rfl | hs'
      · omega
      · have := (List.pairwise_cons.1 hs.1.2).1 s hs'
        omega
theorem has_range {l : List S34} {c : Int} (h : 0 ≤ c → c ≤ 1114111 → hasB l c = false) : hasF l c = false := by
  unfold hasF
  by_cases h0 : 0 ≤ c
  · by_cases h1 : c ≤ 1114111
    · rw [h h0 h1, Bool.and_false]
    · rw [decide_eq_false h1, Bool.and_false, Bool.false_and]
  · rw [decide_eq_false h0, Bool.false_and, Bool.false_and]
theorem firsts_ev (l : List S34) (c : Int) : Ev (fun k => caesuralaw01_SpanFirsts.f k l c) true := by
  unfold caesuralaw01_SpanFirsts.f
  simp only [caesuralaw01_alive.f, Option.bind_some, if_true, span_Has.f, span_Less.f]
  by_cases hl : (l.length : Int) > 300
  · exact ev_if hl (Ev.now _)
  refine ev_else hl ?_
  refine Ev.bind (span_first l) ?_
  cases e : plF l with
  | nil =>
    have ef : firstF l = -1 := by unfold firstF; rw [e]; rfl
    rw [ef]
    refine ev_if (by decide) (ev_if rfl ?_)
    refine Ev.bind (span_size l) ?_
    have es : sizeF l = 0 := by rw [← sizeF_eq, e]; rfl
    refine ev_if es ?_
    rw [has_range fun h0 h1 => none_of e h0 h1]
    exact Ev.now _
  | cons r t =>
    have ef : firstF l = r.f0 := by unfold firstF; rw [e]; rfl
    obtain ⟨h0, h1, h2, h3⟩ := first_of e
    rw [ef]
    generalize r.f0 = f at *
    have hf : hasF l f = true := by unfold hasF; rw [decide_eq_true h0, decide_eq_true h1, h2]; rfl
    have hs : sizeF (lessF l [⟨f, f⟩]) = wrap64 (sizeF l - 1) := by
      have hr := cnt_rng (hasB l) 1114112
      rw [show sizeF l = cnt (hasB l) 1114112 from rfl, w64 (by omega) (by omega)]
      have := cnt_del (P := hasB l) (Q := hasB (lessF l [⟨f, f⟩])) h0 h2 1114112 (Nat.le_refl _) fun c c0 c1 => by
        rw [has_less (by rw [List.length_singleton]; omega) c0 c1]
        congr 2
        unfold hasB
        rw [mem_one, Bool.eq_iff_iff]
        simp [inR]
        omega
      rw [if_pos (by omega)] at this
      exact this
    refine ev_else (by omega) ?_
    refine ev_if hf ?_
    by_cases hc : c ≥ f
    · refine ev_if hc ?_
      refine Ev.bind (span_size _) ?_
      refine Ev.bind (span_size _) ?_
      refine ev_if hs ?_
      refine Ev.bind (span_size _) ?_
      rw [one_size h0 h1]
      exact Ev.now _
    · refine ev_else hc ?_
      rw [has_range fun c0 _ => h3 c c0 (by omega)]
      refine ev_else (by decide) ?_
      refine Ev.bind (span_size _) ?_
      refine Ev.bind (span_size _) ?_
      refine ev_if hs ?_
      refine Ev.bind (span_size _) ?_
      rw [one_size h0 h1]
      exact Ev.now _
theorem SpanFirsts_calls (A0 : Option Addr) (c0 : Nat) (l0 : List S34) (a1 : Int) (w : World) (hr0 : Kd.C k34 w A0 l0.length l0) (hc0 : l0.length ≤ c0) : Calls Try.prog 6 #[.slice A0 l0.length c0, .int .i64 a1] w fun e w' => e = .returned (.bool true) ∧ Below w.heap.size w w' := by
  obtain ⟨k, hk⟩ := (firsts_ev l0 a1).rounds
  exact caesuralaw01_SpanFirsts.calls k A0 c0 l0 a1 true w hr0 hc0 hk ⟨rfl⟩
end Go.Proofs.Ytippkbgeeeimjaa.L
