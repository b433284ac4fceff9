/- MarkWrites: the law answers true, whatever it is asked. -/
import Derived.Test.YtpedenbcfbflbaaXRefWrite
import Derived.Test.YtpedenbcfbflbaaXMarkPure
namespace Go.Proofs.Ytpedenbcfbflbaa.X
open Go.RowKit Go.Proofs.YtpedenbcfbflbaaW.PrintWords Go.Proofs.YtpedenbcfbflbaaW.PrintLast Go.Proofs.YtpedenbcfbflbaaW.PrintMore Num Go.Proofs.Ytpedenbcfbflbaa.PMarkMakes Go.Proofs.Ytpedenbcfbflbaa.L
set_option linter.unusedVariables false
set_option linter.unusedSimpArgs false

theorem wsigns_ev (l : List Int) (hmax : l.length ≤ 17592186044415) : Ev (fun k => mark_Signs.f k l) (signsF l) := by
  obtain ⟨k, hk⟩ := msigns_f l hmax
  exact Ev.of (fun k => mark_Signs.mono _ k) hk
theorem write_ev (s : List Int) (p : Int) (hmax : s.length ≤ 17592186044415) : Ev (fun k => D.caesuraref18_Write.f k s p) (writeF s p) := by
  obtain ⟨k, hk⟩ := write_f s p hmax
  exact Ev.of (fun k => D.caesuraref18_Write.mono _ _ k) hk
theorem ints_ev (l m : List Int) (hmax : l.length ≤ 9223372036854775807) : Ev (fun k => caesuraref01_Ints.f k l m) (decide (l = m)) :=
  Ev.of (fun k => caesuraref01_Ints.mono _ _ k) (ints_f l m l.length (Nat.le_refl _) hmax)
theorem times_ev (l : List Int) (hmax : l.length ≤ 9223372036854775807) : Ev (fun k => mark_Times.f k l) (timesF l) :=
  Ev.of (fun k => mark_Times.mono _ k) (mtimes_f l l.length (Nat.le_refl _) hmax)
theorem writes_l0 (l t : List Int) (q : Int) (ok : Bool) (hl : l.length ≤ 300) (ht : t.length ≤ 300) (h : ok = true → (∀ v ∈ t, v ≤ 1048576) → writeF t q = l) :
    ∀ (d i : Nat), i + d = t.length → (∀ j, j < i → t.getD j 0 ≤ 1048576) → Ev (fun k => D.caesuralaw19_MarkWrites.l0 k l t q ok i) true := by
  intro d
  induction d with
  | zero =>
    intro i hi hlt
    have hall : ∀ v ∈ t, v ≤ 1048576 := fun v hv => by
      obtain ⟨j, hj, rfl⟩ := List.getElem_of_mem hv
      have := hlt j (by omega)
      rwa [List.getD_eq_getElem?_getD, List.getElem?_eq_getElem hj] at this
    refine Ev.step (fun k => by simp only [D.caesuralaw19_MarkWrites.l0]; rfl) ?_
    simp only [show ¬ ((i : Int) < (t.length : Int)) by omega, if_false]
    cases ok with
    | false => simp only [Bool.false_eq_true, if_false]; exact Ev.now _
    | true =>
      simp only [if_true]
      refine Ev.bind (write_ev t q (by omega)) ?_
      rw [h rfl hall]
      refine Ev.bind (ints_ev l l (by omega)) ?_
      simp only [decide_true]
      exact Ev.now _
  | succ d ih =>
    intro i hi hlt
    have hil : i < t.length := by omega
    refine Ev.step (fun k => by simp only [D.caesuralaw19_MarkWrites.l0]; rfl) ?_
    simp only [show ((i : Int) < (t.length : Int)) by omega, show (0 : Int) ≤ (i : Int) by omega, if_true, rd_at' hil]
    by_cases hv : t[i] > 1048576
    · simp only [hv, if_true]
      exact Ev.now _
    · simp only [hv, if_false]
      have hw : wrap64 ((i : Int) + 1) = ((i + 1 : Nat) : Int) := by rw [wrap64_of (by omega) (by omega)]; omega
      rw [hw]
      refine ih (i + 1) (by omega) (fun j hj => ?_)
      rcases Nat.lt_or_ge j i with h | h
      · exact hlt j h
      · obtain rfl : j = i := by omega
        rw [List.getD_eq_getElem?_getD, List.getElem?_eq_getElem hil]
        show t[j] ≤ 1048576
        omega
theorem writes_j1 (l : List Int) (hl : l.length ≤ 300) : Ev (fun k => D.caesuralaw19_MarkWrites.j1 k l false) true := by
  refine Ev.step (fun k => by simp only [D.caesuralaw19_MarkWrites.j1]; rfl) ?_
  simp only [Bool.false_eq_true, if_false]
  refine Ev.bind (wsigns_ev l (by omega)) ?_
  obtain ⟨t, q, ok, hsf⟩ : ∃ a p ok, signsF l = (a, p, ok) := ⟨_, _, _, rfl⟩
  rw [hsf]
  refine writes_l0 l t q ok hl ?_ (fun ho hv => ?_) t.length 0 (by omega) (fun j hj => by omega)
  · cases ok with
    | false => rw [signsF_not hsf]; simp
    | true => rw [(signsF_ok hsf).2.2.1, List.length_map]; exact hl
  · subst ho
    exact write_signs l t q hsf hv
theorem writes_f (s : List Int) (p : Int) (l : List Int) : Ev (fun k => D.caesuralaw19_MarkWrites.f k s p l) true := by
  have jt : Ev (fun k => D.caesuralaw19_MarkWrites.j0 k s p l true) true := Ev.step (fun k => by simp only [D.caesuralaw19_MarkWrites.j0]; rfl) (by simp only [if_true]; exact Ev.now _)
  unfold D.caesuralaw19_MarkWrites.f
  simp only [caesuralaw19_alive.f, Option.bind_some, if_true]
  by_cases h1 : (s.length : Int) > 300
  · simp only [h1, if_true]; exact jt
  · simp only [h1, if_false]
    by_cases h2 : (l.length : Int) > 300
    · rw [decide_eq_true h2]; exact jt
    · rw [decide_eq_false h2]
      refine Ev.step (fun k => by simp only [D.caesuralaw19_MarkWrites.j0]; rfl) ?_
      simp only [Bool.false_eq_true, if_false]
      have hw := writeF_len s p
      refine Ev.bind (write_ev s p (by omega)) ?_
      refine Ev.bind (wsigns_ev (writeF s p) (by omega)) ?_
      by_cases h0 : ((writeF s p).length : Int) > 0
      · obtain ⟨q1, q2⟩ := signs_write s p (by omega)
        rw [q1]
        simp only [h0, if_true]
        refine Ev.bind (ints_ev s s (by omega)) ?_
        simp only [decide_true, if_true]
        refine Ev.bind (times_ev (writeF s p) (by omega)) ?_
        rw [q2]
        exact writes_j1 l (by omega)
      · simp only [h0, if_false]
        exact writes_j1 l (by omega)
theorem MarkWrites_walk (A0 : Option Addr) (c0 : Nat) (l0 : List Int) (a1 : Int) (A2 : Option Addr) (c2 : Nat) (l2 : List Int) (w : World)
    (m0 : ∀ z ∈ l0, (Lit.int .i64 z).wf = true) (g0 : l0.length ≤ c0 ∧ Kd.C (Kd.int .i64) w A0 l0.length l0) (m2 : ∀ z ∈ l2, (Lit.int .i64 z).wf = true) (g2 : l2.length ≤ c2 ∧ Kd.C (Kd.int .i64) w A2 l2.length l2) :
    Calls Try.prog 6 #[.slice A0 l0.length c0, .int .i64 a1, .slice A2 l2.length c2] w fun e w' => e = .returned (.bool true) ∧ Below w.heap.size w w' := by
  obtain ⟨k, hk⟩ := (writes_f l0 a1 l2).rounds
  exact D.caesuralaw19_MarkWrites.calls k A0 c0 l0 a1 A2 c2 l2 true w g0.2 g0.1 g2.2 g2.1 hk
end Go.Proofs.Ytpedenbcfbflbaa.X
