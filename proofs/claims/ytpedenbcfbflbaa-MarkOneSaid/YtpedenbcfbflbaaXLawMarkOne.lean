/- MarkOne: the law answers true, whatever it is asked. -/
import Derived.Test.YtpedenbcfbflbaaXMarkPure
import Derived.Test.YtpedenbcfbflbaaOx1
namespace Go.Proofs.Ytpedenbcfbflbaa.X
open Go.RowKit Go.Proofs.YtpedenbcfbflbaaW.PrintWords Go.Proofs.YtpedenbcfbflbaaW.PrintLast Go.Proofs.YtpedenbcfbflbaaW.PrintMore Num Go.Proofs.Ytpedenbcfbflbaa.PMarkMakes Go.Proofs.Ytpedenbcfbflbaa.L
set_option linter.unusedVariables false
set_option linter.unusedSimpArgs false

theorem osigns_ev (l : List Int) (hmax : l.length ≤ 17592186044415) : Ev (fun k => mark_Signs.f k l) (signsF l) := by
  obtain ⟨k, hk⟩ := msigns_f l hmax
  exact Ev.of (fun k => mark_Signs.mono _ k) hk
theorem otimes_ev (l : List Int) (hmax : l.length ≤ 9223372036854775807) : Ev (fun k => mark_Times.f k l) (timesF l) :=
  Ev.of (fun k => mark_Times.mono _ k) (mtimes_f l l.length (Nat.le_refl _) hmax)
theorem one_small (n : Int) (h1 : 1 ≤ n) (h2 : n ≤ 5) : (oneF n).2.2.2 = 0 ∧ (oneF n).2.1.length = 4 ∧ (oneF n).1 = 2 * n := by
  have h : n = 1 ∨ n = 2 ∨ n = 3 ∨ n = 4 ∨ n = 5 := by omega
  rcases h with rfl | rfl | rfl | rfl | rfl <;> decide +kernel
theorem run_one (m : Nat) : ∀ l : List Int, runF [List.replicate m 0] 0 l = 0
  | [] => rfl
  | v :: r => by
    rw [runF_cons, show (([List.replicate m (0 : Int)] : List (List Int)).getD (0 : Int).toNat []).getD v.toNat 0 = 0 by
      show (List.replicate m (0 : Int)).getD v.toNat 0 = 0
      rw [List.getD_eq_getElem?_getD, List.getElem?_replicate]
      split <;> rfl]
    exact run_one m r
theorem acc_one (n : Int) (h1 : 1 ≤ n) (h2 : n ≤ 5) (l : List Int) : accF (oneF n).1 (oneF n).2.1 (oneF n).2.2.1 l = (inB (2 * n) l && (signsF l).2.2) := by
  obtain ⟨q1, q2, q3⟩ := one_small n h1 h2
  have e : markF n [List.replicate n.toNat 0] [true] n [List.replicate n.toNat 0] [true] 3000 = ((oneF n).1, (oneF n).2.1, (oneF n).2.2.1, 0) := by
    have e0 : oneF n = markF n [List.replicate n.toNat 0] [true] n [List.replicate n.toNat 0] [true] 3000 := by unfold oneF; rw [if_neg (by omega)]
    rw [← e0]
    exact Prod.ext rfl (Prod.ext rfl (Prod.ext rfl q1))
  obtain ⟨m1, m2, m3⟩ := acc_mark e
  rw [m3]
  cases hi : inB (2 * n) l with
  | false => rfl
  | true =>
    rw [mark_sem _ _ _ _ l (fun v hv => (inB_iff.1 hi v hv).1), run_one, run_one]
    simp
theorem one_l0 (n : Int) (h1 : 1 ≤ n) (h2 : n ≤ 5) (l : List Int) (hl : l.length ≤ 30) :
    ∀ (d i : Nat), i + d = l.length → (∀ j, j < i → 0 ≤ l.getD j 0 ∧ l.getD j 0 < 2 * n) → Ev (fun k => O.caesuralaw19_MarkOne.l0 k l n i (oneF n).1 (oneF n).2.1 (oneF n).2.2.1) true := by
  intro d
  induction d with
  | zero =>
    intro i hi hlt
    have hall : inB (2 * n) l = true := inB_iff.2 fun v hv => by
      obtain ⟨j, hj, rfl⟩ := List.getElem_of_mem hv
      have := hlt j (by omega)
      rwa [List.getD_eq_getElem?_getD, List.getElem?_eq_getElem hj] at this
    refine Ev.step (fun k => by simp only [O.caesuralaw19_MarkOne.l0]; rfl) ?_
    simp only [show ¬ ((i : Int) < (l.length : Int)) by omega, if_false]
    refine Ev.bind (osigns_ev l (by omega)) ?_
    refine Ev.bind (accepts_ev _ _ _ l (by omega)) ?_
    rw [acc_one n h1 h2, hall, Bool.true_and]
    obtain ⟨a, p, ok, hsf⟩ : ∃ a p ok, signsF l = (a, p, ok) := ⟨_, _, _, rfl⟩
    rw [hsf]
    simp only [beq_self_eq_true, if_true]
    cases ok with
    | false => simp only [Bool.false_eq_true, if_false]; exact Ev.now _
    | true =>
      obtain ⟨s1, s2, s3, s4, s5⟩ := signsF_ok hsf
      simp only [if_true, show p > 0 from s4, s5]
      refine Ev.bind (otimes_ev l (by omega)) ?_
      rw [s2]
      exact Ev.now _
  | succ d ih =>
    intro i hi hlt
    have hil : i < l.length := by omega
    refine Ev.step (fun k => by simp only [O.caesuralaw19_MarkOne.l0]; rfl) ?_
    simp only [show ((i : Int) < (l.length : Int)) by omega, show (0 : Int) ≤ (i : Int) by omega, if_true, rd_at' hil]
    have hbad : ¬ (0 ≤ l[i] ∧ l[i] < 2 * n) → accF (oneF n).1 (oneF n).2.1 (oneF n).2.2.1 l = false := fun hn => by
      rw [acc_one n h1 h2]
      cases hb : inB (2 * n) l with
      | false => rfl
      | true => exact absurd (inB_iff.1 hb l[i] (List.getElem_mem _)) hn
    by_cases hv : l[i] < 0
    · simp only [hv, if_true]
      refine Ev.bind (accepts_ev _ _ _ l (by omega)) ?_
      rw [hbad (by omega)]
      exact Ev.now _
    · simp only [hv, if_false]
      rw [wrap64_of (n := 2 * n) (by omega) (by omega)]
      by_cases hv2 : l[i] ≥ 2 * n
      · simp only [hv2, if_true]
        refine Ev.bind (accepts_ev _ _ _ l (by omega)) ?_
        rw [hbad (by omega)]
        exact Ev.now _
      · simp only [hv2, if_false]
        have hw : wrap64 ((i : Int) + 1) = ((i + 1 : Nat) : Int) := by rw [wrap64_of (by omega) (by omega)]; omega
        rw [hw]
        refine ih (i + 1) (by omega) (fun j hj => ?_)
        rcases Nat.lt_or_ge j i with h | h
        · exact hlt j h
        · obtain rfl : j = i := by omega
          rw [List.getD_eq_getElem?_getD, List.getElem?_eq_getElem hil]
          show 0 ≤ l[j] ∧ l[j] < 2 * n
          omega
theorem one_law (l : List Int) (a : Int) (h0 : 0 ≤ a) (h1 : a ≤ 255) : Ev (fun k => O.caesuralaw19_MarkOne.f k l a) true := by
  unfold O.caesuralaw19_MarkOne.f
  simp only [caesuralaw19_alive.f, Option.bind_some, if_true]
  by_cases hl : (l.length : Int) > 30
  · simp only [hl, if_true]; exact Ev.now _
  · simp only [hl, if_false]
    have e : wrap64 (1 + Int.tmod (wrap64 a) 5) = 1 + a % 5 := by
      rw [wrap64_of (n := a) (by omega) (by omega), Int.tmod_eq_emod_of_nonneg h0, wrap64_of (by omega) (by omega)]
    rw [e]
    obtain ⟨n, hn⟩ : ∃ n, n = 1 + a % 5 := ⟨_, rfl⟩
    rw [← hn]
    obtain ⟨q1, q2, q3⟩ := one_small n (by omega) (by omega)
    have e2 : ((oneF n).2.1.length : Int) = 4 := by rw [q2]; rfl
    simp only [mark_One.f, Option.bind_some, q1, e2, if_true]
    have e3 : ((oneF n).1 != wrap64 (2 * n)) = false := by rw [wrap64_of (by omega) (by omega), q3]; simp
    rw [e3]
    refine Ev.step (fun k => by simp only [O.caesuralaw19_MarkOne.j0]; rfl) ?_
    simp only [Bool.false_eq_true, if_false]
    exact one_l0 n (by omega) (by omega) l (by omega) l.length 0 (by omega) (fun j hj => by omega)
theorem MarkOne_walk (A0 : Option Addr) (c0 : Nat) (l0 : List Int) (a1 : Int) (w : World)
    (m0 : ∀ z ∈ l0, (Lit.int .i64 z).wf = true) (g0 : l0.length ≤ c0 ∧ Kd.C (Kd.int .i64) w A0 l0.length l0) (w1 : (Lit.int .u8 a1).wf = true) :
    Calls Try.prog 7 #[.slice A0 l0.length c0, .int .u8 a1] w fun e w' => e = .returned (.bool true) ∧ Below w.heap.size w w' := by
  have hb : 0 ≤ a1 ∧ a1 ≤ 255 := by
    have e1 : IntKind.u8.min = 0 := rfl
    have e2 : IntKind.u8.max = 255 := rfl
    have h := w1
    simp only [Lit.wf, e1, e2, Bool.and_eq_true, decide_eq_true_eq] at h
    exact h
  obtain ⟨k, hk⟩ := (one_law l0 a1 hb.1 hb.2).rounds
  exact O.caesuralaw19_MarkOne.calls k A0 c0 l0 a1 true w g0.2 g0.1 hk
end Go.Proofs.Ytpedenbcfbflbaa.X
