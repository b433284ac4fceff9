/- MarkSides: the law answers true, whatever it is asked. -/
import Derived.Test.YtpedenbcfbflbaaXMarkPure
import Derived.Test.YtpedenbcfbflbaaSx1
namespace Go.Proofs.Ytpedenbcfbflbaa.X
open Go.RowKit Go.Proofs.YtpedenbcfbflbaaW.PrintWords Go.Proofs.YtpedenbcfbflbaaW.PrintLast Go.Proofs.YtpedenbcfbflbaaW.PrintMore Num Go.Proofs.Ytpedenbcfbflbaa.PMarkMakes Go.Proofs.Ytpedenbcfbflbaa.L
set_option linter.unusedVariables false
set_option linter.unusedSimpArgs false

theorem signs_ev (l : List Int) (hmax : l.length ≤ 17592186044415) : Ev (fun k => mark_Signs.f k l) (signsF l) := by
  obtain ⟨k, hk⟩ := msigns_f l hmax
  exact Ev.of (fun k => mark_Signs.mono _ k) hk
theorem sides_l0 (l a : List Int) (p : Int) (ok : Bool) (s1 : Int) (n1 : List (List Int)) (e1 : List Bool) (s2 : Int) (n2 : List (List Int)) (e2 : List Bool) (d1 : Int) (d2 : List (List Int)) (d3 : List Bool)
    (hl : l.length ≤ 30) (ha : a.length ≤ 30) (h1 : (∃ v ∈ a, s2 ≤ v) → accF d1 d2 d3 l = false)
    (h2 : ok = false → accF d1 d2 d3 l = false) (hp : ok = true → 0 ≤ p ∧ p ≤ a.length)
    (h3 : ok = true → (∀ v ∈ a, v < s2) → accF d1 d2 d3 l = (accF s1 n1 e1 (a.take p.toNat) && accF s2 n2 e2 (a.drop p.toNat))) :
    ∀ (d i : Nat), i + d = a.length → (∀ j, j < i → a.getD j 0 < s2) → Ev (fun k => S.caesuralaw19_MarkSides.l0 k l a p ok i s1 n1 e1 s2 n2 e2 d1 d2 d3) true := by
  intro d
  induction d with
  | zero =>
    intro i hi hlt
    have hall : ∀ v ∈ a, v < s2 := fun v hv => by
      obtain ⟨j, hj, rfl⟩ := List.getElem_of_mem hv
      have := hlt j (by omega)
      rwa [List.getD_eq_getElem?_getD, List.getElem?_eq_getElem hj] at this
    refine Ev.step (fun k => by simp only [S.caesuralaw19_MarkSides.l0]; rfl) ?_
    simp only [show ¬ ((i : Int) < (a.length : Int)) by omega, if_false]
    cases ok with
    | false =>
      simp only [Bool.false_eq_true, if_false]
      refine Ev.bind (accepts_ev d1 d2 d3 l (by omega)) ?_
      rw [h2 rfl]
      exact Ev.now _
    | true =>
      obtain ⟨p0, p1⟩ := hp rfl
      simp only [if_true, p0, p1]
      refine Ev.bind (accepts_ev d1 d2 d3 l (by omega)) ?_
      refine Ev.bind (accepts_ev s1 n1 e1 (a.take p.toNat) (by rw [List.length_take]; omega)) ?_
      rw [h3 rfl hall]
      cases hb : accF s1 n1 e1 (a.take p.toNat) with
      | false =>
        simp only [Bool.false_eq_true, if_false, Bool.false_and]
        exact Ev.now _
      | true =>
        simp only [if_true, Bool.true_and]
        refine Ev.bind (accepts_ev s2 n2 e2 (a.drop p.toNat) (by rw [List.length_drop]; omega)) ?_
        simp only [beq_self_eq_true]
        exact Ev.now _
  | succ d ih =>
    intro i hi hlt
    have hil : i < a.length := by omega
    refine Ev.step (fun k => by simp only [S.caesuralaw19_MarkSides.l0]; rfl) ?_
    simp only [show ((i : Int) < (a.length : Int)) by omega, show (0 : Int) ≤ (i : Int) by omega, if_true, rd_at' hil]
    by_cases hv : a[i] ≥ s2
    · simp only [hv, if_true]
      refine Ev.bind (accepts_ev d1 d2 d3 l (by omega)) ?_
      rw [h1 ⟨a[i], List.getElem_mem _, hv⟩]
      exact Ev.now _
    · simp only [hv, if_false]
      have hw : wrap64 ((i : Int) + 1) = ((i + 1 : Nat) : Int) := by rw [wrap64_of (by omega) (by omega)]; omega
      rw [hw]
      refine ih (i + 1) (by omega) (fun j hj => ?_)
      rcases Nat.lt_or_ge j i with h | h
      · exact hlt j h
      · obtain rfl : j = i := by omega
        rw [List.getD_eq_getElem?_getD, List.getElem?_eq_getElem hil]
        show a[j] < s2
        omega
theorem inB_sub {s : Int} {l m : List Int} (h : ∀ v ∈ m, v ∈ l) (hl : inB s l = true) : inB s m = true := inB_iff.2 fun v hv => inB_iff.1 hl v (h v hv)
theorem sides_f (s1 : Int) (n1 : List (List Int)) (e1 : List Bool) (s2 : Int) (n2 : List (List Int)) (e2 : List Bool) (l : List Int) (hm1 : n1.length ≤ 9223372036854775807) (hm2 : n2.length ≤ 9223372036854775807) :
    Ev (fun k => S.caesuralaw19_MarkSides.f k s1 n1 e1 s2 n2 e2 l) true := by
  have jt : Ev (fun k => S.caesuralaw19_MarkSides.j0 k l true s1 n1 e1 s2 n2 e2) true := Ev.step (fun k => by simp only [S.caesuralaw19_MarkSides.j0]; rfl) (by simp only [if_true]; exact Ev.now _)
  unfold S.caesuralaw19_MarkSides.f
  simp only [caesuralaw19_alive.f, Option.bind_some, if_true, rightx.f]
  obtain ⟨g1, hg1⟩ := great_ev s1 n1 e1 150 hm1
  obtain ⟨g2, hg2⟩ := great_ev s2 n2 e2 150 hm2
  refine Ev.bind hg1 ?_
  cases g1 with
  | true => simp only [if_true]; exact jt
  | false =>
    simp only [Bool.false_eq_true, if_false]
    refine Ev.bind hg2 ?_
    cases g2 with
    | true => simp only [if_true]; exact jt
    | false =>
      simp only [Bool.false_eq_true, if_false]
      by_cases hl : (l.length : Int) > 30
      · simp only [hl, if_true]; exact jt
      · simp only [hl, if_false]
        by_cases hr2 : rightB s2 n2 e2 = true
        · simp only [hr2, if_true]
          by_cases hr1 : rightB s1 n1 e1 = true
          · simp only [hr1, if_true]
            by_cases hs : s2 = s1
            · subst hs
              simp only [if_true]
              by_cases hs2 : s2 > 200
              · rw [decide_eq_true hs2]; exact jt
              · rw [decide_eq_false hs2]
                refine Ev.step (fun k => by simp only [S.caesuralaw19_MarkSides.j0]; rfl) ?_
                simp only [Bool.false_eq_true, if_false, mark_Of.f, Option.bind_some]
                have b1 := great_small hr1 hg1
                have b2 := great_small hr2 hg2
                obtain ⟨d2, d3, hd⟩ := mark_small (most := 3000) hr1 hr2 (by omega) (by omega) (by omega)
                obtain ⟨m1, m2, m3⟩ := acc_mark hd
                rw [hd]
                simp only [if_true]
                refine Ev.bind (signs_ev l (by omega)) ?_
                obtain ⟨a, p, ok, hsf⟩ : ∃ a p ok, signsF l = (a, p, ok) := ⟨_, _, _, rfl⟩
                rw [hsf]
                simp only
                have hal : a.length ≤ 30 := by
                  cases ok with
                  | false => rw [signsF_not hsf]; simp
                  | true => rw [(signsF_ok hsf).2.2.1, List.length_map]; omega
                refine sides_l0 l a p ok s2 n1 e1 s2 n2 e2 (2 * s2) d2 d3 (by omega) hal ?_ ?_ ?_ ?_ a.length 0 (by omega) (fun j hj => by omega)
                · rintro ⟨v, hv, hvs⟩
                  rw [m3]
                  cases hi : inB (2 * s2) l with
                  | false => rfl
                  | true =>
                    exfalso
                    cases ok with
                    | false => rw [signsF_not hsf] at hv; cases hv
                    | true =>
                      rw [(signsF_ok hsf).2.2.1] at hv
                      obtain ⟨x, hx, rfl⟩ := List.mem_map.1 hv
                      have := inB_iff.1 hi x hx
                      omega
                · rintro rfl
                  rw [m3]
                  cases hi : inB (2 * s2) l with
                  | false => rfl
                  | true =>
                    rw [mark_sem n1 e1 n2 e2 l (fun v hv => (inB_iff.1 hi v hv).1), hsf]
                    rfl
                · rintro rfl
                  have := signsF_ok hsf
                  omega
                · rintro rfl hlt
                  obtain ⟨q1, q2, q3, q4, q5⟩ := signsF_ok hsf
                  have ha : inB s2 a = true := inB_iff.2 fun v hv => ⟨by
                    rw [q3] at hv
                    obtain ⟨x, hx, rfl⟩ := List.mem_map.1 hv
                    have := q1 x hx
                    omega, hlt v hv⟩
                  have hi : inB (2 * s2) l = true := inB_iff.2 fun v hv => ⟨q1 v hv, by
                    have := hlt (v / 2) (by rw [q3]; exact List.mem_map_of_mem hv)
                    omega⟩
                  rw [m3, hi, Bool.true_and, mark_sem n1 e1 n2 e2 l q1, hsf]
                  simp only [Bool.true_and]
                  unfold accF
                  rw [hr1, hr2, inB_sub (fun v hv => List.mem_of_mem_take hv) ha, inB_sub (fun v hv => List.mem_of_mem_drop hv) ha]
                  simp only [Bool.true_and]
            · simp only [hs, if_false]; exact jt
          · simp only [hr1, if_false]; exact jt
        · simp only [hr2, if_false]; exact jt
theorem MarkSides_walk (s0 : Int) (A0 : Option Addr) (c0 : Nat) (n0 : List (List Int)) (B0 : Option Addr) (b0 : Nat) (e0 : List Bool) (s1 : Int) (A1 : Option Addr) (c1 : Nat) (n1 : List (List Int)) (B1 : Option Addr) (b1 : Nat) (e1 : List Bool) (A2 : Option Addr) (c2 : Nat) (l2 : List Int) (w : World)
    (g0 : Got 0 A0 c0 n0 B0 b0 e0 w) (g1 : Got 0 A1 c1 n1 B1 b1 e1 w) (m2 : ∀ z ∈ l2, (Lit.int .i64 z).wf = true) (g2 : l2.length ≤ c2 ∧ Kd.C (Kd.int .i64) w A2 l2.length l2) :
    Calls Try.prog 5 #[.agg #[.int .i64 s0, .slice A0 n0.length c0, .slice B0 e0.length b0], .agg #[.int .i64 s1, .slice A1 n1.length c1, .slice B1 e1.length b1], .slice A2 l2.length c2] w fun e w' => e = .returned (.bool true) ∧ Below w.heap.size w w' := by
  obtain ⟨k, hk⟩ := (sides_f s0 n0 e0 s1 n1 e1 l2 (Kd.C_max g0.n2) (Kd.C_max g1.n2)).rounds
  exact S.caesuralaw19_MarkSides.calls k s0 A0 c0 n0 B0 b0 e0 s1 A1 c1 n1 B1 b1 e1 A2 c2 l2 true w g0.n2 g0.n1 g0.e2 g0.e1 g1.n2 g1.n1 g1.e2 g1.e1 g2.2 g2.1 hk
end Go.Proofs.Ytpedenbcfbflbaa.X
