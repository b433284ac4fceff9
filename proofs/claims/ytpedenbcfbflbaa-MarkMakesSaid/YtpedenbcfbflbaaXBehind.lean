import Derived.Test.YtpedenbcfbflbaaXPM
import Derived.StillTailTactics
import Derived.BigQuiet
namespace Go.Proofs.Ytpedenbcfbflbaa.X
open Go.RowKit Go.Proofs.YtpedenbcfbflbaaW.PrintWords Go.Proofs.YtpedenbcfbflbaaW.PrintLast Go.Proofs.YtpedenbcfbflbaaW.PrintMore Go.Maps Num
set_option linter.unusedVariables false
set_option linter.unusedSimpArgs false

/-- The two first blocks of the call's own: a state, and what is returned. -/
structure Two (w : World) (t : Nat) (a b : Int) (W : World) : Prop where
  ha : W.heap[w.heap.size]? = some (.cells #[.int .i64 a, .int .i64 b] t (0, 0))
  hr : W.heap[w.heap.size + 1]? = some (.cells #[.int .i64 0, .int .i64 0] t (0, 0))
  bel : Below w.heap.size w W
theorem Two.start (w : World) (t : Nat) (a b : Int) : Two w t a b ((w.alloc (.cells #[.int .i64 a, .int .i64 b] t)).alloc (.cells #[.int .i64 0, .int .i64 0] t)) :=
  ⟨blk_alloc (blk_new _ _) _, by have := blk_new (w.alloc (.cells #[.int .i64 a, .int .i64 b] t)) (.cells #[.int .i64 0, .int .i64 0] t); simpa using this, below_alloc (below_alloc (Below.refl _ _) _) _⟩
theorem Two.below {w W W' : World} {t : Nat} {a b : Int} (h : Two w t a b W) (hb : Below W.heap.size W W') : Two w t a b W' := ⟨blk_below h.ha hb, blk_below h.hr hb, h.bel.trans (hb.mono h.bel.size)⟩
theorem Two.fin {w W : World} {t : Nat} {a b : Int} (h : Two w t a b W) (u0 u1 : Value) : ((W.setCell ⟨w.heap.size + 1, 0, none⟩ u0).setCell ⟨w.heap.size + 1, 1, none⟩ u1).heap[w.heap.size + 1]? = some (.cells #[u0, u1] t (0, 0)) ∧ Below w.heap.size w ((W.setCell ⟨w.heap.size + 1, 0, none⟩ u0).setCell ⟨w.heap.size + 1, 1, none⟩ u1) :=
  ⟨blk_put (blk_put h.hr 0 u0 rfl) 1 u1 rfl, (h.bel.setCell (p := ⟨w.heap.size + 1, 0, none⟩) (by simp) u0).setCell (p := ⟨w.heap.size + 1, 1, none⟩) (by simp) u1⟩
set_option maxHeartbeats 1000000 in
theorem behind46 (s1 s2 : Int) (A1 : Option Addr) (c1 : Nat) (n1 : List (List Int)) (B1 : Option Addr) (d1 : Nat) (e1 : List Bool) (A2 : Option Addr) (c2 : Nat) (n2 : List (List Int)) (B2 : Option Addr) (d2 : Nat) (e2 : List Bool) (mv lv : Value) (gp : Nat) (w : World)
    (hr1 : Kd.C (Kd.slice 3 (Kd.int .i64)) w A1 n1.length n1) (hb1 : Kd.C Kd.bool w B1 e1.length e1)
    (hr2 : Kd.C (Kd.slice 3 (Kd.int .i64)) w A2 n2.length n2) (hb2 : Kd.C Kd.bool w B2 e2.length e2)
    (q1 : ∀ r ∈ n1, (r.length : Int) = s1 ∧ ∀ x ∈ r, 0 ≤ x ∧ x < n1.length) (q2 : ∀ r ∈ n2, (r.length : Int) = s1 ∧ ∀ x ∈ r, 0 ≤ x ∧ x < n2.length) (q3 : 0 < n2.length) (q4 : e1.length = n1.length) (q5 : n1.length ≤ 3000)
    (hb : w.heap[gp]? = some (.cells #[.int .i64 s1, .slice A1 n1.length c1, .slice B1 e1.length d1, .int .i64 s2, .slice A2 n2.length c2, .slice B2 e2.length d2, mv, lv] 52 (0, 0)))
    (x : Int × Int) (hx : okM n1.length n2.length x) (s : Nat) (hs : (s : Int) < 2 * s1) (y : Int × Int) (hy : nextM n1 e1 n2 x s = y) :
    Calls Try.prog 46 #[.pointer (some ⟨gp, 0, none⟩), .agg #[.int .i64 x.1, .int .i64 x.2], .int .i64 ((s / 2 : Nat) : Int), .bool (decide (s % 2 = 1))] w
      fun e w' => e = .returned (.agg #[.int .i64 y.1, .int .i64 y.2]) ∧ Below w.heap.size w w' := by
  have hu55 := Try.underlying55
  have hg := blk_lt hb
  have hh : ((s / 2 : Nat) : Int) < s1 := by omega
  obtain ⟨u, hu⟩ : ∃ u : Nat, u = s / 2 := ⟨_, rfl⟩
  rw [← hu] at hh ⊢
  obtain ⟨a, b⟩ := x
  obtain ⟨v1, v2⟩ := y
  have HY := Aside0.mk hy
  clear hy
  have HB := Aside0.mk hb
  have HR1 := Aside0.mk hr1
  have HR2 := Aside0.mk hr2
  have HB1 := Aside0.mk hb1
  have HB2 := Aside0.mk hb2
  have HX := Aside0.mk hx
  have HU := Aside0.mk hu
  have Q1 := Aside0.mk q1
  have Q2 := Aside0.mk q2
  clear hb hr1 hr2 hb1 hb2 hx hu q1 q2
  go_enter Try.func46, Try.ntmps46
  go_upto_region 1 with (fail)
  obtain ⟨W, hW⟩ : ∃ W, W = (w.alloc (.cells #[.int .i64 a, .int .i64 b] 55)).alloc (.cells #[.int .i64 0, .int .i64 0] 55) := ⟨_, rfl⟩
  have I := Two.start w 55 a b
  rw [← hW] at I ⊢
  clear hW
  have BG := Aside0.mk (blk_below HB.out I.bel)
  have a0 := (blk_cell I.ha 0).trans rfl
  have a1 := (blk_cell I.ha 1).trans rfl
  have r0 := (blk_cell I.hr 0).trans rfl
  have r1 := (blk_cell I.hr 1).trans rfl
  have f0 := blk_frozen I.hr 0
  have f1 := blk_frozen I.hr 1
  have g1 := (blk_cell BG.out 1).trans rfl
  have g2 := (blk_cell BG.out 2).trans rfl
  have g4 := (blk_cell BG.out 4).trans rfl
  have II := Aside0.mk I
  clear I
  by_cases ho : s % 2 = 1
  · have hod : decide (s % 2 = 1) = true := decide_eq_true ho
    rw [hod]
    clear hod
    by_cases ha : a = 1
    · subst ha
      obtain ⟨x1, x2⟩ : 0 ≤ b ∧ b < (n1.length : Int) := by
        rcases HX.out with h | h | h
        · exact ⟨h.2.1, h.2.2⟩
        · exact absurd (show (1 : Int) = 2 from h.1) (by decide)
        · exact absurd (show (1 : Int) = 3 from congrArg Prod.fst h) (by decide)
      have x3 : b < (e1.length : Int) := by omega
      obtain ⟨bd, v, rfl, z1, z2⟩ := cell_end (Kd.C_below HB1.out II.out.bel) b x1 x3
      obtain ⟨t1, t2⟩ := getD_row Q2.out 0 (by omega) (by omega)
      obtain ⟨ad2, ra2, rc2, N2, u2, rfl, y5, y6, y7, y8⟩ := cell_next' (Kd.C_below HR2.out II.out.bel) 0 (by omega) (by omega) u (by omega)
      have y9 := y5
      simp only [Int.toNat_zero, Addr.add_zero'] at y9
      have q3' : (0 : Int) < n2.length := by omega
      have Z2 := Aside0.mk z2
      have Y8 := Aside0.mk y8
      clear t1 t2 z2 y8
      cases v with
      | true =>
        have e : nextM n1 e1 n2 (1, b) s = (2, u2) := by
          unfold nextM
          rw [if_pos ho, if_pos ⟨rfl, Z2.out.symm⟩, Y8.out, HU.out]
          rfl
        obtain ⟨rfl, rfl⟩ := Prod.mk.inj (HY.out.symm.trans e)
        clear ho e
        go_wp2_with fail
        go_quiet (fail)
        go_wp2_with fail
        refine bodyPost_ret (results_c rfl _ _ (w.heap.size + 1) 55 #[.int .i64 2, .int .i64 _] (0, 0) _ rfl ((II.out.below (pw_below_drewN (Below.refl _ _) nq)).fin _ _).1 Try.underlying55 rfl (by kernel_rfl)) rfl ?_
        exact ⟨rfl, ((II.out.below (pw_below_drewN (Below.refl _ _) nq)).fin _ _).2⟩
      | false =>
        have e : nextM n1 e1 n2 (1, b) s = (3, 0) := by
          unfold nextM
          rw [if_pos ho, if_neg]
          rintro ⟨_, h⟩
          rw [← Z2.out] at h
          cases h
        obtain ⟨rfl, rfl⟩ := Prod.mk.inj (HY.out.symm.trans e)
        clear ho e
        go_wp2_with fail
        go_quiet (fail)
        go_wp2_with fail
        refine bodyPost_ret (results_c rfl _ _ (w.heap.size + 1) 55 #[.int .i64 3, .int .i64 0] (0, 0) _ rfl ((II.out.below (pw_below_drewN (Below.refl _ _) nq)).fin _ _).1 Try.underlying55 rfl (by kernel_rfl)) rfl ?_
        exact ⟨rfl, ((II.out.below (pw_below_drewN (Below.refl _ _) nq)).fin _ _).2⟩
    · have hab : (a == 1) = false := beq_eq_false_iff_ne.2 ha
      have e : nextM n1 e1 n2 (a, b) s = (3, 0) := by
        unfold nextM
        rw [if_pos ho, if_neg]
        rintro ⟨h, _⟩
        exact ha h
      obtain ⟨rfl, rfl⟩ := Prod.mk.inj (HY.out.symm.trans e)
      clear ho e ha
      go_wp2_with fail
      go_quiet (fail)
      go_wp2_with fail
      refine bodyPost_ret (results_c rfl _ _ (w.heap.size + 1) 55 #[.int .i64 3, .int .i64 0] (0, 0) _ rfl ((II.out.below (pw_below_drewN (Below.refl _ _) nq)).fin _ _).1 Try.underlying55 rfl (by kernel_rfl)) rfl ?_
      exact ⟨rfl, ((II.out.below (pw_below_drewN (Below.refl _ _) nq)).fin _ _).2⟩
  · have hod : decide (s % 2 = 1) = false := decide_eq_false ho
    rw [hod]
    clear hod
    by_cases ha : a = 0 ∨ a = 1
    · obtain ⟨x1, x2⟩ : 0 ≤ b ∧ b < (n1.length : Int) := by
        rcases HX.out with h | h | h
        · exact ⟨h.2.1, h.2.2⟩
        · have h2 : a = 2 := h.1
          omega
        · have h2 : a = 3 := congrArg Prod.fst h
          omega
      obtain ⟨t1, t2⟩ := getD_row Q1.out b x1 x2
      obtain ⟨ad2, ra2, rc2, N2, u2, rfl, y5, y6, y7, y8⟩ := cell_next' (Kd.C_below HR1.out II.out.bel) b x1 x2 u (by omega)
      have e : nextM n1 e1 n2 (a, b) s = (1, u2) := by
        unfold nextM
        rw [if_neg ho, if_pos ha, y8, HU.out]
      obtain ⟨rfl, rfl⟩ := Prod.mk.inj (HY.out.symm.trans e)
      clear ho e t1 t2 y8
      rcases ha with rfl | rfl
      all_goals
        go_wp2_with fail
        refine wp_region_still_tail 13 (by kernel_rfl) (by kernel_rfl) ?_
        simp only [List.take_succ_cons, List.take_zero, List.drop_succ_cons, List.drop_zero]
        change wpStill _ _ W.drew _ _ _
        repeat still_step
        refine wpStill_nil ?_
        change wpList _ _ _ _ _ W.drew
        go_wp2_with fail
        refine bodyPost_ret (results_c rfl _ _ (w.heap.size + 1) 55 #[.int .i64 1, .int .i64 _] (0, 0) _ rfl ((II.out.below (below_drew (Below.refl _ _))).fin _ _).1 Try.underlying55 rfl (by kernel_rfl)) rfl ?_
        exact ⟨rfl, ((II.out.below (below_drew (Below.refl _ _))).fin _ _).2⟩
    · by_cases h2 : a = 2
      · obtain ⟨x1, x2⟩ : 0 ≤ b ∧ b < (n2.length : Int) := by
          rcases HX.out with h | h | h
          · exact absurd h.1 ha
          · exact ⟨h.2.1, h.2.2⟩
          · have h3 : a = 3 := congrArg Prod.fst h
            omega
        obtain ⟨t1, t2⟩ := getD_row Q2.out b x1 x2
        obtain ⟨ad2, ra2, rc2, N2, u2, rfl, y5, y6, y7, y8⟩ := cell_next' (Kd.C_below HR2.out II.out.bel) b x1 x2 u (by omega)
        have e : nextM n1 e1 n2 (a, b) s = (2, u2) := by
          unfold nextM
          rw [if_neg ho, if_neg ha, if_pos h2, y8, HU.out]
        obtain ⟨rfl, rfl⟩ := Prod.mk.inj (HY.out.symm.trans e)
        clear ho e t1 t2 y8 ha
        subst h2
        go_wp2_with fail
        refine wp_region_still_tail 13 (by kernel_rfl) (by kernel_rfl) ?_
        simp only [List.take_succ_cons, List.take_zero, List.drop_succ_cons, List.drop_zero]
        change wpStill _ _ W.drew _ _ _
        repeat still_step
        refine wpStill_nil ?_
        change wpList _ _ _ _ _ W.drew
        go_wp2_with fail
        refine bodyPost_ret (results_c rfl _ _ (w.heap.size + 1) 55 #[.int .i64 2, .int .i64 _] (0, 0) _ rfl ((II.out.below (below_drew (Below.refl _ _))).fin _ _).1 Try.underlying55 rfl (by kernel_rfl)) rfl ?_
        exact ⟨rfl, ((II.out.below (below_drew (Below.refl _ _))).fin _ _).2⟩
      · have hx3 : (a, b) = (3, 0) := by
          rcases HX.out with h | h | h
          · exact absurd h.1 ha
          · exact absurd h.1 h2
          · exact h
        have e : nextM n1 e1 n2 (a, b) s = (3, 0) := by
          unfold nextM
          rw [if_neg ho, if_neg ha, if_neg h2]
        obtain ⟨rfl, rfl⟩ := Prod.mk.inj (HY.out.symm.trans e)
        obtain ⟨rfl, rfl⟩ := Prod.mk.inj hx3
        clear ho e ha h2 hx3
        go_wp2_with fail
        refine bodyPost_ret (results_c rfl _ _ (w.heap.size + 1) 55 #[.int .i64 3, .int .i64 0] (0, 0) _ rfl (II.out.fin _ _).1 Try.underlying55 rfl (by kernel_rfl)) rfl ?_
        exact ⟨rfl, (II.out.fin _ _).2⟩
end Go.Proofs.Ytpedenbcfbflbaa.X
