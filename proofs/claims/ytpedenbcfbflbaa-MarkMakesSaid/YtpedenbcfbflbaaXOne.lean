import Derived.Test.YtpedenbcfbflbaaE
import Derived.Test.YtpedenbcfbflbaaPMarkMakesx5
import Derived.Test.YtpedenbcfbflbaaPMarkMakesx1
namespace Go.Proofs.Ytpedenbcfbflbaa.X
open Go.RowKit Go.Proofs.YtpedenbcfbflbaaW.PrintWords Go.Proofs.YtpedenbcfbflbaaW.PrintLast Go.Proofs.YtpedenbcfbflbaaW.PrintMore Go.Maps Num
set_option linter.unusedVariables false
set_option linter.unusedSimpArgs false

/-- The automaton of all marked ones. -/
def oneF (n : Int) : Int × List (List Int) × List Bool × Int :=
  if 200 < n ∨ n < 1 then (0, [], [], 1) else markF n [List.replicate n.toNat 0] [true] n [List.replicate n.toNat 0] [true] 3000

/-- A box of the call's own: what a struct is returned in. -/
theorem put3_blk {W : World} {g : Nat} {c0 c1 c2 : Value} (hb : W.heap[g]? = some (.cells #[c0, c1, c2] 25 (0, 0))) (u0 u1 u2 : Value) : (((W.setCell ⟨g, 0, none⟩ u0).setCell ⟨g, 1, none⟩ u1).setCell ⟨g, 2, none⟩ u2).heap[g]? = some (.cells #[u0, u1, u2] 25 (0, 0)) :=
  blk_put (blk_put (blk_put hb 0 u0 rfl) 1 u1 rfl) 2 u2 rfl

set_option maxHeartbeats 2000000 in
theorem mark_one (n : Int) (w : World) (r1 : Int) (r2 : List (List Int)) (r3 : List Bool) (r4 : Int) (h : oneF n = (r1, r2, r3, r4)) :
    Calls Try.prog 19 #[.int .i64 n] w fun e w' => ∃ v1_ v2_ : Value, e = .returned (.tuple #[.agg #[.int .i64 r1, v1_, v2_], .int .i64 r4]) ∧ Kd.S (Kd.slice 3 (Kd.int .i64)) 33 w' w.heap.size (fun k_ => some k_ ≠ (v2_ : Value).ownBlock) v1_ r2 ∧ Kd.R Kd.bool 4 w' w.heap.size (fun k_ => True) v2_ r3 ∧ Below w.heap.size w w' := by
  have hu25 := Try.underlying25
  have H := Aside0.mk h
  clear h
  go_enter Try.func19, Try.ntmps19
  go_upto_region 1 with (fail)
  obtain ⟨W, hW⟩ : ∃ W, W = w.alloc (.cells #[.int .i64 0, .slice none 0 0, .slice none 0 0] 25) := ⟨_, rfl⟩
  have hbx : W.heap[w.heap.size]? = some (.cells #[.int .i64 0, .slice none 0 0, .slice none 0 0] 25 (0, 0)) := by rw [hW]; exact blk_new _ _
  have hbl : Below w.heap.size w W := by rw [hW]; exact below_alloc (Below.refl _ _) _
  rw [← hW]
  clear hW
  have BX := Aside0.mk hbx
  have BL := Aside0.mk hbl
  clear hbx hbl
  by_cases h1 : 200 < n
  · have hb1 : decide (200 < n) = true := decide_eq_true h1
    have e : r1 = 0 ∧ r2 = [] ∧ r3 = [] ∧ r4 = 1 := by
      have := H.out
      simp only [oneF, h1, true_or, if_true, Prod.mk.injEq] at this
      exact ⟨this.1.symm, this.2.1.symm, this.2.2.1.symm, this.2.2.2.symm⟩
    obtain ⟨rfl, rfl, rfl, rfl⟩ := e
    clear H h1
    have k6 := blk_cell BX.out 0
    have k7 := blk_cell BX.out 1
    have k8 := blk_cell BX.out 2
    have m6 := blk_frozen BX.out 0
    have m7 := blk_frozen BX.out 1
    have m8 := blk_frozen BX.out 2
    go_wp2_with fail
    refine bodyPost_ret (results_ct rfl _ _ w.heap.size 25 #[.int .i64 0, .slice none 0 0, .slice none 0 0] (0, 0) _ rfl (put3_blk BX.out _ _ _) Try.underlying25 rfl (by kernel_rfl)) rfl ?_
    exact ⟨_, _, rfl, Kd.S_nil _ _ _ _ _, Kd.R_nil _ _ _ _ _, below_put3 BL.out (Nat.le_refl _) _ _ _⟩
  · have hb1 : decide (200 < n) = false := decide_eq_false h1
    by_cases h2 : n < 1
    · have e : r1 = 0 ∧ r2 = [] ∧ r3 = [] ∧ r4 = 1 := by
        have := H.out
        simp only [oneF, h2, or_true, if_true, Prod.mk.injEq] at this
        exact ⟨this.1.symm, this.2.1.symm, this.2.2.1.symm, this.2.2.2.symm⟩
      obtain ⟨rfl, rfl, rfl, rfl⟩ := e
      have ha : PMarkMakes.calc_All.f n = some (0, [], [], 1) := by unfold PMarkMakes.calc_All.f; rw [if_pos h2]
      clear H h1 h2
      go_wp2_with fail
      refine (PMarkMakes.calc_All.calls n 0 [] [] 1 W ha).mono ?_
      rintro e W2 ⟨v1, v2, rfl, hn, hr, hb⟩
      obtain ⟨A1, a1, rfl⟩ := Kd.N_slice hn
      obtain ⟨A2, a2, rfl⟩ := Kd.R_slice hr
      have B2 := Aside0.mk (blk_below BX.out hb)
      have L2 := Aside0.mk (BL.out.trans (hb.mono BL.out.size))
      clear hn hr hb ha
      go_upto_region 4 with (fail)
      obtain ⟨W3, hW3⟩ : ∃ W3, W3 = W2.alloc (.cells #[.int .i64 0, .slice A1 0 a1, .slice A2 0 a2] 25) := ⟨_, rfl⟩
      have hb3 : Below W2.heap.size W2 W3 := by rw [hW3]; exact below_alloc (Below.refl _ _) _
      have hW3' : W2.alloc (.cells #[.int .i64 0, .slice A1 ([] : List (List Int)).length a1, .slice A2 ([] : List Bool).length a2] 25) = W3 := hW3.symm
      first | rw [← hW3] | rw [hW3']
      have B3 := Aside0.mk (blk_below B2.out hb3)
      have L3 := Aside0.mk (L2.out.trans (hb3.mono L2.out.size))
      clear hb3 hW3 hW3'
      have k6 := blk_cell B3.out 0
      have k7 := blk_cell B3.out 1
      have k8 := blk_cell B3.out 2
      have m6 := blk_frozen B3.out 0
      have m7 := blk_frozen B3.out 1
      have m8 := blk_frozen B3.out 2
      go_wp2_with fail
      refine bodyPost_ret (results_ct rfl _ _ w.heap.size 25 #[.int .i64 0, .slice none 0 0, .slice none 0 0] (0, 0) _ rfl (put3_blk B3.out _ _ _) Try.underlying25 rfl (by kernel_rfl)) rfl ?_
      exact ⟨_, _, rfl, Kd.S_nil _ _ _ _ _, Kd.R_nil _ _ _ _ _, below_put3 L3.out (Nat.le_refl _) _ _ _⟩
    · have HM : Aside0 (markF n [List.replicate n.toNat 0] [true] n [List.replicate n.toNat 0] [true] 3000 = (r1, r2, r3, r4)) := ⟨by
        have := H.out
        simp only [oneF, h1, h2, or_self, if_false] at this
        exact this⟩
      have ha : PMarkMakes.calc_All.f n = some (n, [List.replicate n.toNat 0], [true], 0) := by
        unfold PMarkMakes.calc_All.f
        rw [if_neg h2, if_neg (by omega), if_pos (by omega), if_pos (by omega)]
      clear H h1 h2
      go_wp2_with fail
      refine (PMarkMakes.calc_All.calls n n _ _ 0 W ha).mono ?_
      rintro e W2 ⟨v1, v2, rfl, hn, hr, hb⟩
      obtain ⟨A1, a1, rfl⟩ := Kd.N_slice hn
      obtain ⟨A2, a2, rfl⟩ := Kd.R_slice hr
      obtain ⟨_, n2, n3⟩ := Kd.N_reads' hn
      obtain ⟨_, m2, m3⟩ := Kd.R_reads' hr
      have B2 := Aside0.mk (blk_below BX.out hb)
      have L2 := Aside0.mk (BL.out.trans (hb.mono BL.out.size))
      have N2 := Aside0.mk n2
      have N3 := Aside0.mk n3
      have M2 := Aside0.mk m2
      have M3 := Aside0.mk m3
      clear hn hr hb ha n2 n3 m2 m3
      go_upto_region 4 with (fail)
      obtain ⟨W3, hW3⟩ : ∃ W3, W3 = W2.alloc (.cells #[.int .i64 n, .slice A1 1 a1, .slice A2 1 a2] 25) := ⟨_, rfl⟩
      have hb3 : Below W2.heap.size W2 W3 := by rw [hW3]; exact below_alloc (Below.refl _ _) _
      have X3 : Aside0 (W3.heap[W2.heap.size]? = some (.cells #[.int .i64 n, .slice A1 1 a1, .slice A2 1 a2] 25 (0, 0))) := ⟨by rw [hW3]; exact blk_new _ _⟩
      rw [← hW3]
      have B3 := Aside0.mk (blk_below B2.out hb3)
      have L3 := Aside0.mk (L2.out.trans (hb3.mono L2.out.size))
      have C1 := Aside0.mk (Kd.C_below N3.out hb3)
      have C2 := Aside0.mk (Kd.C_below M3.out hb3)
      clear hb3 hW3
      have k6 := (blk_cell X3.out 0).trans rfl
      have k7 := (blk_cell X3.out 1).trans rfl
      have k8 := (blk_cell X3.out 2).trans rfl
      go_wp2_with fail
      refine (mark_of n A1 a1 [List.replicate n.toNat 0] A2 a2 [true] n A1 a1 [List.replicate n.toNat 0] A2 a2 [true] 3000 W3 C1.out N2.out C2.out M2.out C1.out N2.out C2.out M2.out r1 r2 r3 r4 HM.out).mono ?_
      rintro e W4 ⟨v1, v2, rfl, hs4, hr4, hb4⟩
      obtain ⟨D1, d1, rfl⟩ := Kd.S_slice hs4
      obtain ⟨D2, d2, rfl⟩ := Kd.R_slice hr4
      have B4 := Aside0.mk (blk_below B3.out hb4)
      have L4 := Aside0.mk (L3.out.trans (hb4.mono L3.out.size))
      have S4 := Aside0.mk (Kd.S_lower hs4 L3.out.size)
      have R4 := Aside0.mk (Kd.R_lower hr4 L3.out.size)
      clear hs4 hr4 hb4 k6 k7 k8
      have k6 := blk_cell B4.out 0
      have k7 := blk_cell B4.out 1
      have k8 := blk_cell B4.out 2
      have m6 := blk_frozen B4.out 0
      have m7 := blk_frozen B4.out 1
      have m8 := blk_frozen B4.out 2
      obtain ⟨kp3, hb3, bl3⟩ := keeps_put3 L4.out (Nat.le_refl _) B4.out (.int .i64 r1) (.slice D1 r2.length d1) (.slice D2 r3.length d2)
      have FIN := Aside0.mk (And.intro hb3 (And.intro (S_keeps S4.out kp3 (by decide)) (And.intro (R_keeps R4.out kp3 (by decide)) bl3)))
      clear kp3 hb3 bl3
      go_wp2_with fail
      refine bodyPost_ret (results_ct rfl _ _ w.heap.size 25 #[.int .i64 r1, _, _] (0, 0) _ rfl FIN.out.1 Try.underlying25 rfl (by kernel_rfl)) rfl ?_
      exact ⟨_, _, rfl, FIN.out.2.1, FIN.out.2.2.1, FIN.out.2.2.2⟩
end Go.Proofs.Ytpedenbcfbflbaa.X
