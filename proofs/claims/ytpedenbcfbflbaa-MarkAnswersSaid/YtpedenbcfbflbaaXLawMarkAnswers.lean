import Derived.Test.YtpedenbcfbflbaaYD
import Derived.Test.YtpedenbcfbflbaaXRefSigns
import Derived.Test.YtpedenbcfbflbaaXRefOne
namespace Go.Proofs.Ytpedenbcfbflbaa.X
open Go.RowKit Go.Proofs.YtpedenbcfbflbaaW.PrintWords Go.Proofs.YtpedenbcfbflbaaW.PrintLast Go.Proofs.YtpedenbcfbflbaaW.PrintMore Go.Maps Num
set_option linter.unusedVariables false
set_option linter.unusedSimpArgs false

set_option maxHeartbeats 2000000 in
theorem MarkAnswers_walk (A : Option Addr) (c : Nat) (l : List Int) (n : Int) (w : World) (hwf : ∀ z ∈ l, (Lit.int .i64 z).wf = true) (g : l.length ≤ c ∧ Kd.C (Kd.int .i64) w A l.length l) :
    Calls Try.prog 4 #[.slice A l.length c, .int .i64 n] w fun e w' => e = .returned (.bool true) ∧ Below w.heap.size w w' := by
  have hu25 := Try.underlying25
  have G := Aside0.mk g
  have HWF := Aside0.mk hwf
  clear g hwf
  go_enter Try.func4, Try.ntmps4
  go_wp2_with fail
  refine (alive12 w).mono ?_
  rintro e W2 ⟨rfl, hb⟩
  have BL := Aside0.mk hb
  have CL := Aside0.mk (Kd.C_below G.out.2 hb)
  clear hb
  by_cases h5 : (l.length : Int) > 500
  · have h5b : decide ((500 : Int) < (l.length : Int)) = true := decide_eq_true h5
    clear h5
    go_wp2_with fail
    go_ret
    exact ⟨rfl, BL.out⟩
  · have h5b : decide ((500 : Int) < (l.length : Int)) = false := decide_eq_false h5
    have hle : l.length ≤ 500 := by omega
    obtain ⟨k1, hs1⟩ := msigns_f l (by omega)
    obtain ⟨k2, hs2⟩ := rsigns_f l (by omega) (fun v hv => (wf_le (HWF.out v hv)).2)
    obtain ⟨a, p, ok, hsf⟩ : ∃ a p ok, signsF l = (a, p, ok) := ⟨_, _, _, rfl⟩
    rw [hsf] at hs1 hs2
    have HS1 := Aside0.mk hs1
    have HS2 := Aside0.mk hs2
    obtain ⟨r1, r2, r3, r4, hone⟩ : ∃ r1 r2 r3 r4, oneF n = (r1, r2, r3, r4) := ⟨_, _, _, _, rfl⟩
    have HONE := Aside0.mk hone
    clear h5 hs1 hs2 hsf hone
    go_wp2_with fail
    refine (PMarkMakes.mark_Signs.calls k1 A c l a p ok W2 CL.out G.out.1 HS1.out).mono ?_
    rintro e W3 ⟨v1, rfl, hr, hb⟩
    obtain ⟨Q1, q1, rfl⟩ := Kd.R_slice hr
    have RA := Aside0.mk (Kd.R_reads' hr).2
    have BL3 := Aside0.mk (BL.out.trans (hb.mono BL.out.size))
    have CL3 := Aside0.mk (Kd.C_below CL.out hb)
    clear hr hb BL CL
    go_wp2_with fail
    refine (C.caesuraref19_Signs.calls k2 A c l a p ok W3 CL3.out G.out.1 HS2.out).mono ?_
    rintro e W4 ⟨v1, rfl, hr, hb⟩
    obtain ⟨Q2, q2, rfl⟩ := Kd.R_slice hr
    have RB := Aside0.mk (Kd.R_reads' hr).2
    have RA4 := Aside0.mk (Kd.C_below RA.out.2 hb)
    have BL4 := Aside0.mk (BL3.out.trans (hb.mono BL3.out.size))
    have CL4 := Aside0.mk (Kd.C_below CL3.out hb)
    clear hr hb BL3 CL3
    go_wp2_with fail
    refine (mark_one n W4 r1 r2 r3 r4 HONE.out).mono ?_
    rintro e W5 ⟨v1, v2, rfl, hs, hr, hb⟩
    obtain ⟨D1, d1, rfl⟩ := Kd.S_slice hs
    obtain ⟨D2, d2, rfl⟩ := Kd.R_slice hr
    have GX : Aside0 (Got 0 D1 d1 r2 D2 d2 r3 W5) := ⟨⟨(Kd.S_reads' hs).2.1, (Kd.S_reads' hs).2.2, (Kd.R_reads' hr).2.1, (Kd.R_reads' hr).2.2⟩⟩
    have RA5 := Aside0.mk (Kd.C_below RA4.out hb)
    have RB5 := Aside0.mk (Kd.C_below RB.out.2 hb)
    have BL5 := Aside0.mk (BL4.out.trans (hb.mono BL4.out.size))
    have CL5 := Aside0.mk (Kd.C_below CL4.out hb)
    clear hs hr hb BL4 CL4 RA4
    go_upto_region 8 with (fail)
    obtain ⟨W6, hW6⟩ : ∃ W6, W6 = W5.alloc (.cells #[.int .i64 r1, .slice D1 r2.length d1, .slice D2 r3.length d2] 25) := ⟨_, rfl⟩
    have hb6 : Below W5.heap.size W5 W6 := by rw [hW6]; exact below_alloc (Below.refl _ _) _
    have hx6 : W6.heap[W5.heap.size]? = some (.cells #[.int .i64 r1, .slice D1 r2.length d1, .slice D2 r3.length d2] 25 (0, 0)) := by rw [hW6]; exact blk_new _ _
    rw [← hW6]
    clear hW6
    obtain ⟨gx, hgx⟩ : ∃ gx, gx = W5.heap.size := ⟨_, rfl⟩
    rw [← hgx] at hx6 ⊢
    clear hgx
    have XX6 := Aside0.mk hx6
    have GX6 := Aside0.mk (GX.out.below hb6)
    have RA6 := Aside0.mk (Kd.C_below RA5.out hb6)
    have RB6 := Aside0.mk (Kd.C_below RB5.out hb6)
    have BL6 := Aside0.mk (BL5.out.trans (hb6.mono BL5.out.size))
    have CL6 := Aside0.mk (Kd.C_below CL5.out hb6)
    clear GX RA5 RB5 BL5 CL5 hb6 hx6
    go_wp2_with fail
    refine (ref_one n W6 r1 r2 r3 r4 HONE.out).mono ?_
    rintro e W7 ⟨v1, v2, rfl, hs, hr, hb⟩
    obtain ⟨E1, l1, rfl⟩ := Kd.S_slice hs
    obtain ⟨E2, l2, rfl⟩ := Kd.R_slice hr
    have GY : Aside0 (Got 0 E1 l1 r2 E2 l2 r3 W7) := ⟨⟨(Kd.S_reads' hs).2.1, (Kd.S_reads' hs).2.2, (Kd.R_reads' hr).2.1, (Kd.R_reads' hr).2.2⟩⟩
    have XX7 := Aside0.mk (blk_below XX6.out hb)
    have GX7 := Aside0.mk (GX6.out.below hb)
    have RA7 := Aside0.mk (Kd.C_below RA6.out hb)
    have RB7 := Aside0.mk (Kd.C_below RB6.out hb)
    have BL7 := Aside0.mk (BL6.out.trans (hb.mono BL6.out.size))
    have CL7 := Aside0.mk (Kd.C_below CL6.out hb)
    clear GX6 XX6 RA6 RB6 BL6 CL6 hs hr hb
    go_upto_region 9 with (fail)
    obtain ⟨W8, hW8⟩ : ∃ W8, W8 = W7.alloc (.cells #[.int .i64 r1, .slice E1 r2.length l1, .slice E2 r3.length l2] 25) := ⟨_, rfl⟩
    have hb8 : Below W7.heap.size W7 W8 := by rw [hW8]; exact below_alloc (Below.refl _ _) _
    have hx8 : W8.heap[W7.heap.size]? = some (.cells #[.int .i64 r1, .slice E1 r2.length l1, .slice E2 r3.length l2] 25 (0, 0)) := by rw [hW8]; exact blk_new _ _
    rw [← hW8]
    clear hW8
    obtain ⟨gy, hgy⟩ : ∃ gy, gy = W7.heap.size := ⟨_, rfl⟩
    rw [← hgy] at hx8 ⊢
    clear hgy
    have XY8 := Aside0.mk hx8
    have XX8 := Aside0.mk (blk_below XX7.out hb8)
    have GX8 := Aside0.mk (GX7.out.below hb8)
    have GY8 := Aside0.mk (GY.out.below hb8)
    have RA8 := Aside0.mk (Kd.C_below RA7.out hb8)
    have RB8 := Aside0.mk (Kd.C_below RB7.out hb8)
    have BL8 := Aside0.mk (BL7.out.trans (hb8.mono BL7.out.size))
    have CL8 := Aside0.mk (Kd.C_below CL7.out hb8)
    clear GX7 GY XX7 RA7 RB7 BL7 CL7 hb8 hx8
    have HI := Aside0.mk ((ints_f a a a.length (Nat.le_refl _) (Kd.C_max RA8.out)).trans (by simp : _ = some true))
    go_wp2_with fail
    refine (PMarkMakes.caesuraref01_Ints.calls (a.length + 1) Q1 q1 a Q2 q2 a true W8 RA8.out RA.out.1 RB8.out RB.out.1 HI.out).mono ?_
    rintro e W9 ⟨rfl, hd⟩
    have hb := hd.below
    have XY9 := Aside0.mk (blk_below XY8.out hb)
    have XX9 := Aside0.mk (blk_below XX8.out hb)
    have GX9 := Aside0.mk (GX8.out.below hb)
    have GY9 := Aside0.mk (GY8.out.below hb)
    have BL9 := Aside0.mk (BL8.out.trans (hb.mono BL8.out.size))
    have CL9 := Aside0.mk (Kd.C_below CL8.out hb)
    clear hd hb XY8 XX8 GX8 GY8 BL8 CL8
    have hp : (p == p) = true := by simp
    have hok : (ok == ok) = true := by simp
    go_wp2_with fail
    refine (PMarkMakes.mark_Times.calls (l.length + 1) A c l (timesF l) W9 CL9.out G.out.1 (mtimes_f l l.length (Nat.le_refl _) (by omega))).mono ?_
    rintro e WA ⟨rfl, hd⟩
    have hb := hd.below
    have XYA := Aside0.mk (blk_below XY9.out hb)
    have XXA := Aside0.mk (blk_below XX9.out hb)
    have GXA := Aside0.mk (GX9.out.below hb)
    have GYA := Aside0.mk (GY9.out.below hb)
    have BLA := Aside0.mk (BL9.out.trans (hb.mono BL9.out.size))
    have CLA := Aside0.mk (Kd.C_below CL9.out hb)
    clear hd hb XY9 XX9 GX9 GY9 BL9 CL9
    go_wp2_with fail
    refine (C.caesuraref19_Times.calls (l.length + 1) A c l (timesF l) WA CLA.out G.out.1 (rtimes_f l l.length (Nat.le_refl _) (by omega))).mono ?_
    rintro e WB ⟨rfl, hd⟩
    have hb := hd.below
    have XYB := Aside0.mk (blk_below XYA.out hb)
    have XXB := Aside0.mk (blk_below XXA.out hb)
    have GXB := Aside0.mk (GXA.out.below hb)
    have GYB := Aside0.mk (GYA.out.below hb)
    have BLB := Aside0.mk (BLA.out.trans (hb.mono BLA.out.size))
    clear hd hb XYA XXA GXA GYA BLA CLA
    have ht : (timesF l == timesF l) = true := by simp
    have x0 := (blk_cell XXB.out 0).trans rfl
    have x1 := (blk_cell XXB.out 1).trans rfl
    have x2 := (blk_cell XXB.out 2).trans rfl
    have y0 := (blk_cell XYB.out 0).trans rfl
    have y1 := (blk_cell XYB.out 1).trans rfl
    have y2 := (blk_cell XYB.out 2).trans rfl
    obtain ⟨ks, hks⟩ := same_f r1 r2 r3 r1 r2 r3 GXB.out.rows_max.1 GXB.out.rows_max.2.1 GXB.out.rows_max.2.2
    have HS := Aside0.mk (hks.trans (by simp : _ = some true))
    clear hks
    go_wp2_with fail
    refine (PMarkMakes.caesuraref15_Same.calls ks r1 D1 d1 r2 D2 d2 r3 r1 E1 l1 r2 E2 l2 r3 true WB GXB.out.n2 GXB.out.n1 GXB.out.e2 GXB.out.e1 GYB.out.n2 GYB.out.n1 GYB.out.e2 GYB.out.e1 HS.out).mono ?_
    rintro e WC ⟨rfl, hb⟩
    have BL := Aside0.mk (BLB.out.trans (hb.mono BLB.out.size))
    have hr4 : (r4 == r4) = true := by simp
    clear hb
    go_wp2_with fail
    go_ret
    exact ⟨rfl, BL.out⟩
end Go.Proofs.Ytpedenbcfbflbaa.X
