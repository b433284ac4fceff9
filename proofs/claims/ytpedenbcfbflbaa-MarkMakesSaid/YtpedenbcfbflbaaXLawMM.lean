import Derived.Test.YtpedenbcfbflbaaXAlive
import Derived.Test.YtpedenbcfbflbaaXSame
namespace Go.Proofs.Ytpedenbcfbflbaa.X
open Go.RowKit Go.Proofs.YtpedenbcfbflbaaW.PrintWords Go.Proofs.YtpedenbcfbflbaaW.PrintLast Go.Proofs.YtpedenbcfbflbaaW.PrintMore Go.Maps Num
set_option linter.unusedVariables false
set_option linter.unusedSimpArgs false

/-- Two boxes of two automata that came in. -/
structure Two25 (w : World) (s1 : Int) (A1 : Option Addr) (c1 : Nat) (n1 : List (List Int)) (B1 : Option Addr) (d1 : Nat) (e1 : List Bool) (s2 : Int) (A2 : Option Addr) (c2 : Nat) (n2 : List (List Int)) (B2 : Option Addr) (d2 : Nat) (e2 : List Bool) (W : World) : Prop where
  a : W.heap[w.heap.size]? = some (.cells #[.int .i64 s1, .slice A1 n1.length c1, .slice B1 e1.length d1] 25 (0, 0))
  b : W.heap[w.heap.size + 1]? = some (.cells #[.int .i64 s2, .slice A2 n2.length c2, .slice B2 e2.length d2] 25 (0, 0))
  g1 : Got 0 A1 c1 n1 B1 d1 e1 W
  g2 : Got 0 A2 c2 n2 B2 d2 e2 W
  bel : Below w.heap.size w W
section
variable {w W W' : World} {s1 : Int} {A1 : Option Addr} {c1 : Nat} {n1 : List (List Int)} {B1 : Option Addr} {d1 : Nat} {e1 : List Bool} {s2 : Int} {A2 : Option Addr} {c2 : Nat} {n2 : List (List Int)} {B2 : Option Addr} {d2 : Nat} {e2 : List Bool}
theorem Two25.below (h : Two25 w s1 A1 c1 n1 B1 d1 e1 s2 A2 c2 n2 B2 d2 e2 W) (hb : Below W.heap.size W W') : Two25 w s1 A1 c1 n1 B1 d1 e1 s2 A2 c2 n2 B2 d2 e2 W' :=
  ⟨blk_below h.a hb, blk_below h.b hb, h.g1.below hb, h.g2.below hb, h.bel.trans (hb.mono h.bel.size)⟩
theorem Two25.start (g1 : Got 0 A1 c1 n1 B1 d1 e1 w) (g2 : Got 0 A2 c2 n2 B2 d2 e2 w) : Two25 w s1 A1 c1 n1 B1 d1 e1 s2 A2 c2 n2 B2 d2 e2 ((w.alloc (.cells #[.int .i64 s1, .slice A1 n1.length c1, .slice B1 e1.length d1] 25)).alloc (.cells #[.int .i64 s2, .slice A2 n2.length c2, .slice B2 e2.length d2] 25)) := by
  have hb := below_alloc (below_alloc (Below.refl w.heap.size w) (.cells #[.int .i64 s1, .slice A1 n1.length c1, .slice B1 e1.length d1] 25)) (.cells #[.int .i64 s2, .slice A2 n2.length c2, .slice B2 e2.length d2] 25)
  exact ⟨blk_alloc (blk_new _ _) _, by
    have := blk_new (w.alloc (.cells #[.int .i64 s1, .slice A1 n1.length c1, .slice B1 e1.length d1] 25)) (.cells #[.int .i64 s2, .slice A2 n2.length c2, .slice B2 e2.length d2] 25)
    simpa using this, g1.below hb, g2.below hb, hb⟩
end
theorem Got.rows_max {A : Option Addr} {c : Nat} {n : List (List Int)} {B : Option Addr} {d : Nat} {e : List Bool} {W : World} (h : Got 0 A c n B d e W) : n.length ≤ 9223372036854775807 ∧ (∀ r ∈ n, r.length ≤ 9223372036854775807) ∧ e.length ≤ 9223372036854775807 := by
  refine ⟨Kd.C_max h.n2, fun r hr => ?_, Kd.C_max h.e2⟩
  obtain ⟨i, hi, rfl⟩ := List.getElem_of_mem hr
  obtain ⟨ad, A0, c0, e, h2, h3, h4⟩ := at_row h.n2 i hi
  have := Kd.C_max h4
  rw [List.getD_eq_getElem?_getD, List.getElem?_eq_getElem hi] at this
  exact this

set_option maxHeartbeats 2000000 in
theorem MarkMakes_walk (s1 : Int) (A1 : Option Addr) (c1 : Nat) (n1 : List (List Int)) (B1 : Option Addr) (d1 : Nat) (e1 : List Bool) (s2 : Int) (A2 : Option Addr) (c2 : Nat) (n2 : List (List Int)) (B2 : Option Addr) (d2 : Nat) (e2 : List Bool) (most : Int) (w : World)
    (g1 : Got 0 A1 c1 n1 B1 d1 e1 w) (g2 : Got 0 A2 c2 n2 B2 d2 e2 w) :
    Calls Try.prog 3 #[.agg #[.int .i64 s1, .slice A1 n1.length c1, .slice B1 e1.length d1], .agg #[.int .i64 s2, .slice A2 n2.length c2, .slice B2 e2.length d2], .int .i64 most] w fun e w' => e = .returned (.bool true) ∧ Below w.heap.size w w' := by
  have hu25 := Try.underlying25
  have I0 := Two25.start (s1 := s1) (s2 := s2) g1 g2
  have G1 := Aside0.mk g1
  have G2 := Aside0.mk g2
  clear g1 g2
  obtain ⟨ka, ra, hga⟩ := great_f s1 n1 e1 150 G1.out.rows_max.1
  obtain ⟨kb, rb, hgb⟩ := great_f s2 n2 e2 150 G2.out.rows_max.1
  have HGA := Aside0.mk hga
  have HGB := Aside0.mk hgb
  clear hga hgb
  go_enter Try.func3, Try.ntmps3
  go_upto_region 1 with (fail)
  obtain ⟨W, hW⟩ : ∃ W, W = (w.alloc (.cells #[.int .i64 s1, .slice A1 n1.length c1, .slice B1 e1.length d1] 25)).alloc (.cells #[.int .i64 s2, .slice A2 n2.length c2, .slice B2 e2.length d2] 25) := ⟨_, rfl⟩
  rw [← hW] at I0 ⊢
  clear hW
  have II := Aside0.mk I0
  clear I0
  go_wp2_with fail
  refine (alive12 W).mono ?_
  rintro e W2 ⟨rfl, hb⟩
  have I2 := Aside0.mk (II.out.below hb)
  clear II hb
  have p0 := (blk_cell I2.out.a 0).trans rfl
  have p1 := (blk_cell I2.out.a 1).trans rfl
  have p2 := (blk_cell I2.out.a 2).trans rfl
  go_wp2_with fail
  refine (PMarkMakes.caesuraref15_Great.calls ka s1 A1 c1 n1 B1 d1 e1 150 ra W2 I2.out.g1.n2 I2.out.g1.n1 I2.out.g1.e2 I2.out.g1.e1 HGA.out).mono ?_
  rintro e W3 ⟨rfl, hb⟩
  have I3 := Aside0.mk (I2.out.below hb)
  clear I2 hb p0 p1 p2
  cases ra with
  | true =>
    go_wp2_with fail
    go_ret
    exact ⟨rfl, I3.out.bel⟩
  | false =>
    have q0 := (blk_cell I3.out.b 0).trans rfl
    have q1 := (blk_cell I3.out.b 1).trans rfl
    have q2 := (blk_cell I3.out.b 2).trans rfl
    go_wp2_with fail
    refine (PMarkMakes.caesuraref15_Great.calls kb s2 A2 c2 n2 B2 d2 e2 150 rb W3 I3.out.g2.n2 I3.out.g2.n1 I3.out.g2.e2 I3.out.g2.e1 HGB.out).mono ?_
    rintro e W4 ⟨rfl, hb⟩
    have I4 := Aside0.mk (I3.out.below hb)
    clear I3 hb q0 q1 q2
    cases rb with
    | true =>
      go_wp2_with fail
      go_ret
      exact ⟨rfl, I4.out.bel⟩
    | false =>
      obtain ⟨r1, r2, r3, r4, hf⟩ : ∃ r1 r2 r3 r4, markF s1 n1 e1 s2 n2 e2 most = (r1, r2, r3, r4) := ⟨_, _, _, _, rfl⟩
      have HF := Aside0.mk hf
      clear hf
      have p0 := (blk_cell I4.out.a 0).trans rfl
      have p1 := (blk_cell I4.out.a 1).trans rfl
      have p2 := (blk_cell I4.out.a 2).trans rfl
      have q0 := (blk_cell I4.out.b 0).trans rfl
      have q1 := (blk_cell I4.out.b 1).trans rfl
      have q2 := (blk_cell I4.out.b 2).trans rfl
      go_wp2_with fail
      refine (mark_of s1 A1 c1 n1 B1 d1 e1 s2 A2 c2 n2 B2 d2 e2 most W4 I4.out.g1.n2 I4.out.g1.n1 I4.out.g1.e2 I4.out.g1.e1 I4.out.g2.n2 I4.out.g2.n1 I4.out.g2.e2 I4.out.g2.e1 r1 r2 r3 r4 HF.out).mono ?_
      rintro e W5 ⟨v1, v2, rfl, hs, hr, hb⟩
      obtain ⟨D1, k1, rfl⟩ := Kd.S_slice hs
      obtain ⟨D2, k2, rfl⟩ := Kd.R_slice hr
      have GX : Aside0 (Got 0 D1 k1 r2 D2 k2 r3 W5) := ⟨⟨(Kd.S_reads' hs).2.1, (Kd.S_reads' hs).2.2, (Kd.R_reads' hr).2.1, (Kd.R_reads' hr).2.2⟩⟩
      have I5 := Aside0.mk (I4.out.below hb)
      clear I4 hs hr hb p0 p1 p2 q0 q1 q2
      go_upto_region 6 with (fail)
      obtain ⟨W6, hW6⟩ : ∃ W6, W6 = W5.alloc (.cells #[.int .i64 r1, .slice D1 r2.length k1, .slice D2 r3.length k2] 25) := ⟨_, rfl⟩
      have hb6 : Below W5.heap.size W5 W6 := by rw [hW6]; exact below_alloc (Below.refl _ _) _
      have hx6 : W6.heap[W5.heap.size]? = some (.cells #[.int .i64 r1, .slice D1 r2.length k1, .slice D2 r3.length k2] 25 (0, 0)) := by rw [hW6]; exact blk_new _ _
      rw [← hW6]
      clear hW6
      obtain ⟨gx, hgx⟩ : ∃ gx, gx = W5.heap.size := ⟨_, rfl⟩
      rw [← hgx] at hx6 ⊢
      clear hgx
      have XX6 := Aside0.mk hx6
      have GX6 := Aside0.mk (GX.out.below hb6)
      have I6 := Aside0.mk (I5.out.below hb6)
      clear GX I5 hb6 hx6
      have p0 := (blk_cell I6.out.a 0).trans rfl
      have p1 := (blk_cell I6.out.a 1).trans rfl
      have p2 := (blk_cell I6.out.a 2).trans rfl
      have q0 := (blk_cell I6.out.b 0).trans rfl
      have q1 := (blk_cell I6.out.b 1).trans rfl
      have q2 := (blk_cell I6.out.b 2).trans rfl
      go_wp2_with fail
      refine (ref_of s1 A1 c1 n1 B1 d1 e1 s2 A2 c2 n2 B2 d2 e2 most W6 I6.out.g1.n2 I6.out.g1.n1 I6.out.g1.e2 I6.out.g1.e1 I6.out.g2.n2 I6.out.g2.n1 I6.out.g2.e2 I6.out.g2.e1 r1 r2 r3 r4 HF.out).mono ?_
      rintro e W7 ⟨v1, v2, rfl, hs, hr, hb⟩
      obtain ⟨E1, l1, rfl⟩ := Kd.S_slice hs
      obtain ⟨E2, l2, rfl⟩ := Kd.R_slice hr
      have GY : Aside0 (Got 0 E1 l1 r2 E2 l2 r3 W7) := ⟨⟨(Kd.S_reads' hs).2.1, (Kd.S_reads' hs).2.2, (Kd.R_reads' hr).2.1, (Kd.R_reads' hr).2.2⟩⟩
      have I7 := Aside0.mk (I6.out.below hb)
      have XX7 := Aside0.mk (blk_below XX6.out hb)
      have GX7 := Aside0.mk (GX6.out.below hb)
      clear I6 XX6 GX6 hs hr hb p0 p1 p2 q0 q1 q2
      go_upto_region 7 with (fail)
      obtain ⟨W8, hW8⟩ : ∃ W8, W8 = W7.alloc (.cells #[.int .i64 r1, .slice E1 r2.length l1, .slice E2 r3.length l2] 25) := ⟨_, rfl⟩
      have hb8 : Below W7.heap.size W7 W8 := by rw [hW8]; exact below_alloc (Below.refl _ _) _
      have hx8 : W8.heap[W7.heap.size]? = some (.cells #[.int .i64 r1, .slice E1 r2.length l1, .slice E2 r3.length l2] 25 (0, 0)) := by rw [hW8]; exact blk_new _ _
      rw [← hW8]
      clear hW8
      obtain ⟨gy, hgy⟩ : ∃ gy, gy = W7.heap.size := ⟨_, rfl⟩
      rw [← hgy] at hx8 ⊢
      clear hgy
      have GX8 := Aside0.mk (GX7.out.below hb8)
      have GY8 := Aside0.mk (GY.out.below hb8)
      have XX8 := Aside0.mk (blk_below XX7.out hb8)
      have I8 := Aside0.mk (I7.out.below hb8)
      have x0 := (blk_cell XX8.out 0).trans rfl
      have x1 := (blk_cell XX8.out 1).trans rfl
      have x2 := (blk_cell XX8.out 2).trans rfl
      have y0 := (blk_cell hx8 0).trans rfl
      have y1 := (blk_cell hx8 1).trans rfl
      have y2 := (blk_cell hx8 2).trans rfl
      clear GX7 GY XX7 I7 hb8 hx8
      obtain ⟨ks, hks⟩ := same_f r1 r2 r3 r1 r2 r3 GX8.out.rows_max.1 GX8.out.rows_max.2.1 GX8.out.rows_max.2.2
      have HS := Aside0.mk (hks.trans (by simp : _ = some true))
      clear hks
      go_wp2_with fail
      refine (PMarkMakes.caesuraref15_Same.calls ks r1 D1 k1 r2 D2 k2 r3 r1 E1 l1 r2 E2 l2 r3 true W8 GX8.out.n2 GX8.out.n1 GX8.out.e2 GX8.out.e1 GY8.out.n2 GY8.out.n1 GY8.out.e2 GY8.out.e1 HS.out).mono ?_
      rintro e W9 ⟨rfl, hb⟩
      have BL := Aside0.mk (I8.out.bel.trans (hb.mono I8.out.bel.size))
      have hr4 : (r4 == r4) = true := by simp
      clear hb
      go_wp2_with fail
      go_ret
      exact ⟨rfl, BL.out⟩
end Go.Proofs.Ytpedenbcfbflbaa.X
