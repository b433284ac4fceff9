/- a law of 01, walked. -/
import Derived.Test.YtippkbgeeeimjaaXSet
namespace Go.Proofs.Ytippkbgeeeimjaa.L
open Go.RowKit Go.Proofs.YtippkbgeeeimjaaW.PrintWords Go.Proofs.YtippkbgeeeimjaaW.PrintLast Go.Proofs.YtippkbgeeeimjaaW.PrintMore Go.Proofs.Ytippkbgeeeimjaa.A Go.Proofs.Ytippkbgeeeimjaa.P Go.Proofs.Ytippkbgeeeimjaa.B
set_option linter.unusedVariables false
set_option linter.unusedSimpArgs false

set_option maxHeartbeats 4000000 in
set_option maxRecDepth 100000 in
theorem answers_great (A0 : Option Addr) (c0 : Nat) (l0 : List S34) (A1 : Option Addr) (c1 : Nat) (l1 : List S34) (a2 : Int) (w : World) (hr0 : Kd.C k34 w A0 l0.length l0) (hc0 : l0.length ≤ c0) (hr1 : Kd.C k34 w A1 l1.length l1) (hc1 : l1.length ≤ c1) (hG : grF2 l0 l1 = true) : Calls Try.prog 3 #[.slice A0 l0.length c0, .slice A1 l1.length c1, .int .i64 a2] w fun e w' => e = .returned (.bool true) ∧ Below w.heap.size w w' := by
  have AR0 := Aside0.mk hr0
  have AC0 := Aside0.mk hc0
  clear hr0 hc0
  have AR1 := Aside0.mk hr1
  have AC1 := Aside0.mk hc1
  clear hr1 hc1
  have BL := Aside0.mk (Below.refl w.heap.size w)
  go_enter Try.func3, Try.ntmps3
  go_wp2_with fail
  refine (caesuralaw01_alive.calls true w rfl).mono ?_
  rintro e_ V1 ⟨rfl, hb⟩
  have n_AR0 := Aside0.mk (Kd.C_below AR0.out hb)
  have n_AR1 := Aside0.mk (Kd.C_below AR1.out hb)
  have n_BL := Aside0.mk (BL.out.trans (Below.mono hb BL.out.size))
  clear AR0 AR1 BL
  have AR0 := n_AR0
  have AR1 := n_AR1
  have BL := n_BL
  clear n_AR0 n_AR1 n_BL
  clear hb
  go_wp2_with fail
  obtain ⟨V2, h_⟩ : ∃ W_, W_ = V1.alloc (.cells #[.slice A0 l0.length c0, .slice A1 l1.length c1] 22) := ⟨_, rfl⟩
  have hb_ : Below V1.heap.size V1 V2 := by rw [h_]; exact below_alloc (Below.refl _ _) _
  have hx_ : V2.heap[V1.heap.size]? = some (.cells #[.slice A0 l0.length c0, .slice A1 l1.length c1] 22 (0, 0)) := by rw [h_]; exact blk_new _ _
  rw [← h_]
  clear h_
  have n_AR0 := Aside0.mk (Kd.C_below AR0.out hb_)
  have n_AR1 := Aside0.mk (Kd.C_below AR1.out hb_)
  have n_BL := Aside0.mk (BL.out.trans (Below.mono hb_ BL.out.size))
  clear AR0 AR1 BL
  have AR0 := n_AR0
  have AR1 := n_AR1
  have BL := n_BL
  clear n_AR0 n_AR1 n_BL
  clear hb_
  obtain ⟨gg, e_⟩ : ∃ g_, g_ = V1.heap.size := ⟨_, rfl⟩
  rw [← e_] at hx_ ⊢
  clear e_
  have XG := Aside0.mk hx_
  clear hx_
  refine (c12_2 (W := V2) (C_rows2 XG.out AR0.out AC0.out AR1.out AC1.out) true hG).mono ?_
  rintro e_ V3 ⟨rfl, hb⟩
  have n_AR0 := Aside0.mk (Kd.C_below AR0.out hb)
  have n_AR1 := Aside0.mk (Kd.C_below AR1.out hb)
  have n_BL := Aside0.mk (BL.out.trans (Below.mono hb BL.out.size))
  have n_XG := Aside0.mk (blk_below XG.out hb)
  clear AR0 AR1 BL XG
  have AR0 := n_AR0
  have AR1 := n_AR1
  have BL := n_BL
  have XG := n_XG
  clear n_AR0 n_AR1 n_BL n_XG
  clear hb
  clear XG
  go_wp2_with fail
  go_ret
  exact ⟨rfl, BL.out⟩
set_option maxHeartbeats 4000000 in
set_option maxRecDepth 100000 in
theorem answers_main (A0 : Option Addr) (c0 : Nat) (l0 : List S34) (A1 : Option Addr) (c1 : Nat) (l1 : List S34) (a2 : Int) (w : World) (hr0 : Kd.C k34 w A0 l0.length l0) (hc0 : l0.length ≤ c0) (hr1 : Kd.C k34 w A1 l1.length l1) (hc1 : l1.length ≤ c1) (hG : grF2 l0 l1 = false) : Calls Try.prog 3 #[.slice A0 l0.length c0, .slice A1 l1.length c1, .int .i64 a2] w fun e w' => e = .returned (.bool true) ∧ Below w.heap.size w w' := by
  have AR0 := Aside0.mk hr0
  have AC0 := Aside0.mk hc0
  clear hr0 hc0
  have AR1 := Aside0.mk hr1
  have AC1 := Aside0.mk hc1
  clear hr1 hc1
  have BL := Aside0.mk (Below.refl w.heap.size w)
  go_enter Try.func3, Try.ntmps3
  go_wp2_with fail
  refine (caesuralaw01_alive.calls true w rfl).mono ?_
  rintro e_ V1 ⟨rfl, hb⟩
  have n_AR0 := Aside0.mk (Kd.C_below AR0.out hb)
  have n_AR1 := Aside0.mk (Kd.C_below AR1.out hb)
  have n_BL := Aside0.mk (BL.out.trans (Below.mono hb BL.out.size))
  clear AR0 AR1 BL
  have AR0 := n_AR0
  have AR1 := n_AR1
  have BL := n_BL
  clear n_AR0 n_AR1 n_BL
  clear hb
  go_wp2_with fail
  obtain ⟨V2, h_⟩ : ∃ W_, W_ = V1.alloc (.cells #[.slice A0 l0.length c0, .slice A1 l1.length c1] 22) := ⟨_, rfl⟩
  have hb_ : Below V1.heap.size V1 V2 := by rw [h_]; exact below_alloc (Below.refl _ _) _
  have hx_ : V2.heap[V1.heap.size]? = some (.cells #[.slice A0 l0.length c0, .slice A1 l1.length c1] 22 (0, 0)) := by rw [h_]; exact blk_new _ _
  rw [← h_]
  clear h_
  have n_AR0 := Aside0.mk (Kd.C_below AR0.out hb_)
  have n_AR1 := Aside0.mk (Kd.C_below AR1.out hb_)
  have n_BL := Aside0.mk (BL.out.trans (Below.mono hb_ BL.out.size))
  clear AR0 AR1 BL
  have AR0 := n_AR0
  have AR1 := n_AR1
  have BL := n_BL
  clear n_AR0 n_AR1 n_BL
  clear hb_
  obtain ⟨gg, e_⟩ : ∃ g_, g_ = V1.heap.size := ⟨_, rfl⟩
  rw [← e_] at hx_ ⊢
  clear e_
  have XG := Aside0.mk hx_
  clear hx_
  refine (c12_2 (W := V2) (C_rows2 XG.out AR0.out AC0.out AR1.out AC1.out) false hG).mono ?_
  rintro e_ V3 ⟨rfl, hb⟩
  have n_AR0 := Aside0.mk (Kd.C_below AR0.out hb)
  have n_AR1 := Aside0.mk (Kd.C_below AR1.out hb)
  have n_BL := Aside0.mk (BL.out.trans (Below.mono hb BL.out.size))
  have n_XG := Aside0.mk (blk_below XG.out hb)
  clear AR0 AR1 BL XG
  have AR0 := n_AR0
  have AR1 := n_AR1
  have BL := n_BL
  have XG := n_XG
  clear n_AR0 n_AR1 n_BL n_XG
  clear hb
  clear XG
  go_wp2_with fail
  refine (c14 A0 c0 l0 V3 AR0.out AC0.out A1 c1 l1 AR1.out AC1.out (orF l0 l1) rfl).mono ?_
  rintro e_ V4 ⟨v1, rfl, hs, hb⟩
  obtain ⟨R1, r1, rfl⟩ := Kd.R_slice hs
  have n_AR0 := Aside0.mk (Kd.C_below AR0.out hb)
  have n_AR1 := Aside0.mk (Kd.C_below AR1.out hb)
  have n_BL := Aside0.mk (BL.out.trans (Below.mono hb BL.out.size))
  clear AR0 AR1 BL
  have AR0 := n_AR0
  have AR1 := n_AR1
  have BL := n_BL
  clear n_AR0 n_AR1 n_BL
  have RA1 := Aside0.mk hs
  clear hs hb
  go_wp2_with fail
  refine (c15 A0 c0 l0 V4 AR0.out AC0.out A1 c1 l1 AR1.out AC1.out (orF l0 l1) rfl).mono ?_
  rintro e_ V5 ⟨v1, rfl, hs, hb⟩
  obtain ⟨R2, r2, rfl⟩ := Kd.R_slice hs
  have n_AR0 := Aside0.mk (Kd.C_below AR0.out hb)
  have n_AR1 := Aside0.mk (Kd.C_below AR1.out hb)
  have n_BL := Aside0.mk (BL.out.trans (Below.mono hb BL.out.size))
  have n_RA1 := Aside0.mk (Kd.R_below RA1.out hb)
  clear AR0 AR1 BL RA1
  have AR0 := n_AR0
  have AR1 := n_AR1
  have BL := n_BL
  have RA1 := n_RA1
  clear n_AR0 n_AR1 n_BL n_RA1
  have RA2 := Aside0.mk hs
  clear hs hb
  go_wp2_with fail
  refine (c13 R1 r1 (orF l0 l1) V5 (Kd.R_reads' RA1.out).2.2 (Kd.R_reads' RA1.out).2.1 R2 r2 (orF l0 l1) (Kd.R_reads' RA2.out).2.2 (Kd.R_reads' RA2.out).2.1 (by first | exact canon_small _ | exact pl_len _) rfl).mono ?_
  rintro e_ V6 ⟨rfl, hb⟩
  have n_AR0 := Aside0.mk (Kd.C_below AR0.out hb)
  have n_AR1 := Aside0.mk (Kd.C_below AR1.out hb)
  have n_BL := Aside0.mk (BL.out.trans (Below.mono hb BL.out.size))
  have n_RA1 := Aside0.mk (Kd.R_below RA1.out hb)
  have n_RA2 := Aside0.mk (Kd.R_below RA2.out hb)
  clear AR0 AR1 BL RA1 RA2
  have AR0 := n_AR0
  have AR1 := n_AR1
  have BL := n_BL
  have RA1 := n_RA1
  have RA2 := n_RA2
  clear n_AR0 n_AR1 n_BL n_RA1 n_RA2
  clear hb
  clear RA1 RA2
  go_wp2_with fail
  refine (c16 A0 c0 l0 V6 AR0.out AC0.out A1 c1 l1 AR1.out AC1.out (andF l0 l1) rfl).mono ?_
  rintro e_ V7 ⟨v1, rfl, hs, hb⟩
  obtain ⟨R3, r3, rfl⟩ := Kd.R_slice hs
  have n_AR0 := Aside0.mk (Kd.C_below AR0.out hb)
  have n_AR1 := Aside0.mk (Kd.C_below AR1.out hb)
  have n_BL := Aside0.mk (BL.out.trans (Below.mono hb BL.out.size))
  clear AR0 AR1 BL
  have AR0 := n_AR0
  have AR1 := n_AR1
  have BL := n_BL
  clear n_AR0 n_AR1 n_BL
  have RA3 := Aside0.mk hs
  clear hs hb
  go_wp2_with fail
  refine (c17 A0 c0 l0 V7 AR0.out AC0.out A1 c1 l1 AR1.out AC1.out (andF l0 l1) rfl).mono ?_
  rintro e_ V8 ⟨v1, rfl, hs, hb⟩
  obtain ⟨R4, r4, rfl⟩ := Kd.R_slice hs
  have n_AR0 := Aside0.mk (Kd.C_below AR0.out hb)
  have n_AR1 := Aside0.mk (Kd.C_below AR1.out hb)
  have n_BL := Aside0.mk (BL.out.trans (Below.mono hb BL.out.size))
  have n_RA3 := Aside0.mk (Kd.R_below RA3.out hb)
  clear AR0 AR1 BL RA3
  have AR0 := n_AR0
  have AR1 := n_AR1
  have BL := n_BL
  have RA3 := n_RA3
  clear n_AR0 n_AR1 n_BL n_RA3
  have RA4 := Aside0.mk hs
  clear hs hb
  go_wp2_with fail
  refine (c13 R3 r3 (andF l0 l1) V8 (Kd.R_reads' RA3.out).2.2 (Kd.R_reads' RA3.out).2.1 R4 r4 (andF l0 l1) (Kd.R_reads' RA4.out).2.2 (Kd.R_reads' RA4.out).2.1 (by first | exact canon_small _ | exact pl_len _) rfl).mono ?_
  rintro e_ V9 ⟨rfl, hb⟩
  have n_AR0 := Aside0.mk (Kd.C_below AR0.out hb)
  have n_AR1 := Aside0.mk (Kd.C_below AR1.out hb)
  have n_BL := Aside0.mk (BL.out.trans (Below.mono hb BL.out.size))
  have n_RA3 := Aside0.mk (Kd.R_below RA3.out hb)
  have n_RA4 := Aside0.mk (Kd.R_below RA4.out hb)
  clear AR0 AR1 BL RA3 RA4
  have AR0 := n_AR0
  have AR1 := n_AR1
  have BL := n_BL
  have RA3 := n_RA3
  have RA4 := n_RA4
  clear n_AR0 n_AR1 n_BL n_RA3 n_RA4
  clear hb
  clear RA3 RA4
  go_wp2_with fail
  refine (c18 A0 c0 l0 V9 AR0.out AC0.out A1 c1 l1 AR1.out AC1.out (lessF l0 l1) rfl).mono ?_
  rintro e_ V10 ⟨v1, rfl, hs, hb⟩
  obtain ⟨R5, r5, rfl⟩ := Kd.R_slice hs
  have n_AR0 := Aside0.mk (Kd.C_below AR0.out hb)
  have n_AR1 := Aside0.mk (Kd.C_below AR1.out hb)
  have n_BL := Aside0.mk (BL.out.trans (Below.mono hb BL.out.size))
  clear AR0 AR1 BL
  have AR0 := n_AR0
  have AR1 := n_AR1
  have BL := n_BL
  clear n_AR0 n_AR1 n_BL
  have RA5 := Aside0.mk hs
  clear hs hb
  go_wp2_with fail
  refine (c19 A0 c0 l0 V10 AR0.out AC0.out A1 c1 l1 AR1.out AC1.out (lessF l0 l1) rfl).mono ?_
  rintro e_ V11 ⟨v1, rfl, hs, hb⟩
  obtain ⟨R6, r6, rfl⟩ := Kd.R_slice hs
  have n_AR0 := Aside0.mk (Kd.C_below AR0.out hb)
  have n_AR1 := Aside0.mk (Kd.C_below AR1.out hb)
  have n_BL := Aside0.mk (BL.out.trans (Below.mono hb BL.out.size))
  have n_RA5 := Aside0.mk (Kd.R_below RA5.out hb)
  clear AR0 AR1 BL RA5
  have AR0 := n_AR0
  have AR1 := n_AR1
  have BL := n_BL
  have RA5 := n_RA5
  clear n_AR0 n_AR1 n_BL n_RA5
  have RA6 := Aside0.mk hs
  clear hs hb
  go_wp2_with fail
  refine (c13 R5 r5 (lessF l0 l1) V11 (Kd.R_reads' RA5.out).2.2 (Kd.R_reads' RA5.out).2.1 R6 r6 (lessF l0 l1) (Kd.R_reads' RA6.out).2.2 (Kd.R_reads' RA6.out).2.1 (by first | exact canon_small _ | exact pl_len _) rfl).mono ?_
  rintro e_ V12 ⟨rfl, hb⟩
  have n_AR0 := Aside0.mk (Kd.C_below AR0.out hb)
  have n_AR1 := Aside0.mk (Kd.C_below AR1.out hb)
  have n_BL := Aside0.mk (BL.out.trans (Below.mono hb BL.out.size))
  have n_RA5 := Aside0.mk (Kd.R_below RA5.out hb)
  have n_RA6 := Aside0.mk (Kd.R_below RA6.out hb)
  clear AR0 AR1 BL RA5 RA6
  have AR0 := n_AR0
  have AR1 := n_AR1
  have BL := n_BL
  have RA5 := n_RA5
  have RA6 := n_RA6
  clear n_AR0 n_AR1 n_BL n_RA5 n_RA6
  clear hb
  clear RA5 RA6
  go_wp2_with fail
  refine (c20 A0 c0 l0 V12 AR0.out AC0.out (notF l0) rfl).mono ?_
  rintro e_ V13 ⟨v1, rfl, hs, hb⟩
  obtain ⟨R7, r7, rfl⟩ := Kd.R_slice hs
  have n_AR0 := Aside0.mk (Kd.C_below AR0.out hb)
  have n_AR1 := Aside0.mk (Kd.C_below AR1.out hb)
  have n_BL := Aside0.mk (BL.out.trans (Below.mono hb BL.out.size))
  clear AR0 AR1 BL
  have AR0 := n_AR0
  have AR1 := n_AR1
  have BL := n_BL
  clear n_AR0 n_AR1 n_BL
  have RA7 := Aside0.mk hs
  clear hs hb
  go_wp2_with fail
  refine (c21 A0 c0 l0 V13 AR0.out AC0.out (notF l0) rfl).mono ?_
  rintro e_ V14 ⟨v1, rfl, hs, hb⟩
  obtain ⟨R8, r8, rfl⟩ := Kd.R_slice hs
  have n_AR0 := Aside0.mk (Kd.C_below AR0.out hb)
  have n_AR1 := Aside0.mk (Kd.C_below AR1.out hb)
  have n_BL := Aside0.mk (BL.out.trans (Below.mono hb BL.out.size))
  have n_RA7 := Aside0.mk (Kd.R_below RA7.out hb)
  clear AR0 AR1 BL RA7
  have AR0 := n_AR0
  have AR1 := n_AR1
  have BL := n_BL
  have RA7 := n_RA7
  clear n_AR0 n_AR1 n_BL n_RA7
  have RA8 := Aside0.mk hs
  clear hs hb
  go_wp2_with fail
  refine (c13 R7 r7 (notF l0) V14 (Kd.R_reads' RA7.out).2.2 (Kd.R_reads' RA7.out).2.1 R8 r8 (notF l0) (Kd.R_reads' RA8.out).2.2 (Kd.R_reads' RA8.out).2.1 (by first | exact canon_small _ | exact pl_len _) rfl).mono ?_
  rintro e_ V15 ⟨rfl, hb⟩
  have n_AR0 := Aside0.mk (Kd.C_below AR0.out hb)
  have n_AR1 := Aside0.mk (Kd.C_below AR1.out hb)
  have n_BL := Aside0.mk (BL.out.trans (Below.mono hb BL.out.size))
  have n_RA7 := Aside0.mk (Kd.R_below RA7.out hb)
  have n_RA8 := Aside0.mk (Kd.R_below RA8.out hb)
  clear AR0 AR1 BL RA7 RA8
  have AR0 := n_AR0
  have AR1 := n_AR1
  have BL := n_BL
  have RA7 := n_RA7
  have RA8 := n_RA8
  clear n_AR0 n_AR1 n_BL n_RA7 n_RA8
  clear hb
  clear RA7 RA8
  go_wp2_with fail
  refine (c22 A0 c0 l0 V15 AR0.out AC0.out (plF l0) rfl).mono ?_
  rintro e_ V16 ⟨v1, rfl, hs, hb⟩
  obtain ⟨R9, r9, rfl⟩ := Kd.R_slice hs
  have n_AR0 := Aside0.mk (Kd.C_below AR0.out hb)
  have n_AR1 := Aside0.mk (Kd.C_below AR1.out hb)
  have n_BL := Aside0.mk (BL.out.trans (Below.mono hb BL.out.size))
  clear AR0 AR1 BL
  have AR0 := n_AR0
  have AR1 := n_AR1
  have BL := n_BL
  clear n_AR0 n_AR1 n_BL
  have RA9 := Aside0.mk hs
  clear hs hb
  go_wp2_with fail
  refine (c23 A0 c0 l0 V16 AR0.out AC0.out (plF l0) rfl).mono ?_
  rintro e_ V17 ⟨v1, rfl, hs, hb⟩
  obtain ⟨R10, r10, rfl⟩ := Kd.R_slice hs
  have n_AR0 := Aside0.mk (Kd.C_below AR0.out hb)
  have n_AR1 := Aside0.mk (Kd.C_below AR1.out hb)
  have n_BL := Aside0.mk (BL.out.trans (Below.mono hb BL.out.size))
  have n_RA9 := Aside0.mk (Kd.R_below RA9.out hb)
  clear AR0 AR1 BL RA9
  have AR0 := n_AR0
  have AR1 := n_AR1
  have BL := n_BL
  have RA9 := n_RA9
  clear n_AR0 n_AR1 n_BL n_RA9
  have RA10 := Aside0.mk hs
  clear hs hb
  go_wp2_with fail
  refine (c13 R9 r9 (plF l0) V17 (Kd.R_reads' RA9.out).2.2 (Kd.R_reads' RA9.out).2.1 R10 r10 (plF l0) (Kd.R_reads' RA10.out).2.2 (Kd.R_reads' RA10.out).2.1 (by first | exact canon_small _ | exact pl_len _) rfl).mono ?_
  rintro e_ V18 ⟨rfl, hb⟩
  have n_AR0 := Aside0.mk (Kd.C_below AR0.out hb)
  have n_AR1 := Aside0.mk (Kd.C_below AR1.out hb)
  have n_BL := Aside0.mk (BL.out.trans (Below.mono hb BL.out.size))
  have n_RA9 := Aside0.mk (Kd.R_below RA9.out hb)
  have n_RA10 := Aside0.mk (Kd.R_below RA10.out hb)
  clear AR0 AR1 BL RA9 RA10
  have AR0 := n_AR0
  have AR1 := n_AR1
  have BL := n_BL
  have RA9 := n_RA9
  have RA10 := n_RA10
  clear n_AR0 n_AR1 n_BL n_RA9 n_RA10
  clear hb
  clear RA9 RA10
  obtain ⟨b1, q1⟩ : ∃ b_, hasF l0 a2 = b_ := ⟨_, rfl⟩
  obtain ⟨n1, q2⟩ : ∃ b_, firstF l0 = b_ := ⟨_, rfl⟩
  obtain ⟨n2, q3⟩ : ∃ b_, sizeF l0 = b_ := ⟨_, rfl⟩
  obtain ⟨b2, q4⟩ : ∃ b_, sameF l0 l1 = b_ := ⟨_, rfl⟩
  obtain ⟨b3, q5⟩ : ∃ b_, rightF l0 = b_ := ⟨_, rfl⟩
  have Q1 := Aside0.mk q1
  clear q1
  have Q2 := Aside0.mk q2
  clear q2
  have Q3 := Aside0.mk q3
  clear q3
  have Q4 := Aside0.mk q4
  clear q4
  have Q5 := Aside0.mk q5
  clear q5
  go_wp2_with fail
  refine (c24 A0 c0 l0 V18 AR0.out AC0.out a2 b1 Q1.out).mono ?_
  rintro e_ V19 ⟨rfl, hb⟩
  have n_AR0 := Aside0.mk (Kd.C_below AR0.out hb)
  have n_AR1 := Aside0.mk (Kd.C_below AR1.out hb)
  have n_BL := Aside0.mk (BL.out.trans (Below.mono hb BL.out.size))
  clear AR0 AR1 BL
  have AR0 := n_AR0
  have AR1 := n_AR1
  have BL := n_BL
  clear n_AR0 n_AR1 n_BL
  clear hb
  go_wp2_with fail
  refine (c25 A0 c0 l0 V19 AR0.out AC0.out a2 b1 Q1.out).mono ?_
  rintro e_ V20 ⟨rfl, hb⟩
  have n_AR0 := Aside0.mk (Kd.C_below AR0.out hb)
  have n_AR1 := Aside0.mk (Kd.C_below AR1.out hb)
  have n_BL := Aside0.mk (BL.out.trans (Below.mono hb BL.out.size))
  clear AR0 AR1 BL
  have AR0 := n_AR0
  have AR1 := n_AR1
  have BL := n_BL
  clear n_AR0 n_AR1 n_BL
  clear hb
  go_wp2_with fail
  refine (c26 A0 c0 l0 V20 AR0.out AC0.out n1 Q2.out).mono ?_
  rintro e_ V21 ⟨rfl, hb⟩
  have n_AR0 := Aside0.mk (Kd.C_below AR0.out hb)
  have n_AR1 := Aside0.mk (Kd.C_below AR1.out hb)
  have n_BL := Aside0.mk (BL.out.trans (Below.mono hb BL.out.size))
  clear AR0 AR1 BL
  have AR0 := n_AR0
  have AR1 := n_AR1
  have BL := n_BL
  clear n_AR0 n_AR1 n_BL
  clear hb
  go_wp2_with fail
  refine (c27 A0 c0 l0 V21 AR0.out AC0.out n1 Q2.out).mono ?_
  rintro e_ V22 ⟨rfl, hb⟩
  have n_AR0 := Aside0.mk (Kd.C_below AR0.out hb)
  have n_AR1 := Aside0.mk (Kd.C_below AR1.out hb)
  have n_BL := Aside0.mk (BL.out.trans (Below.mono hb BL.out.size))
  clear AR0 AR1 BL
  have AR0 := n_AR0
  have AR1 := n_AR1
  have BL := n_BL
  clear n_AR0 n_AR1 n_BL
  clear hb
  go_wp2_with fail
  refine (c28 A0 c0 l0 V22 AR0.out AC0.out n2 Q3.out).mono ?_
  rintro e_ V23 ⟨rfl, hb⟩
  have n_AR0 := Aside0.mk (Kd.C_below AR0.out hb)
  have n_AR1 := Aside0.mk (Kd.C_below AR1.out hb)
  have n_BL := Aside0.mk (BL.out.trans (Below.mono hb BL.out.size))
  clear AR0 AR1 BL
  have AR0 := n_AR0
  have AR1 := n_AR1
  have BL := n_BL
  clear n_AR0 n_AR1 n_BL
  clear hb
  go_wp2_with fail
  refine (c29 A0 c0 l0 V23 AR0.out AC0.out n2 Q3.out).mono ?_
  rintro e_ V24 ⟨rfl, hb⟩
  have n_AR0 := Aside0.mk (Kd.C_below AR0.out hb)
  have n_AR1 := Aside0.mk (Kd.C_below AR1.out hb)
  have n_BL := Aside0.mk (BL.out.trans (Below.mono hb BL.out.size))
  clear AR0 AR1 BL
  have AR0 := n_AR0
  have AR1 := n_AR1
  have BL := n_BL
  clear n_AR0 n_AR1 n_BL
  clear hb
  go_wp2_with fail
  refine (c30 A0 c0 l0 V24 AR0.out AC0.out A1 c1 l1 AR1.out AC1.out b2 Q4.out).mono ?_
  rintro e_ V25 ⟨rfl, hb⟩
  have n_AR0 := Aside0.mk (Kd.C_below AR0.out hb)
  have n_AR1 := Aside0.mk (Kd.C_below AR1.out hb)
  have n_BL := Aside0.mk (BL.out.trans (Below.mono hb BL.out.size))
  clear AR0 AR1 BL
  have AR0 := n_AR0
  have AR1 := n_AR1
  have BL := n_BL
  clear n_AR0 n_AR1 n_BL
  clear hb
  go_wp2_with fail
  refine (c31 A0 c0 l0 V25 AR0.out AC0.out A1 c1 l1 AR1.out AC1.out b2 Q4.out).mono ?_
  rintro e_ V26 ⟨rfl, hb⟩
  have n_AR0 := Aside0.mk (Kd.C_below AR0.out hb)
  have n_AR1 := Aside0.mk (Kd.C_below AR1.out hb)
  have n_BL := Aside0.mk (BL.out.trans (Below.mono hb BL.out.size))
  clear AR0 AR1 BL
  have AR0 := n_AR0
  have AR1 := n_AR1
  have BL := n_BL
  clear n_AR0 n_AR1 n_BL
  clear hb
  go_wp2_with fail
  refine (c32 A0 c0 l0 V26 AR0.out AC0.out b3 Q5.out).mono ?_
  rintro e_ V27 ⟨rfl, hb⟩
  have n_AR0 := Aside0.mk (Kd.C_below AR0.out hb)
  have n_AR1 := Aside0.mk (Kd.C_below AR1.out hb)
  have n_BL := Aside0.mk (BL.out.trans (Below.mono hb BL.out.size))
  clear AR0 AR1 BL
  have AR0 := n_AR0
  have AR1 := n_AR1
  have BL := n_BL
  clear n_AR0 n_AR1 n_BL
  clear hb
  go_wp2_with fail
  refine (c33 A0 c0 l0 V27 AR0.out AC0.out b3 Q5.out).mono ?_
  rintro e_ V28 ⟨rfl, hb⟩
  have n_AR0 := Aside0.mk (Kd.C_below AR0.out hb)
  have n_AR1 := Aside0.mk (Kd.C_below AR1.out hb)
  have n_BL := Aside0.mk (BL.out.trans (Below.mono hb BL.out.size))
  clear AR0 AR1 BL
  have AR0 := n_AR0
  have AR1 := n_AR1
  have BL := n_BL
  clear n_AR0 n_AR1 n_BL
  clear hb
  go_wp2_with fail
  go_ret
  exact ⟨by simp, BL.out⟩
theorem SpanAnswers_calls (A0 : Option Addr) (c0 : Nat) (l0 : List S34) (A1 : Option Addr) (c1 : Nat) (l1 : List S34) (a2 : Int) (w : World) (hr0 : Kd.C k34 w A0 l0.length l0) (hc0 : l0.length ≤ c0) (hr1 : Kd.C k34 w A1 l1.length l1) (hc1 : l1.length ≤ c1) : Calls Try.prog 3 #[.slice A0 l0.length c0, .slice A1 l1.length c1, .int .i64 a2] w fun e w' => e = .returned (.bool true) ∧ Below w.heap.size w w' := by
  cases hG : grF2 l0 l1 with
  | true => exact answers_great A0 c0 l0 A1 c1 l1 a2 w hr0 hc0 hr1 hc1 hG
  | false => exact answers_main A0 c0 l0 A1 c1 l1 a2 w hr0 hc0 hr1 hc1 hG
end Go.Proofs.Ytippkbgeeeimjaa.L
