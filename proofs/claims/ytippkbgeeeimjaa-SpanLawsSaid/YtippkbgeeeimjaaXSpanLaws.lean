/- a law of 01, walked. -/
import Derived.Test.YtippkbgeeeimjaaXSet
namespace Go.Proofs.Ytippkbgeeeimjaa.L
open Go.RowKit Go.Proofs.YtippkbgeeeimjaaW.PrintWords Go.Proofs.YtippkbgeeeimjaaW.PrintLast Go.Proofs.YtippkbgeeeimjaaW.PrintMore Go.Proofs.Ytippkbgeeeimjaa.A Go.Proofs.Ytippkbgeeeimjaa.P Go.Proofs.Ytippkbgeeeimjaa.B
set_option linter.unusedVariables false
set_option linter.unusedSimpArgs false

set_option maxHeartbeats 4000000 in
set_option maxRecDepth 100000 in
theorem laws_great (A0 : Option Addr) (c0 : Nat) (l0 : List S34) (A1 : Option Addr) (c1 : Nat) (l1 : List S34) (A2 : Option Addr) (c2 : Nat) (l2 : List S34) (w : World) (hr0 : Kd.C k34 w A0 l0.length l0) (hc0 : l0.length ≤ c0) (hr1 : Kd.C k34 w A1 l1.length l1) (hc1 : l1.length ≤ c1) (hr2 : Kd.C k34 w A2 l2.length l2) (hc2 : l2.length ≤ c2) (hG : grF3 l0 l1 l2 = true) : Calls Try.prog 4 #[.slice A0 l0.length c0, .slice A1 l1.length c1, .slice A2 l2.length c2] w fun e w' => e = .returned (.bool true) ∧ Below w.heap.size w w' := by
  have AR0 := Aside0.mk hr0
  have AC0 := Aside0.mk hc0
  clear hr0 hc0
  have AR1 := Aside0.mk hr1
  have AC1 := Aside0.mk hc1
  clear hr1 hc1
  have AR2 := Aside0.mk hr2
  have AC2 := Aside0.mk hc2
  clear hr2 hc2
  have BL := Aside0.mk (Below.refl w.heap.size w)
  go_enter Try.func4, Try.ntmps4
  go_wp2_with fail
  refine (caesuralaw01_alive.calls true w rfl).mono ?_
  rintro e_ V1 ⟨rfl, hb⟩
  have n_AR0 := Aside0.mk (Kd.C_below AR0.out hb)
  have n_AR1 := Aside0.mk (Kd.C_below AR1.out hb)
  have n_AR2 := Aside0.mk (Kd.C_below AR2.out hb)
  have n_BL := Aside0.mk (BL.out.trans (Below.mono hb BL.out.size))
  clear AR0 AR1 AR2 BL
  have AR0 := n_AR0
  have AR1 := n_AR1
  have AR2 := n_AR2
  have BL := n_BL
  clear n_AR0 n_AR1 n_AR2 n_BL
  clear hb
  go_wp2_with fail
  obtain ⟨V2, h_⟩ : ∃ W_, W_ = V1.alloc (.cells #[.slice A0 l0.length c0, .slice A1 l1.length c1, .slice A2 l2.length c2] 22) := ⟨_, rfl⟩
  have hb_ : Below V1.heap.size V1 V2 := by rw [h_]; exact below_alloc (Below.refl _ _) _
  have hx_ : V2.heap[V1.heap.size]? = some (.cells #[.slice A0 l0.length c0, .slice A1 l1.length c1, .slice A2 l2.length c2] 22 (0, 0)) := by rw [h_]; exact blk_new _ _
  rw [← h_]
  clear h_
  have n_AR0 := Aside0.mk (Kd.C_below AR0.out hb_)
  have n_AR1 := Aside0.mk (Kd.C_below AR1.out hb_)
  have n_AR2 := Aside0.mk (Kd.C_below AR2.out hb_)
  have n_BL := Aside0.mk (BL.out.trans (Below.mono hb_ BL.out.size))
  clear AR0 AR1 AR2 BL
  have AR0 := n_AR0
  have AR1 := n_AR1
  have AR2 := n_AR2
  have BL := n_BL
  clear n_AR0 n_AR1 n_AR2 n_BL
  clear hb_
  obtain ⟨gg, e_⟩ : ∃ g_, g_ = V1.heap.size := ⟨_, rfl⟩
  rw [← e_] at hx_ ⊢
  clear e_
  have XG := Aside0.mk hx_
  clear hx_
  refine (c12_3 (W := V2) (C_rows3 XG.out AR0.out AC0.out AR1.out AC1.out AR2.out AC2.out) true hG).mono ?_
  rintro e_ V3 ⟨rfl, hb⟩
  have n_AR0 := Aside0.mk (Kd.C_below AR0.out hb)
  have n_AR1 := Aside0.mk (Kd.C_below AR1.out hb)
  have n_AR2 := Aside0.mk (Kd.C_below AR2.out hb)
  have n_BL := Aside0.mk (BL.out.trans (Below.mono hb BL.out.size))
  have n_XG := Aside0.mk (blk_below XG.out hb)
  clear AR0 AR1 AR2 BL XG
  have AR0 := n_AR0
  have AR1 := n_AR1
  have AR2 := n_AR2
  have BL := n_BL
  have XG := n_XG
  clear n_AR0 n_AR1 n_AR2 n_BL n_XG
  clear hb
  clear XG
  go_wp2_with fail
  go_ret
  exact ⟨rfl, BL.out⟩
set_option maxHeartbeats 4000000 in
set_option maxRecDepth 100000 in
theorem laws_long (A0 : Option Addr) (c0 : Nat) (l0 : List S34) (A1 : Option Addr) (c1 : Nat) (l1 : List S34) (A2 : Option Addr) (c2 : Nat) (l2 : List S34) (w : World) (hr0 : Kd.C k34 w A0 l0.length l0) (hc0 : l0.length ≤ c0) (hr1 : Kd.C k34 w A1 l1.length l1) (hc1 : l1.length ≤ c1) (hr2 : Kd.C k34 w A2 l2.length l2) (hc2 : l2.length ≤ c2) (hG : grF3 l0 l1 l2 = false) (hS : 300 < wrap64 (wrap64 ((l0.length : Int) + (l1.length : Int)) + (l2.length : Int))) : Calls Try.prog 4 #[.slice A0 l0.length c0, .slice A1 l1.length c1, .slice A2 l2.length c2] w fun e w' => e = .returned (.bool true) ∧ Below w.heap.size w w' := by
  have AR0 := Aside0.mk hr0
  have AC0 := Aside0.mk hc0
  clear hr0 hc0
  have AR1 := Aside0.mk hr1
  have AC1 := Aside0.mk hc1
  clear hr1 hc1
  have AR2 := Aside0.mk hr2
  have AC2 := Aside0.mk hc2
  clear hr2 hc2
  have BL := Aside0.mk (Below.refl w.heap.size w)
  go_enter Try.func4, Try.ntmps4
  go_wp2_with fail
  refine (caesuralaw01_alive.calls true w rfl).mono ?_
  rintro e_ V1 ⟨rfl, hb⟩
  have n_AR0 := Aside0.mk (Kd.C_below AR0.out hb)
  have n_AR1 := Aside0.mk (Kd.C_below AR1.out hb)
  have n_AR2 := Aside0.mk (Kd.C_below AR2.out hb)
  have n_BL := Aside0.mk (BL.out.trans (Below.mono hb BL.out.size))
  clear AR0 AR1 AR2 BL
  have AR0 := n_AR0
  have AR1 := n_AR1
  have AR2 := n_AR2
  have BL := n_BL
  clear n_AR0 n_AR1 n_AR2 n_BL
  clear hb
  go_wp2_with fail
  obtain ⟨V2, h_⟩ : ∃ W_, W_ = V1.alloc (.cells #[.slice A0 l0.length c0, .slice A1 l1.length c1, .slice A2 l2.length c2] 22) := ⟨_, rfl⟩
  have hb_ : Below V1.heap.size V1 V2 := by rw [h_]; exact below_alloc (Below.refl _ _) _
  have hx_ : V2.heap[V1.heap.size]? = some (.cells #[.slice A0 l0.length c0, .slice A1 l1.length c1, .slice A2 l2.length c2] 22 (0, 0)) := by rw [h_]; exact blk_new _ _
  rw [← h_]
  clear h_
  have n_AR0 := Aside0.mk (Kd.C_below AR0.out hb_)
  have n_AR1 := Aside0.mk (Kd.C_below AR1.out hb_)
  have n_AR2 := Aside0.mk (Kd.C_below AR2.out hb_)
  have n_BL := Aside0.mk (BL.out.trans (Below.mono hb_ BL.out.size))
  clear AR0 AR1 AR2 BL
  have AR0 := n_AR0
  have AR1 := n_AR1
  have AR2 := n_AR2
  have BL := n_BL
  clear n_AR0 n_AR1 n_AR2 n_BL
  clear hb_
  obtain ⟨gg, e_⟩ : ∃ g_, g_ = V1.heap.size := ⟨_, rfl⟩
  rw [← e_] at hx_ ⊢
  clear e_
  have XG := Aside0.mk hx_
  clear hx_
  refine (c12_3 (W := V2) (C_rows3 XG.out AR0.out AC0.out AR1.out AC1.out AR2.out AC2.out) false hG).mono ?_
  rintro e_ V3 ⟨rfl, hb⟩
  have n_AR0 := Aside0.mk (Kd.C_below AR0.out hb)
  have n_AR1 := Aside0.mk (Kd.C_below AR1.out hb)
  have n_AR2 := Aside0.mk (Kd.C_below AR2.out hb)
  have n_BL := Aside0.mk (BL.out.trans (Below.mono hb BL.out.size))
  have n_XG := Aside0.mk (blk_below XG.out hb)
  clear AR0 AR1 AR2 BL XG
  have AR0 := n_AR0
  have AR1 := n_AR1
  have AR2 := n_AR2
  have BL := n_BL
  have XG := n_XG
  clear n_AR0 n_AR1 n_AR2 n_BL n_XG
  clear hb
  clear XG
  go_wp2_with fail
  go_ret
  exact ⟨rfl, BL.out⟩
set_option maxHeartbeats 4000000 in
set_option maxRecDepth 100000 in
theorem laws_main (A0 : Option Addr) (c0 : Nat) (l0 : List S34) (A1 : Option Addr) (c1 : Nat) (l1 : List S34) (A2 : Option Addr) (c2 : Nat) (l2 : List S34) (w : World) (hr0 : Kd.C k34 w A0 l0.length l0) (hc0 : l0.length ≤ c0) (hr1 : Kd.C k34 w A1 l1.length l1) (hc1 : l1.length ≤ c1) (hr2 : Kd.C k34 w A2 l2.length l2) (hc2 : l2.length ≤ c2) (hG : grF3 l0 l1 l2 = false) (hS : ¬ (300 < wrap64 (wrap64 ((l0.length : Int) + (l1.length : Int)) + (l2.length : Int)))) (hK : l0.length + l1.length + l2.length ≤ 300) : Calls Try.prog 4 #[.slice A0 l0.length c0, .slice A1 l1.length c1, .slice A2 l2.length c2] w fun e w' => e = .returned (.bool true) ∧ Below w.heap.size w w' := by
  have AR0 := Aside0.mk hr0
  have AC0 := Aside0.mk hc0
  clear hr0 hc0
  have AR1 := Aside0.mk hr1
  have AC1 := Aside0.mk hc1
  clear hr1 hc1
  have AR2 := Aside0.mk hr2
  have AC2 := Aside0.mk hc2
  clear hr2 hc2
  have BL := Aside0.mk (Below.refl w.heap.size w)
  go_enter Try.func4, Try.ntmps4
  have K := Aside0.mk hK
  clear hK
  go_wp2_with fail
  refine (caesuralaw01_alive.calls true w rfl).mono ?_
  rintro e_ V1 ⟨rfl, hb⟩
  have n_AR0 := Aside0.mk (Kd.C_below AR0.out hb)
  have n_AR1 := Aside0.mk (Kd.C_below AR1.out hb)
  have n_AR2 := Aside0.mk (Kd.C_below AR2.out hb)
  have n_BL := Aside0.mk (BL.out.trans (Below.mono hb BL.out.size))
  clear AR0 AR1 AR2 BL
  have AR0 := n_AR0
  have AR1 := n_AR1
  have AR2 := n_AR2
  have BL := n_BL
  clear n_AR0 n_AR1 n_AR2 n_BL
  clear hb
  go_wp2_with fail
  obtain ⟨V2, h_⟩ : ∃ W_, W_ = V1.alloc (.cells #[.slice A0 l0.length c0, .slice A1 l1.length c1, .slice A2 l2.length c2] 22) := ⟨_, rfl⟩
  have hb_ : Below V1.heap.size V1 V2 := by rw [h_]; exact below_alloc (Below.refl _ _) _
  have hx_ : V2.heap[V1.heap.size]? = some (.cells #[.slice A0 l0.length c0, .slice A1 l1.length c1, .slice A2 l2.length c2] 22 (0, 0)) := by rw [h_]; exact blk_new _ _
  rw [← h_]
  clear h_
  have n_AR0 := Aside0.mk (Kd.C_below AR0.out hb_)
  have n_AR1 := Aside0.mk (Kd.C_below AR1.out hb_)
  have n_AR2 := Aside0.mk (Kd.C_below AR2.out hb_)
  have n_BL := Aside0.mk (BL.out.trans (Below.mono hb_ BL.out.size))
  clear AR0 AR1 AR2 BL
  have AR0 := n_AR0
  have AR1 := n_AR1
  have AR2 := n_AR2
  have BL := n_BL
  clear n_AR0 n_AR1 n_AR2 n_BL
  clear hb_
  obtain ⟨gg, e_⟩ : ∃ g_, g_ = V1.heap.size := ⟨_, rfl⟩
  rw [← e_] at hx_ ⊢
  clear e_
  have XG := Aside0.mk hx_
  clear hx_
  refine (c12_3 (W := V2) (C_rows3 XG.out AR0.out AC0.out AR1.out AC1.out AR2.out AC2.out) false hG).mono ?_
  rintro e_ V3 ⟨rfl, hb⟩
  have n_AR0 := Aside0.mk (Kd.C_below AR0.out hb)
  have n_AR1 := Aside0.mk (Kd.C_below AR1.out hb)
  have n_AR2 := Aside0.mk (Kd.C_below AR2.out hb)
  have n_BL := Aside0.mk (BL.out.trans (Below.mono hb BL.out.size))
  have n_XG := Aside0.mk (blk_below XG.out hb)
  clear AR0 AR1 AR2 BL XG
  have AR0 := n_AR0
  have AR1 := n_AR1
  have AR2 := n_AR2
  have BL := n_BL
  have XG := n_XG
  clear n_AR0 n_AR1 n_AR2 n_BL n_XG
  clear hb
  clear XG
  go_wp2_with fail
  refine (c14 A0 c0 l0 V3 AR0.out AC0.out A1 c1 l1 AR1.out AC1.out (orF l0 l1) rfl).mono ?_
  rintro e_ V4 ⟨v1, rfl, hs, hb⟩
  obtain ⟨R1, r1, rfl⟩ := Kd.R_slice hs
  have n_AR0 := Aside0.mk (Kd.C_below AR0.out hb)
  have n_AR1 := Aside0.mk (Kd.C_below AR1.out hb)
  have n_AR2 := Aside0.mk (Kd.C_below AR2.out hb)
  have n_BL := Aside0.mk (BL.out.trans (Below.mono hb BL.out.size))
  clear AR0 AR1 AR2 BL
  have AR0 := n_AR0
  have AR1 := n_AR1
  have AR2 := n_AR2
  have BL := n_BL
  clear n_AR0 n_AR1 n_AR2 n_BL
  have RA1 := Aside0.mk hs
  clear hs hb
  go_wp2_with fail
  refine (c16 A0 c0 l0 V4 AR0.out AC0.out A1 c1 l1 AR1.out AC1.out (andF l0 l1) rfl).mono ?_
  rintro e_ V5 ⟨v1, rfl, hs, hb⟩
  obtain ⟨R2, r2, rfl⟩ := Kd.R_slice hs
  have n_AR0 := Aside0.mk (Kd.C_below AR0.out hb)
  have n_AR1 := Aside0.mk (Kd.C_below AR1.out hb)
  have n_AR2 := Aside0.mk (Kd.C_below AR2.out hb)
  have n_BL := Aside0.mk (BL.out.trans (Below.mono hb BL.out.size))
  have n_RA1 := Aside0.mk (Kd.R_below RA1.out hb)
  clear AR0 AR1 AR2 BL RA1
  have AR0 := n_AR0
  have AR1 := n_AR1
  have AR2 := n_AR2
  have BL := n_BL
  have RA1 := n_RA1
  clear n_AR0 n_AR1 n_AR2 n_BL n_RA1
  have RA2 := Aside0.mk hs
  clear hs hb
  go_wp2_with fail
  refine (c14 A1 c1 l1 V5 AR1.out AC1.out A0 c0 l0 AR0.out AC0.out (orF l0 l1) (law_or_comm l0 l1)).mono ?_
  rintro e_ V6 ⟨v1, rfl, hs, hb⟩
  obtain ⟨R3, r3, rfl⟩ := Kd.R_slice hs
  have n_AR0 := Aside0.mk (Kd.C_below AR0.out hb)
  have n_AR1 := Aside0.mk (Kd.C_below AR1.out hb)
  have n_AR2 := Aside0.mk (Kd.C_below AR2.out hb)
  have n_BL := Aside0.mk (BL.out.trans (Below.mono hb BL.out.size))
  have n_RA1 := Aside0.mk (Kd.R_below RA1.out hb)
  have n_RA2 := Aside0.mk (Kd.R_below RA2.out hb)
  clear AR0 AR1 AR2 BL RA1 RA2
  have AR0 := n_AR0
  have AR1 := n_AR1
  have AR2 := n_AR2
  have BL := n_BL
  have RA1 := n_RA1
  have RA2 := n_RA2
  clear n_AR0 n_AR1 n_AR2 n_BL n_RA1 n_RA2
  have RA3 := Aside0.mk hs
  clear hs hb
  go_wp2_with fail
  refine (c30 R1 r1 (orF l0 l1) V6 (Kd.R_reads' RA1.out).2.2 (Kd.R_reads' RA1.out).2.1 R3 r3 (orF l0 l1) (Kd.R_reads' RA3.out).2.2 (Kd.R_reads' RA3.out).2.1 true (same_self _)).mono ?_
  rintro e_ V7 ⟨rfl, hb⟩
  have n_AR0 := Aside0.mk (Kd.C_below AR0.out hb)
  have n_AR1 := Aside0.mk (Kd.C_below AR1.out hb)
  have n_AR2 := Aside0.mk (Kd.C_below AR2.out hb)
  have n_BL := Aside0.mk (BL.out.trans (Below.mono hb BL.out.size))
  have n_RA1 := Aside0.mk (Kd.R_below RA1.out hb)
  have n_RA2 := Aside0.mk (Kd.R_below RA2.out hb)
  have n_RA3 := Aside0.mk (Kd.R_below RA3.out hb)
  clear AR0 AR1 AR2 BL RA1 RA2 RA3
  have AR0 := n_AR0
  have AR1 := n_AR1
  have AR2 := n_AR2
  have BL := n_BL
  have RA1 := n_RA1
  have RA2 := n_RA2
  have RA3 := n_RA3
  clear n_AR0 n_AR1 n_AR2 n_BL n_RA1 n_RA2 n_RA3
  clear hb
  clear RA3
  go_wp2_with fail
  refine (c16 A1 c1 l1 V7 AR1.out AC1.out A0 c0 l0 AR0.out AC0.out (andF l0 l1) (law_and_comm l0 l1)).mono ?_
  rintro e_ V8 ⟨v1, rfl, hs, hb⟩
  obtain ⟨R4, r4, rfl⟩ := Kd.R_slice hs
  have n_AR0 := Aside0.mk (Kd.C_below AR0.out hb)
  have n_AR1 := Aside0.mk (Kd.C_below AR1.out hb)
  have n_AR2 := Aside0.mk (Kd.C_below AR2.out hb)
  have n_BL := Aside0.mk (BL.out.trans (Below.mono hb BL.out.size))
  have n_RA1 := Aside0.mk (Kd.R_below RA1.out hb)
  have n_RA2 := Aside0.mk (Kd.R_below RA2.out hb)
  clear AR0 AR1 AR2 BL RA1 RA2
  have AR0 := n_AR0
  have AR1 := n_AR1
  have AR2 := n_AR2
  have BL := n_BL
  have RA1 := n_RA1
  have RA2 := n_RA2
  clear n_AR0 n_AR1 n_AR2 n_BL n_RA1 n_RA2
  have RA4 := Aside0.mk hs
  clear hs hb
  go_wp2_with fail
  refine (c30 R2 r2 (andF l0 l1) V8 (Kd.R_reads' RA2.out).2.2 (Kd.R_reads' RA2.out).2.1 R4 r4 (andF l0 l1) (Kd.R_reads' RA4.out).2.2 (Kd.R_reads' RA4.out).2.1 true (same_self _)).mono ?_
  rintro e_ V9 ⟨rfl, hb⟩
  have n_AR0 := Aside0.mk (Kd.C_below AR0.out hb)
  have n_AR1 := Aside0.mk (Kd.C_below AR1.out hb)
  have n_AR2 := Aside0.mk (Kd.C_below AR2.out hb)
  have n_BL := Aside0.mk (BL.out.trans (Below.mono hb BL.out.size))
  have n_RA1 := Aside0.mk (Kd.R_below RA1.out hb)
  have n_RA2 := Aside0.mk (Kd.R_below RA2.out hb)
  have n_RA4 := Aside0.mk (Kd.R_below RA4.out hb)
  clear AR0 AR1 AR2 BL RA1 RA2 RA4
  have AR0 := n_AR0
  have AR1 := n_AR1
  have AR2 := n_AR2
  have BL := n_BL
  have RA1 := n_RA1
  have RA2 := n_RA2
  have RA4 := n_RA4
  clear n_AR0 n_AR1 n_AR2 n_BL n_RA1 n_RA2 n_RA4
  clear hb
  clear RA4
  go_wp2_with fail
  refine (c20 R1 r1 (orF l0 l1) V9 (Kd.R_reads' RA1.out).2.2 (Kd.R_reads' RA1.out).2.1 (notF (orF l0 l1)) rfl).mono ?_
  rintro e_ V10 ⟨v1, rfl, hs, hb⟩
  obtain ⟨R5, r5, rfl⟩ := Kd.R_slice hs
  have n_AR0 := Aside0.mk (Kd.C_below AR0.out hb)
  have n_AR1 := Aside0.mk (Kd.C_below AR1.out hb)
  have n_AR2 := Aside0.mk (Kd.C_below AR2.out hb)
  have n_BL := Aside0.mk (BL.out.trans (Below.mono hb BL.out.size))
  have n_RA1 := Aside0.mk (Kd.R_below RA1.out hb)
  have n_RA2 := Aside0.mk (Kd.R_below RA2.out hb)
  clear AR0 AR1 AR2 BL RA1 RA2
  have AR0 := n_AR0
  have AR1 := n_AR1
  have AR2 := n_AR2
  have BL := n_BL
  have RA1 := n_RA1
  have RA2 := n_RA2
  clear n_AR0 n_AR1 n_AR2 n_BL n_RA1 n_RA2
  have RA5 := Aside0.mk hs
  clear hs hb
  go_wp2_with fail
  refine (c20 A0 c0 l0 V10 AR0.out AC0.out (notF l0) rfl).mono ?_
  rintro e_ V11 ⟨v1, rfl, hs, hb⟩
  obtain ⟨R6, r6, rfl⟩ := Kd.R_slice hs
  have n_AR0 := Aside0.mk (Kd.C_below AR0.out hb)
  have n_AR1 := Aside0.mk (Kd.C_below AR1.out hb)
  have n_AR2 := Aside0.mk (Kd.C_below AR2.out hb)
  have n_BL := Aside0.mk (BL.out.trans (Below.mono hb BL.out.size))
  have n_RA1 := Aside0.mk (Kd.R_below RA1.out hb)
  have n_RA2 := Aside0.mk (Kd.R_below RA2.out hb)
  have n_RA5 := Aside0.mk (Kd.R_below RA5.out hb)
  clear AR0 AR1 AR2 BL RA1 RA2 RA5
  have AR0 := n_AR0
  have AR1 := n_AR1
  have AR2 := n_AR2
  have BL := n_BL
  have RA1 := n_RA1
  have RA2 := n_RA2
  have RA5 := n_RA5
  clear n_AR0 n_AR1 n_AR2 n_BL n_RA1 n_RA2 n_RA5
  have RA6 := Aside0.mk hs
  clear hs hb
  go_wp2_with fail
  refine (c20 A1 c1 l1 V11 AR1.out AC1.out (notF l1) rfl).mono ?_
  rintro e_ V12 ⟨v1, rfl, hs, hb⟩
  obtain ⟨R7, r7, rfl⟩ := Kd.R_slice hs
  have n_AR0 := Aside0.mk (Kd.C_below AR0.out hb)
  have n_AR1 := Aside0.mk (Kd.C_below AR1.out hb)
  have n_AR2 := Aside0.mk (Kd.C_below AR2.out hb)
  have n_BL := Aside0.mk (BL.out.trans (Below.mono hb BL.out.size))
  have n_RA1 := Aside0.mk (Kd.R_below RA1.out hb)
  have n_RA2 := Aside0.mk (Kd.R_below RA2.out hb)
  have n_RA5 := Aside0.mk (Kd.R_below RA5.out hb)
  have n_RA6 := Aside0.mk (Kd.R_below RA6.out hb)
  clear AR0 AR1 AR2 BL RA1 RA2 RA5 RA6
  have AR0 := n_AR0
  have AR1 := n_AR1
  have AR2 := n_AR2
  have BL := n_BL
  have RA1 := n_RA1
  have RA2 := n_RA2
  have RA5 := n_RA5
  have RA6 := n_RA6
  clear n_AR0 n_AR1 n_AR2 n_BL n_RA1 n_RA2 n_RA5 n_RA6
  have RA7 := Aside0.mk hs
  clear hs hb
  go_wp2_with fail
  refine (c16 R6 r6 (notF l0) V12 (Kd.R_reads' RA6.out).2.2 (Kd.R_reads' RA6.out).2.1 R7 r7 (notF l1) (Kd.R_reads' RA7.out).2.2 (Kd.R_reads' RA7.out).2.1 (notF (orF l0 l1)) (law_morgan (by have := K.out; omega)).symm).mono ?_
  rintro e_ V13 ⟨v1, rfl, hs, hb⟩
  obtain ⟨R8, r8, rfl⟩ := Kd.R_slice hs
  have n_AR0 := Aside0.mk (Kd.C_below AR0.out hb)
  have n_AR1 := Aside0.mk (Kd.C_below AR1.out hb)
  have n_AR2 := Aside0.mk (Kd.C_below AR2.out hb)
  have n_BL := Aside0.mk (BL.out.trans (Below.mono hb BL.out.size))
  have n_RA1 := Aside0.mk (Kd.R_below RA1.out hb)
  have n_RA2 := Aside0.mk (Kd.R_below RA2.out hb)
  have n_RA5 := Aside0.mk (Kd.R_below RA5.out hb)
  have n_RA6 := Aside0.mk (Kd.R_below RA6.out hb)
  have n_RA7 := Aside0.mk (Kd.R_below RA7.out hb)
  clear AR0 AR1 AR2 BL RA1 RA2 RA5 RA6 RA7
  have AR0 := n_AR0
  have AR1 := n_AR1
  have AR2 := n_AR2
  have BL := n_BL
  have RA1 := n_RA1
  have RA2 := n_RA2
  have RA5 := n_RA5
  have RA6 := n_RA6
  have RA7 := n_RA7
  clear n_AR0 n_AR1 n_AR2 n_BL n_RA1 n_RA2 n_RA5 n_RA6 n_RA7
  have RA8 := Aside0.mk hs
  clear hs hb
  go_wp2_with fail
  refine (c30 R5 r5 (notF (orF l0 l1)) V13 (Kd.R_reads' RA5.out).2.2 (Kd.R_reads' RA5.out).2.1 R8 r8 (notF (orF l0 l1)) (Kd.R_reads' RA8.out).2.2 (Kd.R_reads' RA8.out).2.1 true (same_self _)).mono ?_
  rintro e_ V14 ⟨rfl, hb⟩
  have n_AR0 := Aside0.mk (Kd.C_below AR0.out hb)
  have n_AR1 := Aside0.mk (Kd.C_below AR1.out hb)
  have n_AR2 := Aside0.mk (Kd.C_below AR2.out hb)
  have n_BL := Aside0.mk (BL.out.trans (Below.mono hb BL.out.size))
  have n_RA1 := Aside0.mk (Kd.R_below RA1.out hb)
  have n_RA2 := Aside0.mk (Kd.R_below RA2.out hb)
  have n_RA5 := Aside0.mk (Kd.R_below RA5.out hb)
  have n_RA6 := Aside0.mk (Kd.R_below RA6.out hb)
  have n_RA7 := Aside0.mk (Kd.R_below RA7.out hb)
  have n_RA8 := Aside0.mk (Kd.R_below RA8.out hb)
  clear AR0 AR1 AR2 BL RA1 RA2 RA5 RA6 RA7 RA8
  have AR0 := n_AR0
  have AR1 := n_AR1
  have AR2 := n_AR2
  have BL := n_BL
  have RA1 := n_RA1
  have RA2 := n_RA2
  have RA5 := n_RA5
  have RA6 := n_RA6
  have RA7 := n_RA7
  have RA8 := n_RA8
  clear n_AR0 n_AR1 n_AR2 n_BL n_RA1 n_RA2 n_RA5 n_RA6 n_RA7 n_RA8
  clear hb
  clear RA5 RA6 RA7 RA8
  go_wp2_with fail
  refine (c14 A1 c1 l1 V14 AR1.out AC1.out A2 c2 l2 AR2.out AC2.out (orF l1 l2) rfl).mono ?_
  rintro e_ V15 ⟨v1, rfl, hs, hb⟩
  obtain ⟨R9, r9, rfl⟩ := Kd.R_slice hs
  have n_AR0 := Aside0.mk (Kd.C_below AR0.out hb)
  have n_AR1 := Aside0.mk (Kd.C_below AR1.out hb)
  have n_AR2 := Aside0.mk (Kd.C_below AR2.out hb)
  have n_BL := Aside0.mk (BL.out.trans (Below.mono hb BL.out.size))
  have n_RA1 := Aside0.mk (Kd.R_below RA1.out hb)
  have n_RA2 := Aside0.mk (Kd.R_below RA2.out hb)
  clear AR0 AR1 AR2 BL RA1 RA2
  have AR0 := n_AR0
  have AR1 := n_AR1
  have AR2 := n_AR2
  have BL := n_BL
  have RA1 := n_RA1
  have RA2 := n_RA2
  clear n_AR0 n_AR1 n_AR2 n_BL n_RA1 n_RA2
  have RA9 := Aside0.mk hs
  clear hs hb
  go_wp2_with fail
  refine (c16 A0 c0 l0 V15 AR0.out AC0.out R9 r9 (orF l1 l2) (Kd.R_reads' RA9.out).2.2 (Kd.R_reads' RA9.out).2.1 (andF l0 (orF l1 l2)) rfl).mono ?_
  rintro e_ V16 ⟨v1, rfl, hs, hb⟩
  obtain ⟨R10, r10, rfl⟩ := Kd.R_slice hs
  have n_AR0 := Aside0.mk (Kd.C_below AR0.out hb)
  have n_AR1 := Aside0.mk (Kd.C_below AR1.out hb)
  have n_AR2 := Aside0.mk (Kd.C_below AR2.out hb)
  have n_BL := Aside0.mk (BL.out.trans (Below.mono hb BL.out.size))
  have n_RA1 := Aside0.mk (Kd.R_below RA1.out hb)
  have n_RA2 := Aside0.mk (Kd.R_below RA2.out hb)
  have n_RA9 := Aside0.mk (Kd.R_below RA9.out hb)
  clear AR0 AR1 AR2 BL RA1 RA2 RA9
  have AR0 := n_AR0
  have AR1 := n_AR1
  have AR2 := n_AR2
  have BL := n_BL
  have RA1 := n_RA1
  have RA2 := n_RA2
  have RA9 := n_RA9
  clear n_AR0 n_AR1 n_AR2 n_BL n_RA1 n_RA2 n_RA9
  have RA10 := Aside0.mk hs
  clear hs hb
  go_wp2_with fail
  refine (c16 A0 c0 l0 V16 AR0.out AC0.out A2 c2 l2 AR2.out AC2.out (andF l0 l2) rfl).mono ?_
  rintro e_ V17 ⟨v1, rfl, hs, hb⟩
  obtain ⟨R11, r11, rfl⟩ := Kd.R_slice hs
  have n_AR0 := Aside0.mk (Kd.C_below AR0.out hb)
  have n_AR1 := Aside0.mk (Kd.C_below AR1.out hb)
  have n_AR2 := Aside0.mk (Kd.C_below AR2.out hb)
  have n_BL := Aside0.mk (BL.out.trans (Below.mono hb BL.out.size))
  have n_RA1 := Aside0.mk (Kd.R_below RA1.out hb)
  have n_RA2 := Aside0.mk (Kd.R_below RA2.out hb)
  have n_RA9 := Aside0.mk (Kd.R_below RA9.out hb)
  have n_RA10 := Aside0.mk (Kd.R_below RA10.out hb)
  clear AR0 AR1 AR2 BL RA1 RA2 RA9 RA10
  have AR0 := n_AR0
  have AR1 := n_AR1
  have AR2 := n_AR2
  have BL := n_BL
  have RA1 := n_RA1
  have RA2 := n_RA2
  have RA9 := n_RA9
  have RA10 := n_RA10
  clear n_AR0 n_AR1 n_AR2 n_BL n_RA1 n_RA2 n_RA9 n_RA10
  have RA11 := Aside0.mk hs
  clear hs hb
  go_wp2_with fail
  refine (c14 R2 r2 (andF l0 l1) V17 (Kd.R_reads' RA2.out).2.2 (Kd.R_reads' RA2.out).2.1 R11 r11 (andF l0 l2) (Kd.R_reads' RA11.out).2.2 (Kd.R_reads' RA11.out).2.1 (andF l0 (orF l1 l2)) (law_dist (by have := K.out; omega)).symm).mono ?_
  rintro e_ V18 ⟨v1, rfl, hs, hb⟩
  obtain ⟨R12, r12, rfl⟩ := Kd.R_slice hs
  have n_AR0 := Aside0.mk (Kd.C_below AR0.out hb)
  have n_AR1 := Aside0.mk (Kd.C_below AR1.out hb)
  have n_AR2 := Aside0.mk (Kd.C_below AR2.out hb)
  have n_BL := Aside0.mk (BL.out.trans (Below.mono hb BL.out.size))
  have n_RA1 := Aside0.mk (Kd.R_below RA1.out hb)
  have n_RA2 := Aside0.mk (Kd.R_below RA2.out hb)
  have n_RA9 := Aside0.mk (Kd.R_below RA9.out hb)
  have n_RA10 := Aside0.mk (Kd.R_below RA10.out hb)
  have n_RA11 := Aside0.mk (Kd.R_below RA11.out hb)
  clear AR0 AR1 AR2 BL RA1 RA2 RA9 RA10 RA11
  have AR0 := n_AR0
  have AR1 := n_AR1
  have AR2 := n_AR2
  have BL := n_BL
  have RA1 := n_RA1
  have RA2 := n_RA2
  have RA9 := n_RA9
  have RA10 := n_RA10
  have RA11 := n_RA11
  clear n_AR0 n_AR1 n_AR2 n_BL n_RA1 n_RA2 n_RA9 n_RA10 n_RA11
  have RA12 := Aside0.mk hs
  clear hs hb
  go_wp2_with fail
  refine (c30 R10 r10 (andF l0 (orF l1 l2)) V18 (Kd.R_reads' RA10.out).2.2 (Kd.R_reads' RA10.out).2.1 R12 r12 (andF l0 (orF l1 l2)) (Kd.R_reads' RA12.out).2.2 (Kd.R_reads' RA12.out).2.1 true (same_self _)).mono ?_
  rintro e_ V19 ⟨rfl, hb⟩
  have n_AR0 := Aside0.mk (Kd.C_below AR0.out hb)
  have n_AR1 := Aside0.mk (Kd.C_below AR1.out hb)
  have n_AR2 := Aside0.mk (Kd.C_below AR2.out hb)
  have n_BL := Aside0.mk (BL.out.trans (Below.mono hb BL.out.size))
  have n_RA1 := Aside0.mk (Kd.R_below RA1.out hb)
  have n_RA2 := Aside0.mk (Kd.R_below RA2.out hb)
  have n_RA9 := Aside0.mk (Kd.R_below RA9.out hb)
  have n_RA10 := Aside0.mk (Kd.R_below RA10.out hb)
  have n_RA11 := Aside0.mk (Kd.R_below RA11.out hb)
  have n_RA12 := Aside0.mk (Kd.R_below RA12.out hb)
  clear AR0 AR1 AR2 BL RA1 RA2 RA9 RA10 RA11 RA12
  have AR0 := n_AR0
  have AR1 := n_AR1
  have AR2 := n_AR2
  have BL := n_BL
  have RA1 := n_RA1
  have RA2 := n_RA2
  have RA9 := n_RA9
  have RA10 := n_RA10
  have RA11 := n_RA11
  have RA12 := n_RA12
  clear n_AR0 n_AR1 n_AR2 n_BL n_RA1 n_RA2 n_RA9 n_RA10 n_RA11 n_RA12
  clear hb
  clear RA9 RA10 RA11 RA12
  go_wp2_with fail
  refine (c20 A0 c0 l0 V19 AR0.out AC0.out (notF l0) rfl).mono ?_
  rintro e_ V20 ⟨v1, rfl, hs, hb⟩
  obtain ⟨R13, r13, rfl⟩ := Kd.R_slice hs
  have n_AR0 := Aside0.mk (Kd.C_below AR0.out hb)
  have n_AR1 := Aside0.mk (Kd.C_below AR1.out hb)
  have n_AR2 := Aside0.mk (Kd.C_below AR2.out hb)
  have n_BL := Aside0.mk (BL.out.trans (Below.mono hb BL.out.size))
  have n_RA1 := Aside0.mk (Kd.R_below RA1.out hb)
  have n_RA2 := Aside0.mk (Kd.R_below RA2.out hb)
  clear AR0 AR1 AR2 BL RA1 RA2
  have AR0 := n_AR0
  have AR1 := n_AR1
  have AR2 := n_AR2
  have BL := n_BL
  have RA1 := n_RA1
  have RA2 := n_RA2
  clear n_AR0 n_AR1 n_AR2 n_BL n_RA1 n_RA2
  have RA13 := Aside0.mk hs
  clear hs hb
  go_wp2_with fail
  refine (c20 R13 r13 (notF l0) V20 (Kd.R_reads' RA13.out).2.2 (Kd.R_reads' RA13.out).2.1 (notF (notF l0)) rfl).mono ?_
  rintro e_ V21 ⟨v1, rfl, hs, hb⟩
  obtain ⟨R14, r14, rfl⟩ := Kd.R_slice hs
  have n_AR0 := Aside0.mk (Kd.C_below AR0.out hb)
  have n_AR1 := Aside0.mk (Kd.C_below AR1.out hb)
  have n_AR2 := Aside0.mk (Kd.C_below AR2.out hb)
  have n_BL := Aside0.mk (BL.out.trans (Below.mono hb BL.out.size))
  have n_RA1 := Aside0.mk (Kd.R_below RA1.out hb)
  have n_RA2 := Aside0.mk (Kd.R_below RA2.out hb)
  have n_RA13 := Aside0.mk (Kd.R_below RA13.out hb)
  clear AR0 AR1 AR2 BL RA1 RA2 RA13
  have AR0 := n_AR0
  have AR1 := n_AR1
  have AR2 := n_AR2
  have BL := n_BL
  have RA1 := n_RA1
  have RA2 := n_RA2
  have RA13 := n_RA13
  clear n_AR0 n_AR1 n_AR2 n_BL n_RA1 n_RA2 n_RA13
  have RA14 := Aside0.mk hs
  clear hs hb
  go_wp2_with fail
  refine (c30 R14 r14 (notF (notF l0)) V21 (Kd.R_reads' RA14.out).2.2 (Kd.R_reads' RA14.out).2.1 A0 c0 l0 AR0.out AC0.out true (law_notnot (by have := K.out; omega))).mono ?_
  rintro e_ V22 ⟨rfl, hb⟩
  have n_AR0 := Aside0.mk (Kd.C_below AR0.out hb)
  have n_AR1 := Aside0.mk (Kd.C_below AR1.out hb)
  have n_AR2 := Aside0.mk (Kd.C_below AR2.out hb)
  have n_BL := Aside0.mk (BL.out.trans (Below.mono hb BL.out.size))
  have n_RA1 := Aside0.mk (Kd.R_below RA1.out hb)
  have n_RA2 := Aside0.mk (Kd.R_below RA2.out hb)
  have n_RA13 := Aside0.mk (Kd.R_below RA13.out hb)
  have n_RA14 := Aside0.mk (Kd.R_below RA14.out hb)
  clear AR0 AR1 AR2 BL RA1 RA2 RA13 RA14
  have AR0 := n_AR0
  have AR1 := n_AR1
  have AR2 := n_AR2
  have BL := n_BL
  have RA1 := n_RA1
  have RA2 := n_RA2
  have RA13 := n_RA13
  have RA14 := n_RA14
  clear n_AR0 n_AR1 n_AR2 n_BL n_RA1 n_RA2 n_RA13 n_RA14
  clear hb
  clear RA13 RA14
  obtain ⟨n1, q1⟩ : ∃ b_, sizeF (orF l0 l1) = b_ := ⟨_, rfl⟩
  obtain ⟨n2, q2⟩ : ∃ b_, sizeF (andF l0 l1) = b_ := ⟨_, rfl⟩
  obtain ⟨n3, q3⟩ : ∃ b_, sizeF l0 = b_ := ⟨_, rfl⟩
  obtain ⟨n4, q4⟩ : ∃ b_, sizeF l1 = b_ := ⟨_, rfl⟩
  have hn : wrap64 (n1 + n2) = wrap64 (n3 + n4) := by rw [← q1, ← q2, ← q3, ← q4]; exact law_sizes (by have := K.out; omega)
  have Q1 := Aside0.mk q1
  clear q1
  have Q2 := Aside0.mk q2
  clear q2
  have Q3 := Aside0.mk q3
  clear q3
  have Q4 := Aside0.mk q4
  clear q4
  go_wp2_with fail
  refine (c28 R1 r1 (orF l0 l1) V22 (Kd.R_reads' RA1.out).2.2 (Kd.R_reads' RA1.out).2.1 n1 Q1.out).mono ?_
  rintro e_ V23 ⟨rfl, hb⟩
  have n_AR0 := Aside0.mk (Kd.C_below AR0.out hb)
  have n_AR1 := Aside0.mk (Kd.C_below AR1.out hb)
  have n_AR2 := Aside0.mk (Kd.C_below AR2.out hb)
  have n_BL := Aside0.mk (BL.out.trans (Below.mono hb BL.out.size))
  have n_RA1 := Aside0.mk (Kd.R_below RA1.out hb)
  have n_RA2 := Aside0.mk (Kd.R_below RA2.out hb)
  clear AR0 AR1 AR2 BL RA1 RA2
  have AR0 := n_AR0
  have AR1 := n_AR1
  have AR2 := n_AR2
  have BL := n_BL
  have RA1 := n_RA1
  have RA2 := n_RA2
  clear n_AR0 n_AR1 n_AR2 n_BL n_RA1 n_RA2
  clear hb
  go_wp2_with fail
  refine (c28 R2 r2 (andF l0 l1) V23 (Kd.R_reads' RA2.out).2.2 (Kd.R_reads' RA2.out).2.1 n2 Q2.out).mono ?_
  rintro e_ V24 ⟨rfl, hb⟩
  have n_AR0 := Aside0.mk (Kd.C_below AR0.out hb)
  have n_AR1 := Aside0.mk (Kd.C_below AR1.out hb)
  have n_AR2 := Aside0.mk (Kd.C_below AR2.out hb)
  have n_BL := Aside0.mk (BL.out.trans (Below.mono hb BL.out.size))
  have n_RA1 := Aside0.mk (Kd.R_below RA1.out hb)
  have n_RA2 := Aside0.mk (Kd.R_below RA2.out hb)
  clear AR0 AR1 AR2 BL RA1 RA2
  have AR0 := n_AR0
  have AR1 := n_AR1
  have AR2 := n_AR2
  have BL := n_BL
  have RA1 := n_RA1
  have RA2 := n_RA2
  clear n_AR0 n_AR1 n_AR2 n_BL n_RA1 n_RA2
  clear hb
  go_wp2_with fail
  refine (c28 A0 c0 l0 V24 AR0.out AC0.out n3 Q3.out).mono ?_
  rintro e_ V25 ⟨rfl, hb⟩
  have n_AR0 := Aside0.mk (Kd.C_below AR0.out hb)
  have n_AR1 := Aside0.mk (Kd.C_below AR1.out hb)
  have n_AR2 := Aside0.mk (Kd.C_below AR2.out hb)
  have n_BL := Aside0.mk (BL.out.trans (Below.mono hb BL.out.size))
  have n_RA1 := Aside0.mk (Kd.R_below RA1.out hb)
  have n_RA2 := Aside0.mk (Kd.R_below RA2.out hb)
  clear AR0 AR1 AR2 BL RA1 RA2
  have AR0 := n_AR0
  have AR1 := n_AR1
  have AR2 := n_AR2
  have BL := n_BL
  have RA1 := n_RA1
  have RA2 := n_RA2
  clear n_AR0 n_AR1 n_AR2 n_BL n_RA1 n_RA2
  clear hb
  go_wp2_with fail
  refine (c28 A1 c1 l1 V25 AR1.out AC1.out n4 Q4.out).mono ?_
  rintro e_ V26 ⟨rfl, hb⟩
  have n_AR0 := Aside0.mk (Kd.C_below AR0.out hb)
  have n_AR1 := Aside0.mk (Kd.C_below AR1.out hb)
  have n_AR2 := Aside0.mk (Kd.C_below AR2.out hb)
  have n_BL := Aside0.mk (BL.out.trans (Below.mono hb BL.out.size))
  have n_RA1 := Aside0.mk (Kd.R_below RA1.out hb)
  have n_RA2 := Aside0.mk (Kd.R_below RA2.out hb)
  clear AR0 AR1 AR2 BL RA1 RA2
  have AR0 := n_AR0
  have AR1 := n_AR1
  have AR2 := n_AR2
  have BL := n_BL
  have RA1 := n_RA1
  have RA2 := n_RA2
  clear n_AR0 n_AR1 n_AR2 n_BL n_RA1 n_RA2
  clear hb
  go_wp2_with fail
  refine (c18 A0 c0 l0 V26 AR0.out AC0.out A1 c1 l1 AR1.out AC1.out (lessF l0 l1) rfl).mono ?_
  rintro e_ V27 ⟨v1, rfl, hs, hb⟩
  obtain ⟨R15, r15, rfl⟩ := Kd.R_slice hs
  have n_AR0 := Aside0.mk (Kd.C_below AR0.out hb)
  have n_AR1 := Aside0.mk (Kd.C_below AR1.out hb)
  have n_AR2 := Aside0.mk (Kd.C_below AR2.out hb)
  have n_BL := Aside0.mk (BL.out.trans (Below.mono hb BL.out.size))
  have n_RA1 := Aside0.mk (Kd.R_below RA1.out hb)
  have n_RA2 := Aside0.mk (Kd.R_below RA2.out hb)
  clear AR0 AR1 AR2 BL RA1 RA2
  have AR0 := n_AR0
  have AR1 := n_AR1
  have AR2 := n_AR2
  have BL := n_BL
  have RA1 := n_RA1
  have RA2 := n_RA2
  clear n_AR0 n_AR1 n_AR2 n_BL n_RA1 n_RA2
  have RA15 := Aside0.mk hs
  clear hs hb
  go_wp2_with fail
  refine (c20 A1 c1 l1 V27 AR1.out AC1.out (notF l1) rfl).mono ?_
  rintro e_ V28 ⟨v1, rfl, hs, hb⟩
  obtain ⟨R16, r16, rfl⟩ := Kd.R_slice hs
  have n_AR0 := Aside0.mk (Kd.C_below AR0.out hb)
  have n_AR1 := Aside0.mk (Kd.C_below AR1.out hb)
  have n_AR2 := Aside0.mk (Kd.C_below AR2.out hb)
  have n_BL := Aside0.mk (BL.out.trans (Below.mono hb BL.out.size))
  have n_RA1 := Aside0.mk (Kd.R_below RA1.out hb)
  have n_RA2 := Aside0.mk (Kd.R_below RA2.out hb)
  have n_RA15 := Aside0.mk (Kd.R_below RA15.out hb)
  clear AR0 AR1 AR2 BL RA1 RA2 RA15
  have AR0 := n_AR0
  have AR1 := n_AR1
  have AR2 := n_AR2
  have BL := n_BL
  have RA1 := n_RA1
  have RA2 := n_RA2
  have RA15 := n_RA15
  clear n_AR0 n_AR1 n_AR2 n_BL n_RA1 n_RA2 n_RA15
  have RA16 := Aside0.mk hs
  clear hs hb
  go_wp2_with fail
  refine (c16 A0 c0 l0 V28 AR0.out AC0.out R16 r16 (notF l1) (Kd.R_reads' RA16.out).2.2 (Kd.R_reads' RA16.out).2.1 (lessF l0 l1) (law_less (by have := K.out; omega)).symm).mono ?_
  rintro e_ V29 ⟨v1, rfl, hs, hb⟩
  obtain ⟨R17, r17, rfl⟩ := Kd.R_slice hs
  have n_AR0 := Aside0.mk (Kd.C_below AR0.out hb)
  have n_AR1 := Aside0.mk (Kd.C_below AR1.out hb)
  have n_AR2 := Aside0.mk (Kd.C_below AR2.out hb)
  have n_BL := Aside0.mk (BL.out.trans (Below.mono hb BL.out.size))
  have n_RA1 := Aside0.mk (Kd.R_below RA1.out hb)
  have n_RA2 := Aside0.mk (Kd.R_below RA2.out hb)
  have n_RA15 := Aside0.mk (Kd.R_below RA15.out hb)
  have n_RA16 := Aside0.mk (Kd.R_below RA16.out hb)
  clear AR0 AR1 AR2 BL RA1 RA2 RA15 RA16
  have AR0 := n_AR0
  have AR1 := n_AR1
  have AR2 := n_AR2
  have BL := n_BL
  have RA1 := n_RA1
  have RA2 := n_RA2
  have RA15 := n_RA15
  have RA16 := n_RA16
  clear n_AR0 n_AR1 n_AR2 n_BL n_RA1 n_RA2 n_RA15 n_RA16
  have RA17 := Aside0.mk hs
  clear hs hb
  go_wp2_with fail
  refine (c30 R15 r15 (lessF l0 l1) V29 (Kd.R_reads' RA15.out).2.2 (Kd.R_reads' RA15.out).2.1 R17 r17 (lessF l0 l1) (Kd.R_reads' RA17.out).2.2 (Kd.R_reads' RA17.out).2.1 true (same_self _)).mono ?_
  rintro e_ V30 ⟨rfl, hb⟩
  have n_AR0 := Aside0.mk (Kd.C_below AR0.out hb)
  have n_AR1 := Aside0.mk (Kd.C_below AR1.out hb)
  have n_AR2 := Aside0.mk (Kd.C_below AR2.out hb)
  have n_BL := Aside0.mk (BL.out.trans (Below.mono hb BL.out.size))
  have n_RA1 := Aside0.mk (Kd.R_below RA1.out hb)
  have n_RA2 := Aside0.mk (Kd.R_below RA2.out hb)
  have n_RA15 := Aside0.mk (Kd.R_below RA15.out hb)
  have n_RA16 := Aside0.mk (Kd.R_below RA16.out hb)
  have n_RA17 := Aside0.mk (Kd.R_below RA17.out hb)
  clear AR0 AR1 AR2 BL RA1 RA2 RA15 RA16 RA17
  have AR0 := n_AR0
  have AR1 := n_AR1
  have AR2 := n_AR2
  have BL := n_BL
  have RA1 := n_RA1
  have RA2 := n_RA2
  have RA15 := n_RA15
  have RA16 := n_RA16
  have RA17 := n_RA17
  clear n_AR0 n_AR1 n_AR2 n_BL n_RA1 n_RA2 n_RA15 n_RA16 n_RA17
  clear hb
  clear RA15 RA16 RA17
  go_wp2_with fail
  refine (c32 R1 r1 (orF l0 l1) V30 (Kd.R_reads' RA1.out).2.2 (Kd.R_reads' RA1.out).2.1 true (right_or (by have := K.out; omega))).mono ?_
  rintro e_ V31 ⟨rfl, hb⟩
  have n_AR0 := Aside0.mk (Kd.C_below AR0.out hb)
  have n_AR1 := Aside0.mk (Kd.C_below AR1.out hb)
  have n_AR2 := Aside0.mk (Kd.C_below AR2.out hb)
  have n_BL := Aside0.mk (BL.out.trans (Below.mono hb BL.out.size))
  have n_RA1 := Aside0.mk (Kd.R_below RA1.out hb)
  have n_RA2 := Aside0.mk (Kd.R_below RA2.out hb)
  clear AR0 AR1 AR2 BL RA1 RA2
  have AR0 := n_AR0
  have AR1 := n_AR1
  have AR2 := n_AR2
  have BL := n_BL
  have RA1 := n_RA1
  have RA2 := n_RA2
  clear n_AR0 n_AR1 n_AR2 n_BL n_RA1 n_RA2
  clear hb
  go_wp2_with fail
  refine (c32 R2 r2 (andF l0 l1) V31 (Kd.R_reads' RA2.out).2.2 (Kd.R_reads' RA2.out).2.1 true (right_and (by have := K.out; omega))).mono ?_
  rintro e_ V32 ⟨rfl, hb⟩
  have n_AR0 := Aside0.mk (Kd.C_below AR0.out hb)
  have n_AR1 := Aside0.mk (Kd.C_below AR1.out hb)
  have n_AR2 := Aside0.mk (Kd.C_below AR2.out hb)
  have n_BL := Aside0.mk (BL.out.trans (Below.mono hb BL.out.size))
  have n_RA1 := Aside0.mk (Kd.R_below RA1.out hb)
  have n_RA2 := Aside0.mk (Kd.R_below RA2.out hb)
  clear AR0 AR1 AR2 BL RA1 RA2
  have AR0 := n_AR0
  have AR1 := n_AR1
  have AR2 := n_AR2
  have BL := n_BL
  have RA1 := n_RA1
  have RA2 := n_RA2
  clear n_AR0 n_AR1 n_AR2 n_BL n_RA1 n_RA2
  clear hb
  go_wp2_with fail
  go_ret
  exact ⟨rfl, BL.out⟩
theorem SpanLaws_calls (A0 : Option Addr) (c0 : Nat) (l0 : List S34) (A1 : Option Addr) (c1 : Nat) (l1 : List S34) (A2 : Option Addr) (c2 : Nat) (l2 : List S34) (w : World) (hr0 : Kd.C k34 w A0 l0.length l0) (hc0 : l0.length ≤ c0) (hr1 : Kd.C k34 w A1 l1.length l1) (hc1 : l1.length ≤ c1) (hr2 : Kd.C k34 w A2 l2.length l2) (hc2 : l2.length ≤ c2) : Calls Try.prog 4 #[.slice A0 l0.length c0, .slice A1 l1.length c1, .slice A2 l2.length c2] w fun e w' => e = .returned (.bool true) ∧ Below w.heap.size w w' := by
  cases hG : grF3 l0 l1 l2 with
  | true => exact laws_great A0 c0 l0 A1 c1 l1 A2 c2 l2 w hr0 hc0 hr1 hc1 hr2 hc2 hG
  | false =>
    have hg := hG
    simp only [grF3, Bool.or_eq_false_iff, decide_eq_false_iff_not] at hg
    have hw : wrap64 (wrap64 ((l0.length : Int) + (l1.length : Int)) + (l2.length : Int)) = (l0.length : Int) + (l1.length : Int) + (l2.length : Int) := by rw [w64 (n := (l0.length : Int) + (l1.length : Int)) (by omega) (by omega), w64 (by omega) (by omega)]
    by_cases hS : 300 < wrap64 (wrap64 ((l0.length : Int) + (l1.length : Int)) + (l2.length : Int))
    · exact laws_long A0 c0 l0 A1 c1 l1 A2 c2 l2 w hr0 hc0 hr1 hc1 hr2 hc2 hG hS
    · exact laws_main A0 c0 l0 A1 c1 l1 A2 c2 l2 w hr0 hc0 hr1 hc1 hr2 hc2 hG hS (by rw [hw] at hS; omega)
end Go.Proofs.Ytippkbgeeeimjaa.L
