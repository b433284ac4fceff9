/- a law of 01, walked. -/
import Derived.Test.YtippkbgeeeimjaaXSet
namespace Go.Proofs.Ytippkbgeeeimjaa.L
open Go.RowKit Go.Proofs.YtippkbgeeeimjaaW.PrintWords Go.Proofs.YtippkbgeeeimjaaW.PrintLast Go.Proofs.YtippkbgeeeimjaaW.PrintMore Go.Proofs.Ytippkbgeeeimjaa.A Go.Proofs.Ytippkbgeeeimjaa.P Go.Proofs.Ytippkbgeeeimjaa.B
set_option linter.unusedVariables false
set_option linter.unusedSimpArgs false

set_option maxHeartbeats 4000000 in
set_option maxRecDepth 100000 in
theorem orders_great (A0 : Option Addr) (c0 : Nat) (l0 : List S34) (A1 : Option Addr) (c1 : Nat) (l1 : List S34) (w : World) (hr0 : Kd.C k34 w A0 l0.length l0) (hc0 : l0.length ≤ c0) (hr1 : Kd.C k34 w A1 l1.length l1) (hc1 : l1.length ≤ c1) (hG : grF2 l0 l1 = true) : Calls Try.prog 5 #[.slice A0 l0.length c0, .slice A1 l1.length c1] w fun e w' => e = .returned (.bool true) ∧ Below w.heap.size w w' := by
  have AR0 := Aside0.mk hr0
  have AC0 := Aside0.mk hc0
  clear hr0 hc0
  have AR1 := Aside0.mk hr1
  have AC1 := Aside0.mk hc1
  clear hr1 hc1
  have BL := Aside0.mk (Below.refl w.heap.size w)
  go_enter Try.func5, Try.ntmps5
  go_wp2_with fail
  refine (caesuralaw01_alive.calls true w rfl).mono ?_
  rintro e_ V1 ⟨rfl, hb⟩
  have n_AR0 := Aside0.mk (Kd.C_below AR0.out hb)
  have n_AR1 := Aside0.mk (Kd.C_below AR1.out hb)
  have n_BL := Aside0.mk (BL.out.trans (Below.mono hb BL.out.size))
  clear AR0 AR1 BL
  have AR0 := n_AR0
  have AR1 := n_AR1
  have BL := n_BL
  clear n_AR0 n_AR1 n_BL
  clear hb
  go_wp2_with fail
  obtain ⟨V2, h_⟩ : ∃ W_, W_ = V1.alloc (.cells #[.slice A0 l0.length c0, .slice A1 l1.length c1] 22) := ⟨_, rfl⟩
  have hb_ : Below V1.heap.size V1 V2 := by rw [h_]; exact below_alloc (Below.refl _ _) _
  have hx_ : V2.heap[V1.heap.size]? = some (.cells #[.slice A0 l0.length c0, .slice A1 l1.length c1] 22 (0, 0)) := by rw [h_]; exact blk_new _ _
  rw [← h_]
  clear h_
  have n_AR0 := Aside0.mk (Kd.C_below AR0.out hb_)
  have n_AR1 := Aside0.mk (Kd.C_below AR1.out hb_)
  have n_BL := Aside0.mk (BL.out.trans (Below.mono hb_ BL.out.size))
  clear AR0 AR1 BL
  have AR0 := n_AR0
  have AR1 := n_AR1
  have BL := n_BL
  clear n_AR0 n_AR1 n_BL
  clear hb_
  obtain ⟨gg, e_⟩ : ∃ g_, g_ = V1.heap.size := ⟨_, rfl⟩
  rw [← e_] at hx_ ⊢
  clear e_
  have XG := Aside0.mk hx_
  clear hx_
  refine (c12_2 (W := V2) (C_rows2 XG.out AR0.out AC0.out AR1.out AC1.out) true hG).mono ?_
  rintro e_ V3 ⟨rfl, hb⟩
  have n_AR0 := Aside0.mk (Kd.C_below AR0.out hb)
  have n_AR1 := Aside0.mk (Kd.C_below AR1.out hb)
  have n_BL := Aside0.mk (BL.out.trans (Below.mono hb BL.out.size))
  have n_XG := Aside0.mk (blk_below XG.out hb)
  clear AR0 AR1 BL XG
  have AR0 := n_AR0
  have AR1 := n_AR1
  have BL := n_BL
  have XG := n_XG
  clear n_AR0 n_AR1 n_BL n_XG
  clear hb
  clear XG
  go_wp2_with fail
  go_ret
  exact ⟨rfl, BL.out⟩
set_option maxHeartbeats 4000000 in
set_option maxRecDepth 100000 in
theorem orders_long (A0 : Option Addr) (c0 : Nat) (l0 : List S34) (A1 : Option Addr) (c1 : Nat) (l1 : List S34) (w : World) (hr0 : Kd.C k34 w A0 l0.length l0) (hc0 : l0.length ≤ c0) (hr1 : Kd.C k34 w A1 l1.length l1) (hc1 : l1.length ≤ c1) (hG : grF2 l0 l1 = false) (hS : 300 < wrap64 ((l0.length : Int) + (l1.length : Int))) : Calls Try.prog 5 #[.slice A0 l0.length c0, .slice A1 l1.length c1] w fun e w' => e = .returned (.bool true) ∧ Below w.heap.size w w' := by
  have AR0 := Aside0.mk hr0
  have AC0 := Aside0.mk hc0
  clear hr0 hc0
  have AR1 := Aside0.mk hr1
  have AC1 := Aside0.mk hc1
  clear hr1 hc1
  have BL := Aside0.mk (Below.refl w.heap.size w)
  go_enter Try.func5, Try.ntmps5
  go_wp2_with fail
  refine (caesuralaw01_alive.calls true w rfl).mono ?_
  rintro e_ V1 ⟨rfl, hb⟩
  have n_AR0 := Aside0.mk (Kd.C_below AR0.out hb)
  have n_AR1 := Aside0.mk (Kd.C_below AR1.out hb)
  have n_BL := Aside0.mk (BL.out.trans (Below.mono hb BL.out.size))
  clear AR0 AR1 BL
  have AR0 := n_AR0
  have AR1 := n_AR1
  have BL := n_BL
  clear n_AR0 n_AR1 n_BL
  clear hb
  go_wp2_with fail
  obtain ⟨V2, h_⟩ : ∃ W_, W_ = V1.alloc (.cells #[.slice A0 l0.length c0, .slice A1 l1.length c1] 22) := ⟨_, rfl⟩
  have hb_ : Below V1.heap.size V1 V2 := by rw [h_]; exact below_alloc (Below.refl _ _) _
  have hx_ : V2.heap[V1.heap.size]? = some (.cells #[.slice A0 l0.length c0, .slice A1 l1.length c1] 22 (0, 0)) := by rw [h_]; exact blk_new _ _
  rw [← h_]
  clear h_
  have n_AR0 := Aside0.mk (Kd.C_below AR0.out hb_)
  have n_AR1 := Aside0.mk (Kd.C_below AR1.out hb_)
  have n_BL := Aside0.mk (BL.out.trans (Below.mono hb_ BL.out.size))
  clear AR0 AR1 BL
  have AR0 := n_AR0
  have AR1 := n_AR1
  have BL := n_BL
  clear n_AR0 n_AR1 n_BL
  clear hb_
  obtain ⟨gg, e_⟩ : ∃ g_, g_ = V1.heap.size := ⟨_, rfl⟩
  rw [← e_] at hx_ ⊢
  clear e_
  have XG := Aside0.mk hx_
  clear hx_
  refine (c12_2 (W := V2) (C_rows2 XG.out AR0.out AC0.out AR1.out AC1.out) false hG).mono ?_
  rintro e_ V3 ⟨rfl, hb⟩
  have n_AR0 := Aside0.mk (Kd.C_below AR0.out hb)
  have n_AR1 := Aside0.mk (Kd.C_below AR1.out hb)
  have n_BL := Aside0.mk (BL.out.trans (Below.mono hb BL.out.size))
  have n_XG := Aside0.mk (blk_below XG.out hb)
  clear AR0 AR1 BL XG
  have AR0 := n_AR0
  have AR1 := n_AR1
  have BL := n_BL
  have XG := n_XG
  clear n_AR0 n_AR1 n_BL n_XG
  clear hb
  clear XG
  go_wp2_with fail
  go_ret
  exact ⟨rfl, BL.out⟩
set_option maxHeartbeats 4000000 in
set_option maxRecDepth 100000 in
theorem orders_some (A0 : Option Addr) (c0 : Nat) (l0 : List S34) (A1 : Option Addr) (c1 : Nat) (l1 : List S34) (w : World) (hr0 : Kd.C k34 w A0 l0.length l0) (hc0 : l0.length ≤ c0) (hr1 : Kd.C k34 w A1 l1.length l1) (hc1 : l1.length ≤ c1) (hG : grF2 l0 l1 = false) (hS : ¬ (300 < wrap64 ((l0.length : Int) + (l1.length : Int)))) (hK : l0.length + l1.length ≤ 300) (hL : 0 < ((lessF l0 l1).length : Int)) : Calls Try.prog 5 #[.slice A0 l0.length c0, .slice A1 l1.length c1] w fun e w' => e = .returned (.bool true) ∧ Below w.heap.size w w' := by
  have AR0 := Aside0.mk hr0
  have AC0 := Aside0.mk hc0
  clear hr0 hc0
  have AR1 := Aside0.mk hr1
  have AC1 := Aside0.mk hc1
  clear hr1 hc1
  have BL := Aside0.mk (Below.refl w.heap.size w)
  go_enter Try.func5, Try.ntmps5
  have K := Aside0.mk hK
  clear hK
  have hL2 : 0 < (lessF l0 l1).length := by omega
  have hL3 : lessF l0 l1 ≠ [] := fun e => by rw [e] at hL2; exact absurd hL2 (by decide)
  go_wp2_with fail
  refine (caesuralaw01_alive.calls true w rfl).mono ?_
  rintro e_ V1 ⟨rfl, hb⟩
  have n_AR0 := Aside0.mk (Kd.C_below AR0.out hb)
  have n_AR1 := Aside0.mk (Kd.C_below AR1.out hb)
  have n_BL := Aside0.mk (BL.out.trans (Below.mono hb BL.out.size))
  clear AR0 AR1 BL
  have AR0 := n_AR0
  have AR1 := n_AR1
  have BL := n_BL
  clear n_AR0 n_AR1 n_BL
  clear hb
  go_wp2_with fail
  obtain ⟨V2, h_⟩ : ∃ W_, W_ = V1.alloc (.cells #[.slice A0 l0.length c0, .slice A1 l1.length c1] 22) := ⟨_, rfl⟩
  have hb_ : Below V1.heap.size V1 V2 := by rw [h_]; exact below_alloc (Below.refl _ _) _
  have hx_ : V2.heap[V1.heap.size]? = some (.cells #[.slice A0 l0.length c0, .slice A1 l1.length c1] 22 (0, 0)) := by rw [h_]; exact blk_new _ _
  rw [← h_]
  clear h_
  have n_AR0 := Aside0.mk (Kd.C_below AR0.out hb_)
  have n_AR1 := Aside0.mk (Kd.C_below AR1.out hb_)
  have n_BL := Aside0.mk (BL.out.trans (Below.mono hb_ BL.out.size))
  clear AR0 AR1 BL
  have AR0 := n_AR0
  have AR1 := n_AR1
  have BL := n_BL
  clear n_AR0 n_AR1 n_BL
  clear hb_
  obtain ⟨gg, e_⟩ : ∃ g_, g_ = V1.heap.size := ⟨_, rfl⟩
  rw [← e_] at hx_ ⊢
  clear e_
  have XG := Aside0.mk hx_
  clear hx_
  refine (c12_2 (W := V2) (C_rows2 XG.out AR0.out AC0.out AR1.out AC1.out) false hG).mono ?_
  rintro e_ V3 ⟨rfl, hb⟩
  have n_AR0 := Aside0.mk (Kd.C_below AR0.out hb)
  have n_AR1 := Aside0.mk (Kd.C_below AR1.out hb)
  have n_BL := Aside0.mk (BL.out.trans (Below.mono hb BL.out.size))
  have n_XG := Aside0.mk (blk_below XG.out hb)
  clear AR0 AR1 BL XG
  have AR0 := n_AR0
  have AR1 := n_AR1
  have BL := n_BL
  have XG := n_XG
  clear n_AR0 n_AR1 n_BL n_XG
  clear hb
  clear XG
  go_wp2_with fail
  refine (c16 A0 c0 l0 V3 AR0.out AC0.out A1 c1 l1 AR1.out AC1.out (andF l0 l1) rfl).mono ?_
  rintro e_ V4 ⟨v1, rfl, hs, hb⟩
  obtain ⟨R1, r1, rfl⟩ := Kd.R_slice hs
  have n_AR0 := Aside0.mk (Kd.C_below AR0.out hb)
  have n_AR1 := Aside0.mk (Kd.C_below AR1.out hb)
  have n_BL := Aside0.mk (BL.out.trans (Below.mono hb BL.out.size))
  clear AR0 AR1 BL
  have AR0 := n_AR0
  have AR1 := n_AR1
  have BL := n_BL
  clear n_AR0 n_AR1 n_BL
  have RA1 := Aside0.mk hs
  clear hs hb
  go_wp2_with fail
  refine (c14 A0 c0 l0 V4 AR0.out AC0.out A1 c1 l1 AR1.out AC1.out (orF l0 l1) rfl).mono ?_
  rintro e_ V5 ⟨v1, rfl, hs, hb⟩
  obtain ⟨R2, r2, rfl⟩ := Kd.R_slice hs
  have n_AR0 := Aside0.mk (Kd.C_below AR0.out hb)
  have n_AR1 := Aside0.mk (Kd.C_below AR1.out hb)
  have n_BL := Aside0.mk (BL.out.trans (Below.mono hb BL.out.size))
  have n_RA1 := Aside0.mk (Kd.R_below RA1.out hb)
  clear AR0 AR1 BL RA1
  have AR0 := n_AR0
  have AR1 := n_AR1
  have BL := n_BL
  have RA1 := n_RA1
  clear n_AR0 n_AR1 n_BL n_RA1
  have RA2 := Aside0.mk hs
  clear hs hb
  go_wp2_with fail
  refine (c18 R1 r1 (andF l0 l1) V5 (Kd.R_reads' RA1.out).2.2 (Kd.R_reads' RA1.out).2.1 A0 c0 l0 AR0.out AC0.out [] (less_both (by have := K.out; omega))).mono ?_
  rintro e_ V6 ⟨v1, rfl, hs, hb⟩
  obtain ⟨R3, r3, rfl⟩ := Kd.R_slice hs
  have n_AR0 := Aside0.mk (Kd.C_below AR0.out hb)
  have n_AR1 := Aside0.mk (Kd.C_below AR1.out hb)
  have n_BL := Aside0.mk (BL.out.trans (Below.mono hb BL.out.size))
  have n_RA1 := Aside0.mk (Kd.R_below RA1.out hb)
  have n_RA2 := Aside0.mk (Kd.R_below RA2.out hb)
  clear AR0 AR1 BL RA1 RA2
  have AR0 := n_AR0
  have AR1 := n_AR1
  have BL := n_BL
  have RA1 := n_RA1
  have RA2 := n_RA2
  clear n_AR0 n_AR1 n_BL n_RA1 n_RA2
  have RA3 := Aside0.mk hs
  clear hs hb
  clear RA3
  go_wp2_with fail
  refine (c18 A0 c0 l0 V6 AR0.out AC0.out R2 r2 (orF l0 l1) (Kd.R_reads' RA2.out).2.2 (Kd.R_reads' RA2.out).2.1 [] (less_either (by have := K.out; omega))).mono ?_
  rintro e_ V7 ⟨v1, rfl, hs, hb⟩
  obtain ⟨R4, r4, rfl⟩ := Kd.R_slice hs
  have n_AR0 := Aside0.mk (Kd.C_below AR0.out hb)
  have n_AR1 := Aside0.mk (Kd.C_below AR1.out hb)
  have n_BL := Aside0.mk (BL.out.trans (Below.mono hb BL.out.size))
  have n_RA1 := Aside0.mk (Kd.R_below RA1.out hb)
  have n_RA2 := Aside0.mk (Kd.R_below RA2.out hb)
  clear AR0 AR1 BL RA1 RA2
  have AR0 := n_AR0
  have AR1 := n_AR1
  have BL := n_BL
  have RA1 := n_RA1
  have RA2 := n_RA2
  clear n_AR0 n_AR1 n_BL n_RA1 n_RA2
  have RA4 := Aside0.mk hs
  clear hs hb
  clear RA4 RA2
  go_wp2_with fail
  refine (c18 A0 c0 l0 V7 AR0.out AC0.out A1 c1 l1 AR1.out AC1.out (lessF l0 l1) rfl).mono ?_
  rintro e_ V8 ⟨v1, rfl, hs, hb⟩
  obtain ⟨R5, r5, rfl⟩ := Kd.R_slice hs
  have n_AR0 := Aside0.mk (Kd.C_below AR0.out hb)
  have n_AR1 := Aside0.mk (Kd.C_below AR1.out hb)
  have n_BL := Aside0.mk (BL.out.trans (Below.mono hb BL.out.size))
  have n_RA1 := Aside0.mk (Kd.R_below RA1.out hb)
  clear AR0 AR1 BL RA1
  have AR0 := n_AR0
  have AR1 := n_AR1
  have BL := n_BL
  have RA1 := n_RA1
  clear n_AR0 n_AR1 n_BL n_RA1
  have RA5 := Aside0.mk hs
  clear hs hb
  go_wp2_with fail
  refine (c14 R5 r5 (lessF l0 l1) V8 (Kd.R_reads' RA5.out).2.2 (Kd.R_reads' RA5.out).2.1 R1 r1 (andF l0 l1) (Kd.R_reads' RA1.out).2.2 (Kd.R_reads' RA1.out).2.1 (orF (lessF l0 l1) (andF l0 l1)) rfl).mono ?_
  rintro e_ V9 ⟨v1, rfl, hs, hb⟩
  obtain ⟨R6, r6, rfl⟩ := Kd.R_slice hs
  have n_AR0 := Aside0.mk (Kd.C_below AR0.out hb)
  have n_AR1 := Aside0.mk (Kd.C_below AR1.out hb)
  have n_BL := Aside0.mk (BL.out.trans (Below.mono hb BL.out.size))
  have n_RA1 := Aside0.mk (Kd.R_below RA1.out hb)
  have n_RA5 := Aside0.mk (Kd.R_below RA5.out hb)
  clear AR0 AR1 BL RA1 RA5
  have AR0 := n_AR0
  have AR1 := n_AR1
  have BL := n_BL
  have RA1 := n_RA1
  have RA5 := n_RA5
  clear n_AR0 n_AR1 n_BL n_RA1 n_RA5
  have RA6 := Aside0.mk hs
  clear hs hb
  go_wp2_with fail
  refine (c30 R6 r6 (orF (lessF l0 l1) (andF l0 l1)) V9 (Kd.R_reads' RA6.out).2.2 (Kd.R_reads' RA6.out).2.1 A0 c0 l0 AR0.out AC0.out true (split_same (by have := K.out; omega))).mono ?_
  rintro e_ V10 ⟨rfl, hb⟩
  have n_AR0 := Aside0.mk (Kd.C_below AR0.out hb)
  have n_AR1 := Aside0.mk (Kd.C_below AR1.out hb)
  have n_BL := Aside0.mk (BL.out.trans (Below.mono hb BL.out.size))
  have n_RA1 := Aside0.mk (Kd.R_below RA1.out hb)
  have n_RA5 := Aside0.mk (Kd.R_below RA5.out hb)
  have n_RA6 := Aside0.mk (Kd.R_below RA6.out hb)
  clear AR0 AR1 BL RA1 RA5 RA6
  have AR0 := n_AR0
  have AR1 := n_AR1
  have BL := n_BL
  have RA1 := n_RA1
  have RA5 := n_RA5
  have RA6 := n_RA6
  clear n_AR0 n_AR1 n_BL n_RA1 n_RA5 n_RA6
  clear hb
  clear RA5 RA6
  obtain ⟨n1, q1⟩ : ∃ b_, sizeF (andF l0 l1) = b_ := ⟨_, rfl⟩
  obtain ⟨n2, q2⟩ : ∃ b_, sizeF l0 = b_ := ⟨_, rfl⟩
  have hn : n1 ≤ n2 := by rw [← q1, ← q2]; exact size_both (by have := K.out; omega)
  have Q1 := Aside0.mk q1
  clear q1
  have Q2 := Aside0.mk q2
  clear q2
  go_wp2_with fail
  refine (c28 R1 r1 (andF l0 l1) V10 (Kd.R_reads' RA1.out).2.2 (Kd.R_reads' RA1.out).2.1 n1 Q1.out).mono ?_
  rintro e_ V11 ⟨rfl, hb⟩
  have n_AR0 := Aside0.mk (Kd.C_below AR0.out hb)
  have n_AR1 := Aside0.mk (Kd.C_below AR1.out hb)
  have n_BL := Aside0.mk (BL.out.trans (Below.mono hb BL.out.size))
  have n_RA1 := Aside0.mk (Kd.R_below RA1.out hb)
  clear AR0 AR1 BL RA1
  have AR0 := n_AR0
  have AR1 := n_AR1
  have BL := n_BL
  have RA1 := n_RA1
  clear n_AR0 n_AR1 n_BL n_RA1
  clear hb
  go_wp2_with fail
  refine (c28 A0 c0 l0 V11 AR0.out AC0.out n2 Q2.out).mono ?_
  rintro e_ V12 ⟨rfl, hb⟩
  have n_AR0 := Aside0.mk (Kd.C_below AR0.out hb)
  have n_AR1 := Aside0.mk (Kd.C_below AR1.out hb)
  have n_BL := Aside0.mk (BL.out.trans (Below.mono hb BL.out.size))
  have n_RA1 := Aside0.mk (Kd.R_below RA1.out hb)
  clear AR0 AR1 BL RA1
  have AR0 := n_AR0
  have AR1 := n_AR1
  have BL := n_BL
  have RA1 := n_RA1
  clear n_AR0 n_AR1 n_BL n_RA1
  clear hb
  go_wp2_with fail
  refine (c18 A0 c0 l0 V12 AR0.out AC0.out A1 c1 l1 AR1.out AC1.out (lessF l0 l1) rfl).mono ?_
  rintro e_ V13 ⟨v1, rfl, hs, hb⟩
  obtain ⟨R7, r7, rfl⟩ := Kd.R_slice hs
  have n_AR0 := Aside0.mk (Kd.C_below AR0.out hb)
  have n_AR1 := Aside0.mk (Kd.C_below AR1.out hb)
  have n_BL := Aside0.mk (BL.out.trans (Below.mono hb BL.out.size))
  have n_RA1 := Aside0.mk (Kd.R_below RA1.out hb)
  clear AR0 AR1 BL RA1
  have AR0 := n_AR0
  have AR1 := n_AR1
  have BL := n_BL
  have RA1 := n_RA1
  clear n_AR0 n_AR1 n_BL n_RA1
  have RA7 := Aside0.mk hs
  clear hs hb
  clear RA7
  go_wp2_with fail
  refine (c30 A0 c0 l0 V13 AR0.out AC0.out A0 c0 l0 AR0.out AC0.out true (same_self _)).mono ?_
  rintro e_ V14 ⟨rfl, hb⟩
  have n_AR0 := Aside0.mk (Kd.C_below AR0.out hb)
  have n_AR1 := Aside0.mk (Kd.C_below AR1.out hb)
  have n_BL := Aside0.mk (BL.out.trans (Below.mono hb BL.out.size))
  have n_RA1 := Aside0.mk (Kd.R_below RA1.out hb)
  clear AR0 AR1 BL RA1
  have AR0 := n_AR0
  have AR1 := n_AR1
  have BL := n_BL
  have RA1 := n_RA1
  clear n_AR0 n_AR1 n_BL n_RA1
  clear hb
  go_wp2_with fail
  refine (c22 A0 c0 l0 V14 AR0.out AC0.out (plF l0) rfl).mono ?_
  rintro e_ V15 ⟨v1, rfl, hs, hb⟩
  obtain ⟨R8, r8, rfl⟩ := Kd.R_slice hs
  have n_AR0 := Aside0.mk (Kd.C_below AR0.out hb)
  have n_AR1 := Aside0.mk (Kd.C_below AR1.out hb)
  have n_BL := Aside0.mk (BL.out.trans (Below.mono hb BL.out.size))
  have n_RA1 := Aside0.mk (Kd.R_below RA1.out hb)
  clear AR0 AR1 BL RA1
  have AR0 := n_AR0
  have AR1 := n_AR1
  have BL := n_BL
  have RA1 := n_RA1
  clear n_AR0 n_AR1 n_BL n_RA1
  have RA8 := Aside0.mk hs
  clear hs hb
  go_wp2_with fail
  refine (c30 A0 c0 l0 V15 AR0.out AC0.out R8 r8 (plF l0) (Kd.R_reads' RA8.out).2.2 (Kd.R_reads' RA8.out).2.1 true (same_pl (by have := K.out; omega))).mono ?_
  rintro e_ V16 ⟨rfl, hb⟩
  have n_AR0 := Aside0.mk (Kd.C_below AR0.out hb)
  have n_AR1 := Aside0.mk (Kd.C_below AR1.out hb)
  have n_BL := Aside0.mk (BL.out.trans (Below.mono hb BL.out.size))
  have n_RA1 := Aside0.mk (Kd.R_below RA1.out hb)
  have n_RA8 := Aside0.mk (Kd.R_below RA8.out hb)
  clear AR0 AR1 BL RA1 RA8
  have AR0 := n_AR0
  have AR1 := n_AR1
  have BL := n_BL
  have RA1 := n_RA1
  have RA8 := n_RA8
  clear n_AR0 n_AR1 n_BL n_RA1 n_RA8
  clear hb
  go_wp2_with fail
  go_ret
  exact ⟨rfl, BL.out⟩
set_option maxHeartbeats 4000000 in
set_option maxRecDepth 100000 in
theorem orders_none (A0 : Option Addr) (c0 : Nat) (l0 : List S34) (A1 : Option Addr) (c1 : Nat) (l1 : List S34) (w : World) (hr0 : Kd.C k34 w A0 l0.length l0) (hc0 : l0.length ≤ c0) (hr1 : Kd.C k34 w A1 l1.length l1) (hc1 : l1.length ≤ c1) (hG : grF2 l0 l1 = false) (hS : ¬ (300 < wrap64 ((l0.length : Int) + (l1.length : Int)))) (hK : l0.length + l1.length ≤ 300) (hL : lessF l0 l1 = []) : Calls Try.prog 5 #[.slice A0 l0.length c0, .slice A1 l1.length c1] w fun e w' => e = .returned (.bool true) ∧ Below w.heap.size w w' := by
  have AR0 := Aside0.mk hr0
  have AC0 := Aside0.mk hc0
  clear hr0 hc0
  have AR1 := Aside0.mk hr1
  have AC1 := Aside0.mk hc1
  clear hr1 hc1
  have BL := Aside0.mk (Below.refl w.heap.size w)
  go_enter Try.func5, Try.ntmps5
  have K := Aside0.mk hK
  clear hK
  have HL := Aside0.mk hL
  clear hL
  go_wp2_with fail
  refine (caesuralaw01_alive.calls true w rfl).mono ?_
  rintro e_ V1 ⟨rfl, hb⟩
  have n_AR0 := Aside0.mk (Kd.C_below AR0.out hb)
  have n_AR1 := Aside0.mk (Kd.C_below AR1.out hb)
  have n_BL := Aside0.mk (BL.out.trans (Below.mono hb BL.out.size))
  clear AR0 AR1 BL
  have AR0 := n_AR0
  have AR1 := n_AR1
  have BL := n_BL
  clear n_AR0 n_AR1 n_BL
  clear hb
  go_wp2_with fail
  obtain ⟨V2, h_⟩ : ∃ W_, W_ = V1.alloc (.cells #[.slice A0 l0.length c0, .slice A1 l1.length c1] 22) := ⟨_, rfl⟩
  have hb_ : Below V1.heap.size V1 V2 := by rw [h_]; exact below_alloc (Below.refl _ _) _
  have hx_ : V2.heap[V1.heap.size]? = some (.cells #[.slice A0 l0.length c0, .slice A1 l1.length c1] 22 (0, 0)) := by rw [h_]; exact blk_new _ _
  rw [← h_]
  clear h_
  have n_AR0 := Aside0.mk (Kd.C_below AR0.out hb_)
  have n_AR1 := Aside0.mk (Kd.C_below AR1.out hb_)
  have n_BL := Aside0.mk (BL.out.trans (Below.mono hb_ BL.out.size))
  clear AR0 AR1 BL
  have AR0 := n_AR0
  have AR1 := n_AR1
  have BL := n_BL
  clear n_AR0 n_AR1 n_BL
  clear hb_
  obtain ⟨gg, e_⟩ : ∃ g_, g_ = V1.heap.size := ⟨_, rfl⟩
  rw [← e_] at hx_ ⊢
  clear e_
  have XG := Aside0.mk hx_
  clear hx_
  refine (c12_2 (W := V2) (C_rows2 XG.out AR0.out AC0.out AR1.out AC1.out) false hG).mono ?_
  rintro e_ V3 ⟨rfl, hb⟩
  have n_AR0 := Aside0.mk (Kd.C_below AR0.out hb)
  have n_AR1 := Aside0.mk (Kd.C_below AR1.out hb)
  have n_BL := Aside0.mk (BL.out.trans (Below.mono hb BL.out.size))
  have n_XG := Aside0.mk (blk_below XG.out hb)
  clear AR0 AR1 BL XG
  have AR0 := n_AR0
  have AR1 := n_AR1
  have BL := n_BL
  have XG := n_XG
  clear n_AR0 n_AR1 n_BL n_XG
  clear hb
  clear XG
  go_wp2_with fail
  refine (c16 A0 c0 l0 V3 AR0.out AC0.out A1 c1 l1 AR1.out AC1.out (andF l0 l1) rfl).mono ?_
  rintro e_ V4 ⟨v1, rfl, hs, hb⟩
  obtain ⟨R1, r1, rfl⟩ := Kd.R_slice hs
  have n_AR0 := Aside0.mk (Kd.C_below AR0.out hb)
  have n_AR1 := Aside0.mk (Kd.C_below AR1.out hb)
  have n_BL := Aside0.mk (BL.out.trans (Below.mono hb BL.out.size))
  clear AR0 AR1 BL
  have AR0 := n_AR0
  have AR1 := n_AR1
  have BL := n_BL
  clear n_AR0 n_AR1 n_BL
  have RA1 := Aside0.mk hs
  clear hs hb
  go_wp2_with fail
  refine (c14 A0 c0 l0 V4 AR0.out AC0.out A1 c1 l1 AR1.out AC1.out (orF l0 l1) rfl).mono ?_
  rintro e_ V5 ⟨v1, rfl, hs, hb⟩
  obtain ⟨R2, r2, rfl⟩ := Kd.R_slice hs
  have n_AR0 := Aside0.mk (Kd.C_below AR0.out hb)
  have n_AR1 := Aside0.mk (Kd.C_below AR1.out hb)
  have n_BL := Aside0.mk (BL.out.trans (Below.mono hb BL.out.size))
  have n_RA1 := Aside0.mk (Kd.R_below RA1.out hb)
  clear AR0 AR1 BL RA1
  have AR0 := n_AR0
  have AR1 := n_AR1
  have BL := n_BL
  have RA1 := n_RA1
  clear n_AR0 n_AR1 n_BL n_RA1
  have RA2 := Aside0.mk hs
  clear hs hb
  go_wp2_with fail
  refine (c18 R1 r1 (andF l0 l1) V5 (Kd.R_reads' RA1.out).2.2 (Kd.R_reads' RA1.out).2.1 A0 c0 l0 AR0.out AC0.out [] (less_both (by have := K.out; omega))).mono ?_
  rintro e_ V6 ⟨v1, rfl, hs, hb⟩
  obtain ⟨R3, r3, rfl⟩ := Kd.R_slice hs
  have n_AR0 := Aside0.mk (Kd.C_below AR0.out hb)
  have n_AR1 := Aside0.mk (Kd.C_below AR1.out hb)
  have n_BL := Aside0.mk (BL.out.trans (Below.mono hb BL.out.size))
  have n_RA1 := Aside0.mk (Kd.R_below RA1.out hb)
  have n_RA2 := Aside0.mk (Kd.R_below RA2.out hb)
  clear AR0 AR1 BL RA1 RA2
  have AR0 := n_AR0
  have AR1 := n_AR1
  have BL := n_BL
  have RA1 := n_RA1
  have RA2 := n_RA2
  clear n_AR0 n_AR1 n_BL n_RA1 n_RA2
  have RA3 := Aside0.mk hs
  clear hs hb
  clear RA3
  go_wp2_with fail
  refine (c18 A0 c0 l0 V6 AR0.out AC0.out R2 r2 (orF l0 l1) (Kd.R_reads' RA2.out).2.2 (Kd.R_reads' RA2.out).2.1 [] (less_either (by have := K.out; omega))).mono ?_
  rintro e_ V7 ⟨v1, rfl, hs, hb⟩
  obtain ⟨R4, r4, rfl⟩ := Kd.R_slice hs
  have n_AR0 := Aside0.mk (Kd.C_below AR0.out hb)
  have n_AR1 := Aside0.mk (Kd.C_below AR1.out hb)
  have n_BL := Aside0.mk (BL.out.trans (Below.mono hb BL.out.size))
  have n_RA1 := Aside0.mk (Kd.R_below RA1.out hb)
  have n_RA2 := Aside0.mk (Kd.R_below RA2.out hb)
  clear AR0 AR1 BL RA1 RA2
  have AR0 := n_AR0
  have AR1 := n_AR1
  have BL := n_BL
  have RA1 := n_RA1
  have RA2 := n_RA2
  clear n_AR0 n_AR1 n_BL n_RA1 n_RA2
  have RA4 := Aside0.mk hs
  clear hs hb
  clear RA4 RA2
  go_wp2_with fail
  refine (c18 A0 c0 l0 V7 AR0.out AC0.out A1 c1 l1 AR1.out AC1.out (lessF l0 l1) rfl).mono ?_
  rintro e_ V8 ⟨v1, rfl, hs, hb⟩
  obtain ⟨R5, r5, rfl⟩ := Kd.R_slice hs
  have n_AR0 := Aside0.mk (Kd.C_below AR0.out hb)
  have n_AR1 := Aside0.mk (Kd.C_below AR1.out hb)
  have n_BL := Aside0.mk (BL.out.trans (Below.mono hb BL.out.size))
  have n_RA1 := Aside0.mk (Kd.R_below RA1.out hb)
  clear AR0 AR1 BL RA1
  have AR0 := n_AR0
  have AR1 := n_AR1
  have BL := n_BL
  have RA1 := n_RA1
  clear n_AR0 n_AR1 n_BL n_RA1
  have RA5 := Aside0.mk hs
  clear hs hb
  go_wp2_with fail
  refine (c14 R5 r5 (lessF l0 l1) V8 (Kd.R_reads' RA5.out).2.2 (Kd.R_reads' RA5.out).2.1 R1 r1 (andF l0 l1) (Kd.R_reads' RA1.out).2.2 (Kd.R_reads' RA1.out).2.1 (orF (lessF l0 l1) (andF l0 l1)) rfl).mono ?_
  rintro e_ V9 ⟨v1, rfl, hs, hb⟩
  obtain ⟨R6, r6, rfl⟩ := Kd.R_slice hs
  have n_AR0 := Aside0.mk (Kd.C_below AR0.out hb)
  have n_AR1 := Aside0.mk (Kd.C_below AR1.out hb)
  have n_BL := Aside0.mk (BL.out.trans (Below.mono hb BL.out.size))
  have n_RA1 := Aside0.mk (Kd.R_below RA1.out hb)
  have n_RA5 := Aside0.mk (Kd.R_below RA5.out hb)
  clear AR0 AR1 BL RA1 RA5
  have AR0 := n_AR0
  have AR1 := n_AR1
  have BL := n_BL
  have RA1 := n_RA1
  have RA5 := n_RA5
  clear n_AR0 n_AR1 n_BL n_RA1 n_RA5
  have RA6 := Aside0.mk hs
  clear hs hb
  go_wp2_with fail
  refine (c30 R6 r6 (orF (lessF l0 l1) (andF l0 l1)) V9 (Kd.R_reads' RA6.out).2.2 (Kd.R_reads' RA6.out).2.1 A0 c0 l0 AR0.out AC0.out true (split_same (by have := K.out; omega))).mono ?_
  rintro e_ V10 ⟨rfl, hb⟩
  have n_AR0 := Aside0.mk (Kd.C_below AR0.out hb)
  have n_AR1 := Aside0.mk (Kd.C_below AR1.out hb)
  have n_BL := Aside0.mk (BL.out.trans (Below.mono hb BL.out.size))
  have n_RA1 := Aside0.mk (Kd.R_below RA1.out hb)
  have n_RA5 := Aside0.mk (Kd.R_below RA5.out hb)
  have n_RA6 := Aside0.mk (Kd.R_below RA6.out hb)
  clear AR0 AR1 BL RA1 RA5 RA6
  have AR0 := n_AR0
  have AR1 := n_AR1
  have BL := n_BL
  have RA1 := n_RA1
  have RA5 := n_RA5
  have RA6 := n_RA6
  clear n_AR0 n_AR1 n_BL n_RA1 n_RA5 n_RA6
  clear hb
  clear RA5 RA6
  obtain ⟨n1, q1⟩ : ∃ b_, sizeF (andF l0 l1) = b_ := ⟨_, rfl⟩
  obtain ⟨n2, q2⟩ : ∃ b_, sizeF l0 = b_ := ⟨_, rfl⟩
  have hn : n1 ≤ n2 := by rw [← q1, ← q2]; exact size_both (by have := K.out; omega)
  have Q1 := Aside0.mk q1
  clear q1
  have Q2 := Aside0.mk q2
  clear q2
  go_wp2_with fail
  refine (c28 R1 r1 (andF l0 l1) V10 (Kd.R_reads' RA1.out).2.2 (Kd.R_reads' RA1.out).2.1 n1 Q1.out).mono ?_
  rintro e_ V11 ⟨rfl, hb⟩
  have n_AR0 := Aside0.mk (Kd.C_below AR0.out hb)
  have n_AR1 := Aside0.mk (Kd.C_below AR1.out hb)
  have n_BL := Aside0.mk (BL.out.trans (Below.mono hb BL.out.size))
  have n_RA1 := Aside0.mk (Kd.R_below RA1.out hb)
  clear AR0 AR1 BL RA1
  have AR0 := n_AR0
  have AR1 := n_AR1
  have BL := n_BL
  have RA1 := n_RA1
  clear n_AR0 n_AR1 n_BL n_RA1
  clear hb
  go_wp2_with fail
  refine (c28 A0 c0 l0 V11 AR0.out AC0.out n2 Q2.out).mono ?_
  rintro e_ V12 ⟨rfl, hb⟩
  have n_AR0 := Aside0.mk (Kd.C_below AR0.out hb)
  have n_AR1 := Aside0.mk (Kd.C_below AR1.out hb)
  have n_BL := Aside0.mk (BL.out.trans (Below.mono hb BL.out.size))
  have n_RA1 := Aside0.mk (Kd.R_below RA1.out hb)
  clear AR0 AR1 BL RA1
  have AR0 := n_AR0
  have AR1 := n_AR1
  have BL := n_BL
  have RA1 := n_RA1
  clear n_AR0 n_AR1 n_BL n_RA1
  clear hb
  go_wp2_with fail
  refine (c18 A0 c0 l0 V12 AR0.out AC0.out A1 c1 l1 AR1.out AC1.out [] HL.out).mono ?_
  rintro e_ V13 ⟨v1, rfl, hs, hb⟩
  obtain ⟨R7, r7, rfl⟩ := Kd.R_slice hs
  have n_AR0 := Aside0.mk (Kd.C_below AR0.out hb)
  have n_AR1 := Aside0.mk (Kd.C_below AR1.out hb)
  have n_BL := Aside0.mk (BL.out.trans (Below.mono hb BL.out.size))
  have n_RA1 := Aside0.mk (Kd.R_below RA1.out hb)
  clear AR0 AR1 BL RA1
  have AR0 := n_AR0
  have AR1 := n_AR1
  have BL := n_BL
  have RA1 := n_RA1
  clear n_AR0 n_AR1 n_BL n_RA1
  have RA7 := Aside0.mk hs
  clear hs hb
  clear RA7
  go_wp2_with fail
  refine (c30 R1 r1 (andF l0 l1) V13 (Kd.R_reads' RA1.out).2.2 (Kd.R_reads' RA1.out).2.1 A0 c0 l0 AR0.out AC0.out true (less_none (by have := K.out; omega) (by rw [HL.out]; rfl))).mono ?_
  rintro e_ V14 ⟨rfl, hb⟩
  have n_AR0 := Aside0.mk (Kd.C_below AR0.out hb)
  have n_AR1 := Aside0.mk (Kd.C_below AR1.out hb)
  have n_BL := Aside0.mk (BL.out.trans (Below.mono hb BL.out.size))
  have n_RA1 := Aside0.mk (Kd.R_below RA1.out hb)
  clear AR0 AR1 BL RA1
  have AR0 := n_AR0
  have AR1 := n_AR1
  have BL := n_BL
  have RA1 := n_RA1
  clear n_AR0 n_AR1 n_BL n_RA1
  clear hb
  go_wp2_with fail
  refine (c30 A0 c0 l0 V14 AR0.out AC0.out A0 c0 l0 AR0.out AC0.out true (same_self _)).mono ?_
  rintro e_ V15 ⟨rfl, hb⟩
  have n_AR0 := Aside0.mk (Kd.C_below AR0.out hb)
  have n_AR1 := Aside0.mk (Kd.C_below AR1.out hb)
  have n_BL := Aside0.mk (BL.out.trans (Below.mono hb BL.out.size))
  have n_RA1 := Aside0.mk (Kd.R_below RA1.out hb)
  clear AR0 AR1 BL RA1
  have AR0 := n_AR0
  have AR1 := n_AR1
  have BL := n_BL
  have RA1 := n_RA1
  clear n_AR0 n_AR1 n_BL n_RA1
  clear hb
  go_wp2_with fail
  refine (c22 A0 c0 l0 V15 AR0.out AC0.out (plF l0) rfl).mono ?_
  rintro e_ V16 ⟨v1, rfl, hs, hb⟩
  obtain ⟨R8, r8, rfl⟩ := Kd.R_slice hs
  have n_AR0 := Aside0.mk (Kd.C_below AR0.out hb)
  have n_AR1 := Aside0.mk (Kd.C_below AR1.out hb)
  have n_BL := Aside0.mk (BL.out.trans (Below.mono hb BL.out.size))
  have n_RA1 := Aside0.mk (Kd.R_below RA1.out hb)
  clear AR0 AR1 BL RA1
  have AR0 := n_AR0
  have AR1 := n_AR1
  have BL := n_BL
  have RA1 := n_RA1
  clear n_AR0 n_AR1 n_BL n_RA1
  have RA8 := Aside0.mk hs
  clear hs hb
  go_wp2_with fail
  refine (c30 A0 c0 l0 V16 AR0.out AC0.out R8 r8 (plF l0) (Kd.R_reads' RA8.out).2.2 (Kd.R_reads' RA8.out).2.1 true (same_pl (by have := K.out; omega))).mono ?_
  rintro e_ V17 ⟨rfl, hb⟩
  have n_AR0 := Aside0.mk (Kd.C_below AR0.out hb)
  have n_AR1 := Aside0.mk (Kd.C_below AR1.out hb)
  have n_BL := Aside0.mk (BL.out.trans (Below.mono hb BL.out.size))
  have n_RA1 := Aside0.mk (Kd.R_below RA1.out hb)
  have n_RA8 := Aside0.mk (Kd.R_below RA8.out hb)
  clear AR0 AR1 BL RA1 RA8
  have AR0 := n_AR0
  have AR1 := n_AR1
  have BL := n_BL
  have RA1 := n_RA1
  have RA8 := n_RA8
  clear n_AR0 n_AR1 n_BL n_RA1 n_RA8
  clear hb
  go_wp2_with fail
  go_ret
  exact ⟨rfl, BL.out⟩
theorem SpanOrders_calls (A0 : Option Addr) (c0 : Nat) (l0 : List S34) (A1 : Option Addr) (c1 : Nat) (l1 : List S34) (w : World) (hr0 : Kd.C k34 w A0 l0.length l0) (hc0 : l0.length ≤ c0) (hr1 : Kd.C k34 w A1 l1.length l1) (hc1 : l1.length ≤ c1) : Calls Try.prog 5 #[.slice A0 l0.length c0, .slice A1 l1.length c1] w fun e w' => e = .returned (.bool true) ∧ Below w.heap.size w w' := by
  cases hG : grF2 l0 l1 with
  | true => exact orders_great A0 c0 l0 A1 c1 l1 w hr0 hc0 hr1 hc1 hG
  | false =>
    have hg := hG
    simp only [grF2, Bool.or_eq_false_iff, decide_eq_false_iff_not] at hg
    have hw : wrap64 ((l0.length : Int) + (l1.length : Int)) = (l0.length : Int) + (l1.length : Int) := w64 (by omega) (by omega)
    by_cases hS : 300 < wrap64 ((l0.length : Int) + (l1.length : Int))
    · exact orders_long A0 c0 l0 A1 c1 l1 w hr0 hc0 hr1 hc1 hG hS
    · have hK : l0.length + l1.length ≤ 300 := by rw [hw] at hS; omega
      by_cases hL : 0 < ((lessF l0 l1).length : Int)
      · exact orders_some A0 c0 l0 A1 c1 l1 w hr0 hc0 hr1 hc1 hG hS hK hL
      · exact orders_none A0 c0 l0 A1 c1 l1 w hr0 hc0 hr1 hc1 hG hS hK (List.length_eq_zero_iff.1 (by omega))
end Go.Proofs.Ytippkbgeeeimjaa.L
