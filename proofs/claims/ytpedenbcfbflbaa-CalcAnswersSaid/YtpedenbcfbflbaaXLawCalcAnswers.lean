/- CalcAnswers: the law answers true, whatever it is asked. -/
import Derived.Test.YtpedenbcfbflbaaXRefCalc
import Derived.Test.YtpedenbcfbflbaaXGot
namespace Go.Proofs.Ytpedenbcfbflbaa.X
open Go.RowKit Go.Proofs.YtpedenbcfbflbaaW.PrintWords Go.Proofs.YtpedenbcfbflbaaW.PrintLast Go.Proofs.YtpedenbcfbflbaaW.PrintMore Go.Maps Num Go.Proofs.Ytpedenbcfbflbaa.PMarkMakes
set_option linter.unusedVariables false
set_option linter.unusedSimpArgs false

set_option maxHeartbeats 8000000 in
set_option maxRecDepth 100000 in
theorem CalcAnswers_walk (s0 : Int) (A0 : Option Addr) (c0 : Nat) (n0 : List (List Int)) (B0 : Option Addr) (b0 : Nat) (e0 : List Bool) (a1 : Int) (w : World)
    (z0 : SmallD n0 e0) (g0 : Got 0 A0 c0 n0 B0 b0 e0 w) :
    Calls Try.prog 9 #[.agg #[.int .i64 s0, .slice A0 n0.length c0, .slice B0 e0.length b0], .int .i64 a1] w fun e w' => e = .returned (.bool true) ∧ Below w.heap.size w w' := by
  have hu25 := Try.underlying25
  have z1 := z0.1
  have z2 := z0.2.1
  have z3 := z0.2.2
  obtain ⟨gr, hgr⟩ := great_ev s0 n0 e0 1000 (by omega)
  obtain ⟨kg, hkg⟩ := hgr.rounds
  obtain ⟨kc, hkc⟩ := (copy_ev s0 n0 e0 z0).rounds
  obtain ⟨kn, hkn⟩ := (rnot_ev s0 n0 e0 z0).rounds
  obtain ⟨ke, hke⟩ := (rempty_ev s0 n0 e0).rounds
  obtain ⟨r1, r2, r3, r4, ha1, ha2, ha3, ha4, ha5⟩ := all_ev a1
  have hn : (notF s0 n0 e0).2.1.length ≤ 9223372036854775807 ∧ (∀ r ∈ (notF s0 n0 e0).2.1, r.length ≤ 9223372036854775807) ∧ (notF s0 n0 e0).2.2.1.length ≤ 9223372036854775807 := by
    unfold notF
    split
    · exact ⟨by show n0.length ≤ _; omega, fun r hr => by have := z2 r hr; omega, by simp; omega⟩
    · exact ⟨by simp, by simp, by simp⟩
  obtain ⟨q1, q2, q3, q4, hnot⟩ : ∃ q1 q2 q3 q4, notF s0 n0 e0 = (q1, q2, q3, q4) := ⟨_, _, _, _, rfl⟩
  rw [hnot] at hn hkn
  obtain ⟨k1, hk1⟩ := (same_ev q1 q2 q3 hn.1 hn.2.1 hn.2.2).rounds
  obtain ⟨k2, hk2⟩ := (same_ev r1 r2 r3 (by omega) (fun r hr => by have := ha4 r hr; omega) (by omega)).rounds
  obtain ⟨k3, hk3⟩ := (same_ev s0 n0 e0 (by omega) (fun r hr => by have := z2 r hr; omega) (by omega)).rounds
  have HGR := Aside0.mk hkg
  have HCP := Aside0.mk hkc
  have HRN := Aside0.mk hkn
  have HRE := Aside0.mk hke
  have HA1 := Aside0.mk ha1
  have HA2 := Aside0.mk ha2
  have HNT := Aside0.mk hnot
  have HS1 := Aside0.mk hk1
  have HS2 := Aside0.mk hk2
  have HS3 := Aside0.mk hk3
  clear hgr hkg hkc hkn hke ha1 ha2 ha3 ha4 ha5 hn hnot hk1 hk2 hk3 z0 z1 z2 z3
  go_enter Try.func9, Try.ntmps9
  go_upto_region 1 with (fail)
  obtain ⟨W, hW⟩ : ∃ W, W = w.alloc (.cells #[.int .i64 s0, .slice A0 n0.length c0, .slice B0 e0.length b0] 25) := ⟨_, rfl⟩
  have hx_ : W.heap[w.heap.size]? = some (.cells #[.int .i64 s0, .slice A0 n0.length c0, .slice B0 e0.length b0] 25 (0, 0)) := by rw [hW]; exact blk_new _ _
  have hbl : Below w.heap.size w W := by rw [hW]; exact below_alloc (Below.refl _ _) _
  rw [← hW]
  have G0 := Aside0.mk (g0.below hbl)
  have XD := Aside0.mk hx_
  have BL := Aside0.mk hbl
  clear hW hx_ hbl g0
  have cd0 := (blk_cell XD.out 0).trans rfl
  have cd1 := (blk_cell XD.out 1).trans rfl
  have cd2 := (blk_cell XD.out 2).trans rfl
  go_wp2_with fail
  refine (alive27 W).mono ?_
  rintro e_ V1 ⟨rfl, hb⟩
  have n_G0 := Aside0.mk (Got.below G0.out hb)
  have n_XD := Aside0.mk (blk_below XD.out hb)
  have n_BL := Aside0.mk (BL.out.trans (Below.mono hb BL.out.size))
  clear G0 XD BL
  have G0 := n_G0
  have XD := n_XD
  have BL := n_BL
  clear n_G0 n_XD n_BL
  clear hb
  clear cd0 cd1 cd2
  have cd0 := (blk_cell XD.out 0).trans rfl
  have cd1 := (blk_cell XD.out 1).trans rfl
  have cd2 := (blk_cell XD.out 2).trans rfl
  go_wp2_with fail
  refine (caesuraref15_Great.calls kg s0 A0 c0 n0 B0 b0 e0 1000 gr V1 G0.out.n2 G0.out.n1 G0.out.e2 G0.out.e1 HGR.out).mono ?_
  rintro e_ V2 ⟨rfl, hb⟩
  have n_G0 := Aside0.mk (Got.below G0.out hb)
  have n_XD := Aside0.mk (blk_below XD.out hb)
  have n_BL := Aside0.mk (BL.out.trans (Below.mono hb BL.out.size))
  clear G0 XD BL
  have G0 := n_G0
  have XD := n_XD
  have BL := n_BL
  clear n_G0 n_XD n_BL
  clear hb
  clear cd0 cd1 cd2
  have cd0 := (blk_cell XD.out 0).trans rfl
  have cd1 := (blk_cell XD.out 1).trans rfl
  have cd2 := (blk_cell XD.out 2).trans rfl
  cases gr with
  | true =>
    clear cd0 cd1 cd2
    go_wp2_with fail
    go_ret
    exact ⟨rfl, BL.out⟩
  | false =>
    go_wp2_with fail
    refine (A.caesuraref15_Copy.calls kc s0 A0 c0 n0 B0 b0 e0 s0 n0 e0 V2 G0.out.n2 G0.out.n1 G0.out.e2 G0.out.e1 HCP.out).mono ?_
    rintro e_ V3 ⟨v1, v2, rfl, hs, hr, hb⟩
    obtain ⟨A1, a1_, rfl⟩ := Kd.S_slice hs
    obtain ⟨B1, b1_, rfl⟩ := Kd.R_slice hr
    have G1 : Aside0 (Got 0 A1 a1_ n0 B1 b1_ e0 V3) := ⟨⟨(Kd.S_reads' hs).2.1, (Kd.S_reads' hs).2.2, (Kd.R_reads' hr).2.1, (Kd.R_reads' hr).2.2⟩⟩
    have n_G0 := Aside0.mk (Got.below G0.out hb)
    have n_XD := Aside0.mk (blk_below XD.out hb)
    have n_BL := Aside0.mk (BL.out.trans (Below.mono hb BL.out.size))
    clear G0 XD BL
    have G0 := n_G0
    have XD := n_XD
    have BL := n_BL
    clear n_G0 n_XD n_BL
    clear hs hr hb
    clear cd0 cd1 cd2
    have cd0 := (blk_cell XD.out 0).trans rfl
    have cd1 := (blk_cell XD.out 1).trans rfl
    have cd2 := (blk_cell XD.out 2).trans rfl
    go_upto_region 6 with (fail)
    obtain ⟨V4, h_⟩ : ∃ W_, W_ = V3.alloc (.cells #[.int .i64 s0, .slice A1 n0.length a1_, .slice B1 e0.length b1_] 25) := ⟨_, rfl⟩
    have hb_ : Below V3.heap.size V3 V4 := by rw [h_]; exact below_alloc (Below.refl _ _) _
    have hx_ : V4.heap[V3.heap.size]? = some (.cells #[.int .i64 s0, .slice A1 n0.length a1_, .slice B1 e0.length b1_] 25 (0, 0)) := by rw [h_]; exact blk_new _ _
    rw [← h_]
    clear h_
    have n_G0 := Aside0.mk (Got.below G0.out hb_)
    have n_XD := Aside0.mk (blk_below XD.out hb_)
    have n_BL := Aside0.mk (BL.out.trans (Below.mono hb_ BL.out.size))
    have n_G1 := Aside0.mk (Got.below G1.out hb_)
    clear G0 XD BL G1
    have G0 := n_G0
    have XD := n_XD
    have BL := n_BL
    have G1 := n_G1
    clear n_G0 n_XD n_BL n_G1
    clear hb_
    obtain ⟨g1_, e_⟩ : ∃ g_, g_ = V3.heap.size := ⟨_, rfl⟩
    rw [← e_] at hx_ ⊢
    clear e_
    have X1 := Aside0.mk hx_
    clear hx_
    clear cd0 cd1 cd2
    have cd0 := (blk_cell XD.out 0).trans rfl
    have cd1 := (blk_cell XD.out 1).trans rfl
    have cd2 := (blk_cell XD.out 2).trans rfl
    have ce0 := (blk_cell X1.out 0).trans rfl
    have ce1 := (blk_cell X1.out 1).trans rfl
    have ce2 := (blk_cell X1.out 2).trans rfl
    go_wp2_with fail
    refine (calc_not_got s0 A1 a1_ n0 B1 b1_ e0 V4 G1.out q1 q2 q3 q4 HNT.out).mono ?_
    rintro e_ V5 ⟨A2, a2_, B2, b2_, rfl, hg, hb⟩
    have n_G0 := Aside0.mk (Got.below G0.out hb)
    have n_XD := Aside0.mk (blk_below XD.out hb)
    have n_BL := Aside0.mk (BL.out.trans (Below.mono hb BL.out.size))
    have n_G1 := Aside0.mk (Got.below G1.out hb)
    have n_X1 := Aside0.mk (blk_below X1.out hb)
    clear G0 XD BL G1 X1
    have G0 := n_G0
    have XD := n_XD
    have BL := n_BL
    have G1 := n_G1
    have X1 := n_X1
    clear n_G0 n_XD n_BL n_G1 n_X1
    have G2 := Aside0.mk hg
    clear hg hb
    clear cd0 cd1 cd2
    clear ce0 ce1 ce2
    have cd0 := (blk_cell XD.out 0).trans rfl
    have cd1 := (blk_cell XD.out 1).trans rfl
    have cd2 := (blk_cell XD.out 2).trans rfl
    have ce0 := (blk_cell X1.out 0).trans rfl
    have ce1 := (blk_cell X1.out 1).trans rfl
    have ce2 := (blk_cell X1.out 2).trans rfl
    go_upto_region 7 with (fail)
    obtain ⟨V6, h_⟩ : ∃ W_, W_ = V5.alloc (.cells #[.int .i64 q1, .slice A2 q2.length a2_, .slice B2 q3.length b2_] 25) := ⟨_, rfl⟩
    have hb_ : Below V5.heap.size V5 V6 := by rw [h_]; exact below_alloc (Below.refl _ _) _
    have hx_ : V6.heap[V5.heap.size]? = some (.cells #[.int .i64 q1, .slice A2 q2.length a2_, .slice B2 q3.length b2_] 25 (0, 0)) := by rw [h_]; exact blk_new _ _
    rw [← h_]
    clear h_
    have n_G0 := Aside0.mk (Got.below G0.out hb_)
    have n_XD := Aside0.mk (blk_below XD.out hb_)
    have n_BL := Aside0.mk (BL.out.trans (Below.mono hb_ BL.out.size))
    have n_G1 := Aside0.mk (Got.below G1.out hb_)
    have n_X1 := Aside0.mk (blk_below X1.out hb_)
    have n_G2 := Aside0.mk (Got.below G2.out hb_)
    clear G0 XD BL G1 X1 G2
    have G0 := n_G0
    have XD := n_XD
    have BL := n_BL
    have G1 := n_G1
    have X1 := n_X1
    have G2 := n_G2
    clear n_G0 n_XD n_BL n_G1 n_X1 n_G2
    clear hb_
    obtain ⟨g2_, e_⟩ : ∃ g_, g_ = V5.heap.size := ⟨_, rfl⟩
    rw [← e_] at hx_ ⊢
    clear e_
    have X2 := Aside0.mk hx_
    clear hx_
    clear cd0 cd1 cd2
    clear ce0 ce1 ce2
    have cd0 := (blk_cell XD.out 0).trans rfl
    have cd1 := (blk_cell XD.out 1).trans rfl
    have cd2 := (blk_cell XD.out 2).trans rfl
    have ce0 := (blk_cell X1.out 0).trans rfl
    have ce1 := (blk_cell X1.out 1).trans rfl
    have ce2 := (blk_cell X1.out 2).trans rfl
    have cf0 := (blk_cell X2.out 0).trans rfl
    have cf1 := (blk_cell X2.out 1).trans rfl
    have cf2 := (blk_cell X2.out 2).trans rfl
    go_wp2_with fail
    refine (A.caesuraref16_Not.calls kn s0 A0 c0 n0 B0 b0 e0 q1 q2 q3 q4 V6 G0.out.n2 G0.out.n1 G0.out.e2 G0.out.e1 HRN.out).mono ?_
    rintro e_ V7 ⟨v1, v2, rfl, hs, hr, hb⟩
    obtain ⟨A3, a3_, rfl⟩ := Kd.S_slice hs
    obtain ⟨B3, b3_, rfl⟩ := Kd.R_slice hr
    have G3 : Aside0 (Got 0 A3 a3_ q2 B3 b3_ q3 V7) := ⟨⟨(Kd.S_reads' hs).2.1, (Kd.S_reads' hs).2.2, (Kd.R_reads' hr).2.1, (Kd.R_reads' hr).2.2⟩⟩
    have n_G0 := Aside0.mk (Got.below G0.out hb)
    have n_XD := Aside0.mk (blk_below XD.out hb)
    have n_BL := Aside0.mk (BL.out.trans (Below.mono hb BL.out.size))
    have n_G1 := Aside0.mk (Got.below G1.out hb)
    have n_X1 := Aside0.mk (blk_below X1.out hb)
    have n_G2 := Aside0.mk (Got.below G2.out hb)
    have n_X2 := Aside0.mk (blk_below X2.out hb)
    clear G0 XD BL G1 X1 G2 X2
    have G0 := n_G0
    have XD := n_XD
    have BL := n_BL
    have G1 := n_G1
    have X1 := n_X1
    have G2 := n_G2
    have X2 := n_X2
    clear n_G0 n_XD n_BL n_G1 n_X1 n_G2 n_X2
    clear hs hr hb
    clear cd0 cd1 cd2
    clear ce0 ce1 ce2
    clear cf0 cf1 cf2
    have cd0 := (blk_cell XD.out 0).trans rfl
    have cd1 := (blk_cell XD.out 1).trans rfl
    have cd2 := (blk_cell XD.out 2).trans rfl
    have ce0 := (blk_cell X1.out 0).trans rfl
    have ce1 := (blk_cell X1.out 1).trans rfl
    have ce2 := (blk_cell X1.out 2).trans rfl
    have cf0 := (blk_cell X2.out 0).trans rfl
    have cf1 := (blk_cell X2.out 1).trans rfl
    have cf2 := (blk_cell X2.out 2).trans rfl
    go_upto_region 8 with (fail)
    obtain ⟨V8, h_⟩ : ∃ W_, W_ = V7.alloc (.cells #[.int .i64 q1, .slice A3 q2.length a3_, .slice B3 q3.length b3_] 25) := ⟨_, rfl⟩
    have hb_ : Below V7.heap.size V7 V8 := by rw [h_]; exact below_alloc (Below.refl _ _) _
    have hx_ : V8.heap[V7.heap.size]? = some (.cells #[.int .i64 q1, .slice A3 q2.length a3_, .slice B3 q3.length b3_] 25 (0, 0)) := by rw [h_]; exact blk_new _ _
    rw [← h_]
    clear h_
    have n_G0 := Aside0.mk (Got.below G0.out hb_)
    have n_XD := Aside0.mk (blk_below XD.out hb_)
    have n_BL := Aside0.mk (BL.out.trans (Below.mono hb_ BL.out.size))
    have n_G1 := Aside0.mk (Got.below G1.out hb_)
    have n_X1 := Aside0.mk (blk_below X1.out hb_)
    have n_G2 := Aside0.mk (Got.below G2.out hb_)
    have n_X2 := Aside0.mk (blk_below X2.out hb_)
    have n_G3 := Aside0.mk (Got.below G3.out hb_)
    clear G0 XD BL G1 X1 G2 X2 G3
    have G0 := n_G0
    have XD := n_XD
    have BL := n_BL
    have G1 := n_G1
    have X1 := n_X1
    have G2 := n_G2
    have X2 := n_X2
    have G3 := n_G3
    clear n_G0 n_XD n_BL n_G1 n_X1 n_G2 n_X2 n_G3
    clear hb_
    obtain ⟨g3_, e_⟩ : ∃ g_, g_ = V7.heap.size := ⟨_, rfl⟩
    rw [← e_] at hx_ ⊢
    clear e_
    have X3 := Aside0.mk hx_
    clear hx_
    clear cd0 cd1 cd2
    clear ce0 ce1 ce2
    clear cf0 cf1 cf2
    have cd0 := (blk_cell XD.out 0).trans rfl
    have cd1 := (blk_cell XD.out 1).trans rfl
    have cd2 := (blk_cell XD.out 2).trans rfl
    have ce0 := (blk_cell X1.out 0).trans rfl
    have ce1 := (blk_cell X1.out 1).trans rfl
    have ce2 := (blk_cell X1.out 2).trans rfl
    have cf0 := (blk_cell X2.out 0).trans rfl
    have cf1 := (blk_cell X2.out 1).trans rfl
    have cf2 := (blk_cell X2.out 2).trans rfl
    have cg0 := (blk_cell X3.out 0).trans rfl
    have cg1 := (blk_cell X3.out 1).trans rfl
    have cg2 := (blk_cell X3.out 2).trans rfl
    go_wp2_with fail
    refine (calc_All.calls a1 r1 r2 r3 r4 V8 HA1.out).mono ?_
    rintro e_ V9 ⟨v1, v2, rfl, hs, hr, hb⟩
    obtain ⟨A4, a4_, rfl⟩ := Kd.N_slice hs
    obtain ⟨B4, b4_, rfl⟩ := Kd.R_slice hr
    have G4 : Aside0 (Got 0 A4 a4_ r2 B4 b4_ r3 V9) := ⟨⟨(Kd.N_reads' hs).2.1, (Kd.N_reads' hs).2.2, (Kd.R_reads' hr).2.1, (Kd.R_reads' hr).2.2⟩⟩
    have n_G0 := Aside0.mk (Got.below G0.out hb)
    have n_XD := Aside0.mk (blk_below XD.out hb)
    have n_BL := Aside0.mk (BL.out.trans (Below.mono hb BL.out.size))
    have n_G1 := Aside0.mk (Got.below G1.out hb)
    have n_X1 := Aside0.mk (blk_below X1.out hb)
    have n_G2 := Aside0.mk (Got.below G2.out hb)
    have n_X2 := Aside0.mk (blk_below X2.out hb)
    have n_G3 := Aside0.mk (Got.below G3.out hb)
    have n_X3 := Aside0.mk (blk_below X3.out hb)
    clear G0 XD BL G1 X1 G2 X2 G3 X3
    have G0 := n_G0
    have XD := n_XD
    have BL := n_BL
    have G1 := n_G1
    have X1 := n_X1
    have G2 := n_G2
    have X2 := n_X2
    have G3 := n_G3
    have X3 := n_X3
    clear n_G0 n_XD n_BL n_G1 n_X1 n_G2 n_X2 n_G3 n_X3
    clear hs hr hb
    clear cd0 cd1 cd2
    clear ce0 ce1 ce2
    clear cf0 cf1 cf2
    clear cg0 cg1 cg2
    have cd0 := (blk_cell XD.out 0).trans rfl
    have cd1 := (blk_cell XD.out 1).trans rfl
    have cd2 := (blk_cell XD.out 2).trans rfl
    have ce0 := (blk_cell X1.out 0).trans rfl
    have ce1 := (blk_cell X1.out 1).trans rfl
    have ce2 := (blk_cell X1.out 2).trans rfl
    have cf0 := (blk_cell X2.out 0).trans rfl
    have cf1 := (blk_cell X2.out 1).trans rfl
    have cf2 := (blk_cell X2.out 2).trans rfl
    have cg0 := (blk_cell X3.out 0).trans rfl
    have cg1 := (blk_cell X3.out 1).trans rfl
    have cg2 := (blk_cell X3.out 2).trans rfl
    go_upto_region 9 with (fail)
    obtain ⟨V10, h_⟩ : ∃ W_, W_ = V9.alloc (.cells #[.int .i64 r1, .slice A4 r2.length a4_, .slice B4 r3.length b4_] 25) := ⟨_, rfl⟩
    have hb_ : Below V9.heap.size V9 V10 := by rw [h_]; exact below_alloc (Below.refl _ _) _
    have hx_ : V10.heap[V9.heap.size]? = some (.cells #[.int .i64 r1, .slice A4 r2.length a4_, .slice B4 r3.length b4_] 25 (0, 0)) := by rw [h_]; exact blk_new _ _
    rw [← h_]
    clear h_
    have n_G0 := Aside0.mk (Got.below G0.out hb_)
    have n_XD := Aside0.mk (blk_below XD.out hb_)
    have n_BL := Aside0.mk (BL.out.trans (Below.mono hb_ BL.out.size))
    have n_G1 := Aside0.mk (Got.below G1.out hb_)
    have n_X1 := Aside0.mk (blk_below X1.out hb_)
    have n_G2 := Aside0.mk (Got.below G2.out hb_)
    have n_X2 := Aside0.mk (blk_below X2.out hb_)
    have n_G3 := Aside0.mk (Got.below G3.out hb_)
    have n_X3 := Aside0.mk (blk_below X3.out hb_)
    have n_G4 := Aside0.mk (Got.below G4.out hb_)
    clear G0 XD BL G1 X1 G2 X2 G3 X3 G4
    have G0 := n_G0
    have XD := n_XD
    have BL := n_BL
    have G1 := n_G1
    have X1 := n_X1
    have G2 := n_G2
    have X2 := n_X2
    have G3 := n_G3
    have X3 := n_X3
    have G4 := n_G4
    clear n_G0 n_XD n_BL n_G1 n_X1 n_G2 n_X2 n_G3 n_X3 n_G4
    clear hb_
    obtain ⟨g4_, e_⟩ : ∃ g_, g_ = V9.heap.size := ⟨_, rfl⟩
    rw [← e_] at hx_ ⊢
    clear e_
    have X4 := Aside0.mk hx_
    clear hx_
    clear cd0 cd1 cd2
    clear ce0 ce1 ce2
    clear cf0 cf1 cf2
    clear cg0 cg1 cg2
    have cd0 := (blk_cell XD.out 0).trans rfl
    have cd1 := (blk_cell XD.out 1).trans rfl
    have cd2 := (blk_cell XD.out 2).trans rfl
    have ce0 := (blk_cell X1.out 0).trans rfl
    have ce1 := (blk_cell X1.out 1).trans rfl
    have ce2 := (blk_cell X1.out 2).trans rfl
    have cf0 := (blk_cell X2.out 0).trans rfl
    have cf1 := (blk_cell X2.out 1).trans rfl
    have cf2 := (blk_cell X2.out 2).trans rfl
    have cg0 := (blk_cell X3.out 0).trans rfl
    have cg1 := (blk_cell X3.out 1).trans rfl
    have cg2 := (blk_cell X3.out 2).trans rfl
    have ch0 := (blk_cell X4.out 0).trans rfl
    have ch1 := (blk_cell X4.out 1).trans rfl
    have ch2 := (blk_cell X4.out 2).trans rfl
    go_wp2_with fail
    refine (A.caesuraref16_All.calls a1 r1 r2 r3 r4 V10 HA2.out).mono ?_
    rintro e_ V11 ⟨v1, v2, rfl, hs, hr, hb⟩
    obtain ⟨A5, a5_, rfl⟩ := Kd.N_slice hs
    obtain ⟨B5, b5_, rfl⟩ := Kd.R_slice hr
    have G5 : Aside0 (Got 0 A5 a5_ r2 B5 b5_ r3 V11) := ⟨⟨(Kd.N_reads' hs).2.1, (Kd.N_reads' hs).2.2, (Kd.R_reads' hr).2.1, (Kd.R_reads' hr).2.2⟩⟩
    have n_G0 := Aside0.mk (Got.below G0.out hb)
    have n_XD := Aside0.mk (blk_below XD.out hb)
    have n_BL := Aside0.mk (BL.out.trans (Below.mono hb BL.out.size))
    have n_G1 := Aside0.mk (Got.below G1.out hb)
    have n_X1 := Aside0.mk (blk_below X1.out hb)
    have n_G2 := Aside0.mk (Got.below G2.out hb)
    have n_X2 := Aside0.mk (blk_below X2.out hb)
    have n_G3 := Aside0.mk (Got.below G3.out hb)
    have n_X3 := Aside0.mk (blk_below X3.out hb)
    have n_G4 := Aside0.mk (Got.below G4.out hb)
    have n_X4 := Aside0.mk (blk_below X4.out hb)
    clear G0 XD BL G1 X1 G2 X2 G3 X3 G4 X4
    have G0 := n_G0
    have XD := n_XD
    have BL := n_BL
    have G1 := n_G1
    have X1 := n_X1
    have G2 := n_G2
    have X2 := n_X2
    have G3 := n_G3
    have X3 := n_X3
    have G4 := n_G4
    have X4 := n_X4
    clear n_G0 n_XD n_BL n_G1 n_X1 n_G2 n_X2 n_G3 n_X3 n_G4 n_X4
    clear hs hr hb
    clear cd0 cd1 cd2
    clear ce0 ce1 ce2
    clear cf0 cf1 cf2
    clear cg0 cg1 cg2
    clear ch0 ch1 ch2
    have cd0 := (blk_cell XD.out 0).trans rfl
    have cd1 := (blk_cell XD.out 1).trans rfl
    have cd2 := (blk_cell XD.out 2).trans rfl
    have ce0 := (blk_cell X1.out 0).trans rfl
    have ce1 := (blk_cell X1.out 1).trans rfl
    have ce2 := (blk_cell X1.out 2).trans rfl
    have cf0 := (blk_cell X2.out 0).trans rfl
    have cf1 := (blk_cell X2.out 1).trans rfl
    have cf2 := (blk_cell X2.out 2).trans rfl
    have cg0 := (blk_cell X3.out 0).trans rfl
    have cg1 := (blk_cell X3.out 1).trans rfl
    have cg2 := (blk_cell X3.out 2).trans rfl
    have ch0 := (blk_cell X4.out 0).trans rfl
    have ch1 := (blk_cell X4.out 1).trans rfl
    have ch2 := (blk_cell X4.out 2).trans rfl
    go_upto_region 10 with (fail)
    obtain ⟨V12, h_⟩ : ∃ W_, W_ = V11.alloc (.cells #[.int .i64 r1, .slice A5 r2.length a5_, .slice B5 r3.length b5_] 25) := ⟨_, rfl⟩
    have hb_ : Below V11.heap.size V11 V12 := by rw [h_]; exact below_alloc (Below.refl _ _) _
    have hx_ : V12.heap[V11.heap.size]? = some (.cells #[.int .i64 r1, .slice A5 r2.length a5_, .slice B5 r3.length b5_] 25 (0, 0)) := by rw [h_]; exact blk_new _ _
    rw [← h_]
    clear h_
    have n_G0 := Aside0.mk (Got.below G0.out hb_)
    have n_XD := Aside0.mk (blk_below XD.out hb_)
    have n_BL := Aside0.mk (BL.out.trans (Below.mono hb_ BL.out.size))
    have n_G1 := Aside0.mk (Got.below G1.out hb_)
    have n_X1 := Aside0.mk (blk_below X1.out hb_)
    have n_G2 := Aside0.mk (Got.below G2.out hb_)
    have n_X2 := Aside0.mk (blk_below X2.out hb_)
    have n_G3 := Aside0.mk (Got.below G3.out hb_)
    have n_X3 := Aside0.mk (blk_below X3.out hb_)
    have n_G4 := Aside0.mk (Got.below G4.out hb_)
    have n_X4 := Aside0.mk (blk_below X4.out hb_)
    have n_G5 := Aside0.mk (Got.below G5.out hb_)
    clear G0 XD BL G1 X1 G2 X2 G3 X3 G4 X4 G5
    have G0 := n_G0
    have XD := n_XD
    have BL := n_BL
    have G1 := n_G1
    have X1 := n_X1
    have G2 := n_G2
    have X2 := n_X2
    have G3 := n_G3
    have X3 := n_X3
    have G4 := n_G4
    have X4 := n_X4
    have G5 := n_G5
    clear n_G0 n_XD n_BL n_G1 n_X1 n_G2 n_X2 n_G3 n_X3 n_G4 n_X4 n_G5
    clear hb_
    obtain ⟨g5_, e_⟩ : ∃ g_, g_ = V11.heap.size := ⟨_, rfl⟩
    rw [← e_] at hx_ ⊢
    clear e_
    have X5 := Aside0.mk hx_
    clear hx_
    clear cd0 cd1 cd2
    clear ce0 ce1 ce2
    clear cf0 cf1 cf2
    clear cg0 cg1 cg2
    clear ch0 ch1 ch2
    have cd0 := (blk_cell XD.out 0).trans rfl
    have cd1 := (blk_cell XD.out 1).trans rfl
    have cd2 := (blk_cell XD.out 2).trans rfl
    have ce0 := (blk_cell X1.out 0).trans rfl
    have ce1 := (blk_cell X1.out 1).trans rfl
    have ce2 := (blk_cell X1.out 2).trans rfl
    have cf0 := (blk_cell X2.out 0).trans rfl
    have cf1 := (blk_cell X2.out 1).trans rfl
    have cf2 := (blk_cell X2.out 2).trans rfl
    have cg0 := (blk_cell X3.out 0).trans rfl
    have cg1 := (blk_cell X3.out 1).trans rfl
    have cg2 := (blk_cell X3.out 2).trans rfl
    have ch0 := (blk_cell X4.out 0).trans rfl
    have ch1 := (blk_cell X4.out 1).trans rfl
    have ch2 := (blk_cell X4.out 2).trans rfl
    have ci0 := (blk_cell X5.out 0).trans rfl
    have ci1 := (blk_cell X5.out 1).trans rfl
    have ci2 := (blk_cell X5.out 2).trans rfl
    have hq4 : (q4 == q4) = true := beq_self_eq_true _
    have hr4 : (r4 == r4) = true := beq_self_eq_true _
    have hem : (emptyF s0 n0 e0 == emptyF s0 n0 e0) = true := beq_self_eq_true _
    clear cd0 cd1 cd2
    clear ce0 ce1 ce2
    clear cf0 cf1 cf2
    clear cg0 cg1 cg2
    clear ch0 ch1 ch2
    clear ci0 ci1 ci2
    have hb_ : Below V12.heap.size V12 V12.drew := below_drew (Below.refl _ _)
    have n_G0 := Aside0.mk (Got.below G0.out hb_)
    have n_XD := Aside0.mk (blk_below XD.out hb_)
    have n_BL := Aside0.mk (BL.out.trans (Below.mono hb_ BL.out.size))
    have n_G1 := Aside0.mk (Got.below G1.out hb_)
    have n_X1 := Aside0.mk (blk_below X1.out hb_)
    have n_G2 := Aside0.mk (Got.below G2.out hb_)
    have n_X2 := Aside0.mk (blk_below X2.out hb_)
    have n_G3 := Aside0.mk (Got.below G3.out hb_)
    have n_X3 := Aside0.mk (blk_below X3.out hb_)
    have n_G4 := Aside0.mk (Got.below G4.out hb_)
    have n_X4 := Aside0.mk (blk_below X4.out hb_)
    have n_G5 := Aside0.mk (Got.below G5.out hb_)
    have n_X5 := Aside0.mk (blk_below X5.out hb_)
    clear G0 XD BL G1 X1 G2 X2 G3 X3 G4 X4 G5 X5
    have G0 := n_G0
    have XD := n_XD
    have BL := n_BL
    have G1 := n_G1
    have X1 := n_X1
    have G2 := n_G2
    have X2 := n_X2
    have G3 := n_G3
    have X3 := n_X3
    have G4 := n_G4
    have X4 := n_X4
    have G5 := n_G5
    have X5 := n_X5
    clear n_G0 n_XD n_BL n_G1 n_X1 n_G2 n_X2 n_G3 n_X3 n_G4 n_X4 n_G5 n_X5
    clear hb_
    refine start_ (n := 31) (S := fun w' => w'.cell? ⟨g2_, 0, none⟩ = some (.int .i64 q1) ∧ w'.cell? ⟨g2_, 1, none⟩ = some (.slice A2 q2.length a2_) ∧ w'.cell? ⟨g2_, 2, none⟩ = some (.slice B2 q3.length b2_) ∧ w'.cell? ⟨g3_, 0, none⟩ = some (.int .i64 q1) ∧ w'.cell? ⟨g3_, 1, none⟩ = some (.slice A3 q2.length a3_) ∧ w'.cell? ⟨g3_, 2, none⟩ = some (.slice B3 q3.length b3_) ∧ w'.cell? ⟨g4_, 0, none⟩ = some (.int .i64 r1) ∧ w'.cell? ⟨g4_, 1, none⟩ = some (.slice A4 r2.length a4_) ∧ w'.cell? ⟨g4_, 2, none⟩ = some (.slice B4 r3.length b4_) ∧ w'.cell? ⟨g5_, 0, none⟩ = some (.int .i64 r1) ∧ w'.cell? ⟨g5_, 1, none⟩ = some (.slice A5 r2.length a5_) ∧ w'.cell? ⟨g5_, 2, none⟩ = some (.slice B5 r3.length b5_) ∧ w'.cell? ⟨w.heap.size, 0, none⟩ = some (.int .i64 s0) ∧ w'.cell? ⟨w.heap.size, 1, none⟩ = some (.slice A0 n0.length c0) ∧ w'.cell? ⟨w.heap.size, 2, none⟩ = some (.slice B0 e0.length b0) ∧ w'.cell? ⟨g1_, 0, none⟩ = some (.int .i64 s0) ∧ w'.cell? ⟨g1_, 1, none⟩ = some (.slice A1 n0.length a1_) ∧ w'.cell? ⟨g1_, 2, none⟩ = some (.slice B1 e0.length b1_)) (ds := []) #[false, false, false, false, false, false, false, false, false, false, false, false, false, false, false, false, false, false, false, false, false, false, false, false, false, false, false, false, false, false, false] (by kernel_rfl) rfl rfl ⟨((blk_cell X2.out 0).trans rfl), ((blk_cell X2.out 1).trans rfl), ((blk_cell X2.out 2).trans rfl), ((blk_cell X3.out 0).trans rfl), ((blk_cell X3.out 1).trans rfl), ((blk_cell X3.out 2).trans rfl), ((blk_cell X4.out 0).trans rfl), ((blk_cell X4.out 1).trans rfl), ((blk_cell X4.out 2).trans rfl), ((blk_cell X5.out 0).trans rfl), ((blk_cell X5.out 1).trans rfl), ((blk_cell X5.out 2).trans rfl), ((blk_cell XD.out 0).trans rfl), ((blk_cell XD.out 1).trans rfl), ((blk_cell XD.out 2).trans rfl), ((blk_cell X1.out 0).trans rfl), ((blk_cell X1.out 1).trans rfl), ((blk_cell X1.out 2).trans rfl)⟩ (fun hHeld => ?_)
    generalize V12.drew = V13 at G0 XD BL G1 X1 G2 X2 G3 X3 G4 X4 G5 X5 hHeld ⊢
    refine take_ (i := 0) (N := some 40) (v := ?_) (a' := ?_) #[true, false, false, false, false, false, false, false, false, false, false, false, false, false, false, false, false, false, false, false, false, false, false, false, false, false, false, false, false, false, false] rfl rfl (by kernel_rfl) (fun _ _ _ h => h) (Or.inl ⟨by rfl, ?_⟩) hHeld ?_ ?_
    rotate_left
    · rintro w' ⟨s0, s1, s2, s3, s4, s5, s6, s7, s8, s9, s10, s11, s12, s13, s14, s15, s16, s17⟩
      go_simp
      with_reducible rfl
    rotate_left
    · simp only [Act.put, List.setIfInBounds_toArray, List.set_cons_zero, List.set_cons_succ, i64_w, i32_w]
      rfl
    refine take_ (i := 1) (N := some 41) (v := ?_) (a' := ?_) #[true, true, false, false, false, false, false, false, false, false, false, false, false, false, false, false, false, false, false, false, false, false, false, false, false, false, false, false, false, false, false] rfl rfl (by kernel_rfl) (fun _ _ _ h => h) (Or.inl ⟨by rfl, ?_⟩) hHeld ?_ ?_
    rotate_left
    · rintro w' ⟨s0, s1, s2, s3, s4, s5, s6, s7, s8, s9, s10, s11, s12, s13, s14, s15, s16, s17⟩
      go_simp
      with_reducible rfl
    rotate_left
    · simp only [Act.put, List.setIfInBounds_toArray, List.set_cons_zero, List.set_cons_succ, i64_w, i32_w]
      rfl
    refine one_ (i := 2) (N := some 42) #[true, true, true, false, false, false, false, false, false, false, false, false, false, false, false, false, false, false, false, false, false, false, false, false, false, false, false, false, false, false, false] rfl rfl (by kernel_rfl) (by decide) (fun K hK => ?_)
    refine goes_ Try.func16 (by kernel_rfl) rfl #[.agg #[.int .i64 q1, .slice A2 q2.length a2_, .slice B2 q3.length b2_], .agg #[.int .i64 q1, .slice A3 q2.length a3_, .slice B3 q3.length b3_]] (by rfl) rfl rfl (by simp only [List.map_toArray, List.map_cons, List.map_nil]; rfl) ?_
    with_reducible refine (caesuraref15_Same.calls k1 q1 A2 a2_ q2 B2 b2_ q3 q1 A3 a3_ q2 B3 b3_ q3 true V13 G2.out.n2 G2.out.n1 G2.out.e2 G2.out.e1 G3.out.n2 G3.out.n1 G3.out.e2 G3.out.e1 HS1.out).mono ?_
    rintro e_ V14 ⟨rfl, hb⟩
    refine ⟨_, rfl, ?_⟩
    have n_G0 := Aside0.mk (Got.below G0.out hb)
    have n_XD := Aside0.mk (blk_below XD.out hb)
    have n_BL := Aside0.mk (BL.out.trans (Below.mono hb BL.out.size))
    have n_G1 := Aside0.mk (Got.below G1.out hb)
    have n_X1 := Aside0.mk (blk_below X1.out hb)
    have n_G2 := Aside0.mk (Got.below G2.out hb)
    have n_X2 := Aside0.mk (blk_below X2.out hb)
    have n_G3 := Aside0.mk (Got.below G3.out hb)
    have n_X3 := Aside0.mk (blk_below X3.out hb)
    have n_G4 := Aside0.mk (Got.below G4.out hb)
    have n_X4 := Aside0.mk (blk_below X4.out hb)
    have n_G5 := Aside0.mk (Got.below G5.out hb)
    have n_X5 := Aside0.mk (blk_below X5.out hb)
    clear G0 XD BL G1 X1 G2 X2 G3 X3 G4 X4 G5 X5
    have G0 := n_G0
    have XD := n_XD
    have BL := n_BL
    have G1 := n_G1
    have X1 := n_X1
    have G2 := n_G2
    have X2 := n_X2
    have G3 := n_G3
    have X3 := n_X3
    have G4 := n_G4
    have X4 := n_X4
    have G5 := n_G5
    have X5 := n_X5
    clear n_G0 n_XD n_BL n_G1 n_X1 n_G2 n_X2 n_G3 n_X3 n_G4 n_X4 n_G5 n_X5
    clear hb
    refine hK.out _ _ ⟨((blk_cell X2.out 0).trans rfl), ((blk_cell X2.out 1).trans rfl), ((blk_cell X2.out 2).trans rfl), ((blk_cell X3.out 0).trans rfl), ((blk_cell X3.out 1).trans rfl), ((blk_cell X3.out 2).trans rfl), ((blk_cell X4.out 0).trans rfl), ((blk_cell X4.out 1).trans rfl), ((blk_cell X4.out 2).trans rfl), ((blk_cell X5.out 0).trans rfl), ((blk_cell X5.out 1).trans rfl), ((blk_cell X5.out 2).trans rfl), ((blk_cell XD.out 0).trans rfl), ((blk_cell XD.out 1).trans rfl), ((blk_cell XD.out 2).trans rfl), ((blk_cell X1.out 0).trans rfl), ((blk_cell X1.out 1).trans rfl), ((blk_cell X1.out 2).trans rfl)⟩ (fun hHeld => ?_)
    clear hK K
    refine norm_ (a' := ?_) ?_ ?_
    rotate_left
    · show Act.put _ (some 42) _ = _
      simp only [Act.put, List.setIfInBounds_toArray, List.set_cons_zero, List.set_cons_succ, i64_w, i32_w]
      rfl
    refine pure_ (i := 3) (N := some 43) (v := ?_) (a' := ?_) #[true, true, true, true, false, false, false, false, false, false, false, false, false, false, false, false, false, false, false, false, false, false, false, false, false, false, false, false, false, false, false] rfl rfl (by kernel_rfl) (fun _ _ _ h => h) (Or.inl ⟨by rfl, ?_⟩) ?_ ?_
    rotate_left
    · intro w'
      go_simp
      with_reducible rfl
    rotate_left
    · simp only [Act.put, List.setIfInBounds_toArray, List.set_cons_zero, List.set_cons_succ, i64_w, i32_w]
      rfl
    refine pure_ (i := 4) (N := some 44) (v := ?_) (a' := ?_) #[true, true, true, true, true, false, false, false, false, false, false, false, false, false, false, false, false, false, false, false, false, false, false, false, false, false, false, false, false, false, false] rfl rfl (by kernel_rfl) (fun _ _ _ h => h) (Or.inl ⟨by rfl, ?_⟩) ?_ ?_
    rotate_left
    · intro w'
      go_simp
      with_reducible rfl
    rotate_left
    · simp only [Act.put, List.setIfInBounds_toArray, List.set_cons_zero, List.set_cons_succ, i64_w, i32_w]
      rfl
    refine pure_ (i := 5) (N := some 45) (v := ?_) (a' := ?_) #[true, true, true, true, true, true, false, false, false, false, false, false, false, false, false, false, false, false, false, false, false, false, false, false, false, false, false, false, false, false, false] rfl rfl (by kernel_rfl) (fun _ _ _ h => h) (Or.inl ⟨by rfl, ?_⟩) ?_ ?_
    rotate_left
    · intro w'
      go_simp
      with_reducible rfl
    rotate_left
    · simp only [Act.put, List.setIfInBounds_toArray, List.set_cons_zero, List.set_cons_succ, i64_w, i32_w]
      rfl
    refine pure_ (i := 6) (N := some 46) (v := ?_) (a' := ?_) #[true, true, true, true, true, true, true, false, false, false, false, false, false, false, false, false, false, false, false, false, false, false, false, false, false, false, false, false, false, false, false] rfl rfl (by kernel_rfl) (fun _ _ _ h => h) (Or.inl ⟨by rfl, ?_⟩) ?_ ?_
    rotate_left
    · intro w'
      go_simp
      with_reducible rfl
    rotate_left
    · simp only [Act.put, List.setIfInBounds_toArray, List.set_cons_zero, List.set_cons_succ, i64_w, i32_w]
      rfl
    refine pure_ (i := 7) (N := some 47) (v := ?_) (a' := ?_) #[true, true, true, true, true, true, true, true, false, false, false, false, false, false, false, false, false, false, false, false, false, false, false, false, false, false, false, false, false, false, false] rfl rfl (by kernel_rfl) (fun _ _ _ h => h) (Or.inl ⟨by rfl, ?_⟩) ?_ ?_
    rotate_left
    · intro w'
      go_simp
      with_reducible rfl
    rotate_left
    · simp only [Act.put, List.setIfInBounds_toArray, List.set_cons_zero, List.set_cons_succ, i64_w, i32_w]
      rfl
    refine pure_ (i := 8) (N := some 48) (v := ?_) (a' := ?_) #[true, true, true, true, true, true, true, true, true, false, false, false, false, false, false, false, false, false, false, false, false, false, false, false, false, false, false, false, false, false, false] rfl rfl (by kernel_rfl) (fun _ _ _ h => h) (Or.inl ⟨by rfl, ?_⟩) ?_ ?_
    rotate_left
    · intro w'
      go_simp
      with_reducible rfl
    rotate_left
    · simp only [Act.put, List.setIfInBounds_toArray, List.set_cons_zero, List.set_cons_succ, i64_w, i32_w]
      rfl
    refine take_ (i := 9) (N := some 49) (v := ?_) (a' := ?_) #[true, true, true, true, true, true, true, true, true, true, false, false, false, false, false, false, false, false, false, false, false, false, false, false, false, false, false, false, false, false, false] rfl rfl (by kernel_rfl) (fun _ _ _ h => h) (Or.inl ⟨by rfl, ?_⟩) hHeld ?_ ?_
    rotate_left
    · rintro w' ⟨s0, s1, s2, s3, s4, s5, s6, s7, s8, s9, s10, s11, s12, s13, s14, s15, s16, s17⟩
      go_simp
      with_reducible rfl
    rotate_left
    · simp only [Act.put, List.setIfInBounds_toArray, List.set_cons_zero, List.set_cons_succ, i64_w, i32_w]
      rfl
    refine take_ (i := 10) (N := some 50) (v := ?_) (a' := ?_) #[true, true, true, true, true, true, true, true, true, true, true, false, false, false, false, false, false, false, false, false, false, false, false, false, false, false, false, false, false, false, false] rfl rfl (by kernel_rfl) (fun _ _ _ h => h) (Or.inl ⟨by rfl, ?_⟩) hHeld ?_ ?_
    rotate_left
    · rintro w' ⟨s0, s1, s2, s3, s4, s5, s6, s7, s8, s9, s10, s11, s12, s13, s14, s15, s16, s17⟩
      go_simp
      with_reducible rfl
    rotate_left
    · simp only [Act.put, List.setIfInBounds_toArray, List.set_cons_zero, List.set_cons_succ, i64_w, i32_w]
      rfl
    refine one_ (i := 11) (N := some 51) #[true, true, true, true, true, true, true, true, true, true, true, true, false, false, false, false, false, false, false, false, false, false, false, false, false, false, false, false, false, false, false] rfl rfl (by kernel_rfl) (by decide) (fun K hK => ?_)
    refine goes_ Try.func16 (by kernel_rfl) rfl #[.agg #[.int .i64 r1, .slice A4 r2.length a4_, .slice B4 r3.length b4_], .agg #[.int .i64 r1, .slice A5 r2.length a5_, .slice B5 r3.length b5_]] (by rfl) rfl rfl (by simp only [List.map_toArray, List.map_cons, List.map_nil]; rfl) ?_
    with_reducible refine (caesuraref15_Same.calls k2 r1 A4 a4_ r2 B4 b4_ r3 r1 A5 a5_ r2 B5 b5_ r3 true V14 G4.out.n2 G4.out.n1 G4.out.e2 G4.out.e1 G5.out.n2 G5.out.n1 G5.out.e2 G5.out.e1 HS2.out).mono ?_
    rintro e_ V15 ⟨rfl, hb⟩
    refine ⟨_, rfl, ?_⟩
    have n_G0 := Aside0.mk (Got.below G0.out hb)
    have n_XD := Aside0.mk (blk_below XD.out hb)
    have n_BL := Aside0.mk (BL.out.trans (Below.mono hb BL.out.size))
    have n_G1 := Aside0.mk (Got.below G1.out hb)
    have n_X1 := Aside0.mk (blk_below X1.out hb)
    have n_G2 := Aside0.mk (Got.below G2.out hb)
    have n_X2 := Aside0.mk (blk_below X2.out hb)
    have n_G3 := Aside0.mk (Got.below G3.out hb)
    have n_X3 := Aside0.mk (blk_below X3.out hb)
    have n_G4 := Aside0.mk (Got.below G4.out hb)
    have n_X4 := Aside0.mk (blk_below X4.out hb)
    have n_G5 := Aside0.mk (Got.below G5.out hb)
    have n_X5 := Aside0.mk (blk_below X5.out hb)
    clear G0 XD BL G1 X1 G2 X2 G3 X3 G4 X4 G5 X5
    have G0 := n_G0
    have XD := n_XD
    have BL := n_BL
    have G1 := n_G1
    have X1 := n_X1
    have G2 := n_G2
    have X2 := n_X2
    have G3 := n_G3
    have X3 := n_X3
    have G4 := n_G4
    have X4 := n_X4
    have G5 := n_G5
    have X5 := n_X5
    clear n_G0 n_XD n_BL n_G1 n_X1 n_G2 n_X2 n_G3 n_X3 n_G4 n_X4 n_G5 n_X5
    clear hb
    refine hK.out _ _ ⟨((blk_cell X2.out 0).trans rfl), ((blk_cell X2.out 1).trans rfl), ((blk_cell X2.out 2).trans rfl), ((blk_cell X3.out 0).trans rfl), ((blk_cell X3.out 1).trans rfl), ((blk_cell X3.out 2).trans rfl), ((blk_cell X4.out 0).trans rfl), ((blk_cell X4.out 1).trans rfl), ((blk_cell X4.out 2).trans rfl), ((blk_cell X5.out 0).trans rfl), ((blk_cell X5.out 1).trans rfl), ((blk_cell X5.out 2).trans rfl), ((blk_cell XD.out 0).trans rfl), ((blk_cell XD.out 1).trans rfl), ((blk_cell XD.out 2).trans rfl), ((blk_cell X1.out 0).trans rfl), ((blk_cell X1.out 1).trans rfl), ((blk_cell X1.out 2).trans rfl)⟩ (fun hHeld => ?_)
    clear hK K
    refine norm_ (a' := ?_) ?_ ?_
    rotate_left
    · show Act.put _ (some 51) _ = _
      simp only [Act.put, List.setIfInBounds_toArray, List.set_cons_zero, List.set_cons_succ, i64_w, i32_w]
      rfl
    refine pure_ (i := 12) (N := some 52) (v := ?_) (a' := ?_) #[true, true, true, true, true, true, true, true, true, true, true, true, true, false, false, false, false, false, false, false, false, false, false, false, false, false, false, false, false, false, false] rfl rfl (by kernel_rfl) (fun _ _ _ h => h) (Or.inl ⟨by rfl, ?_⟩) ?_ ?_
    rotate_left
    · intro w'
      go_simp
      with_reducible rfl
    rotate_left
    · simp only [Act.put, List.setIfInBounds_toArray, List.set_cons_zero, List.set_cons_succ, i64_w, i32_w]
      rfl
    refine pure_ (i := 13) (N := some 53) (v := ?_) (a' := ?_) #[true, true, true, true, true, true, true, true, true, true, true, true, true, true, false, false, false, false, false, false, false, false, false, false, false, false, false, false, false, false, false] rfl rfl (by kernel_rfl) (fun _ _ _ h => h) (Or.inl ⟨by rfl, ?_⟩) ?_ ?_
    rotate_left
    · intro w'
      go_simp
      with_reducible rfl
    rotate_left
    · simp only [Act.put, List.setIfInBounds_toArray, List.set_cons_zero, List.set_cons_succ, i64_w, i32_w]
      rfl
    refine pure_ (i := 14) (N := some 54) (v := ?_) (a' := ?_) #[true, true, true, true, true, true, true, true, true, true, true, true, true, true, true, false, false, false, false, false, false, false, false, false, false, false, false, false, false, false, false] rfl rfl (by kernel_rfl) (fun _ _ _ h => h) (Or.inl ⟨by rfl, ?_⟩) ?_ ?_
    rotate_left
    · intro w'
      go_simp
      with_reducible rfl
    rotate_left
    · simp only [Act.put, List.setIfInBounds_toArray, List.set_cons_zero, List.set_cons_succ, i64_w, i32_w]
      rfl
    refine pure_ (i := 15) (N := some 55) (v := ?_) (a' := ?_) #[true, true, true, true, true, true, true, true, true, true, true, true, true, true, true, true, false, false, false, false, false, false, false, false, false, false, false, false, false, false, false] rfl rfl (by kernel_rfl) (fun _ _ _ h => h) (Or.inl ⟨by rfl, ?_⟩) ?_ ?_
    rotate_left
    · intro w'
      go_simp
      with_reducible rfl
    rotate_left
    · simp only [Act.put, List.setIfInBounds_toArray, List.set_cons_zero, List.set_cons_succ, i64_w, i32_w]
      rfl
    refine pure_ (i := 16) (N := some 56) (v := ?_) (a' := ?_) #[true, true, true, true, true, true, true, true, true, true, true, true, true, true, true, true, true, false, false, false, false, false, false, false, false, false, false, false, false, false, false] rfl rfl (by kernel_rfl) (fun _ _ _ h => h) (Or.inl ⟨by rfl, ?_⟩) ?_ ?_
    rotate_left
    · intro w'
      go_simp
      with_reducible rfl
    rotate_left
    · simp only [Act.put, List.setIfInBounds_toArray, List.set_cons_zero, List.set_cons_succ, i64_w, i32_w]
      rfl
    refine pure_ (i := 17) (N := some 57) (v := ?_) (a' := ?_) #[true, true, true, true, true, true, true, true, true, true, true, true, true, true, true, true, true, true, false, false, false, false, false, false, false, false, false, false, false, false, false] rfl rfl (by kernel_rfl) (fun _ _ _ h => h) (Or.inl ⟨by rfl, ?_⟩) ?_ ?_
    rotate_left
    · intro w'
      go_simp
      with_reducible rfl
    rotate_left
    · simp only [Act.put, List.setIfInBounds_toArray, List.set_cons_zero, List.set_cons_succ, i64_w, i32_w]
      rfl
    refine pure_ (i := 18) (N := some 58) (v := ?_) (a' := ?_) #[true, true, true, true, true, true, true, true, true, true, true, true, true, true, true, true, true, true, true, false, false, false, false, false, false, false, false, false, false, false, false] rfl rfl (by kernel_rfl) (fun _ _ _ h => h) (Or.inl ⟨by rfl, ?_⟩) ?_ ?_
    rotate_left
    · intro w'
      go_simp
      with_reducible rfl
    rotate_left
    · simp only [Act.put, List.setIfInBounds_toArray, List.set_cons_zero, List.set_cons_succ, i64_w, i32_w]
      rfl
    refine take_ (i := 19) (N := some 59) (v := ?_) (a' := ?_) #[true, true, true, true, true, true, true, true, true, true, true, true, true, true, true, true, true, true, true, true, false, false, false, false, false, false, false, false, false, false, false] rfl rfl (by kernel_rfl) (fun _ _ _ h => h) (Or.inl ⟨by rfl, ?_⟩) hHeld ?_ ?_
    rotate_left
    · rintro w' ⟨s0, s1, s2, s3, s4, s5, s6, s7, s8, s9, s10, s11, s12, s13, s14, s15, s16, s17⟩
      go_simp
      with_reducible rfl
    rotate_left
    · simp only [Act.put, List.setIfInBounds_toArray, List.set_cons_zero, List.set_cons_succ, i64_w, i32_w]
      rfl
    refine take_ (i := 21) (N := some 61) (v := ?_) (a' := ?_) #[true, true, true, true, true, true, true, true, true, true, true, true, true, true, true, true, true, true, true, true, false, true, false, false, false, false, false, false, false, false, false] rfl rfl (by kernel_rfl) (fun _ _ _ h => h) (Or.inl ⟨by rfl, ?_⟩) hHeld ?_ ?_
    rotate_left
    · rintro w' ⟨s0, s1, s2, s3, s4, s5, s6, s7, s8, s9, s10, s11, s12, s13, s14, s15, s16, s17⟩
      go_simp
      with_reducible rfl
    rotate_left
    · simp only [Act.put, List.setIfInBounds_toArray, List.set_cons_zero, List.set_cons_succ, i64_w, i32_w]
      rfl
    refine one_ (i := 20) (N := some 60) #[true, true, true, true, true, true, true, true, true, true, true, true, true, true, true, true, true, true, true, true, true, true, false, false, false, false, false, false, false, false, false] rfl rfl (by kernel_rfl) (by decide) (fun K hK => ?_)
    refine goes_ Try.func42 (by kernel_rfl) rfl #[.agg #[.int .i64 s0, .slice A0 n0.length c0, .slice B0 e0.length b0]] (by rfl) rfl rfl (by simp only [List.map_toArray, List.map_cons, List.map_nil]; rfl) ?_
    with_reducible refine (calc_empty s0 A0 c0 n0 B0 b0 e0 V15 G0.out.n2 G0.out.n1 G0.out.e2 G0.out.e1 (emptyF s0 n0 e0) (emptyF_res s0 n0 e0)).mono ?_
    rintro e_ V16 ⟨rfl, hb⟩
    refine ⟨_, rfl, ?_⟩
    have n_G0 := Aside0.mk (Got.below G0.out hb)
    have n_XD := Aside0.mk (blk_below XD.out hb)
    have n_BL := Aside0.mk (BL.out.trans (Below.mono hb BL.out.size))
    have n_G1 := Aside0.mk (Got.below G1.out hb)
    have n_X1 := Aside0.mk (blk_below X1.out hb)
    have n_G2 := Aside0.mk (Got.below G2.out hb)
    have n_X2 := Aside0.mk (blk_below X2.out hb)
    have n_G3 := Aside0.mk (Got.below G3.out hb)
    have n_X3 := Aside0.mk (blk_below X3.out hb)
    have n_G4 := Aside0.mk (Got.below G4.out hb)
    have n_X4 := Aside0.mk (blk_below X4.out hb)
    have n_G5 := Aside0.mk (Got.below G5.out hb)
    have n_X5 := Aside0.mk (blk_below X5.out hb)
    clear G0 XD BL G1 X1 G2 X2 G3 X3 G4 X4 G5 X5
    have G0 := n_G0
    have XD := n_XD
    have BL := n_BL
    have G1 := n_G1
    have X1 := n_X1
    have G2 := n_G2
    have X2 := n_X2
    have G3 := n_G3
    have X3 := n_X3
    have G4 := n_G4
    have X4 := n_X4
    have G5 := n_G5
    have X5 := n_X5
    clear n_G0 n_XD n_BL n_G1 n_X1 n_G2 n_X2 n_G3 n_X3 n_G4 n_X4 n_G5 n_X5
    clear hb
    refine hK.out _ _ ⟨((blk_cell X2.out 0).trans rfl), ((blk_cell X2.out 1).trans rfl), ((blk_cell X2.out 2).trans rfl), ((blk_cell X3.out 0).trans rfl), ((blk_cell X3.out 1).trans rfl), ((blk_cell X3.out 2).trans rfl), ((blk_cell X4.out 0).trans rfl), ((blk_cell X4.out 1).trans rfl), ((blk_cell X4.out 2).trans rfl), ((blk_cell X5.out 0).trans rfl), ((blk_cell X5.out 1).trans rfl), ((blk_cell X5.out 2).trans rfl), ((blk_cell XD.out 0).trans rfl), ((blk_cell XD.out 1).trans rfl), ((blk_cell XD.out 2).trans rfl), ((blk_cell X1.out 0).trans rfl), ((blk_cell X1.out 1).trans rfl), ((blk_cell X1.out 2).trans rfl)⟩ (fun hHeld => ?_)
    clear hK K
    refine norm_ (a' := ?_) ?_ ?_
    rotate_left
    · show Act.put _ (some 60) _ = _
      simp only [Act.put, List.setIfInBounds_toArray, List.set_cons_zero, List.set_cons_succ, i64_w, i32_w]
      rfl
    refine one_ (i := 22) (N := some 62) #[true, true, true, true, true, true, true, true, true, true, true, true, true, true, true, true, true, true, true, true, true, true, true, false, false, false, false, false, false, false, false] rfl rfl (by kernel_rfl) (by decide) (fun K hK => ?_)
    refine goes_ Try.func43 (by kernel_rfl) rfl #[.agg #[.int .i64 s0, .slice A0 n0.length c0, .slice B0 e0.length b0]] (by rfl) rfl rfl (by simp only [List.map_toArray, List.map_cons, List.map_nil]; rfl) ?_
    with_reducible refine (A.caesuraref16_Empty.calls ke s0 A0 c0 n0 B0 b0 e0 (emptyF s0 n0 e0) V16 G0.out.n2 G0.out.n1 G0.out.e2 G0.out.e1 HRE.out).mono ?_
    rintro e_ V17 ⟨rfl, hb⟩
    refine ⟨_, rfl, ?_⟩
    have n_G0 := Aside0.mk (Got.below G0.out hb)
    have n_XD := Aside0.mk (blk_below XD.out hb)
    have n_BL := Aside0.mk (BL.out.trans (Below.mono hb BL.out.size))
    have n_G1 := Aside0.mk (Got.below G1.out hb)
    have n_X1 := Aside0.mk (blk_below X1.out hb)
    have n_G2 := Aside0.mk (Got.below G2.out hb)
    have n_X2 := Aside0.mk (blk_below X2.out hb)
    have n_G3 := Aside0.mk (Got.below G3.out hb)
    have n_X3 := Aside0.mk (blk_below X3.out hb)
    have n_G4 := Aside0.mk (Got.below G4.out hb)
    have n_X4 := Aside0.mk (blk_below X4.out hb)
    have n_G5 := Aside0.mk (Got.below G5.out hb)
    have n_X5 := Aside0.mk (blk_below X5.out hb)
    clear G0 XD BL G1 X1 G2 X2 G3 X3 G4 X4 G5 X5
    have G0 := n_G0
    have XD := n_XD
    have BL := n_BL
    have G1 := n_G1
    have X1 := n_X1
    have G2 := n_G2
    have X2 := n_X2
    have G3 := n_G3
    have X3 := n_X3
    have G4 := n_G4
    have X4 := n_X4
    have G5 := n_G5
    have X5 := n_X5
    clear n_G0 n_XD n_BL n_G1 n_X1 n_G2 n_X2 n_G3 n_X3 n_G4 n_X4 n_G5 n_X5
    clear hb
    refine hK.out _ _ ⟨((blk_cell X2.out 0).trans rfl), ((blk_cell X2.out 1).trans rfl), ((blk_cell X2.out 2).trans rfl), ((blk_cell X3.out 0).trans rfl), ((blk_cell X3.out 1).trans rfl), ((blk_cell X3.out 2).trans rfl), ((blk_cell X4.out 0).trans rfl), ((blk_cell X4.out 1).trans rfl), ((blk_cell X4.out 2).trans rfl), ((blk_cell X5.out 0).trans rfl), ((blk_cell X5.out 1).trans rfl), ((blk_cell X5.out 2).trans rfl), ((blk_cell XD.out 0).trans rfl), ((blk_cell XD.out 1).trans rfl), ((blk_cell XD.out 2).trans rfl), ((blk_cell X1.out 0).trans rfl), ((blk_cell X1.out 1).trans rfl), ((blk_cell X1.out 2).trans rfl)⟩ (fun hHeld => ?_)
    clear hK K
    refine norm_ (a' := ?_) ?_ ?_
    rotate_left
    · show Act.put _ (some 62) _ = _
      simp only [Act.put, List.setIfInBounds_toArray, List.set_cons_zero, List.set_cons_succ, i64_w, i32_w]
      rfl
    refine pure_ (i := 23) (N := some 63) (v := ?_) (a' := ?_) #[true, true, true, true, true, true, true, true, true, true, true, true, true, true, true, true, true, true, true, true, true, true, true, true, false, false, false, false, false, false, false] rfl rfl (by kernel_rfl) (fun _ _ _ h => h) (Or.inl ⟨by rfl, ?_⟩) ?_ ?_
    rotate_left
    · intro w'
      go_simp
      with_reducible rfl
    rotate_left
    · simp only [Act.put, List.setIfInBounds_toArray, List.set_cons_zero, List.set_cons_succ, i64_w, i32_w]
      rfl
    refine pure_ (i := 24) (N := some 64) (v := ?_) (a' := ?_) #[true, true, true, true, true, true, true, true, true, true, true, true, true, true, true, true, true, true, true, true, true, true, true, true, true, false, false, false, false, false, false] rfl rfl (by kernel_rfl) (fun _ _ _ h => h) (Or.inl ⟨by rfl, ?_⟩) ?_ ?_
    rotate_left
    · intro w'
      go_simp
      with_reducible rfl
    rotate_left
    · simp only [Act.put, List.setIfInBounds_toArray, List.set_cons_zero, List.set_cons_succ, i64_w, i32_w]
      rfl
    refine pure_ (i := 25) (N := some 65) (v := ?_) (a' := ?_) #[true, true, true, true, true, true, true, true, true, true, true, true, true, true, true, true, true, true, true, true, true, true, true, true, true, true, false, false, false, false, false] rfl rfl (by kernel_rfl) (fun _ _ _ h => h) (Or.inl ⟨by rfl, ?_⟩) ?_ ?_
    rotate_left
    · intro w'
      go_simp
      with_reducible rfl
    rotate_left
    · simp only [Act.put, List.setIfInBounds_toArray, List.set_cons_zero, List.set_cons_succ, i64_w, i32_w]
      rfl
    refine take_ (i := 26) (N := some 66) (v := ?_) (a' := ?_) #[true, true, true, true, true, true, true, true, true, true, true, true, true, true, true, true, true, true, true, true, true, true, true, true, true, true, true, false, false, false, false] rfl rfl (by kernel_rfl) (fun _ _ _ h => h) (Or.inl ⟨by rfl, ?_⟩) hHeld ?_ ?_
    rotate_left
    · rintro w' ⟨s0, s1, s2, s3, s4, s5, s6, s7, s8, s9, s10, s11, s12, s13, s14, s15, s16, s17⟩
      go_simp
      with_reducible rfl
    rotate_left
    · simp only [Act.put, List.setIfInBounds_toArray, List.set_cons_zero, List.set_cons_succ, i64_w, i32_w]
      rfl
    refine take_ (i := 27) (N := some 67) (v := ?_) (a' := ?_) #[true, true, true, true, true, true, true, true, true, true, true, true, true, true, true, true, true, true, true, true, true, true, true, true, true, true, true, true, false, false, false] rfl rfl (by kernel_rfl) (fun _ _ _ h => h) (Or.inl ⟨by rfl, ?_⟩) hHeld ?_ ?_
    rotate_left
    · rintro w' ⟨s0, s1, s2, s3, s4, s5, s6, s7, s8, s9, s10, s11, s12, s13, s14, s15, s16, s17⟩
      go_simp
      with_reducible rfl
    rotate_left
    · simp only [Act.put, List.setIfInBounds_toArray, List.set_cons_zero, List.set_cons_succ, i64_w, i32_w]
      rfl
    refine one_ (i := 28) (N := some 68) #[true, true, true, true, true, true, true, true, true, true, true, true, true, true, true, true, true, true, true, true, true, true, true, true, true, true, true, true, true, false, false] rfl rfl (by kernel_rfl) (by decide) (fun K hK => ?_)
    refine goes_ Try.func16 (by kernel_rfl) rfl #[.agg #[.int .i64 s0, .slice A1 n0.length a1_, .slice B1 e0.length b1_], .agg #[.int .i64 s0, .slice A0 n0.length c0, .slice B0 e0.length b0]] (by rfl) rfl rfl (by simp only [List.map_toArray, List.map_cons, List.map_nil]; rfl) ?_
    with_reducible refine (caesuraref15_Same.calls k3 s0 A1 a1_ n0 B1 b1_ e0 s0 A0 c0 n0 B0 b0 e0 true V17 G1.out.n2 G1.out.n1 G1.out.e2 G1.out.e1 G0.out.n2 G0.out.n1 G0.out.e2 G0.out.e1 HS3.out).mono ?_
    rintro e_ V18 ⟨rfl, hb⟩
    refine ⟨_, rfl, ?_⟩
    have n_G0 := Aside0.mk (Got.below G0.out hb)
    have n_XD := Aside0.mk (blk_below XD.out hb)
    have n_BL := Aside0.mk (BL.out.trans (Below.mono hb BL.out.size))
    have n_G1 := Aside0.mk (Got.below G1.out hb)
    have n_X1 := Aside0.mk (blk_below X1.out hb)
    have n_G2 := Aside0.mk (Got.below G2.out hb)
    have n_X2 := Aside0.mk (blk_below X2.out hb)
    have n_G3 := Aside0.mk (Got.below G3.out hb)
    have n_X3 := Aside0.mk (blk_below X3.out hb)
    have n_G4 := Aside0.mk (Got.below G4.out hb)
    have n_X4 := Aside0.mk (blk_below X4.out hb)
    have n_G5 := Aside0.mk (Got.below G5.out hb)
    have n_X5 := Aside0.mk (blk_below X5.out hb)
    clear G0 XD BL G1 X1 G2 X2 G3 X3 G4 X4 G5 X5
    have G0 := n_G0
    have XD := n_XD
    have BL := n_BL
    have G1 := n_G1
    have X1 := n_X1
    have G2 := n_G2
    have X2 := n_X2
    have G3 := n_G3
    have X3 := n_X3
    have G4 := n_G4
    have X4 := n_X4
    have G5 := n_G5
    have X5 := n_X5
    clear n_G0 n_XD n_BL n_G1 n_X1 n_G2 n_X2 n_G3 n_X3 n_G4 n_X4 n_G5 n_X5
    clear hb
    refine hK.out _ _ ⟨((blk_cell X2.out 0).trans rfl), ((blk_cell X2.out 1).trans rfl), ((blk_cell X2.out 2).trans rfl), ((blk_cell X3.out 0).trans rfl), ((blk_cell X3.out 1).trans rfl), ((blk_cell X3.out 2).trans rfl), ((blk_cell X4.out 0).trans rfl), ((blk_cell X4.out 1).trans rfl), ((blk_cell X4.out 2).trans rfl), ((blk_cell X5.out 0).trans rfl), ((blk_cell X5.out 1).trans rfl), ((blk_cell X5.out 2).trans rfl), ((blk_cell XD.out 0).trans rfl), ((blk_cell XD.out 1).trans rfl), ((blk_cell XD.out 2).trans rfl), ((blk_cell X1.out 0).trans rfl), ((blk_cell X1.out 1).trans rfl), ((blk_cell X1.out 2).trans rfl)⟩ (fun hHeld => ?_)
    clear hK K
    refine norm_ (a' := ?_) ?_ ?_
    rotate_left
    · show Act.put _ (some 68) _ = _
      simp only [Act.put, List.setIfInBounds_toArray, List.set_cons_zero, List.set_cons_succ, i64_w, i32_w]
      rfl
    refine pure_ (i := 29) (N := some 69) (v := ?_) (a' := ?_) #[true, true, true, true, true, true, true, true, true, true, true, true, true, true, true, true, true, true, true, true, true, true, true, true, true, true, true, true, true, true, false] rfl rfl (by kernel_rfl) (fun _ _ _ h => h) (Or.inl ⟨by rfl, ?_⟩) ?_ ?_
    rotate_left
    · intro w'
      go_simp
      with_reducible rfl
    rotate_left
    · simp only [Act.put, List.setIfInBounds_toArray, List.set_cons_zero, List.set_cons_succ, i64_w, i32_w]
      rfl
    refine pure_ (i := 30) (N := some 4) (v := ?_) (a' := ?_) #[true, true, true, true, true, true, true, true, true, true, true, true, true, true, true, true, true, true, true, true, true, true, true, true, true, true, true, true, true, true, true] rfl rfl (by kernel_rfl) (fun _ _ _ h => h) (Or.inl ⟨by rfl, ?_⟩) ?_ ?_
    rotate_left
    · intro w'
      go_simp
      with_reducible rfl
    rotate_left
    · simp only [Act.put, List.setIfInBounds_toArray, List.set_cons_zero, List.set_cons_succ, i64_w, i32_w]
      rfl
    refine done_ (by kernel_rfl) ?_
    have cd0 := (blk_cell XD.out 0).trans rfl
    have cd1 := (blk_cell XD.out 1).trans rfl
    have cd2 := (blk_cell XD.out 2).trans rfl
    have ce0 := (blk_cell X1.out 0).trans rfl
    have ce1 := (blk_cell X1.out 1).trans rfl
    have ce2 := (blk_cell X1.out 2).trans rfl
    have cf0 := (blk_cell X2.out 0).trans rfl
    have cf1 := (blk_cell X2.out 1).trans rfl
    have cf2 := (blk_cell X2.out 2).trans rfl
    have cg0 := (blk_cell X3.out 0).trans rfl
    have cg1 := (blk_cell X3.out 1).trans rfl
    have cg2 := (blk_cell X3.out 2).trans rfl
    have ch0 := (blk_cell X4.out 0).trans rfl
    have ch1 := (blk_cell X4.out 1).trans rfl
    have ch2 := (blk_cell X4.out 2).trans rfl
    have ci0 := (blk_cell X5.out 0).trans rfl
    have ci1 := (blk_cell X5.out 1).trans rfl
    have ci2 := (blk_cell X5.out 2).trans rfl
    clear cd0 cd1 cd2
    clear ce0 ce1 ce2
    clear cf0 cf1 cf2
    clear cg0 cg1 cg2
    clear ch0 ch1 ch2
    clear ci0 ci1 ci2
    go_wp2_with fail
    go_ret
    exact ⟨rfl, BL.out⟩
end Go.Proofs.Ytpedenbcfbflbaa.X
