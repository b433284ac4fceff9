/- CalcMakes: the law answers true, whatever it is asked. -/
import Derived.Test.YtpedenbcfbflbaaXRefMade
import Derived.Test.YtpedenbcfbflbaaXAlive16
import Derived.Test.YtpedenbcfbflbaaZP
import Derived.Test.YtpedenbcfbflbaaQx1
namespace Go.Proofs.Ytpedenbcfbflbaa.X
open Go.RowKit Go.Proofs.YtpedenbcfbflbaaW.PrintWords Go.Proofs.YtpedenbcfbflbaaW.PrintLast Go.Proofs.YtpedenbcfbflbaaW.PrintMore Go.Maps Num Go.Proofs.Ytpedenbcfbflbaa.PMarkMakes
set_option linter.unusedVariables false
set_option linter.unusedSimpArgs false

theorem same_ok (s1 : Int) (n1 : List (List Int)) (e1 : List Bool) {A : Option Addr} {c : Nat} {B : Option Addr} {d : Nat} {W : World} (g : Got 0 A c n1 B d e1 W) : ∃ k, caesuraref15_Same.f k s1 n1 e1 s1 n1 e1 = some true := by
  obtain ⟨h1, h2, h3⟩ := g.rows_max
  obtain ⟨k, hk⟩ := same_f s1 n1 e1 s1 n1 e1 h1 h2 h3
  exact ⟨k, by simpa using hk⟩
theorem two_boxes' (w : World) (a b : Array Value) : ∃ W, W = (w.alloc (.cells a 25)).alloc (.cells b 25) ∧ W.heap[w.heap.size]? = some (.cells a 25 (0, 0)) ∧ W.heap[w.heap.size + 1]? = some (.cells b 25 (0, 0)) ∧ Below w.heap.size w W := by
  refine ⟨_, rfl, blk_alloc (blk_new _ _) _, ?_, below_alloc (below_alloc (Below.refl _ _) _) _⟩
  have := blk_new (w.alloc (.cells a 25)) (.cells b 25)
  simpa using this
theorem put3_ne {W : World} {g g' : Nat} {o : Obj} (hb : W.heap[g]? = some o) (h : g ≠ g') (u0 u1 u2 : Value) : (((W.setCell ⟨g', 0, none⟩ u0).setCell ⟨g', 1, none⟩ u1).setCell ⟨g', 2, none⟩ u2).heap[g]? = some o := by
  rw [Below.heap_setCell _ _ _ _ h, Below.heap_setCell _ _ _ _ h, Below.heap_setCell _ _ _ _ h]
  exact hb
theorem blk_lt {W : World} {g : Nat} {o : Obj} (h : W.heap[g]? = some o) : g < W.heap.size := (Array.getElem?_eq_some_iff.1 h).1
set_option maxHeartbeats 8000000 in
set_option maxRecDepth 100000 in
theorem CalcMakes_walk (s0 : Int) (A0 : Option Addr) (c0 : Nat) (n0 : List (List Int)) (B0 : Option Addr) (b0 : Nat) (e0 : List Bool) (s1 : Int) (A1 : Option Addr) (c1 : Nat) (n1 : List (List Int)) (B1 : Option Addr) (b1 : Nat) (e1 : List Bool) (a2 : Int) (w : World)
    (g0 : Got 0 A0 c0 n0 B0 b0 e0 w) (g1 : Got 0 A1 c1 n1 B1 b1 e1 w) :
    Calls Try.prog 8 #[.agg #[.int .i64 s0, .slice A0 n0.length c0, .slice B0 e0.length b0], .agg #[.int .i64 s1, .slice A1 n1.length c1, .slice B1 e1.length b1], .int .i64 a2] w fun e w' => e = .returned (.bool true) ∧ Below w.heap.size w w' := by
  have hu25 := Try.underlying25
  obtain ⟨gr, hg1⟩ : ∃ r, Ev (fun k => Q.caesuralaw16_great.f k s0 n0 e0 s1 n1 e1) r := by
    obtain ⟨q1, hq1⟩ := great_ev s0 n0 e0 250 (Kd.C_max g0.n2)
    obtain ⟨q2, hq2⟩ := great_ev s1 n1 e1 250 (Kd.C_max g1.n2)
    unfold Q.caesuralaw16_great.f
    cases q1 with
    | true => exact ⟨true, Ev.bind hq1 (by simp only [if_true]; exact Ev.now _)⟩
    | false => exact ⟨q2, Ev.bind hq1 (by simp only [Bool.false_eq_true, if_false]; exact Ev.bind hq2 (Ev.now _))⟩
  obtain ⟨kg, hkg⟩ := hg1.rounds
  obtain ⟨r01, r02, r03, r04, hp0⟩ : ∃ q1 q2 q3 q4, prodF (fun a b => a || b) s0 n0 e0 s1 n1 e1 a2 = (q1, q2, q3, q4) := ⟨_, _, _, _, rfl⟩
  obtain ⟨r11, r12, r13, r14, hp1⟩ : ∃ q1 q2 q3 q4, prodF (fun a b => a && b) s0 n0 e0 s1 n1 e1 a2 = (q1, q2, q3, q4) := ⟨_, _, _, _, rfl⟩
  obtain ⟨r21, r22, r23, r24, hp2⟩ : ∃ q1 q2 q3 q4, prodF (fun a b => a && !b) s0 n0 e0 s1 n1 e1 a2 = (q1, q2, q3, q4) := ⟨_, _, _, _, rfl⟩
  obtain ⟨r31, r32, r33, r34, hp3⟩ : ∃ q1 q2 q3 q4, prodF (fun a b => a != b) s0 n0 e0 s1 n1 e1 a2 = (q1, q2, q3, q4) := ⟨_, _, _, _, rfl⟩
  have HGR := Aside0.mk hkg
  have HP0 := Aside0.mk hp0
  have HP1 := Aside0.mk hp1
  have HP2 := Aside0.mk hp2
  have HP3 := Aside0.mk hp3
  have HN0 := Aside0.mk g0.n2
  have HLN0 := Aside0.mk g0.n1
  have HE0 := Aside0.mk g0.e2
  have HLE0 := Aside0.mk g0.e1
  have HN1 := Aside0.mk g1.n2
  have HLN1 := Aside0.mk g1.n1
  have HE1 := Aside0.mk g1.e2
  have HLE1 := Aside0.mk g1.e1
  clear hg1 hkg hp0 hp1 hp2 hp3 g0 g1
  go_enter Try.func8, Try.ntmps8
  go_upto_region 1 with (fail)
  obtain ⟨W, hW, x1, x2, hbl⟩ := two_boxes' w #[.int .i64 s0, .slice A0 n0.length c0, .slice B0 e0.length b0] #[.int .i64 s1, .slice A1 n1.length c1, .slice B1 e1.length b1]
  rw [← hW]
  have XA := Aside0.mk x1
  have XB := Aside0.mk x2
  have BL := Aside0.mk hbl
  clear hW x1 x2 hbl
  go_wp2_with fail
  refine (alive27 W).mono ?_
  rintro e_ V1 ⟨rfl, hb⟩
  have n_XA := Aside0.mk (blk_below XA.out hb)
  have n_XB := Aside0.mk (blk_below XB.out hb)
  have n_BL := Aside0.mk (BL.out.trans (Below.mono hb BL.out.size))
  clear XA XB BL
  have XA := n_XA
  have XB := n_XB
  have BL := n_BL
  clear n_XA n_XB n_BL
  clear hb
  have v0_0 := (blk_cell XA.out 0).trans rfl
  have v0_1 := (blk_cell XA.out 1).trans rfl
  have v0_2 := (blk_cell XA.out 2).trans rfl
  have v1_0 := (blk_cell XB.out 0).trans rfl
  have v1_1 := (blk_cell XB.out 1).trans rfl
  have v1_2 := (blk_cell XB.out 2).trans rfl
  go_wp2_with fail
  refine (Q.caesuralaw16_great.calls kg s0 A0 c0 n0 B0 b0 e0 s1 A1 c1 n1 B1 b1 e1 gr V1 (Kd.C_below HN0.out BL.out) HLN0.out (Kd.C_below HE0.out BL.out) HLE0.out (Kd.C_below HN1.out BL.out) HLN1.out (Kd.C_below HE1.out BL.out) HLE1.out HGR.out).mono ?_
  rintro e_ V2 ⟨rfl, hb⟩
  have n_XA := Aside0.mk (blk_below XA.out hb)
  have n_XB := Aside0.mk (blk_below XB.out hb)
  have n_BL := Aside0.mk (BL.out.trans (Below.mono hb BL.out.size))
  clear XA XB BL
  have XA := n_XA
  have XB := n_XB
  have BL := n_BL
  clear n_XA n_XB n_BL
  clear hb
  clear v0_0 v0_1 v0_2
  clear v1_0 v1_1 v1_2
  cases gr with
  | true =>
    go_wp2_with fail
    go_ret
    exact ⟨rfl, BL.out⟩
  | false =>
    have v0_0 := (blk_cell XA.out 0).trans rfl
    have v0_1 := (blk_cell XA.out 1).trans rfl
    have v0_2 := (blk_cell XA.out 2).trans rfl
    have v1_0 := (blk_cell XB.out 0).trans rfl
    have v1_1 := (blk_cell XB.out 1).trans rfl
    have v1_2 := (blk_cell XB.out 2).trans rfl
    go_wp2_with fail
    refine (prod29 s0 A0 c0 n0 B0 b0 e0 s1 A1 c1 n1 B1 b1 e1 a2 r01 r02 r03 r04 V2 (Kd.C_below HN0.out BL.out) HLN0.out (Kd.C_below HE0.out BL.out) HLE0.out (Kd.C_below HN1.out BL.out) HLN1.out (Kd.C_below HE1.out BL.out) HLE1.out HP0.out).mono ?_
    rintro e_ V3 ⟨v1, v2, rfl, hs, hr, hb⟩
    obtain ⟨AP0, aP0, rfl⟩ := Kd.S_slice hs
    obtain ⟨BP0, bP0, rfl⟩ := Kd.R_slice hr
    have n_XA := Aside0.mk (blk_below XA.out hb)
    have n_XB := Aside0.mk (blk_below XB.out hb)
    have n_BL := Aside0.mk (BL.out.trans (Below.mono hb BL.out.size))
    clear XA XB BL
    have XA := n_XA
    have XB := n_XB
    have BL := n_BL
    clear n_XA n_XB n_BL
    have SP := Aside0.mk hs
    have RP := Aside0.mk hr
    clear hs hr hb
    clear v0_0 v0_1 v0_2
    clear v1_0 v1_1 v1_2
    go_upto_region 6 with (fail)
    have o1_ : w.heap.size + 1 < V3.heap.size := blk_lt XB.out
    obtain ⟨V4, h_⟩ : ∃ W_, W_ = V3.alloc (.cells #[.int .i64 r01, .slice AP0 r02.length aP0, .slice BP0 r03.length bP0] 25) := ⟨_, rfl⟩
    have hb_ : Below V3.heap.size V3 V4 := by rw [h_]; exact below_alloc (Below.refl _ _) _
    have hx_ : V4.heap[V3.heap.size]? = some (.cells #[.int .i64 r01, .slice AP0 r02.length aP0, .slice BP0 r03.length bP0] 25 (0, 0)) := by rw [h_]; exact blk_new _ _
    rw [← h_]
    clear h_
    have n_XA := Aside0.mk (blk_below XA.out hb_)
    have n_XB := Aside0.mk (blk_below XB.out hb_)
    have n_BL := Aside0.mk (BL.out.trans (Below.mono hb_ BL.out.size))
    have n_SP := Aside0.mk (Kd.S_below SP.out hb_)
    have n_RP := Aside0.mk (Kd.R_below RP.out hb_)
    clear XA XB BL SP RP
    have XA := n_XA
    have XB := n_XB
    have BL := n_BL
    have SP := n_SP
    have RP := n_RP
    clear n_XA n_XB n_BL n_SP n_RP
    clear hb_
    obtain ⟨gp, ea_⟩ : ∃ g_, g_ = V3.heap.size := ⟨_, rfl⟩
    rw [← ea_] at hx_ ⊢
    have XP := Aside0.mk hx_
    clear hx_
    have O1 : Aside0 (w.heap.size + 1 < gp) := ⟨by rw [ea_]; exact o1_⟩
    clear o1_ ea_
    have v0_0 := (blk_cell XA.out 0).trans rfl
    have v0_1 := (blk_cell XA.out 1).trans rfl
    have v0_2 := (blk_cell XA.out 2).trans rfl
    have v1_0 := (blk_cell XB.out 0).trans rfl
    have v1_1 := (blk_cell XB.out 1).trans rfl
    have v1_2 := (blk_cell XB.out 2).trans rfl
    go_wp2_with fail
    refine (ref30 s0 A0 c0 n0 B0 b0 e0 s1 A1 c1 n1 B1 b1 e1 a2 r01 r02 r03 r04 V4 (Kd.C_below HN0.out BL.out) HLN0.out (Kd.C_below HE0.out BL.out) HLE0.out (Kd.C_below HN1.out BL.out) HLN1.out (Kd.C_below HE1.out BL.out) HLE1.out HP0.out).mono ?_
    rintro e_ V5 ⟨v1, v2, rfl, hs, hr, hb⟩
    obtain ⟨AQ0, aQ0, rfl⟩ := Kd.S_slice hs
    obtain ⟨BQ0, bQ0, rfl⟩ := Kd.R_slice hr
    have n_XA := Aside0.mk (blk_below XA.out hb)
    have n_XB := Aside0.mk (blk_below XB.out hb)
    have n_BL := Aside0.mk (BL.out.trans (Below.mono hb BL.out.size))
    have n_SP := Aside0.mk (Kd.S_below SP.out hb)
    have n_RP := Aside0.mk (Kd.R_below RP.out hb)
    have n_XP := Aside0.mk (blk_below XP.out hb)
    clear XA XB BL SP RP XP
    have XA := n_XA
    have XB := n_XB
    have BL := n_BL
    have SP := n_SP
    have RP := n_RP
    have XP := n_XP
    clear n_XA n_XB n_BL n_SP n_RP n_XP
    have SQ := Aside0.mk hs
    have RQ := Aside0.mk hr
    clear hs hr hb
    clear v0_0 v0_1 v0_2
    clear v1_0 v1_1 v1_2
    go_upto_region 7 with (fail)
    have o2_ : gp < V5.heap.size := blk_lt XP.out
    obtain ⟨V6, h_⟩ : ∃ W_, W_ = V5.alloc (.cells #[.int .i64 r01, .slice AQ0 r02.length aQ0, .slice BQ0 r03.length bQ0] 25) := ⟨_, rfl⟩
    have hb_ : Below V5.heap.size V5 V6 := by rw [h_]; exact below_alloc (Below.refl _ _) _
    have hx_ : V6.heap[V5.heap.size]? = some (.cells #[.int .i64 r01, .slice AQ0 r02.length aQ0, .slice BQ0 r03.length bQ0] 25 (0, 0)) := by rw [h_]; exact blk_new _ _
    rw [← h_]
    clear h_
    have n_XA := Aside0.mk (blk_below XA.out hb_)
    have n_XB := Aside0.mk (blk_below XB.out hb_)
    have n_BL := Aside0.mk (BL.out.trans (Below.mono hb_ BL.out.size))
    have n_SP := Aside0.mk (Kd.S_below SP.out hb_)
    have n_RP := Aside0.mk (Kd.R_below RP.out hb_)
    have n_XP := Aside0.mk (blk_below XP.out hb_)
    have n_SQ := Aside0.mk (Kd.S_below SQ.out hb_)
    have n_RQ := Aside0.mk (Kd.R_below RQ.out hb_)
    clear XA XB BL SP RP XP SQ RQ
    have XA := n_XA
    have XB := n_XB
    have BL := n_BL
    have SP := n_SP
    have RP := n_RP
    have XP := n_XP
    have SQ := n_SQ
    have RQ := n_RQ
    clear n_XA n_XB n_BL n_SP n_RP n_XP n_SQ n_RQ
    clear hb_
    obtain ⟨gq, ea_⟩ : ∃ g_, g_ = V5.heap.size := ⟨_, rfl⟩
    rw [← ea_] at hx_ ⊢
    have XQ := Aside0.mk hx_
    clear hx_
    have ORD : Aside0 (w.heap.size + 1 < gp ∧ gp < gq) := ⟨O1.out, by rw [ea_]; exact o2_⟩
    clear o2_ ea_ O1
    obtain ⟨ks, hks⟩ := same_ok r01 r02 r03 (A := AP0) (c := aP0) (B := BP0) (d := bP0) (W := V6) ⟨(Kd.S_reads' SP.out).2.1, (Kd.S_reads' SP.out).2.2, (Kd.R_reads' RP.out).2.1, (Kd.R_reads' RP.out).2.2⟩
    have HS := Aside0.mk hks
    clear hks
    have he_ : (r04 == r04) = true := beq_self_eq_true _
    have hn_ : (r04 != r04) = false := by simp
    have v0_0 := (blk_cell XP.out 0).trans rfl
    have v0_1 := (blk_cell XP.out 1).trans rfl
    have v0_2 := (blk_cell XP.out 2).trans rfl
    have v1_0 := (blk_cell XQ.out 0).trans rfl
    have v1_1 := (blk_cell XQ.out 1).trans rfl
    have v1_2 := (blk_cell XQ.out 2).trans rfl
    go_wp2_with fail
    refine (caesuraref15_Same.calls ks r01 AP0 aP0 r02 BP0 bP0 r03 r01 AQ0 aQ0 r02 BQ0 bQ0 r03 true V6 (Kd.S_reads' SP.out).2.2 (Kd.S_reads' SP.out).2.1 (Kd.R_reads' RP.out).2.2 (Kd.R_reads' RP.out).2.1 (Kd.S_reads' SQ.out).2.2 (Kd.S_reads' SQ.out).2.1 (Kd.R_reads' RQ.out).2.2 (Kd.R_reads' RQ.out).2.1 HS.out).mono ?_
    rintro e_ V7 ⟨rfl, hb⟩
    have n_XA := Aside0.mk (blk_below XA.out hb)
    have n_XB := Aside0.mk (blk_below XB.out hb)
    have n_BL := Aside0.mk (BL.out.trans (Below.mono hb BL.out.size))
    have n_SP := Aside0.mk (Kd.S_below SP.out hb)
    have n_RP := Aside0.mk (Kd.R_below RP.out hb)
    have n_XP := Aside0.mk (blk_below XP.out hb)
    have n_SQ := Aside0.mk (Kd.S_below SQ.out hb)
    have n_RQ := Aside0.mk (Kd.R_below RQ.out hb)
    have n_XQ := Aside0.mk (blk_below XQ.out hb)
    clear XA XB BL SP RP XP SQ RQ XQ
    have XA := n_XA
    have XB := n_XB
    have BL := n_BL
    have SP := n_SP
    have RP := n_RP
    have XP := n_XP
    have SQ := n_SQ
    have RQ := n_RQ
    have XQ := n_XQ
    clear n_XA n_XB n_BL n_SP n_RP n_XP n_SQ n_RQ n_XQ
    clear hb
    clear v0_0 v0_1 v0_2
    clear v1_0 v1_1 v1_2
    clear SP RP SQ RQ
    clear HS
    go_upto_region 9 with (fail)
    clear he_ hn_
    have v0_0 := (blk_cell XA.out 0).trans rfl
    have v0_1 := (blk_cell XA.out 1).trans rfl
    have v0_2 := (blk_cell XA.out 2).trans rfl
    have v1_0 := (blk_cell XB.out 0).trans rfl
    have v1_1 := (blk_cell XB.out 1).trans rfl
    have v1_2 := (blk_cell XB.out 2).trans rfl
    go_wp2_with fail
    refine (prod31 s0 A0 c0 n0 B0 b0 e0 s1 A1 c1 n1 B1 b1 e1 a2 r11 r12 r13 r14 V7 (Kd.C_below HN0.out BL.out) HLN0.out (Kd.C_below HE0.out BL.out) HLE0.out (Kd.C_below HN1.out BL.out) HLN1.out (Kd.C_below HE1.out BL.out) HLE1.out HP1.out).mono ?_
    rintro e_ V8 ⟨v1, v2, rfl, hs, hr, hb⟩
    obtain ⟨AP1, aP1, rfl⟩ := Kd.S_slice hs
    obtain ⟨BP1, bP1, rfl⟩ := Kd.R_slice hr
    have n_XA := Aside0.mk (blk_below XA.out hb)
    have n_XB := Aside0.mk (blk_below XB.out hb)
    have n_BL := Aside0.mk (BL.out.trans (Below.mono hb BL.out.size))
    have n_XP := Aside0.mk (blk_below XP.out hb)
    have n_XQ := Aside0.mk (blk_below XQ.out hb)
    clear XA XB BL XP XQ
    have XA := n_XA
    have XB := n_XB
    have BL := n_BL
    have XP := n_XP
    have XQ := n_XQ
    clear n_XA n_XB n_BL n_XP n_XQ
    have SP := Aside0.mk hs
    have RP := Aside0.mk hr
    clear hs hr hb
    clear v0_0 v0_1 v0_2
    clear v1_0 v1_1 v1_2
    have v0_0 := (blk_cell XP.out 0).trans rfl
    have v0_1 := (blk_cell XP.out 1).trans rfl
    have v0_2 := (blk_cell XP.out 2).trans rfl
    have m0_ := blk_frozen XP.out 0
    have m1_ := blk_frozen XP.out 1
    have m2_ := blk_frozen XP.out 2
    go_upto_region 10 with (fail)
    clear m0_ m1_ m2_
    clear v0_0 v0_1 v0_2
    obtain ⟨kp_, hb_, bl_⟩ := keeps_put3 BL.out (show w.heap.size ≤ gp by have := ORD.out; omega) XP.out (.int .i64 r11) (.slice AP1 r12.length aP1) (.slice BP1 r13.length bP1)
    have n_XA := put3_ne XA.out (show w.heap.size ≠ gp by have := ORD.out; omega) (.int .i64 r11) (.slice AP1 r12.length aP1) (.slice BP1 r13.length bP1)
    have n_XB := put3_ne XB.out (show w.heap.size + 1 ≠ gp by have := ORD.out; omega) (.int .i64 r11) (.slice AP1 r12.length aP1) (.slice BP1 r13.length bP1)
    have n_XQ := put3_ne XQ.out (show gq ≠ gp by have := ORD.out; omega) (.int .i64 r11) (.slice AP1 r12.length aP1) (.slice BP1 r13.length bP1)
    obtain ⟨V9, h_⟩ : ∃ W_, W_ = ((V8.setCell ⟨gp, 0, none⟩ (.int .i64 r11)).setCell ⟨gp, 1, none⟩ (.slice AP1 r12.length aP1)).setCell ⟨gp, 2, none⟩ (.slice BP1 r13.length bP1) := ⟨_, rfl⟩
    rw [← h_] at kp_ hb_ bl_ n_XA n_XB n_XQ ⊢
    have n_SP := Aside0.mk (S_keeps SP.out kp_ (by decide))
    clear SP
    have SP := n_SP
    clear n_SP
    have n_RP := Aside0.mk (R_keeps RP.out kp_ (by decide))
    clear RP
    have RP := n_RP
    clear n_RP
    clear XP
    have XP := Aside0.mk hb_
    clear BL
    have BL := Aside0.mk bl_
    clear XA
    have XA := Aside0.mk n_XA
    clear n_XA
    clear XB
    have XB := Aside0.mk n_XB
    clear n_XB
    clear XQ
    have XQ := Aside0.mk n_XQ
    clear n_XQ
    clear h_ kp_ hb_ bl_
    have v0_0 := (blk_cell XA.out 0).trans rfl
    have v0_1 := (blk_cell XA.out 1).trans rfl
    have v0_2 := (blk_cell XA.out 2).trans rfl
    have v1_0 := (blk_cell XB.out 0).trans rfl
    have v1_1 := (blk_cell XB.out 1).trans rfl
    have v1_2 := (blk_cell XB.out 2).trans rfl
    go_wp2_with fail
    refine (ref32 s0 A0 c0 n0 B0 b0 e0 s1 A1 c1 n1 B1 b1 e1 a2 r11 r12 r13 r14 V9 (Kd.C_below HN0.out BL.out) HLN0.out (Kd.C_below HE0.out BL.out) HLE0.out (Kd.C_below HN1.out BL.out) HLN1.out (Kd.C_below HE1.out BL.out) HLE1.out HP1.out).mono ?_
    rintro e_ V10 ⟨v1, v2, rfl, hs, hr, hb⟩
    obtain ⟨AQ1, aQ1, rfl⟩ := Kd.S_slice hs
    obtain ⟨BQ1, bQ1, rfl⟩ := Kd.R_slice hr
    have n_XA := Aside0.mk (blk_below XA.out hb)
    have n_XB := Aside0.mk (blk_below XB.out hb)
    have n_BL := Aside0.mk (BL.out.trans (Below.mono hb BL.out.size))
    have n_XP := Aside0.mk (blk_below XP.out hb)
    have n_XQ := Aside0.mk (blk_below XQ.out hb)
    have n_SP := Aside0.mk (Kd.S_below SP.out hb)
    have n_RP := Aside0.mk (Kd.R_below RP.out hb)
    clear XA XB BL XP XQ SP RP
    have XA := n_XA
    have XB := n_XB
    have BL := n_BL
    have XP := n_XP
    have XQ := n_XQ
    have SP := n_SP
    have RP := n_RP
    clear n_XA n_XB n_BL n_XP n_XQ n_SP n_RP
    have SQ := Aside0.mk hs
    have RQ := Aside0.mk hr
    clear hs hr hb
    clear v0_0 v0_1 v0_2
    clear v1_0 v1_1 v1_2
    have v0_0 := (blk_cell XQ.out 0).trans rfl
    have v0_1 := (blk_cell XQ.out 1).trans rfl
    have v0_2 := (blk_cell XQ.out 2).trans rfl
    have m0_ := blk_frozen XQ.out 0
    have m1_ := blk_frozen XQ.out 1
    have m2_ := blk_frozen XQ.out 2
    go_upto_region 11 with (fail)
    clear m0_ m1_ m2_
    clear v0_0 v0_1 v0_2
    obtain ⟨kp_, hb_, bl_⟩ := keeps_put3 BL.out (show w.heap.size ≤ gq by have := ORD.out; omega) XQ.out (.int .i64 r11) (.slice AQ1 r12.length aQ1) (.slice BQ1 r13.length bQ1)
    have n_XA := put3_ne XA.out (show w.heap.size ≠ gq by have := ORD.out; omega) (.int .i64 r11) (.slice AQ1 r12.length aQ1) (.slice BQ1 r13.length bQ1)
    have n_XB := put3_ne XB.out (show w.heap.size + 1 ≠ gq by have := ORD.out; omega) (.int .i64 r11) (.slice AQ1 r12.length aQ1) (.slice BQ1 r13.length bQ1)
    have n_XP := put3_ne XP.out (show gp ≠ gq by have := ORD.out; omega) (.int .i64 r11) (.slice AQ1 r12.length aQ1) (.slice BQ1 r13.length bQ1)
    obtain ⟨V11, h_⟩ : ∃ W_, W_ = ((V10.setCell ⟨gq, 0, none⟩ (.int .i64 r11)).setCell ⟨gq, 1, none⟩ (.slice AQ1 r12.length aQ1)).setCell ⟨gq, 2, none⟩ (.slice BQ1 r13.length bQ1) := ⟨_, rfl⟩
    rw [← h_] at kp_ hb_ bl_ n_XA n_XB n_XP ⊢
    have n_SP := Aside0.mk (S_keeps SP.out kp_ (by decide))
    clear SP
    have SP := n_SP
    clear n_SP
    have n_RP := Aside0.mk (R_keeps RP.out kp_ (by decide))
    clear RP
    have RP := n_RP
    clear n_RP
    have n_SQ := Aside0.mk (S_keeps SQ.out kp_ (by decide))
    clear SQ
    have SQ := n_SQ
    clear n_SQ
    have n_RQ := Aside0.mk (R_keeps RQ.out kp_ (by decide))
    clear RQ
    have RQ := n_RQ
    clear n_RQ
    clear XQ
    have XQ := Aside0.mk hb_
    clear BL
    have BL := Aside0.mk bl_
    clear XA
    have XA := Aside0.mk n_XA
    clear n_XA
    clear XB
    have XB := Aside0.mk n_XB
    clear n_XB
    clear XP
    have XP := Aside0.mk n_XP
    clear n_XP
    clear h_ kp_ hb_ bl_
    obtain ⟨ks, hks⟩ := same_ok r11 r12 r13 (A := AP1) (c := aP1) (B := BP1) (d := bP1) (W := V11) ⟨(Kd.S_reads' SP.out).2.1, (Kd.S_reads' SP.out).2.2, (Kd.R_reads' RP.out).2.1, (Kd.R_reads' RP.out).2.2⟩
    have HS := Aside0.mk hks
    clear hks
    have he_ : (r14 == r14) = true := beq_self_eq_true _
    have hn_ : (r14 != r14) = false := by simp
    have v0_0 := (blk_cell XP.out 0).trans rfl
    have v0_1 := (blk_cell XP.out 1).trans rfl
    have v0_2 := (blk_cell XP.out 2).trans rfl
    have v1_0 := (blk_cell XQ.out 0).trans rfl
    have v1_1 := (blk_cell XQ.out 1).trans rfl
    have v1_2 := (blk_cell XQ.out 2).trans rfl
    go_wp2_with fail
    refine (caesuraref15_Same.calls ks r11 AP1 aP1 r12 BP1 bP1 r13 r11 AQ1 aQ1 r12 BQ1 bQ1 r13 true V11 (Kd.S_reads' SP.out).2.2 (Kd.S_reads' SP.out).2.1 (Kd.R_reads' RP.out).2.2 (Kd.R_reads' RP.out).2.1 (Kd.S_reads' SQ.out).2.2 (Kd.S_reads' SQ.out).2.1 (Kd.R_reads' RQ.out).2.2 (Kd.R_reads' RQ.out).2.1 HS.out).mono ?_
    rintro e_ V12 ⟨rfl, hb⟩
    have n_XA := Aside0.mk (blk_below XA.out hb)
    have n_XB := Aside0.mk (blk_below XB.out hb)
    have n_BL := Aside0.mk (BL.out.trans (Below.mono hb BL.out.size))
    have n_XP := Aside0.mk (blk_below XP.out hb)
    have n_XQ := Aside0.mk (blk_below XQ.out hb)
    have n_SP := Aside0.mk (Kd.S_below SP.out hb)
    have n_RP := Aside0.mk (Kd.R_below RP.out hb)
    have n_SQ := Aside0.mk (Kd.S_below SQ.out hb)
    have n_RQ := Aside0.mk (Kd.R_below RQ.out hb)
    clear XA XB BL XP XQ SP RP SQ RQ
    have XA := n_XA
    have XB := n_XB
    have BL := n_BL
    have XP := n_XP
    have XQ := n_XQ
    have SP := n_SP
    have RP := n_RP
    have SQ := n_SQ
    have RQ := n_RQ
    clear n_XA n_XB n_BL n_XP n_XQ n_SP n_RP n_SQ n_RQ
    clear hb
    clear v0_0 v0_1 v0_2
    clear v1_0 v1_1 v1_2
    clear SP RP SQ RQ
    clear HS
    go_upto_region 13 with (fail)
    clear he_ hn_
    have v0_0 := (blk_cell XA.out 0).trans rfl
    have v0_1 := (blk_cell XA.out 1).trans rfl
    have v0_2 := (blk_cell XA.out 2).trans rfl
    have v1_0 := (blk_cell XB.out 0).trans rfl
    have v1_1 := (blk_cell XB.out 1).trans rfl
    have v1_2 := (blk_cell XB.out 2).trans rfl
    go_wp2_with fail
    refine (prod33 s0 A0 c0 n0 B0 b0 e0 s1 A1 c1 n1 B1 b1 e1 a2 r21 r22 r23 r24 V12 (Kd.C_below HN0.out BL.out) HLN0.out (Kd.C_below HE0.out BL.out) HLE0.out (Kd.C_below HN1.out BL.out) HLN1.out (Kd.C_below HE1.out BL.out) HLE1.out HP2.out).mono ?_
    rintro e_ V13 ⟨v1, v2, rfl, hs, hr, hb⟩
    obtain ⟨AP2, aP2, rfl⟩ := Kd.S_slice hs
    obtain ⟨BP2, bP2, rfl⟩ := Kd.R_slice hr
    have n_XA := Aside0.mk (blk_below XA.out hb)
    have n_XB := Aside0.mk (blk_below XB.out hb)
    have n_BL := Aside0.mk (BL.out.trans (Below.mono hb BL.out.size))
    have n_XP := Aside0.mk (blk_below XP.out hb)
    have n_XQ := Aside0.mk (blk_below XQ.out hb)
    clear XA XB BL XP XQ
    have XA := n_XA
    have XB := n_XB
    have BL := n_BL
    have XP := n_XP
    have XQ := n_XQ
    clear n_XA n_XB n_BL n_XP n_XQ
    have SP := Aside0.mk hs
    have RP := Aside0.mk hr
    clear hs hr hb
    clear v0_0 v0_1 v0_2
    clear v1_0 v1_1 v1_2
    have v0_0 := (blk_cell XP.out 0).trans rfl
    have v0_1 := (blk_cell XP.out 1).trans rfl
    have v0_2 := (blk_cell XP.out 2).trans rfl
    have m0_ := blk_frozen XP.out 0
    have m1_ := blk_frozen XP.out 1
    have m2_ := blk_frozen XP.out 2
    go_upto_region 14 with (fail)
    clear m0_ m1_ m2_
    clear v0_0 v0_1 v0_2
    obtain ⟨kp_, hb_, bl_⟩ := keeps_put3 BL.out (show w.heap.size ≤ gp by have := ORD.out; omega) XP.out (.int .i64 r21) (.slice AP2 r22.length aP2) (.slice BP2 r23.length bP2)
    have n_XA := put3_ne XA.out (show w.heap.size ≠ gp by have := ORD.out; omega) (.int .i64 r21) (.slice AP2 r22.length aP2) (.slice BP2 r23.length bP2)
    have n_XB := put3_ne XB.out (show w.heap.size + 1 ≠ gp by have := ORD.out; omega) (.int .i64 r21) (.slice AP2 r22.length aP2) (.slice BP2 r23.length bP2)
    have n_XQ := put3_ne XQ.out (show gq ≠ gp by have := ORD.out; omega) (.int .i64 r21) (.slice AP2 r22.length aP2) (.slice BP2 r23.length bP2)
    obtain ⟨V14, h_⟩ : ∃ W_, W_ = ((V13.setCell ⟨gp, 0, none⟩ (.int .i64 r21)).setCell ⟨gp, 1, none⟩ (.slice AP2 r22.length aP2)).setCell ⟨gp, 2, none⟩ (.slice BP2 r23.length bP2) := ⟨_, rfl⟩
    rw [← h_] at kp_ hb_ bl_ n_XA n_XB n_XQ ⊢
    have n_SP := Aside0.mk (S_keeps SP.out kp_ (by decide))
    clear SP
    have SP := n_SP
    clear n_SP
    have n_RP := Aside0.mk (R_keeps RP.out kp_ (by decide))
    clear RP
    have RP := n_RP
    clear n_RP
    clear XP
    have XP := Aside0.mk hb_
    clear BL
    have BL := Aside0.mk bl_
    clear XA
    have XA := Aside0.mk n_XA
    clear n_XA
    clear XB
    have XB := Aside0.mk n_XB
    clear n_XB
    clear XQ
    have XQ := Aside0.mk n_XQ
    clear n_XQ
    clear h_ kp_ hb_ bl_
    have v0_0 := (blk_cell XA.out 0).trans rfl
    have v0_1 := (blk_cell XA.out 1).trans rfl
    have v0_2 := (blk_cell XA.out 2).trans rfl
    have v1_0 := (blk_cell XB.out 0).trans rfl
    have v1_1 := (blk_cell XB.out 1).trans rfl
    have v1_2 := (blk_cell XB.out 2).trans rfl
    go_wp2_with fail
    refine (ref34 s0 A0 c0 n0 B0 b0 e0 s1 A1 c1 n1 B1 b1 e1 a2 r21 r22 r23 r24 V14 (Kd.C_below HN0.out BL.out) HLN0.out (Kd.C_below HE0.out BL.out) HLE0.out (Kd.C_below HN1.out BL.out) HLN1.out (Kd.C_below HE1.out BL.out) HLE1.out HP2.out).mono ?_
    rintro e_ V15 ⟨v1, v2, rfl, hs, hr, hb⟩
    obtain ⟨AQ2, aQ2, rfl⟩ := Kd.S_slice hs
    obtain ⟨BQ2, bQ2, rfl⟩ := Kd.R_slice hr
    have n_XA := Aside0.mk (blk_below XA.out hb)
    have n_XB := Aside0.mk (blk_below XB.out hb)
    have n_BL := Aside0.mk (BL.out.trans (Below.mono hb BL.out.size))
    have n_XP := Aside0.mk (blk_below XP.out hb)
    have n_XQ := Aside0.mk (blk_below XQ.out hb)
    have n_SP := Aside0.mk (Kd.S_below SP.out hb)
    have n_RP := Aside0.mk (Kd.R_below RP.out hb)
    clear XA XB BL XP XQ SP RP
    have XA := n_XA
    have XB := n_XB
    have BL := n_BL
    have XP := n_XP
    have XQ := n_XQ
    have SP := n_SP
    have RP := n_RP
    clear n_XA n_XB n_BL n_XP n_XQ n_SP n_RP
    have SQ := Aside0.mk hs
    have RQ := Aside0.mk hr
    clear hs hr hb
    clear v0_0 v0_1 v0_2
    clear v1_0 v1_1 v1_2
    have v0_0 := (blk_cell XQ.out 0).trans rfl
    have v0_1 := (blk_cell XQ.out 1).trans rfl
    have v0_2 := (blk_cell XQ.out 2).trans rfl
    have m0_ := blk_frozen XQ.out 0
    have m1_ := blk_frozen XQ.out 1
    have m2_ := blk_frozen XQ.out 2
    go_upto_region 15 with (fail)
    clear m0_ m1_ m2_
    clear v0_0 v0_1 v0_2
    obtain ⟨kp_, hb_, bl_⟩ := keeps_put3 BL.out (show w.heap.size ≤ gq by have := ORD.out; omega) XQ.out (.int .i64 r21) (.slice AQ2 r22.length aQ2) (.slice BQ2 r23.length bQ2)
    have n_XA := put3_ne XA.out (show w.heap.size ≠ gq by have := ORD.out; omega) (.int .i64 r21) (.slice AQ2 r22.length aQ2) (.slice BQ2 r23.length bQ2)
    have n_XB := put3_ne XB.out (show w.heap.size + 1 ≠ gq by have := ORD.out; omega) (.int .i64 r21) (.slice AQ2 r22.length aQ2) (.slice BQ2 r23.length bQ2)
    have n_XP := put3_ne XP.out (show gp ≠ gq by have := ORD.out; omega) (.int .i64 r21) (.slice AQ2 r22.length aQ2) (.slice BQ2 r23.length bQ2)
    obtain ⟨V16, h_⟩ : ∃ W_, W_ = ((V15.setCell ⟨gq, 0, none⟩ (.int .i64 r21)).setCell ⟨gq, 1, none⟩ (.slice AQ2 r22.length aQ2)).setCell ⟨gq, 2, none⟩ (.slice BQ2 r23.length bQ2) := ⟨_, rfl⟩
    rw [← h_] at kp_ hb_ bl_ n_XA n_XB n_XP ⊢
    have n_SP := Aside0.mk (S_keeps SP.out kp_ (by decide))
    clear SP
    have SP := n_SP
    clear n_SP
    have n_RP := Aside0.mk (R_keeps RP.out kp_ (by decide))
    clear RP
    have RP := n_RP
    clear n_RP
    have n_SQ := Aside0.mk (S_keeps SQ.out kp_ (by decide))
    clear SQ
    have SQ := n_SQ
    clear n_SQ
    have n_RQ := Aside0.mk (R_keeps RQ.out kp_ (by decide))
    clear RQ
    have RQ := n_RQ
    clear n_RQ
    clear XQ
    have XQ := Aside0.mk hb_
    clear BL
    have BL := Aside0.mk bl_
    clear XA
    have XA := Aside0.mk n_XA
    clear n_XA
    clear XB
    have XB := Aside0.mk n_XB
    clear n_XB
    clear XP
    have XP := Aside0.mk n_XP
    clear n_XP
    clear h_ kp_ hb_ bl_
    obtain ⟨ks, hks⟩ := same_ok r21 r22 r23 (A := AP2) (c := aP2) (B := BP2) (d := bP2) (W := V16) ⟨(Kd.S_reads' SP.out).2.1, (Kd.S_reads' SP.out).2.2, (Kd.R_reads' RP.out).2.1, (Kd.R_reads' RP.out).2.2⟩
    have HS := Aside0.mk hks
    clear hks
    have he_ : (r24 == r24) = true := beq_self_eq_true _
    have hn_ : (r24 != r24) = false := by simp
    have v0_0 := (blk_cell XP.out 0).trans rfl
    have v0_1 := (blk_cell XP.out 1).trans rfl
    have v0_2 := (blk_cell XP.out 2).trans rfl
    have v1_0 := (blk_cell XQ.out 0).trans rfl
    have v1_1 := (blk_cell XQ.out 1).trans rfl
    have v1_2 := (blk_cell XQ.out 2).trans rfl
    go_wp2_with fail
    refine (caesuraref15_Same.calls ks r21 AP2 aP2 r22 BP2 bP2 r23 r21 AQ2 aQ2 r22 BQ2 bQ2 r23 true V16 (Kd.S_reads' SP.out).2.2 (Kd.S_reads' SP.out).2.1 (Kd.R_reads' RP.out).2.2 (Kd.R_reads' RP.out).2.1 (Kd.S_reads' SQ.out).2.2 (Kd.S_reads' SQ.out).2.1 (Kd.R_reads' RQ.out).2.2 (Kd.R_reads' RQ.out).2.1 HS.out).mono ?_
    rintro e_ V17 ⟨rfl, hb⟩
    have n_XA := Aside0.mk (blk_below XA.out hb)
    have n_XB := Aside0.mk (blk_below XB.out hb)
    have n_BL := Aside0.mk (BL.out.trans (Below.mono hb BL.out.size))
    have n_XP := Aside0.mk (blk_below XP.out hb)
    have n_XQ := Aside0.mk (blk_below XQ.out hb)
    have n_SP := Aside0.mk (Kd.S_below SP.out hb)
    have n_RP := Aside0.mk (Kd.R_below RP.out hb)
    have n_SQ := Aside0.mk (Kd.S_below SQ.out hb)
    have n_RQ := Aside0.mk (Kd.R_below RQ.out hb)
    clear XA XB BL XP XQ SP RP SQ RQ
    have XA := n_XA
    have XB := n_XB
    have BL := n_BL
    have XP := n_XP
    have XQ := n_XQ
    have SP := n_SP
    have RP := n_RP
    have SQ := n_SQ
    have RQ := n_RQ
    clear n_XA n_XB n_BL n_XP n_XQ n_SP n_RP n_SQ n_RQ
    clear hb
    clear v0_0 v0_1 v0_2
    clear v1_0 v1_1 v1_2
    clear SP RP SQ RQ
    clear HS
    go_upto_region 17 with (fail)
    clear he_ hn_
    have v0_0 := (blk_cell XA.out 0).trans rfl
    have v0_1 := (blk_cell XA.out 1).trans rfl
    have v0_2 := (blk_cell XA.out 2).trans rfl
    have v1_0 := (blk_cell XB.out 0).trans rfl
    have v1_1 := (blk_cell XB.out 1).trans rfl
    have v1_2 := (blk_cell XB.out 2).trans rfl
    go_wp2_with fail
    refine (prod35 s0 A0 c0 n0 B0 b0 e0 s1 A1 c1 n1 B1 b1 e1 a2 r31 r32 r33 r34 V17 (Kd.C_below HN0.out BL.out) HLN0.out (Kd.C_below HE0.out BL.out) HLE0.out (Kd.C_below HN1.out BL.out) HLN1.out (Kd.C_below HE1.out BL.out) HLE1.out HP3.out).mono ?_
    rintro e_ V18 ⟨v1, v2, rfl, hs, hr, hb⟩
    obtain ⟨AP3, aP3, rfl⟩ := Kd.S_slice hs
    obtain ⟨BP3, bP3, rfl⟩ := Kd.R_slice hr
    have n_XA := Aside0.mk (blk_below XA.out hb)
    have n_XB := Aside0.mk (blk_below XB.out hb)
    have n_BL := Aside0.mk (BL.out.trans (Below.mono hb BL.out.size))
    have n_XP := Aside0.mk (blk_below XP.out hb)
    have n_XQ := Aside0.mk (blk_below XQ.out hb)
    clear XA XB BL XP XQ
    have XA := n_XA
    have XB := n_XB
    have BL := n_BL
    have XP := n_XP
    have XQ := n_XQ
    clear n_XA n_XB n_BL n_XP n_XQ
    have SP := Aside0.mk hs
    have RP := Aside0.mk hr
    clear hs hr hb
    clear v0_0 v0_1 v0_2
    clear v1_0 v1_1 v1_2
    have v0_0 := (blk_cell XP.out 0).trans rfl
    have v0_1 := (blk_cell XP.out 1).trans rfl
    have v0_2 := (blk_cell XP.out 2).trans rfl
    have m0_ := blk_frozen XP.out 0
    have m1_ := blk_frozen XP.out 1
    have m2_ := blk_frozen XP.out 2
    go_upto_region 18 with (fail)
    clear m0_ m1_ m2_
    clear v0_0 v0_1 v0_2
    obtain ⟨kp_, hb_, bl_⟩ := keeps_put3 BL.out (show w.heap.size ≤ gp by have := ORD.out; omega) XP.out (.int .i64 r31) (.slice AP3 r32.length aP3) (.slice BP3 r33.length bP3)
    have n_XA := put3_ne XA.out (show w.heap.size ≠ gp by have := ORD.out; omega) (.int .i64 r31) (.slice AP3 r32.length aP3) (.slice BP3 r33.length bP3)
    have n_XB := put3_ne XB.out (show w.heap.size + 1 ≠ gp by have := ORD.out; omega) (.int .i64 r31) (.slice AP3 r32.length aP3) (.slice BP3 r33.length bP3)
    have n_XQ := put3_ne XQ.out (show gq ≠ gp by have := ORD.out; omega) (.int .i64 r31) (.slice AP3 r32.length aP3) (.slice BP3 r33.length bP3)
    obtain ⟨V19, h_⟩ : ∃ W_, W_ = ((V18.setCell ⟨gp, 0, none⟩ (.int .i64 r31)).setCell ⟨gp, 1, none⟩ (.slice AP3 r32.length aP3)).setCell ⟨gp, 2, none⟩ (.slice BP3 r33.length bP3) := ⟨_, rfl⟩
    rw [← h_] at kp_ hb_ bl_ n_XA n_XB n_XQ ⊢
    have n_SP := Aside0.mk (S_keeps SP.out kp_ (by decide))
    clear SP
    have SP := n_SP
    clear n_SP
    have n_RP := Aside0.mk (R_keeps RP.out kp_ (by decide))
    clear RP
    have RP := n_RP
    clear n_RP
    clear XP
    have XP := Aside0.mk hb_
    clear BL
    have BL := Aside0.mk bl_
    clear XA
    have XA := Aside0.mk n_XA
    clear n_XA
    clear XB
    have XB := Aside0.mk n_XB
    clear n_XB
    clear XQ
    have XQ := Aside0.mk n_XQ
    clear n_XQ
    clear h_ kp_ hb_ bl_
    have v0_0 := (blk_cell XA.out 0).trans rfl
    have v0_1 := (blk_cell XA.out 1).trans rfl
    have v0_2 := (blk_cell XA.out 2).trans rfl
    have v1_0 := (blk_cell XB.out 0).trans rfl
    have v1_1 := (blk_cell XB.out 1).trans rfl
    have v1_2 := (blk_cell XB.out 2).trans rfl
    go_wp2_with fail
    refine (ref36 s0 A0 c0 n0 B0 b0 e0 s1 A1 c1 n1 B1 b1 e1 a2 r31 r32 r33 r34 V19 (Kd.C_below HN0.out BL.out) HLN0.out (Kd.C_below HE0.out BL.out) HLE0.out (Kd.C_below HN1.out BL.out) HLN1.out (Kd.C_below HE1.out BL.out) HLE1.out HP3.out).mono ?_
    rintro e_ V20 ⟨v1, v2, rfl, hs, hr, hb⟩
    obtain ⟨AQ3, aQ3, rfl⟩ := Kd.S_slice hs
    obtain ⟨BQ3, bQ3, rfl⟩ := Kd.R_slice hr
    have n_XA := Aside0.mk (blk_below XA.out hb)
    have n_XB := Aside0.mk (blk_below XB.out hb)
    have n_BL := Aside0.mk (BL.out.trans (Below.mono hb BL.out.size))
    have n_XP := Aside0.mk (blk_below XP.out hb)
    have n_XQ := Aside0.mk (blk_below XQ.out hb)
    have n_SP := Aside0.mk (Kd.S_below SP.out hb)
    have n_RP := Aside0.mk (Kd.R_below RP.out hb)
    clear XA XB BL XP XQ SP RP
    have XA := n_XA
    have XB := n_XB
    have BL := n_BL
    have XP := n_XP
    have XQ := n_XQ
    have SP := n_SP
    have RP := n_RP
    clear n_XA n_XB n_BL n_XP n_XQ n_SP n_RP
    have SQ := Aside0.mk hs
    have RQ := Aside0.mk hr
    clear hs hr hb
    clear v0_0 v0_1 v0_2
    clear v1_0 v1_1 v1_2
    have v0_0 := (blk_cell XQ.out 0).trans rfl
    have v0_1 := (blk_cell XQ.out 1).trans rfl
    have v0_2 := (blk_cell XQ.out 2).trans rfl
    have m0_ := blk_frozen XQ.out 0
    have m1_ := blk_frozen XQ.out 1
    have m2_ := blk_frozen XQ.out 2
    go_upto_region 19 with (fail)
    clear m0_ m1_ m2_
    clear v0_0 v0_1 v0_2
    obtain ⟨kp_, hb_, bl_⟩ := keeps_put3 BL.out (show w.heap.size ≤ gq by have := ORD.out; omega) XQ.out (.int .i64 r31) (.slice AQ3 r32.length aQ3) (.slice BQ3 r33.length bQ3)
    have n_XA := put3_ne XA.out (show w.heap.size ≠ gq by have := ORD.out; omega) (.int .i64 r31) (.slice AQ3 r32.length aQ3) (.slice BQ3 r33.length bQ3)
    have n_XB := put3_ne XB.out (show w.heap.size + 1 ≠ gq by have := ORD.out; omega) (.int .i64 r31) (.slice AQ3 r32.length aQ3) (.slice BQ3 r33.length bQ3)
    have n_XP := put3_ne XP.out (show gp ≠ gq by have := ORD.out; omega) (.int .i64 r31) (.slice AQ3 r32.length aQ3) (.slice BQ3 r33.length bQ3)
    obtain ⟨V21, h_⟩ : ∃ W_, W_ = ((V20.setCell ⟨gq, 0, none⟩ (.int .i64 r31)).setCell ⟨gq, 1, none⟩ (.slice AQ3 r32.length aQ3)).setCell ⟨gq, 2, none⟩ (.slice BQ3 r33.length bQ3) := ⟨_, rfl⟩
    rw [← h_] at kp_ hb_ bl_ n_XA n_XB n_XP ⊢
    have n_SP := Aside0.mk (S_keeps SP.out kp_ (by decide))
    clear SP
    have SP := n_SP
    clear n_SP
    have n_RP := Aside0.mk (R_keeps RP.out kp_ (by decide))
    clear RP
    have RP := n_RP
    clear n_RP
    have n_SQ := Aside0.mk (S_keeps SQ.out kp_ (by decide))
    clear SQ
    have SQ := n_SQ
    clear n_SQ
    have n_RQ := Aside0.mk (R_keeps RQ.out kp_ (by decide))
    clear RQ
    have RQ := n_RQ
    clear n_RQ
    clear XQ
    have XQ := Aside0.mk hb_
    clear BL
    have BL := Aside0.mk bl_
    clear XA
    have XA := Aside0.mk n_XA
    clear n_XA
    clear XB
    have XB := Aside0.mk n_XB
    clear n_XB
    clear XP
    have XP := Aside0.mk n_XP
    clear n_XP
    clear h_ kp_ hb_ bl_
    obtain ⟨ks, hks⟩ := same_ok r31 r32 r33 (A := AP3) (c := aP3) (B := BP3) (d := bP3) (W := V21) ⟨(Kd.S_reads' SP.out).2.1, (Kd.S_reads' SP.out).2.2, (Kd.R_reads' RP.out).2.1, (Kd.R_reads' RP.out).2.2⟩
    have HS := Aside0.mk hks
    clear hks
    have he_ : (r34 == r34) = true := beq_self_eq_true _
    have hn_ : (r34 != r34) = false := by simp
    have v0_0 := (blk_cell XP.out 0).trans rfl
    have v0_1 := (blk_cell XP.out 1).trans rfl
    have v0_2 := (blk_cell XP.out 2).trans rfl
    have v1_0 := (blk_cell XQ.out 0).trans rfl
    have v1_1 := (blk_cell XQ.out 1).trans rfl
    have v1_2 := (blk_cell XQ.out 2).trans rfl
    go_wp2_with fail
    refine (caesuraref15_Same.calls ks r31 AP3 aP3 r32 BP3 bP3 r33 r31 AQ3 aQ3 r32 BQ3 bQ3 r33 true V21 (Kd.S_reads' SP.out).2.2 (Kd.S_reads' SP.out).2.1 (Kd.R_reads' RP.out).2.2 (Kd.R_reads' RP.out).2.1 (Kd.S_reads' SQ.out).2.2 (Kd.S_reads' SQ.out).2.1 (Kd.R_reads' RQ.out).2.2 (Kd.R_reads' RQ.out).2.1 HS.out).mono ?_
    rintro e_ V22 ⟨rfl, hb⟩
    have n_XA := Aside0.mk (blk_below XA.out hb)
    have n_XB := Aside0.mk (blk_below XB.out hb)
    have n_BL := Aside0.mk (BL.out.trans (Below.mono hb BL.out.size))
    have n_XP := Aside0.mk (blk_below XP.out hb)
    have n_XQ := Aside0.mk (blk_below XQ.out hb)
    have n_SP := Aside0.mk (Kd.S_below SP.out hb)
    have n_RP := Aside0.mk (Kd.R_below RP.out hb)
    have n_SQ := Aside0.mk (Kd.S_below SQ.out hb)
    have n_RQ := Aside0.mk (Kd.R_below RQ.out hb)
    clear XA XB BL XP XQ SP RP SQ RQ
    have XA := n_XA
    have XB := n_XB
    have BL := n_BL
    have XP := n_XP
    have XQ := n_XQ
    have SP := n_SP
    have RP := n_RP
    have SQ := n_SQ
    have RQ := n_RQ
    clear n_XA n_XB n_BL n_XP n_XQ n_SP n_RP n_SQ n_RQ
    clear hb
    clear v0_0 v0_1 v0_2
    clear v1_0 v1_1 v1_2
    go_wp2_with fail
    go_ret
    exact ⟨rfl, BL.out⟩
end Go.Proofs.Ytpedenbcfbflbaa.X
