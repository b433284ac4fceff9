/- CalcLaws: the law answers true, whatever it is asked. -/
import Derived.Test.YtpedenbcfbflbaaXCalcPure
namespace Go.Proofs.Ytpedenbcfbflbaa.X
open Go.RowKit Go.Proofs.YtpedenbcfbflbaaW.PrintWords Go.Proofs.YtpedenbcfbflbaaW.PrintLast Go.Proofs.YtpedenbcfbflbaaW.PrintMore Go.Maps Num Go.Proofs.Ytpedenbcfbflbaa.PMarkMakes
set_option linter.unusedVariables false
set_option linter.unusedSimpArgs false

theorem same_ok (s1 : Int) (n1 : List (List Int)) (e1 : List Bool) {A : Option Addr} {c : Nat} {B : Option Addr} {d : Nat} {W : World} (g : Got 0 A c n1 B d e1 W) : ∃ k, caesuraref15_Same.f k s1 n1 e1 s1 n1 e1 = some true := by
  obtain ⟨h1, h2, h3⟩ := g.rows_max
  obtain ⟨k, hk⟩ := same_f s1 n1 e1 s1 n1 e1 h1 h2 h3
  exact ⟨k, by simpa using hk⟩
/-- All that CalcLaws makes, beside the walk. -/
structure LawsF (s : Int) (n1 : List (List Int)) (e1 : List Bool) (n2 : List (List Int)) (e2 : List Bool) (rows : List (List Int)) (eo ea el x y z : List Bool) (Eo Ea Eb En : Bool) : Prop where
  h1 : rightB s n1 e1 = true
  h2 : rightB s n2 e2 = true
  po : prodF (fun a b => a || b) s n1 e1 s n2 e2 3000 = (s, rows, eo, 0)
  pa : prodF (fun a b => a && b) s n1 e1 s n2 e2 3000 = (s, rows, ea, 0)
  pl : prodF (fun a b => a && !b) s n1 e1 s n2 e2 3000 = (s, rows, el, 0)
  pw : prodF (fun a b => a && b) s n1 x s n2 y 3000 = (s, rows, z, 0)
  pv : prodF (fun a b => a && b) s n1 e1 s n2 y 3000 = (s, rows, el, 0)
  nx : notF s n1 e1 = (s, n1, x, 0)
  ny : notF s n2 e2 = (s, n2, y, 0)
  nz : notF s rows eo = (s, rows, z, 0)
  nb : notF s n1 x = (s, n1, e1, 0)
  fo : if rightB s rows eo then (Eo = true ↔ NoneAcc s rows eo) else Eo = false
  fa : if rightB s n1 e1 then (Ea = true ↔ NoneAcc s n1 e1) else Ea = false
  fb : if rightB s n2 e2 then (Eb = true ↔ NoneAcc s n2 e2) else Eb = false
  fn : if rightB s rows ea then (En = true ↔ NoneAcc s rows ea) else En = false
  o1 : Eo = true → Ea = true ∧ Eb = true
  o2 : Ea = true → En = true
theorem laws_some {s : Int} {n1 : List (List Int)} {e1 : List Bool} {n2 : List (List Int)} {e2 : List Bool} (h1 : rightB s n1 e1 = true) (h2 : rightB s n2 e2 = true) (hm : n1.length * n2.length ≤ 3000) : ∃ rows eo ea el x y z Eo Ea Eb En, LawsF s n1 e1 n2 e2 rows eo ea el x y z Eo Ea Eb En := by
  obtain ⟨l, rows, P⟩ := pairs_some (most := 3000) h1 h2 (by omega) (by decide)
  have hx := right_map h1 (!·)
  have hy := right_map h2 (!·)
  obtain ⟨ro, ao⟩ := P.acc h1 (e2 := e2) (by decide) (by decide) (fun a b => a || b)
  obtain ⟨ra, aa⟩ := P.acc h1 (e2 := e2) (by decide) (by decide) (fun a b => a && b)
  refine ⟨rows, endsP (fun a b => a || b) e1 e2 l, endsP (fun a b => a && b) e1 e2 l, endsP (fun a b => a && !b) e1 e2 l, e1.map (!·), e2.map (!·), endsP (fun a b => a && b) (e1.map (!·)) (e2.map (!·)) l, emptyF s rows (endsP (fun a b => a || b) e1 e2 l), emptyF s n1 e1, emptyF s n2 e2, emptyF s rows (endsP (fun a b => a && b) e1 e2 l), h1, h2, P.prod h1 h2 (by decide) (by decide) _, P.prod h1 h2 (by decide) (by decide) _, P.prod h1 h2 (by decide) (by decide) _, P.prod hx hy (by decide) (by decide) _, ?_, notF_not h1, notF_not h2, ?_, ?_, emptyF_res _ _ _, emptyF_res _ _ _, emptyF_res _ _ _, emptyF_res _ _ _, fun h => ?_, fun h => ?_⟩
  · rw [P.prod h1 hy (by decide) (by decide), P.ends_less h2]
  · rw [notF_not ro, P.ends_not h1 h2]
  · rw [notF_not hx, map_not_not]
  · have hn := (emptyF_iff ro).1 h
    refine ⟨emptyF_of h1 fun w hw => ?_, emptyF_of h2 fun w hw => ?_⟩
    · have := hn w hw
      rw [ao w hw] at this
      exact (Bool.or_eq_false_iff.1 this).1
    · have := hn w hw
      rw [ao w hw] at this
      exact (Bool.or_eq_false_iff.1 this).2
  · have hn := (emptyF_iff h1).1 h
    refine emptyF_of ra fun w hw => ?_
    rw [aa w hw, hn w hw]
    rfl
set_option maxHeartbeats 8000000 in
set_option maxRecDepth 100000 in
theorem CalcLaws_main (s0 : Int) (A0 : Option Addr) (c0 : Nat) (n0 : List (List Int)) (B0 : Option Addr) (b0 : Nat) (e0 : List Bool) (A1 : Option Addr) (c1 : Nat) (n1 : List (List Int)) (B1 : Option Addr) (b1 : Nat) (e1 : List Bool) (w : World)
    (g0 : Got 0 A0 c0 n0 B0 b0 e0 w) (g1 : Got 0 A1 c1 n1 B1 b1 e1 w) (kg kh : Nat) (hkg : caesuraref15_Great.f kg s0 n0 e0 60 = some false) (hkh : caesuraref15_Great.f kh s0 n1 e1 60 = some false) (rows : List (List Int)) (eo ea el x y z : List Bool) (Eo Ea Eb En : Bool) (F : LawsF s0 n0 e0 n1 e1 rows eo ea el x y z Eo Ea Eb En) :
    Calls Try.prog 11 #[.agg #[.int .i64 s0, .slice A0 n0.length c0, .slice B0 e0.length b0], .agg #[.int .i64 s0, .slice A1 n1.length c1, .slice B1 e1.length b1]] w fun e w' => e = .returned (.bool true) ∧ Below w.heap.size w w' := by
  have hu25 := Try.underlying25
  have FF := Aside0.mk F
  have o1 := F.o1
  have o2 := F.o2
  have HGR := Aside0.mk hkg
  have HGS := Aside0.mk hkh
  have hne : (s0 != s0) = false := by simp
  clear F hkg hkh
  go_enter Try.func11, Try.ntmps11
  go_upto_region 1 with (fail)
  obtain ⟨W, hW⟩ : ∃ W, W = (w.alloc (.cells #[.int .i64 s0, .slice A0 n0.length c0, .slice B0 e0.length b0] 25)).alloc (.cells #[.int .i64 s0, .slice A1 n1.length c1, .slice B1 e1.length b1] 25) := ⟨_, rfl⟩
  have hx_ : W.heap[w.heap.size]? = some (.cells #[.int .i64 s0, .slice A0 n0.length c0, .slice B0 e0.length b0] 25 (0, 0)) := by rw [hW]; exact blk_alloc (blk_new _ _) _
  have hy_ : W.heap[w.heap.size + 1]? = some (.cells #[.int .i64 s0, .slice A1 n1.length c1, .slice B1 e1.length b1] 25 (0, 0)) := by
    have h := blk_new (w.alloc (.cells #[.int .i64 s0, .slice A0 n0.length c0, .slice B0 e0.length b0] 25)) (.cells #[.int .i64 s0, .slice A1 n1.length c1, .slice B1 e1.length b1] 25)
    rw [hW]; simpa using h
  have hbl : Below w.heap.size w W := by rw [hW]; exact below_alloc (below_alloc (Below.refl _ _) _) _
  rw [← hW]
  have G0 := Aside0.mk (g0.below hbl)
  have G1 := Aside0.mk (g1.below hbl)
  have XA := Aside0.mk hx_
  have XB := Aside0.mk hy_
  have BL := Aside0.mk hbl
  clear hW hx_ hy_ hbl g0 g1
  go_wp2_with fail
  refine (alive27 W).mono ?_
  rintro e_ V1 ⟨rfl, hb⟩
  have n_G0 := Aside0.mk (Got.below G0.out hb)
  have n_G1 := Aside0.mk (Got.below G1.out hb)
  have n_XA := Aside0.mk (blk_below XA.out hb)
  have n_XB := Aside0.mk (blk_below XB.out hb)
  have n_BL := Aside0.mk (BL.out.trans (Below.mono hb BL.out.size))
  clear G0 G1 XA XB BL
  have G0 := n_G0
  have G1 := n_G1
  have XA := n_XA
  have XB := n_XB
  have BL := n_BL
  clear n_G0 n_G1 n_XA n_XB n_BL
  clear hb
  have v0_0 := (blk_cell XA.out 0).trans rfl
  have v0_1 := (blk_cell XA.out 1).trans rfl
  have v0_2 := (blk_cell XA.out 2).trans rfl
  go_wp2_with fail
  refine (caesuraref15_Great.calls kg s0 A0 c0 n0 B0 b0 e0 60 false V1 G0.out.n2 G0.out.n1 G0.out.e2 G0.out.e1 HGR.out).mono ?_
  rintro e_ V2 ⟨rfl, hb⟩
  have n_G0 := Aside0.mk (Got.below G0.out hb)
  have n_G1 := Aside0.mk (Got.below G1.out hb)
  have n_XA := Aside0.mk (blk_below XA.out hb)
  have n_XB := Aside0.mk (blk_below XB.out hb)
  have n_BL := Aside0.mk (BL.out.trans (Below.mono hb BL.out.size))
  clear G0 G1 XA XB BL
  have G0 := n_G0
  have G1 := n_G1
  have XA := n_XA
  have XB := n_XB
  have BL := n_BL
  clear n_G0 n_G1 n_XA n_XB n_BL
  clear hb
  clear v0_0 v0_1 v0_2
  have v0_0 := (blk_cell XB.out 0).trans rfl
  have v0_1 := (blk_cell XB.out 1).trans rfl
  have v0_2 := (blk_cell XB.out 2).trans rfl
  go_wp2_with fail
  refine (caesuraref15_Great.calls kh s0 A1 c1 n1 B1 b1 e1 60 false V2 G1.out.n2 G1.out.n1 G1.out.e2 G1.out.e1 HGS.out).mono ?_
  rintro e_ V3 ⟨rfl, hb⟩
  have n_G0 := Aside0.mk (Got.below G0.out hb)
  have n_G1 := Aside0.mk (Got.below G1.out hb)
  have n_XA := Aside0.mk (blk_below XA.out hb)
  have n_XB := Aside0.mk (blk_below XB.out hb)
  have n_BL := Aside0.mk (BL.out.trans (Below.mono hb BL.out.size))
  clear G0 G1 XA XB BL
  have G0 := n_G0
  have G1 := n_G1
  have XA := n_XA
  have XB := n_XB
  have BL := n_BL
  clear n_G0 n_G1 n_XA n_XB n_BL
  clear hb
  clear v0_0 v0_1 v0_2
  have HR1 : Aside0 (L.rightx.f s0 n0 e0 = some true) := ⟨by unfold L.rightx.f; rw [FF.out.h1]⟩
  have HR2 : Aside0 (L.rightx.f s0 n1 e1 = some true) := ⟨by unfold L.rightx.f; rw [FF.out.h2]⟩
  have v0_0 := (blk_cell XA.out 0).trans rfl
  have v0_1 := (blk_cell XA.out 1).trans rfl
  have v0_2 := (blk_cell XA.out 2).trans rfl
  go_wp2_with fail
  refine (L.rightx.calls s0 A0 c0 n0 B0 b0 e0 true V3 G0.out.n2 G0.out.n1 G0.out.e2 G0.out.e1 HR1.out).mono ?_
  rintro e_ V4 ⟨rfl, hb⟩
  have n_G0 := Aside0.mk (Got.below G0.out hb)
  have n_G1 := Aside0.mk (Got.below G1.out hb)
  have n_XA := Aside0.mk (blk_below XA.out hb)
  have n_XB := Aside0.mk (blk_below XB.out hb)
  have n_BL := Aside0.mk (BL.out.trans (Below.mono hb BL.out.size))
  clear G0 G1 XA XB BL
  have G0 := n_G0
  have G1 := n_G1
  have XA := n_XA
  have XB := n_XB
  have BL := n_BL
  clear n_G0 n_G1 n_XA n_XB n_BL
  clear hb
  clear v0_0 v0_1 v0_2
  have v0_0 := (blk_cell XB.out 0).trans rfl
  have v0_1 := (blk_cell XB.out 1).trans rfl
  have v0_2 := (blk_cell XB.out 2).trans rfl
  go_wp2_with fail
  refine (L.rightx.calls s0 A1 c1 n1 B1 b1 e1 true V4 G1.out.n2 G1.out.n1 G1.out.e2 G1.out.e1 HR2.out).mono ?_
  rintro e_ V5 ⟨rfl, hb⟩
  have n_G0 := Aside0.mk (Got.below G0.out hb)
  have n_G1 := Aside0.mk (Got.below G1.out hb)
  have n_XA := Aside0.mk (blk_below XA.out hb)
  have n_XB := Aside0.mk (blk_below XB.out hb)
  have n_BL := Aside0.mk (BL.out.trans (Below.mono hb BL.out.size))
  clear G0 G1 XA XB BL
  have G0 := n_G0
  have G1 := n_G1
  have XA := n_XA
  have XB := n_XB
  have BL := n_BL
  clear n_G0 n_G1 n_XA n_XB n_BL
  clear hb
  clear v0_0 v0_1 v0_2
  have v0_0 := (blk_cell XA.out 0).trans rfl
  have v0_1 := (blk_cell XA.out 1).trans rfl
  have v0_2 := (blk_cell XA.out 2).trans rfl
  have v1_0 := (blk_cell XB.out 0).trans rfl
  have v1_1 := (blk_cell XB.out 1).trans rfl
  have v1_2 := (blk_cell XB.out 2).trans rfl
  go_wp2_with fail
  refine (prod29 s0 A0 c0 n0 B0 b0 e0 s0 A1 c1 n1 B1 b1 e1 3000 s0 rows eo 0 V5 G0.out.n2 G0.out.n1 G0.out.e2 G0.out.e1 G1.out.n2 G1.out.n1 G1.out.e2 G1.out.e1 FF.out.po).mono ?_
  rintro e_ V6 ⟨v1, v2, rfl, hs, hr, hb⟩
  obtain ⟨Po, po, rfl⟩ := Kd.S_slice hs
  obtain ⟨Qo, qo, rfl⟩ := Kd.R_slice hr
  have Go : Aside0 (Got 0 Po po rows Qo qo eo V6) := ⟨⟨(Kd.S_reads' hs).2.1, (Kd.S_reads' hs).2.2, (Kd.R_reads' hr).2.1, (Kd.R_reads' hr).2.2⟩⟩
  have n_G0 := Aside0.mk (Got.below G0.out hb)
  have n_G1 := Aside0.mk (Got.below G1.out hb)
  have n_XA := Aside0.mk (blk_below XA.out hb)
  have n_XB := Aside0.mk (blk_below XB.out hb)
  have n_BL := Aside0.mk (BL.out.trans (Below.mono hb BL.out.size))
  clear G0 G1 XA XB BL
  have G0 := n_G0
  have G1 := n_G1
  have XA := n_XA
  have XB := n_XB
  have BL := n_BL
  clear n_G0 n_G1 n_XA n_XB n_BL
  clear hs hr hb
  clear v0_0 v0_1 v0_2
  clear v1_0 v1_1 v1_2
  go_upto_region 6 with (fail)
  obtain ⟨V7, h_⟩ : ∃ W_, W_ = V6.alloc (.cells #[.int .i64 s0, .slice Po rows.length po, .slice Qo eo.length qo] 25) := ⟨_, rfl⟩
  have hb_ : Below V6.heap.size V6 V7 := by rw [h_]; exact below_alloc (Below.refl _ _) _
  have hx_ : V7.heap[V6.heap.size]? = some (.cells #[.int .i64 s0, .slice Po rows.length po, .slice Qo eo.length qo] 25 (0, 0)) := by rw [h_]; exact blk_new _ _
  rw [← h_]
  clear h_
  have n_G0 := Aside0.mk (Got.below G0.out hb_)
  have n_G1 := Aside0.mk (Got.below G1.out hb_)
  have n_XA := Aside0.mk (blk_below XA.out hb_)
  have n_XB := Aside0.mk (blk_below XB.out hb_)
  have n_BL := Aside0.mk (BL.out.trans (Below.mono hb_ BL.out.size))
  have n_Go := Aside0.mk (Got.below Go.out hb_)
  clear G0 G1 XA XB BL Go
  have G0 := n_G0
  have G1 := n_G1
  have XA := n_XA
  have XB := n_XB
  have BL := n_BL
  have Go := n_Go
  clear n_G0 n_G1 n_XA n_XB n_BL n_Go
  clear hb_
  obtain ⟨go, e_⟩ : ∃ g_, g_ = V6.heap.size := ⟨_, rfl⟩
  rw [← e_] at hx_ ⊢
  clear e_
  have Bo := Aside0.mk hx_
  clear hx_
  have v0_0 := (blk_cell XA.out 0).trans rfl
  have v0_1 := (blk_cell XA.out 1).trans rfl
  have v0_2 := (blk_cell XA.out 2).trans rfl
  have v1_0 := (blk_cell XB.out 0).trans rfl
  have v1_1 := (blk_cell XB.out 1).trans rfl
  have v1_2 := (blk_cell XB.out 2).trans rfl
  go_wp2_with fail
  refine (prod31 s0 A0 c0 n0 B0 b0 e0 s0 A1 c1 n1 B1 b1 e1 3000 s0 rows ea 0 V7 G0.out.n2 G0.out.n1 G0.out.e2 G0.out.e1 G1.out.n2 G1.out.n1 G1.out.e2 G1.out.e1 FF.out.pa).mono ?_
  rintro e_ V8 ⟨v1, v2, rfl, hs, hr, hb⟩
  obtain ⟨Pa, pa, rfl⟩ := Kd.S_slice hs
  obtain ⟨Qa, qa, rfl⟩ := Kd.R_slice hr
  have Ga : Aside0 (Got 0 Pa pa rows Qa qa ea V8) := ⟨⟨(Kd.S_reads' hs).2.1, (Kd.S_reads' hs).2.2, (Kd.R_reads' hr).2.1, (Kd.R_reads' hr).2.2⟩⟩
  have n_G0 := Aside0.mk (Got.below G0.out hb)
  have n_G1 := Aside0.mk (Got.below G1.out hb)
  have n_XA := Aside0.mk (blk_below XA.out hb)
  have n_XB := Aside0.mk (blk_below XB.out hb)
  have n_BL := Aside0.mk (BL.out.trans (Below.mono hb BL.out.size))
  have n_Go := Aside0.mk (Got.below Go.out hb)
  have n_Bo := Aside0.mk (blk_below Bo.out hb)
  clear G0 G1 XA XB BL Go Bo
  have G0 := n_G0
  have G1 := n_G1
  have XA := n_XA
  have XB := n_XB
  have BL := n_BL
  have Go := n_Go
  have Bo := n_Bo
  clear n_G0 n_G1 n_XA n_XB n_BL n_Go n_Bo
  clear hs hr hb
  clear v0_0 v0_1 v0_2
  clear v1_0 v1_1 v1_2
  go_upto_region 7 with (fail)
  obtain ⟨V9, h_⟩ : ∃ W_, W_ = V8.alloc (.cells #[.int .i64 s0, .slice Pa rows.length pa, .slice Qa ea.length qa] 25) := ⟨_, rfl⟩
  have hb_ : Below V8.heap.size V8 V9 := by rw [h_]; exact below_alloc (Below.refl _ _) _
  have hx_ : V9.heap[V8.heap.size]? = some (.cells #[.int .i64 s0, .slice Pa rows.length pa, .slice Qa ea.length qa] 25 (0, 0)) := by rw [h_]; exact blk_new _ _
  rw [← h_]
  clear h_
  have n_G0 := Aside0.mk (Got.below G0.out hb_)
  have n_G1 := Aside0.mk (Got.below G1.out hb_)
  have n_XA := Aside0.mk (blk_below XA.out hb_)
  have n_XB := Aside0.mk (blk_below XB.out hb_)
  have n_BL := Aside0.mk (BL.out.trans (Below.mono hb_ BL.out.size))
  have n_Go := Aside0.mk (Got.below Go.out hb_)
  have n_Bo := Aside0.mk (blk_below Bo.out hb_)
  have n_Ga := Aside0.mk (Got.below Ga.out hb_)
  clear G0 G1 XA XB BL Go Bo Ga
  have G0 := n_G0
  have G1 := n_G1
  have XA := n_XA
  have XB := n_XB
  have BL := n_BL
  have Go := n_Go
  have Bo := n_Bo
  have Ga := n_Ga
  clear n_G0 n_G1 n_XA n_XB n_BL n_Go n_Bo n_Ga
  clear hb_
  obtain ⟨ga, e_⟩ : ∃ g_, g_ = V8.heap.size := ⟨_, rfl⟩
  rw [← e_] at hx_ ⊢
  clear e_
  have Ba := Aside0.mk hx_
  clear hx_
  have v0_0 := (blk_cell XA.out 0).trans rfl
  have v0_1 := (blk_cell XA.out 1).trans rfl
  have v0_2 := (blk_cell XA.out 2).trans rfl
  go_wp2_with fail
  refine (calc_not_got s0 A0 c0 n0 B0 b0 e0 V9 G0.out s0 n0 x 0 FF.out.nx).mono ?_
  rintro e_ V10 ⟨Px, px, Qx, qx, rfl, hg, hb⟩
  have n_G0 := Aside0.mk (Got.below G0.out hb)
  have n_G1 := Aside0.mk (Got.below G1.out hb)
  have n_XA := Aside0.mk (blk_below XA.out hb)
  have n_XB := Aside0.mk (blk_below XB.out hb)
  have n_BL := Aside0.mk (BL.out.trans (Below.mono hb BL.out.size))
  have n_Go := Aside0.mk (Got.below Go.out hb)
  have n_Bo := Aside0.mk (blk_below Bo.out hb)
  have n_Ga := Aside0.mk (Got.below Ga.out hb)
  have n_Ba := Aside0.mk (blk_below Ba.out hb)
  clear G0 G1 XA XB BL Go Bo Ga Ba
  have G0 := n_G0
  have G1 := n_G1
  have XA := n_XA
  have XB := n_XB
  have BL := n_BL
  have Go := n_Go
  have Bo := n_Bo
  have Ga := n_Ga
  have Ba := n_Ba
  clear n_G0 n_G1 n_XA n_XB n_BL n_Go n_Bo n_Ga n_Ba
  have Gx := Aside0.mk hg
  clear hg hb
  clear v0_0 v0_1 v0_2
  go_upto_region 8 with (fail)
  obtain ⟨V11, h_⟩ : ∃ W_, W_ = V10.alloc (.cells #[.int .i64 s0, .slice Px n0.length px, .slice Qx x.length qx] 25) := ⟨_, rfl⟩
  have hb_ : Below V10.heap.size V10 V11 := by rw [h_]; exact below_alloc (Below.refl _ _) _
  have hx_ : V11.heap[V10.heap.size]? = some (.cells #[.int .i64 s0, .slice Px n0.length px, .slice Qx x.length qx] 25 (0, 0)) := by rw [h_]; exact blk_new _ _
  rw [← h_]
  clear h_
  have n_G0 := Aside0.mk (Got.below G0.out hb_)
  have n_G1 := Aside0.mk (Got.below G1.out hb_)
  have n_XA := Aside0.mk (blk_below XA.out hb_)
  have n_XB := Aside0.mk (blk_below XB.out hb_)
  have n_BL := Aside0.mk (BL.out.trans (Below.mono hb_ BL.out.size))
  have n_Go := Aside0.mk (Got.below Go.out hb_)
  have n_Bo := Aside0.mk (blk_below Bo.out hb_)
  have n_Ga := Aside0.mk (Got.below Ga.out hb_)
  have n_Ba := Aside0.mk (blk_below Ba.out hb_)
  have n_Gx := Aside0.mk (Got.below Gx.out hb_)
  clear G0 G1 XA XB BL Go Bo Ga Ba Gx
  have G0 := n_G0
  have G1 := n_G1
  have XA := n_XA
  have XB := n_XB
  have BL := n_BL
  have Go := n_Go
  have Bo := n_Bo
  have Ga := n_Ga
  have Ba := n_Ba
  have Gx := n_Gx
  clear n_G0 n_G1 n_XA n_XB n_BL n_Go n_Bo n_Ga n_Ba n_Gx
  clear hb_
  obtain ⟨gx, e_⟩ : ∃ g_, g_ = V10.heap.size := ⟨_, rfl⟩
  rw [← e_] at hx_ ⊢
  clear e_
  have Bx := Aside0.mk hx_
  clear hx_
  have v0_0 := (blk_cell XB.out 0).trans rfl
  have v0_1 := (blk_cell XB.out 1).trans rfl
  have v0_2 := (blk_cell XB.out 2).trans rfl
  go_wp2_with fail
  refine (calc_not_got s0 A1 c1 n1 B1 b1 e1 V11 G1.out s0 n1 y 0 FF.out.ny).mono ?_
  rintro e_ V12 ⟨Py, py, Qy, qy, rfl, hg, hb⟩
  have n_G0 := Aside0.mk (Got.below G0.out hb)
  have n_G1 := Aside0.mk (Got.below G1.out hb)
  have n_XA := Aside0.mk (blk_below XA.out hb)
  have n_XB := Aside0.mk (blk_below XB.out hb)
  have n_BL := Aside0.mk (BL.out.trans (Below.mono hb BL.out.size))
  have n_Go := Aside0.mk (Got.below Go.out hb)
  have n_Bo := Aside0.mk (blk_below Bo.out hb)
  have n_Ga := Aside0.mk (Got.below Ga.out hb)
  have n_Ba := Aside0.mk (blk_below Ba.out hb)
  have n_Gx := Aside0.mk (Got.below Gx.out hb)
  have n_Bx := Aside0.mk (blk_below Bx.out hb)
  clear G0 G1 XA XB BL Go Bo Ga Ba Gx Bx
  have G0 := n_G0
  have G1 := n_G1
  have XA := n_XA
  have XB := n_XB
  have BL := n_BL
  have Go := n_Go
  have Bo := n_Bo
  have Ga := n_Ga
  have Ba := n_Ba
  have Gx := n_Gx
  have Bx := n_Bx
  clear n_G0 n_G1 n_XA n_XB n_BL n_Go n_Bo n_Ga n_Ba n_Gx n_Bx
  have Gy := Aside0.mk hg
  clear hg hb
  clear v0_0 v0_1 v0_2
  go_upto_region 9 with (fail)
  obtain ⟨V13, h_⟩ : ∃ W_, W_ = V12.alloc (.cells #[.int .i64 s0, .slice Py n1.length py, .slice Qy y.length qy] 25) := ⟨_, rfl⟩
  have hb_ : Below V12.heap.size V12 V13 := by rw [h_]; exact below_alloc (Below.refl _ _) _
  have hx_ : V13.heap[V12.heap.size]? = some (.cells #[.int .i64 s0, .slice Py n1.length py, .slice Qy y.length qy] 25 (0, 0)) := by rw [h_]; exact blk_new _ _
  rw [← h_]
  clear h_
  have n_G0 := Aside0.mk (Got.below G0.out hb_)
  have n_G1 := Aside0.mk (Got.below G1.out hb_)
  have n_XA := Aside0.mk (blk_below XA.out hb_)
  have n_XB := Aside0.mk (blk_below XB.out hb_)
  have n_BL := Aside0.mk (BL.out.trans (Below.mono hb_ BL.out.size))
  have n_Go := Aside0.mk (Got.below Go.out hb_)
  have n_Bo := Aside0.mk (blk_below Bo.out hb_)
  have n_Ga := Aside0.mk (Got.below Ga.out hb_)
  have n_Ba := Aside0.mk (blk_below Ba.out hb_)
  have n_Gx := Aside0.mk (Got.below Gx.out hb_)
  have n_Bx := Aside0.mk (blk_below Bx.out hb_)
  have n_Gy := Aside0.mk (Got.below Gy.out hb_)
  clear G0 G1 XA XB BL Go Bo Ga Ba Gx Bx Gy
  have G0 := n_G0
  have G1 := n_G1
  have XA := n_XA
  have XB := n_XB
  have BL := n_BL
  have Go := n_Go
  have Bo := n_Bo
  have Ga := n_Ga
  have Ba := n_Ba
  have Gx := n_Gx
  have Bx := n_Bx
  have Gy := n_Gy
  clear n_G0 n_G1 n_XA n_XB n_BL n_Go n_Bo n_Ga n_Ba n_Gx n_Bx n_Gy
  clear hb_
  obtain ⟨gy, e_⟩ : ∃ g_, g_ = V12.heap.size := ⟨_, rfl⟩
  rw [← e_] at hx_ ⊢
  clear e_
  have By := Aside0.mk hx_
  clear hx_
  have v0_0 := (blk_cell Bo.out 0).trans rfl
  have v0_1 := (blk_cell Bo.out 1).trans rfl
  have v0_2 := (blk_cell Bo.out 2).trans rfl
  go_wp2_with fail
  refine (calc_not_got s0 Po po rows Qo qo eo V13 Go.out s0 rows z 0 FF.out.nz).mono ?_
  rintro e_ V14 ⟨Pz, pz, Qz, qz, rfl, hg, hb⟩
  have n_G0 := Aside0.mk (Got.below G0.out hb)
  have n_G1 := Aside0.mk (Got.below G1.out hb)
  have n_XA := Aside0.mk (blk_below XA.out hb)
  have n_XB := Aside0.mk (blk_below XB.out hb)
  have n_BL := Aside0.mk (BL.out.trans (Below.mono hb BL.out.size))
  have n_Go := Aside0.mk (Got.below Go.out hb)
  have n_Bo := Aside0.mk (blk_below Bo.out hb)
  have n_Ga := Aside0.mk (Got.below Ga.out hb)
  have n_Ba := Aside0.mk (blk_below Ba.out hb)
  have n_Gx := Aside0.mk (Got.below Gx.out hb)
  have n_Bx := Aside0.mk (blk_below Bx.out hb)
  have n_Gy := Aside0.mk (Got.below Gy.out hb)
  have n_By := Aside0.mk (blk_below By.out hb)
  clear G0 G1 XA XB BL Go Bo Ga Ba Gx Bx Gy By
  have G0 := n_G0
  have G1 := n_G1
  have XA := n_XA
  have XB := n_XB
  have BL := n_BL
  have Go := n_Go
  have Bo := n_Bo
  have Ga := n_Ga
  have Ba := n_Ba
  have Gx := n_Gx
  have Bx := n_Bx
  have Gy := n_Gy
  have By := n_By
  clear n_G0 n_G1 n_XA n_XB n_BL n_Go n_Bo n_Ga n_Ba n_Gx n_Bx n_Gy n_By
  have Gz := Aside0.mk hg
  clear hg hb
  clear v0_0 v0_1 v0_2
  go_upto_region 12 with (fail)
  obtain ⟨V15, h_⟩ : ∃ W_, W_ = V14.alloc (.cells #[.int .i64 s0, .slice Pz rows.length pz, .slice Qz z.length qz] 25) := ⟨_, rfl⟩
  have hb_ : Below V14.heap.size V14 V15 := by rw [h_]; exact below_alloc (Below.refl _ _) _
  have hx_ : V15.heap[V14.heap.size]? = some (.cells #[.int .i64 s0, .slice Pz rows.length pz, .slice Qz z.length qz] 25 (0, 0)) := by rw [h_]; exact blk_new _ _
  rw [← h_]
  clear h_
  have n_G0 := Aside0.mk (Got.below G0.out hb_)
  have n_G1 := Aside0.mk (Got.below G1.out hb_)
  have n_XA := Aside0.mk (blk_below XA.out hb_)
  have n_XB := Aside0.mk (blk_below XB.out hb_)
  have n_BL := Aside0.mk (BL.out.trans (Below.mono hb_ BL.out.size))
  have n_Go := Aside0.mk (Got.below Go.out hb_)
  have n_Bo := Aside0.mk (blk_below Bo.out hb_)
  have n_Ga := Aside0.mk (Got.below Ga.out hb_)
  have n_Ba := Aside0.mk (blk_below Ba.out hb_)
  have n_Gx := Aside0.mk (Got.below Gx.out hb_)
  have n_Bx := Aside0.mk (blk_below Bx.out hb_)
  have n_Gy := Aside0.mk (Got.below Gy.out hb_)
  have n_By := Aside0.mk (blk_below By.out hb_)
  have n_Gz := Aside0.mk (Got.below Gz.out hb_)
  clear G0 G1 XA XB BL Go Bo Ga Ba Gx Bx Gy By Gz
  have G0 := n_G0
  have G1 := n_G1
  have XA := n_XA
  have XB := n_XB
  have BL := n_BL
  have Go := n_Go
  have Bo := n_Bo
  have Ga := n_Ga
  have Ba := n_Ba
  have Gx := n_Gx
  have Bx := n_Bx
  have Gy := n_Gy
  have By := n_By
  have Gz := n_Gz
  clear n_G0 n_G1 n_XA n_XB n_BL n_Go n_Bo n_Ga n_Ba n_Gx n_Bx n_Gy n_By n_Gz
  clear hb_
  obtain ⟨gz, e_⟩ : ∃ g_, g_ = V14.heap.size := ⟨_, rfl⟩
  rw [← e_] at hx_ ⊢
  clear e_
  have Bz := Aside0.mk hx_
  clear hx_
  have v0_0 := (blk_cell Bx.out 0).trans rfl
  have v0_1 := (blk_cell Bx.out 1).trans rfl
  have v0_2 := (blk_cell Bx.out 2).trans rfl
  have v1_0 := (blk_cell By.out 0).trans rfl
  have v1_1 := (blk_cell By.out 1).trans rfl
  have v1_2 := (blk_cell By.out 2).trans rfl
  go_wp2_with fail
  refine (prod31 s0 Px px n0 Qx qx x s0 Py py n1 Qy qy y 3000 s0 rows z 0 V15 Gx.out.n2 Gx.out.n1 Gx.out.e2 Gx.out.e1 Gy.out.n2 Gy.out.n1 Gy.out.e2 Gy.out.e1 FF.out.pw).mono ?_
  rintro e_ V16 ⟨v1, v2, rfl, hs, hr, hb⟩
  obtain ⟨Pw, pw, rfl⟩ := Kd.S_slice hs
  obtain ⟨Qw, qw, rfl⟩ := Kd.R_slice hr
  have Gw : Aside0 (Got 0 Pw pw rows Qw qw z V16) := ⟨⟨(Kd.S_reads' hs).2.1, (Kd.S_reads' hs).2.2, (Kd.R_reads' hr).2.1, (Kd.R_reads' hr).2.2⟩⟩
  have n_G0 := Aside0.mk (Got.below G0.out hb)
  have n_G1 := Aside0.mk (Got.below G1.out hb)
  have n_XA := Aside0.mk (blk_below XA.out hb)
  have n_XB := Aside0.mk (blk_below XB.out hb)
  have n_BL := Aside0.mk (BL.out.trans (Below.mono hb BL.out.size))
  have n_Go := Aside0.mk (Got.below Go.out hb)
  have n_Bo := Aside0.mk (blk_below Bo.out hb)
  have n_Ga := Aside0.mk (Got.below Ga.out hb)
  have n_Ba := Aside0.mk (blk_below Ba.out hb)
  have n_Gx := Aside0.mk (Got.below Gx.out hb)
  have n_Bx := Aside0.mk (blk_below Bx.out hb)
  have n_Gy := Aside0.mk (Got.below Gy.out hb)
  have n_By := Aside0.mk (blk_below By.out hb)
  have n_Gz := Aside0.mk (Got.below Gz.out hb)
  have n_Bz := Aside0.mk (blk_below Bz.out hb)
  clear G0 G1 XA XB BL Go Bo Ga Ba Gx Bx Gy By Gz Bz
  have G0 := n_G0
  have G1 := n_G1
  have XA := n_XA
  have XB := n_XB
  have BL := n_BL
  have Go := n_Go
  have Bo := n_Bo
  have Ga := n_Ga
  have Ba := n_Ba
  have Gx := n_Gx
  have Bx := n_Bx
  have Gy := n_Gy
  have By := n_By
  have Gz := n_Gz
  have Bz := n_Bz
  clear n_G0 n_G1 n_XA n_XB n_BL n_Go n_Bo n_Ga n_Ba n_Gx n_Bx n_Gy n_By n_Gz n_Bz
  clear hs hr hb
  clear v0_0 v0_1 v0_2
  clear v1_0 v1_1 v1_2
  go_upto_region 13 with (fail)
  obtain ⟨V17, h_⟩ : ∃ W_, W_ = V16.alloc (.cells #[.int .i64 s0, .slice Pw rows.length pw, .slice Qw z.length qw] 25) := ⟨_, rfl⟩
  have hb_ : Below V16.heap.size V16 V17 := by rw [h_]; exact below_alloc (Below.refl _ _) _
  have hx_ : V17.heap[V16.heap.size]? = some (.cells #[.int .i64 s0, .slice Pw rows.length pw, .slice Qw z.length qw] 25 (0, 0)) := by rw [h_]; exact blk_new _ _
  rw [← h_]
  clear h_
  have n_G0 := Aside0.mk (Got.below G0.out hb_)
  have n_G1 := Aside0.mk (Got.below G1.out hb_)
  have n_XA := Aside0.mk (blk_below XA.out hb_)
  have n_XB := Aside0.mk (blk_below XB.out hb_)
  have n_BL := Aside0.mk (BL.out.trans (Below.mono hb_ BL.out.size))
  have n_Go := Aside0.mk (Got.below Go.out hb_)
  have n_Bo := Aside0.mk (blk_below Bo.out hb_)
  have n_Ga := Aside0.mk (Got.below Ga.out hb_)
  have n_Ba := Aside0.mk (blk_below Ba.out hb_)
  have n_Gx := Aside0.mk (Got.below Gx.out hb_)
  have n_Bx := Aside0.mk (blk_below Bx.out hb_)
  have n_Gy := Aside0.mk (Got.below Gy.out hb_)
  have n_By := Aside0.mk (blk_below By.out hb_)
  have n_Gz := Aside0.mk (Got.below Gz.out hb_)
  have n_Bz := Aside0.mk (blk_below Bz.out hb_)
  have n_Gw := Aside0.mk (Got.below Gw.out hb_)
  clear G0 G1 XA XB BL Go Bo Ga Ba Gx Bx Gy By Gz Bz Gw
  have G0 := n_G0
  have G1 := n_G1
  have XA := n_XA
  have XB := n_XB
  have BL := n_BL
  have Go := n_Go
  have Bo := n_Bo
  have Ga := n_Ga
  have Ba := n_Ba
  have Gx := n_Gx
  have Bx := n_Bx
  have Gy := n_Gy
  have By := n_By
  have Gz := n_Gz
  have Bz := n_Bz
  have Gw := n_Gw
  clear n_G0 n_G1 n_XA n_XB n_BL n_Go n_Bo n_Ga n_Ba n_Gx n_Bx n_Gy n_By n_Gz n_Bz n_Gw
  clear hb_
  obtain ⟨gw, e_⟩ : ∃ g_, g_ = V16.heap.size := ⟨_, rfl⟩
  rw [← e_] at hx_ ⊢
  clear e_
  have Bw := Aside0.mk hx_
  clear hx_
  have v0_0 := (blk_cell XA.out 0).trans rfl
  have v0_1 := (blk_cell XA.out 1).trans rfl
  have v0_2 := (blk_cell XA.out 2).trans rfl
  have v1_0 := (blk_cell XB.out 0).trans rfl
  have v1_1 := (blk_cell XB.out 1).trans rfl
  have v1_2 := (blk_cell XB.out 2).trans rfl
  go_wp2_with fail
  refine (prod33 s0 A0 c0 n0 B0 b0 e0 s0 A1 c1 n1 B1 b1 e1 3000 s0 rows el 0 V17 G0.out.n2 G0.out.n1 G0.out.e2 G0.out.e1 G1.out.n2 G1.out.n1 G1.out.e2 G1.out.e1 FF.out.pl).mono ?_
  rintro e_ V18 ⟨v1, v2, rfl, hs, hr, hb⟩
  obtain ⟨Pl, pl, rfl⟩ := Kd.S_slice hs
  obtain ⟨Ql, ql, rfl⟩ := Kd.R_slice hr
  have Gl : Aside0 (Got 0 Pl pl rows Ql ql el V18) := ⟨⟨(Kd.S_reads' hs).2.1, (Kd.S_reads' hs).2.2, (Kd.R_reads' hr).2.1, (Kd.R_reads' hr).2.2⟩⟩
  have n_G0 := Aside0.mk (Got.below G0.out hb)
  have n_G1 := Aside0.mk (Got.below G1.out hb)
  have n_XA := Aside0.mk (blk_below XA.out hb)
  have n_XB := Aside0.mk (blk_below XB.out hb)
  have n_BL := Aside0.mk (BL.out.trans (Below.mono hb BL.out.size))
  have n_Go := Aside0.mk (Got.below Go.out hb)
  have n_Bo := Aside0.mk (blk_below Bo.out hb)
  have n_Ga := Aside0.mk (Got.below Ga.out hb)
  have n_Ba := Aside0.mk (blk_below Ba.out hb)
  have n_Gx := Aside0.mk (Got.below Gx.out hb)
  have n_Bx := Aside0.mk (blk_below Bx.out hb)
  have n_Gy := Aside0.mk (Got.below Gy.out hb)
  have n_By := Aside0.mk (blk_below By.out hb)
  have n_Gz := Aside0.mk (Got.below Gz.out hb)
  have n_Bz := Aside0.mk (blk_below Bz.out hb)
  have n_Gw := Aside0.mk (Got.below Gw.out hb)
  have n_Bw := Aside0.mk (blk_below Bw.out hb)
  clear G0 G1 XA XB BL Go Bo Ga Ba Gx Bx Gy By Gz Bz Gw Bw
  have G0 := n_G0
  have G1 := n_G1
  have XA := n_XA
  have XB := n_XB
  have BL := n_BL
  have Go := n_Go
  have Bo := n_Bo
  have Ga := n_Ga
  have Ba := n_Ba
  have Gx := n_Gx
  have Bx := n_Bx
  have Gy := n_Gy
  have By := n_By
  have Gz := n_Gz
  have Bz := n_Bz
  have Gw := n_Gw
  have Bw := n_Bw
  clear n_G0 n_G1 n_XA n_XB n_BL n_Go n_Bo n_Ga n_Ba n_Gx n_Bx n_Gy n_By n_Gz n_Bz n_Gw n_Bw
  clear hs hr hb
  clear v0_0 v0_1 v0_2
  clear v1_0 v1_1 v1_2
  go_upto_region 14 with (fail)
  obtain ⟨V19, h_⟩ : ∃ W_, W_ = V18.alloc (.cells #[.int .i64 s0, .slice Pl rows.length pl, .slice Ql el.length ql] 25) := ⟨_, rfl⟩
  have hb_ : Below V18.heap.size V18 V19 := by rw [h_]; exact below_alloc (Below.refl _ _) _
  have hx_ : V19.heap[V18.heap.size]? = some (.cells #[.int .i64 s0, .slice Pl rows.length pl, .slice Ql el.length ql] 25 (0, 0)) := by rw [h_]; exact blk_new _ _
  rw [← h_]
  clear h_
  have n_G0 := Aside0.mk (Got.below G0.out hb_)
  have n_G1 := Aside0.mk (Got.below G1.out hb_)
  have n_XA := Aside0.mk (blk_below XA.out hb_)
  have n_XB := Aside0.mk (blk_below XB.out hb_)
  have n_BL := Aside0.mk (BL.out.trans (Below.mono hb_ BL.out.size))
  have n_Go := Aside0.mk (Got.below Go.out hb_)
  have n_Bo := Aside0.mk (blk_below Bo.out hb_)
  have n_Ga := Aside0.mk (Got.below Ga.out hb_)
  have n_Ba := Aside0.mk (blk_below Ba.out hb_)
  have n_Gx := Aside0.mk (Got.below Gx.out hb_)
  have n_Bx := Aside0.mk (blk_below Bx.out hb_)
  have n_Gy := Aside0.mk (Got.below Gy.out hb_)
  have n_By := Aside0.mk (blk_below By.out hb_)
  have n_Gz := Aside0.mk (Got.below Gz.out hb_)
  have n_Bz := Aside0.mk (blk_below Bz.out hb_)
  have n_Gw := Aside0.mk (Got.below Gw.out hb_)
  have n_Bw := Aside0.mk (blk_below Bw.out hb_)
  have n_Gl := Aside0.mk (Got.below Gl.out hb_)
  clear G0 G1 XA XB BL Go Bo Ga Ba Gx Bx Gy By Gz Bz Gw Bw Gl
  have G0 := n_G0
  have G1 := n_G1
  have XA := n_XA
  have XB := n_XB
  have BL := n_BL
  have Go := n_Go
  have Bo := n_Bo
  have Ga := n_Ga
  have Ba := n_Ba
  have Gx := n_Gx
  have Bx := n_Bx
  have Gy := n_Gy
  have By := n_By
  have Gz := n_Gz
  have Bz := n_Bz
  have Gw := n_Gw
  have Bw := n_Bw
  have Gl := n_Gl
  clear n_G0 n_G1 n_XA n_XB n_BL n_Go n_Bo n_Ga n_Ba n_Gx n_Bx n_Gy n_By n_Gz n_Bz n_Gw n_Bw n_Gl
  clear hb_
  obtain ⟨gl, e_⟩ : ∃ g_, g_ = V18.heap.size := ⟨_, rfl⟩
  rw [← e_] at hx_ ⊢
  clear e_
  have Bl := Aside0.mk hx_
  clear hx_
  have v0_0 := (blk_cell XA.out 0).trans rfl
  have v0_1 := (blk_cell XA.out 1).trans rfl
  have v0_2 := (blk_cell XA.out 2).trans rfl
  have v1_0 := (blk_cell By.out 0).trans rfl
  have v1_1 := (blk_cell By.out 1).trans rfl
  have v1_2 := (blk_cell By.out 2).trans rfl
  go_wp2_with fail
  refine (prod31 s0 A0 c0 n0 B0 b0 e0 s0 Py py n1 Qy qy y 3000 s0 rows el 0 V19 G0.out.n2 G0.out.n1 G0.out.e2 G0.out.e1 Gy.out.n2 Gy.out.n1 Gy.out.e2 Gy.out.e1 FF.out.pv).mono ?_
  rintro e_ V20 ⟨v1, v2, rfl, hs, hr, hb⟩
  obtain ⟨Pv, pv, rfl⟩ := Kd.S_slice hs
  obtain ⟨Qv, qv, rfl⟩ := Kd.R_slice hr
  have Gv : Aside0 (Got 0 Pv pv rows Qv qv el V20) := ⟨⟨(Kd.S_reads' hs).2.1, (Kd.S_reads' hs).2.2, (Kd.R_reads' hr).2.1, (Kd.R_reads' hr).2.2⟩⟩
  have n_G0 := Aside0.mk (Got.below G0.out hb)
  have n_G1 := Aside0.mk (Got.below G1.out hb)
  have n_XA := Aside0.mk (blk_below XA.out hb)
  have n_XB := Aside0.mk (blk_below XB.out hb)
  have n_BL := Aside0.mk (BL.out.trans (Below.mono hb BL.out.size))
  have n_Go := Aside0.mk (Got.below Go.out hb)
  have n_Bo := Aside0.mk (blk_below Bo.out hb)
  have n_Ga := Aside0.mk (Got.below Ga.out hb)
  have n_Ba := Aside0.mk (blk_below Ba.out hb)
  have n_Gx := Aside0.mk (Got.below Gx.out hb)
  have n_Bx := Aside0.mk (blk_below Bx.out hb)
  have n_Gy := Aside0.mk (Got.below Gy.out hb)
  have n_By := Aside0.mk (blk_below By.out hb)
  have n_Gz := Aside0.mk (Got.below Gz.out hb)
  have n_Bz := Aside0.mk (blk_below Bz.out hb)
  have n_Gw := Aside0.mk (Got.below Gw.out hb)
  have n_Bw := Aside0.mk (blk_below Bw.out hb)
  have n_Gl := Aside0.mk (Got.below Gl.out hb)
  have n_Bl := Aside0.mk (blk_below Bl.out hb)
  clear G0 G1 XA XB BL Go Bo Ga Ba Gx Bx Gy By Gz Bz Gw Bw Gl Bl
  have G0 := n_G0
  have G1 := n_G1
  have XA := n_XA
  have XB := n_XB
  have BL := n_BL
  have Go := n_Go
  have Bo := n_Bo
  have Ga := n_Ga
  have Ba := n_Ba
  have Gx := n_Gx
  have Bx := n_Bx
  have Gy := n_Gy
  have By := n_By
  have Gz := n_Gz
  have Bz := n_Bz
  have Gw := n_Gw
  have Bw := n_Bw
  have Gl := n_Gl
  have Bl := n_Bl
  clear n_G0 n_G1 n_XA n_XB n_BL n_Go n_Bo n_Ga n_Ba n_Gx n_Bx n_Gy n_By n_Gz n_Bz n_Gw n_Bw n_Gl n_Bl
  clear hs hr hb
  clear v0_0 v0_1 v0_2
  clear v1_0 v1_1 v1_2
  go_upto_region 15 with (fail)
  obtain ⟨V21, h_⟩ : ∃ W_, W_ = V20.alloc (.cells #[.int .i64 s0, .slice Pv rows.length pv, .slice Qv el.length qv] 25) := ⟨_, rfl⟩
  have hb_ : Below V20.heap.size V20 V21 := by rw [h_]; exact below_alloc (Below.refl _ _) _
  have hx_ : V21.heap[V20.heap.size]? = some (.cells #[.int .i64 s0, .slice Pv rows.length pv, .slice Qv el.length qv] 25 (0, 0)) := by rw [h_]; exact blk_new _ _
  rw [← h_]
  clear h_
  have n_G0 := Aside0.mk (Got.below G0.out hb_)
  have n_G1 := Aside0.mk (Got.below G1.out hb_)
  have n_XA := Aside0.mk (blk_below XA.out hb_)
  have n_XB := Aside0.mk (blk_below XB.out hb_)
  have n_BL := Aside0.mk (BL.out.trans (Below.mono hb_ BL.out.size))
  have n_Go := Aside0.mk (Got.below Go.out hb_)
  have n_Bo := Aside0.mk (blk_below Bo.out hb_)
  have n_Ga := Aside0.mk (Got.below Ga.out hb_)
  have n_Ba := Aside0.mk (blk_below Ba.out hb_)
  have n_Gx := Aside0.mk (Got.below Gx.out hb_)
  have n_Bx := Aside0.mk (blk_below Bx.out hb_)
  have n_Gy := Aside0.mk (Got.below Gy.out hb_)
  have n_By := Aside0.mk (blk_below By.out hb_)
  have n_Gz := Aside0.mk (Got.below Gz.out hb_)
  have n_Bz := Aside0.mk (blk_below Bz.out hb_)
  have n_Gw := Aside0.mk (Got.below Gw.out hb_)
  have n_Bw := Aside0.mk (blk_below Bw.out hb_)
  have n_Gl := Aside0.mk (Got.below Gl.out hb_)
  have n_Bl := Aside0.mk (blk_below Bl.out hb_)
  have n_Gv := Aside0.mk (Got.below Gv.out hb_)
  clear G0 G1 XA XB BL Go Bo Ga Ba Gx Bx Gy By Gz Bz Gw Bw Gl Bl Gv
  have G0 := n_G0
  have G1 := n_G1
  have XA := n_XA
  have XB := n_XB
  have BL := n_BL
  have Go := n_Go
  have Bo := n_Bo
  have Ga := n_Ga
  have Ba := n_Ba
  have Gx := n_Gx
  have Bx := n_Bx
  have Gy := n_Gy
  have By := n_By
  have Gz := n_Gz
  have Bz := n_Bz
  have Gw := n_Gw
  have Bw := n_Bw
  have Gl := n_Gl
  have Bl := n_Bl
  have Gv := n_Gv
  clear n_G0 n_G1 n_XA n_XB n_BL n_Go n_Bo n_Ga n_Ba n_Gx n_Bx n_Gy n_By n_Gz n_Bz n_Gw n_Bw n_Gl n_Bl n_Gv
  clear hb_
  obtain ⟨gv, e_⟩ : ∃ g_, g_ = V20.heap.size := ⟨_, rfl⟩
  rw [← e_] at hx_ ⊢
  clear e_
  have Bv := Aside0.mk hx_
  clear hx_
  have v0_0 := (blk_cell Bx.out 0).trans rfl
  have v0_1 := (blk_cell Bx.out 1).trans rfl
  have v0_2 := (blk_cell Bx.out 2).trans rfl
  go_wp2_with fail
  refine (calc_not_got s0 Px px n0 Qx qx x V21 Gx.out s0 n0 e0 0 FF.out.nb).mono ?_
  rintro e_ V22 ⟨Pb, pb, Qb, qb, rfl, hg, hb⟩
  have n_G0 := Aside0.mk (Got.below G0.out hb)
  have n_G1 := Aside0.mk (Got.below G1.out hb)
  have n_XA := Aside0.mk (blk_below XA.out hb)
  have n_XB := Aside0.mk (blk_below XB.out hb)
  have n_BL := Aside0.mk (BL.out.trans (Below.mono hb BL.out.size))
  have n_Go := Aside0.mk (Got.below Go.out hb)
  have n_Bo := Aside0.mk (blk_below Bo.out hb)
  have n_Ga := Aside0.mk (Got.below Ga.out hb)
  have n_Ba := Aside0.mk (blk_below Ba.out hb)
  have n_Gx := Aside0.mk (Got.below Gx.out hb)
  have n_Bx := Aside0.mk (blk_below Bx.out hb)
  have n_Gy := Aside0.mk (Got.below Gy.out hb)
  have n_By := Aside0.mk (blk_below By.out hb)
  have n_Gz := Aside0.mk (Got.below Gz.out hb)
  have n_Bz := Aside0.mk (blk_below Bz.out hb)
  have n_Gw := Aside0.mk (Got.below Gw.out hb)
  have n_Bw := Aside0.mk (blk_below Bw.out hb)
  have n_Gl := Aside0.mk (Got.below Gl.out hb)
  have n_Bl := Aside0.mk (blk_below Bl.out hb)
  have n_Gv := Aside0.mk (Got.below Gv.out hb)
  have n_Bv := Aside0.mk (blk_below Bv.out hb)
  clear G0 G1 XA XB BL Go Bo Ga Ba Gx Bx Gy By Gz Bz Gw Bw Gl Bl Gv Bv
  have G0 := n_G0
  have G1 := n_G1
  have XA := n_XA
  have XB := n_XB
  have BL := n_BL
  have Go := n_Go
  have Bo := n_Bo
  have Ga := n_Ga
  have Ba := n_Ba
  have Gx := n_Gx
  have Bx := n_Bx
  have Gy := n_Gy
  have By := n_By
  have Gz := n_Gz
  have Bz := n_Bz
  have Gw := n_Gw
  have Bw := n_Bw
  have Gl := n_Gl
  have Bl := n_Bl
  have Gv := n_Gv
  have Bv := n_Bv
  clear n_G0 n_G1 n_XA n_XB n_BL n_Go n_Bo n_Ga n_Ba n_Gx n_Bx n_Gy n_By n_Gz n_Bz n_Gw n_Bw n_Gl n_Bl n_Gv n_Bv
  have Gb := Aside0.mk hg
  clear hg hb
  clear v0_0 v0_1 v0_2
  go_upto_region 18 with (fail)
  obtain ⟨V23, h_⟩ : ∃ W_, W_ = V22.alloc (.cells #[.int .i64 s0, .slice Pb n0.length pb, .slice Qb e0.length qb] 25) := ⟨_, rfl⟩
  have hb_ : Below V22.heap.size V22 V23 := by rw [h_]; exact below_alloc (Below.refl _ _) _
  have hx_ : V23.heap[V22.heap.size]? = some (.cells #[.int .i64 s0, .slice Pb n0.length pb, .slice Qb e0.length qb] 25 (0, 0)) := by rw [h_]; exact blk_new _ _
  rw [← h_]
  clear h_
  have n_G0 := Aside0.mk (Got.below G0.out hb_)
  have n_G1 := Aside0.mk (Got.below G1.out hb_)
  have n_XA := Aside0.mk (blk_below XA.out hb_)
  have n_XB := Aside0.mk (blk_below XB.out hb_)
  have n_BL := Aside0.mk (BL.out.trans (Below.mono hb_ BL.out.size))
  have n_Go := Aside0.mk (Got.below Go.out hb_)
  have n_Bo := Aside0.mk (blk_below Bo.out hb_)
  have n_Ga := Aside0.mk (Got.below Ga.out hb_)
  have n_Ba := Aside0.mk (blk_below Ba.out hb_)
  have n_Gx := Aside0.mk (Got.below Gx.out hb_)
  have n_Bx := Aside0.mk (blk_below Bx.out hb_)
  have n_Gy := Aside0.mk (Got.below Gy.out hb_)
  have n_By := Aside0.mk (blk_below By.out hb_)
  have n_Gz := Aside0.mk (Got.below Gz.out hb_)
  have n_Bz := Aside0.mk (blk_below Bz.out hb_)
  have n_Gw := Aside0.mk (Got.below Gw.out hb_)
  have n_Bw := Aside0.mk (blk_below Bw.out hb_)
  have n_Gl := Aside0.mk (Got.below Gl.out hb_)
  have n_Bl := Aside0.mk (blk_below Bl.out hb_)
  have n_Gv := Aside0.mk (Got.below Gv.out hb_)
  have n_Bv := Aside0.mk (blk_below Bv.out hb_)
  have n_Gb := Aside0.mk (Got.below Gb.out hb_)
  clear G0 G1 XA XB BL Go Bo Ga Ba Gx Bx Gy By Gz Bz Gw Bw Gl Bl Gv Bv Gb
  have G0 := n_G0
  have G1 := n_G1
  have XA := n_XA
  have XB := n_XB
  have BL := n_BL
  have Go := n_Go
  have Bo := n_Bo
  have Ga := n_Ga
  have Ba := n_Ba
  have Gx := n_Gx
  have Bx := n_Bx
  have Gy := n_Gy
  have By := n_By
  have Gz := n_Gz
  have Bz := n_Bz
  have Gw := n_Gw
  have Bw := n_Bw
  have Gl := n_Gl
  have Bl := n_Bl
  have Gv := n_Gv
  have Bv := n_Bv
  have Gb := n_Gb
  clear n_G0 n_G1 n_XA n_XB n_BL n_Go n_Bo n_Ga n_Ba n_Gx n_Bx n_Gy n_By n_Gz n_Bz n_Gw n_Bw n_Gl n_Bl n_Gv n_Bv n_Gb
  clear hb_
  obtain ⟨gb, e_⟩ : ∃ g_, g_ = V22.heap.size := ⟨_, rfl⟩
  rw [← e_] at hx_ ⊢
  clear e_
  have Bb := Aside0.mk hx_
  clear hx_
  obtain ⟨k1, hk1⟩ := same_ok s0 n0 e0 G0.out
  obtain ⟨k2, hk2⟩ := same_ok s0 rows z Gz.out
  obtain ⟨k3, hk3⟩ := same_ok s0 rows el Gl.out
  have HS1 := Aside0.mk hk1
  have HS2 := Aside0.mk hk2
  have HS3 := Aside0.mk hk3
  clear hk1 hk2 hk3
  have v0_0 := (blk_cell Bb.out 0).trans rfl
  have v0_1 := (blk_cell Bb.out 1).trans rfl
  have v0_2 := (blk_cell Bb.out 2).trans rfl
  have v1_0 := (blk_cell XA.out 0).trans rfl
  have v1_1 := (blk_cell XA.out 1).trans rfl
  have v1_2 := (blk_cell XA.out 2).trans rfl
  go_wp2_with fail
  refine (caesuraref15_Same.calls k1 s0 Pb pb n0 Qb qb e0 s0 A0 c0 n0 B0 b0 e0 true V23 Gb.out.n2 Gb.out.n1 Gb.out.e2 Gb.out.e1 G0.out.n2 G0.out.n1 G0.out.e2 G0.out.e1 HS1.out).mono ?_
  rintro e_ V24 ⟨rfl, hb⟩
  have n_G0 := Aside0.mk (Got.below G0.out hb)
  have n_G1 := Aside0.mk (Got.below G1.out hb)
  have n_XA := Aside0.mk (blk_below XA.out hb)
  have n_XB := Aside0.mk (blk_below XB.out hb)
  have n_BL := Aside0.mk (BL.out.trans (Below.mono hb BL.out.size))
  have n_Go := Aside0.mk (Got.below Go.out hb)
  have n_Bo := Aside0.mk (blk_below Bo.out hb)
  have n_Ga := Aside0.mk (Got.below Ga.out hb)
  have n_Ba := Aside0.mk (blk_below Ba.out hb)
  have n_Gx := Aside0.mk (Got.below Gx.out hb)
  have n_Bx := Aside0.mk (blk_below Bx.out hb)
  have n_Gy := Aside0.mk (Got.below Gy.out hb)
  have n_By := Aside0.mk (blk_below By.out hb)
  have n_Gz := Aside0.mk (Got.below Gz.out hb)
  have n_Bz := Aside0.mk (blk_below Bz.out hb)
  have n_Gw := Aside0.mk (Got.below Gw.out hb)
  have n_Bw := Aside0.mk (blk_below Bw.out hb)
  have n_Gl := Aside0.mk (Got.below Gl.out hb)
  have n_Bl := Aside0.mk (blk_below Bl.out hb)
  have n_Gv := Aside0.mk (Got.below Gv.out hb)
  have n_Bv := Aside0.mk (blk_below Bv.out hb)
  have n_Gb := Aside0.mk (Got.below Gb.out hb)
  have n_Bb := Aside0.mk (blk_below Bb.out hb)
  clear G0 G1 XA XB BL Go Bo Ga Ba Gx Bx Gy By Gz Bz Gw Bw Gl Bl Gv Bv Gb Bb
  have G0 := n_G0
  have G1 := n_G1
  have XA := n_XA
  have XB := n_XB
  have BL := n_BL
  have Go := n_Go
  have Bo := n_Bo
  have Ga := n_Ga
  have Ba := n_Ba
  have Gx := n_Gx
  have Bx := n_Bx
  have Gy := n_Gy
  have By := n_By
  have Gz := n_Gz
  have Bz := n_Bz
  have Gw := n_Gw
  have Bw := n_Bw
  have Gl := n_Gl
  have Bl := n_Bl
  have Gv := n_Gv
  have Bv := n_Bv
  have Gb := n_Gb
  have Bb := n_Bb
  clear n_G0 n_G1 n_XA n_XB n_BL n_Go n_Bo n_Ga n_Ba n_Gx n_Bx n_Gy n_By n_Gz n_Bz n_Gw n_Bw n_Gl n_Bl n_Gv n_Bv n_Gb n_Bb
  clear hb
  clear v0_0 v0_1 v0_2
  clear v1_0 v1_1 v1_2
  have v0_0 := (blk_cell Bz.out 0).trans rfl
  have v0_1 := (blk_cell Bz.out 1).trans rfl
  have v0_2 := (blk_cell Bz.out 2).trans rfl
  have v1_0 := (blk_cell Bw.out 0).trans rfl
  have v1_1 := (blk_cell Bw.out 1).trans rfl
  have v1_2 := (blk_cell Bw.out 2).trans rfl
  go_wp2_with fail
  refine (caesuraref15_Same.calls k2 s0 Pz pz rows Qz qz z s0 Pw pw rows Qw qw z true V24 Gz.out.n2 Gz.out.n1 Gz.out.e2 Gz.out.e1 Gw.out.n2 Gw.out.n1 Gw.out.e2 Gw.out.e1 HS2.out).mono ?_
  rintro e_ V25 ⟨rfl, hb⟩
  have n_G0 := Aside0.mk (Got.below G0.out hb)
  have n_G1 := Aside0.mk (Got.below G1.out hb)
  have n_XA := Aside0.mk (blk_below XA.out hb)
  have n_XB := Aside0.mk (blk_below XB.out hb)
  have n_BL := Aside0.mk (BL.out.trans (Below.mono hb BL.out.size))
  have n_Go := Aside0.mk (Got.below Go.out hb)
  have n_Bo := Aside0.mk (blk_below Bo.out hb)
  have n_Ga := Aside0.mk (Got.below Ga.out hb)
  have n_Ba := Aside0.mk (blk_below Ba.out hb)
  have n_Gx := Aside0.mk (Got.below Gx.out hb)
  have n_Bx := Aside0.mk (blk_below Bx.out hb)
  have n_Gy := Aside0.mk (Got.below Gy.out hb)
  have n_By := Aside0.mk (blk_below By.out hb)
  have n_Gz := Aside0.mk (Got.below Gz.out hb)
  have n_Bz := Aside0.mk (blk_below Bz.out hb)
  have n_Gw := Aside0.mk (Got.below Gw.out hb)
  have n_Bw := Aside0.mk (blk_below Bw.out hb)
  have n_Gl := Aside0.mk (Got.below Gl.out hb)
  have n_Bl := Aside0.mk (blk_below Bl.out hb)
  have n_Gv := Aside0.mk (Got.below Gv.out hb)
  have n_Bv := Aside0.mk (blk_below Bv.out hb)
  have n_Gb := Aside0.mk (Got.below Gb.out hb)
  have n_Bb := Aside0.mk (blk_below Bb.out hb)
  clear G0 G1 XA XB BL Go Bo Ga Ba Gx Bx Gy By Gz Bz Gw Bw Gl Bl Gv Bv Gb Bb
  have G0 := n_G0
  have G1 := n_G1
  have XA := n_XA
  have XB := n_XB
  have BL := n_BL
  have Go := n_Go
  have Bo := n_Bo
  have Ga := n_Ga
  have Ba := n_Ba
  have Gx := n_Gx
  have Bx := n_Bx
  have Gy := n_Gy
  have By := n_By
  have Gz := n_Gz
  have Bz := n_Bz
  have Gw := n_Gw
  have Bw := n_Bw
  have Gl := n_Gl
  have Bl := n_Bl
  have Gv := n_Gv
  have Bv := n_Bv
  have Gb := n_Gb
  have Bb := n_Bb
  clear n_G0 n_G1 n_XA n_XB n_BL n_Go n_Bo n_Ga n_Ba n_Gx n_Bx n_Gy n_By n_Gz n_Bz n_Gw n_Bw n_Gl n_Bl n_Gv n_Bv n_Gb n_Bb
  clear hb
  clear v0_0 v0_1 v0_2
  clear v1_0 v1_1 v1_2
  have v0_0 := (blk_cell Bl.out 0).trans rfl
  have v0_1 := (blk_cell Bl.out 1).trans rfl
  have v0_2 := (blk_cell Bl.out 2).trans rfl
  have v1_0 := (blk_cell Bv.out 0).trans rfl
  have v1_1 := (blk_cell Bv.out 1).trans rfl
  have v1_2 := (blk_cell Bv.out 2).trans rfl
  go_wp2_with fail
  refine (caesuraref15_Same.calls k3 s0 Pl pl rows Ql ql el s0 Pv pv rows Qv qv el true V25 Gl.out.n2 Gl.out.n1 Gl.out.e2 Gl.out.e1 Gv.out.n2 Gv.out.n1 Gv.out.e2 Gv.out.e1 HS3.out).mono ?_
  rintro e_ V26 ⟨rfl, hb⟩
  have n_G0 := Aside0.mk (Got.below G0.out hb)
  have n_G1 := Aside0.mk (Got.below G1.out hb)
  have n_XA := Aside0.mk (blk_below XA.out hb)
  have n_XB := Aside0.mk (blk_below XB.out hb)
  have n_BL := Aside0.mk (BL.out.trans (Below.mono hb BL.out.size))
  have n_Go := Aside0.mk (Got.below Go.out hb)
  have n_Bo := Aside0.mk (blk_below Bo.out hb)
  have n_Ga := Aside0.mk (Got.below Ga.out hb)
  have n_Ba := Aside0.mk (blk_below Ba.out hb)
  have n_Gx := Aside0.mk (Got.below Gx.out hb)
  have n_Bx := Aside0.mk (blk_below Bx.out hb)
  have n_Gy := Aside0.mk (Got.below Gy.out hb)
  have n_By := Aside0.mk (blk_below By.out hb)
  have n_Gz := Aside0.mk (Got.below Gz.out hb)
  have n_Bz := Aside0.mk (blk_below Bz.out hb)
  have n_Gw := Aside0.mk (Got.below Gw.out hb)
  have n_Bw := Aside0.mk (blk_below Bw.out hb)
  have n_Gl := Aside0.mk (Got.below Gl.out hb)
  have n_Bl := Aside0.mk (blk_below Bl.out hb)
  have n_Gv := Aside0.mk (Got.below Gv.out hb)
  have n_Bv := Aside0.mk (blk_below Bv.out hb)
  have n_Gb := Aside0.mk (Got.below Gb.out hb)
  have n_Bb := Aside0.mk (blk_below Bb.out hb)
  clear G0 G1 XA XB BL Go Bo Ga Ba Gx Bx Gy By Gz Bz Gw Bw Gl Bl Gv Bv Gb Bb
  have G0 := n_G0
  have G1 := n_G1
  have XA := n_XA
  have XB := n_XB
  have BL := n_BL
  have Go := n_Go
  have Bo := n_Bo
  have Ga := n_Ga
  have Ba := n_Ba
  have Gx := n_Gx
  have Bx := n_Bx
  have Gy := n_Gy
  have By := n_By
  have Gz := n_Gz
  have Bz := n_Bz
  have Gw := n_Gw
  have Bw := n_Bw
  have Gl := n_Gl
  have Bl := n_Bl
  have Gv := n_Gv
  have Bv := n_Bv
  have Gb := n_Gb
  have Bb := n_Bb
  clear n_G0 n_G1 n_XA n_XB n_BL n_Go n_Bo n_Ga n_Ba n_Gx n_Bx n_Gy n_By n_Gz n_Bz n_Gw n_Bw n_Gl n_Bl n_Gv n_Bv n_Gb n_Bb
  clear hb
  clear v0_0 v0_1 v0_2
  clear v1_0 v1_1 v1_2
  have v0_0 := (blk_cell Bo.out 0).trans rfl
  have v0_1 := (blk_cell Bo.out 1).trans rfl
  have v0_2 := (blk_cell Bo.out 2).trans rfl
  go_wp2_with fail
  refine (calc_empty s0 Po po rows Qo qo eo V26 Go.out.n2 Go.out.n1 Go.out.e2 Go.out.e1 Eo FF.out.fo).mono ?_
  rintro e_ V27 ⟨rfl, hb⟩
  have n_G0 := Aside0.mk (Got.below G0.out hb)
  have n_G1 := Aside0.mk (Got.below G1.out hb)
  have n_XA := Aside0.mk (blk_below XA.out hb)
  have n_XB := Aside0.mk (blk_below XB.out hb)
  have n_BL := Aside0.mk (BL.out.trans (Below.mono hb BL.out.size))
  have n_Go := Aside0.mk (Got.below Go.out hb)
  have n_Bo := Aside0.mk (blk_below Bo.out hb)
  have n_Ga := Aside0.mk (Got.below Ga.out hb)
  have n_Ba := Aside0.mk (blk_below Ba.out hb)
  have n_Gx := Aside0.mk (Got.below Gx.out hb)
  have n_Bx := Aside0.mk (blk_below Bx.out hb)
  have n_Gy := Aside0.mk (Got.below Gy.out hb)
  have n_By := Aside0.mk (blk_below By.out hb)
  have n_Gz := Aside0.mk (Got.below Gz.out hb)
  have n_Bz := Aside0.mk (blk_below Bz.out hb)
  have n_Gw := Aside0.mk (Got.below Gw.out hb)
  have n_Bw := Aside0.mk (blk_below Bw.out hb)
  have n_Gl := Aside0.mk (Got.below Gl.out hb)
  have n_Bl := Aside0.mk (blk_below Bl.out hb)
  have n_Gv := Aside0.mk (Got.below Gv.out hb)
  have n_Bv := Aside0.mk (blk_below Bv.out hb)
  have n_Gb := Aside0.mk (Got.below Gb.out hb)
  have n_Bb := Aside0.mk (blk_below Bb.out hb)
  clear G0 G1 XA XB BL Go Bo Ga Ba Gx Bx Gy By Gz Bz Gw Bw Gl Bl Gv Bv Gb Bb
  have G0 := n_G0
  have G1 := n_G1
  have XA := n_XA
  have XB := n_XB
  have BL := n_BL
  have Go := n_Go
  have Bo := n_Bo
  have Ga := n_Ga
  have Ba := n_Ba
  have Gx := n_Gx
  have Bx := n_Bx
  have Gy := n_Gy
  have By := n_By
  have Gz := n_Gz
  have Bz := n_Bz
  have Gw := n_Gw
  have Bw := n_Bw
  have Gl := n_Gl
  have Bl := n_Bl
  have Gv := n_Gv
  have Bv := n_Bv
  have Gb := n_Gb
  have Bb := n_Bb
  clear n_G0 n_G1 n_XA n_XB n_BL n_Go n_Bo n_Ga n_Ba n_Gx n_Bx n_Gy n_By n_Gz n_Bz n_Gw n_Bw n_Gl n_Bl n_Gv n_Bv n_Gb n_Bb
  clear hb
  clear v0_0 v0_1 v0_2
  cases Eo with
  | true =>
    obtain ⟨t1, t2⟩ := o1 rfl
    subst t1
    subst t2
    have t3 := o2 rfl
    subst t3
    clear o1 o2
    have v0_0 := (blk_cell XA.out 0).trans rfl
    have v0_1 := (blk_cell XA.out 1).trans rfl
    have v0_2 := (blk_cell XA.out 2).trans rfl
    go_wp2_with fail
    refine (calc_empty s0 A0 c0 n0 B0 b0 e0 V27 G0.out.n2 G0.out.n1 G0.out.e2 G0.out.e1 true FF.out.fa).mono ?_
    rintro e_ V28 ⟨rfl, hb⟩
    have n_G0 := Aside0.mk (Got.below G0.out hb)
    have n_G1 := Aside0.mk (Got.below G1.out hb)
    have n_XA := Aside0.mk (blk_below XA.out hb)
    have n_XB := Aside0.mk (blk_below XB.out hb)
    have n_BL := Aside0.mk (BL.out.trans (Below.mono hb BL.out.size))
    have n_Go := Aside0.mk (Got.below Go.out hb)
    have n_Bo := Aside0.mk (blk_below Bo.out hb)
    have n_Ga := Aside0.mk (Got.below Ga.out hb)
    have n_Ba := Aside0.mk (blk_below Ba.out hb)
    have n_Gx := Aside0.mk (Got.below Gx.out hb)
    have n_Bx := Aside0.mk (blk_below Bx.out hb)
    have n_Gy := Aside0.mk (Got.below Gy.out hb)
    have n_By := Aside0.mk (blk_below By.out hb)
    have n_Gz := Aside0.mk (Got.below Gz.out hb)
    have n_Bz := Aside0.mk (blk_below Bz.out hb)
    have n_Gw := Aside0.mk (Got.below Gw.out hb)
    have n_Bw := Aside0.mk (blk_below Bw.out hb)
    have n_Gl := Aside0.mk (Got.below Gl.out hb)
    have n_Bl := Aside0.mk (blk_below Bl.out hb)
    have n_Gv := Aside0.mk (Got.below Gv.out hb)
    have n_Bv := Aside0.mk (blk_below Bv.out hb)
    have n_Gb := Aside0.mk (Got.below Gb.out hb)
    have n_Bb := Aside0.mk (blk_below Bb.out hb)
    clear G0 G1 XA XB BL Go Bo Ga Ba Gx Bx Gy By Gz Bz Gw Bw Gl Bl Gv Bv Gb Bb
    have G0 := n_G0
    have G1 := n_G1
    have XA := n_XA
    have XB := n_XB
    have BL := n_BL
    have Go := n_Go
    have Bo := n_Bo
    have Ga := n_Ga
    have Ba := n_Ba
    have Gx := n_Gx
    have Bx := n_Bx
    have Gy := n_Gy
    have By := n_By
    have Gz := n_Gz
    have Bz := n_Bz
    have Gw := n_Gw
    have Bw := n_Bw
    have Gl := n_Gl
    have Bl := n_Bl
    have Gv := n_Gv
    have Bv := n_Bv
    have Gb := n_Gb
    have Bb := n_Bb
    clear n_G0 n_G1 n_XA n_XB n_BL n_Go n_Bo n_Ga n_Ba n_Gx n_Bx n_Gy n_By n_Gz n_Bz n_Gw n_Bw n_Gl n_Bl n_Gv n_Bv n_Gb n_Bb
    clear hb
    clear v0_0 v0_1 v0_2
    have v0_0 := (blk_cell XB.out 0).trans rfl
    have v0_1 := (blk_cell XB.out 1).trans rfl
    have v0_2 := (blk_cell XB.out 2).trans rfl
    go_wp2_with fail
    refine (calc_empty s0 A1 c1 n1 B1 b1 e1 V28 G1.out.n2 G1.out.n1 G1.out.e2 G1.out.e1 true FF.out.fb).mono ?_
    rintro e_ V29 ⟨rfl, hb⟩
    have n_G0 := Aside0.mk (Got.below G0.out hb)
    have n_G1 := Aside0.mk (Got.below G1.out hb)
    have n_XA := Aside0.mk (blk_below XA.out hb)
    have n_XB := Aside0.mk (blk_below XB.out hb)
    have n_BL := Aside0.mk (BL.out.trans (Below.mono hb BL.out.size))
    have n_Go := Aside0.mk (Got.below Go.out hb)
    have n_Bo := Aside0.mk (blk_below Bo.out hb)
    have n_Ga := Aside0.mk (Got.below Ga.out hb)
    have n_Ba := Aside0.mk (blk_below Ba.out hb)
    have n_Gx := Aside0.mk (Got.below Gx.out hb)
    have n_Bx := Aside0.mk (blk_below Bx.out hb)
    have n_Gy := Aside0.mk (Got.below Gy.out hb)
    have n_By := Aside0.mk (blk_below By.out hb)
    have n_Gz := Aside0.mk (Got.below Gz.out hb)
    have n_Bz := Aside0.mk (blk_below Bz.out hb)
    have n_Gw := Aside0.mk (Got.below Gw.out hb)
    have n_Bw := Aside0.mk (blk_below Bw.out hb)
    have n_Gl := Aside0.mk (Got.below Gl.out hb)
    have n_Bl := Aside0.mk (blk_below Bl.out hb)
    have n_Gv := Aside0.mk (Got.below Gv.out hb)
    have n_Bv := Aside0.mk (blk_below Bv.out hb)
    have n_Gb := Aside0.mk (Got.below Gb.out hb)
    have n_Bb := Aside0.mk (blk_below Bb.out hb)
    clear G0 G1 XA XB BL Go Bo Ga Ba Gx Bx Gy By Gz Bz Gw Bw Gl Bl Gv Bv Gb Bb
    have G0 := n_G0
    have G1 := n_G1
    have XA := n_XA
    have XB := n_XB
    have BL := n_BL
    have Go := n_Go
    have Bo := n_Bo
    have Ga := n_Ga
    have Ba := n_Ba
    have Gx := n_Gx
    have Bx := n_Bx
    have Gy := n_Gy
    have By := n_By
    have Gz := n_Gz
    have Bz := n_Bz
    have Gw := n_Gw
    have Bw := n_Bw
    have Gl := n_Gl
    have Bl := n_Bl
    have Gv := n_Gv
    have Bv := n_Bv
    have Gb := n_Gb
    have Bb := n_Bb
    clear n_G0 n_G1 n_XA n_XB n_BL n_Go n_Bo n_Ga n_Ba n_Gx n_Bx n_Gy n_By n_Gz n_Bz n_Gw n_Bw n_Gl n_Bl n_Gv n_Bv n_Gb n_Bb
    clear hb
    clear v0_0 v0_1 v0_2
    have v0_0 := (blk_cell XA.out 0).trans rfl
    have v0_1 := (blk_cell XA.out 1).trans rfl
    have v0_2 := (blk_cell XA.out 2).trans rfl
    go_wp2_with fail
    refine (calc_empty s0 A0 c0 n0 B0 b0 e0 V29 G0.out.n2 G0.out.n1 G0.out.e2 G0.out.e1 true FF.out.fa).mono ?_
    rintro e_ V30 ⟨rfl, hb⟩
    have n_G0 := Aside0.mk (Got.below G0.out hb)
    have n_G1 := Aside0.mk (Got.below G1.out hb)
    have n_XA := Aside0.mk (blk_below XA.out hb)
    have n_XB := Aside0.mk (blk_below XB.out hb)
    have n_BL := Aside0.mk (BL.out.trans (Below.mono hb BL.out.size))
    have n_Go := Aside0.mk (Got.below Go.out hb)
    have n_Bo := Aside0.mk (blk_below Bo.out hb)
    have n_Ga := Aside0.mk (Got.below Ga.out hb)
    have n_Ba := Aside0.mk (blk_below Ba.out hb)
    have n_Gx := Aside0.mk (Got.below Gx.out hb)
    have n_Bx := Aside0.mk (blk_below Bx.out hb)
    have n_Gy := Aside0.mk (Got.below Gy.out hb)
    have n_By := Aside0.mk (blk_below By.out hb)
    have n_Gz := Aside0.mk (Got.below Gz.out hb)
    have n_Bz := Aside0.mk (blk_below Bz.out hb)
    have n_Gw := Aside0.mk (Got.below Gw.out hb)
    have n_Bw := Aside0.mk (blk_below Bw.out hb)
    have n_Gl := Aside0.mk (Got.below Gl.out hb)
    have n_Bl := Aside0.mk (blk_below Bl.out hb)
    have n_Gv := Aside0.mk (Got.below Gv.out hb)
    have n_Bv := Aside0.mk (blk_below Bv.out hb)
    have n_Gb := Aside0.mk (Got.below Gb.out hb)
    have n_Bb := Aside0.mk (blk_below Bb.out hb)
    clear G0 G1 XA XB BL Go Bo Ga Ba Gx Bx Gy By Gz Bz Gw Bw Gl Bl Gv Bv Gb Bb
    have G0 := n_G0
    have G1 := n_G1
    have XA := n_XA
    have XB := n_XB
    have BL := n_BL
    have Go := n_Go
    have Bo := n_Bo
    have Ga := n_Ga
    have Ba := n_Ba
    have Gx := n_Gx
    have Bx := n_Bx
    have Gy := n_Gy
    have By := n_By
    have Gz := n_Gz
    have Bz := n_Bz
    have Gw := n_Gw
    have Bw := n_Bw
    have Gl := n_Gl
    have Bl := n_Bl
    have Gv := n_Gv
    have Bv := n_Bv
    have Gb := n_Gb
    have Bb := n_Bb
    clear n_G0 n_G1 n_XA n_XB n_BL n_Go n_Bo n_Ga n_Ba n_Gx n_Bx n_Gy n_By n_Gz n_Bz n_Gw n_Bw n_Gl n_Bl n_Gv n_Bv n_Gb n_Bb
    clear hb
    clear v0_0 v0_1 v0_2
    have v0_0 := (blk_cell Ba.out 0).trans rfl
    have v0_1 := (blk_cell Ba.out 1).trans rfl
    have v0_2 := (blk_cell Ba.out 2).trans rfl
    go_wp2_with fail
    refine (calc_empty s0 Pa pa rows Qa qa ea V30 Ga.out.n2 Ga.out.n1 Ga.out.e2 Ga.out.e1 true FF.out.fn).mono ?_
    rintro e_ V31 ⟨rfl, hb⟩
    have n_G0 := Aside0.mk (Got.below G0.out hb)
    have n_G1 := Aside0.mk (Got.below G1.out hb)
    have n_XA := Aside0.mk (blk_below XA.out hb)
    have n_XB := Aside0.mk (blk_below XB.out hb)
    have n_BL := Aside0.mk (BL.out.trans (Below.mono hb BL.out.size))
    have n_Go := Aside0.mk (Got.below Go.out hb)
    have n_Bo := Aside0.mk (blk_below Bo.out hb)
    have n_Ga := Aside0.mk (Got.below Ga.out hb)
    have n_Ba := Aside0.mk (blk_below Ba.out hb)
    have n_Gx := Aside0.mk (Got.below Gx.out hb)
    have n_Bx := Aside0.mk (blk_below Bx.out hb)
    have n_Gy := Aside0.mk (Got.below Gy.out hb)
    have n_By := Aside0.mk (blk_below By.out hb)
    have n_Gz := Aside0.mk (Got.below Gz.out hb)
    have n_Bz := Aside0.mk (blk_below Bz.out hb)
    have n_Gw := Aside0.mk (Got.below Gw.out hb)
    have n_Bw := Aside0.mk (blk_below Bw.out hb)
    have n_Gl := Aside0.mk (Got.below Gl.out hb)
    have n_Bl := Aside0.mk (blk_below Bl.out hb)
    have n_Gv := Aside0.mk (Got.below Gv.out hb)
    have n_Bv := Aside0.mk (blk_below Bv.out hb)
    have n_Gb := Aside0.mk (Got.below Gb.out hb)
    have n_Bb := Aside0.mk (blk_below Bb.out hb)
    clear G0 G1 XA XB BL Go Bo Ga Ba Gx Bx Gy By Gz Bz Gw Bw Gl Bl Gv Bv Gb Bb
    have G0 := n_G0
    have G1 := n_G1
    have XA := n_XA
    have XB := n_XB
    have BL := n_BL
    have Go := n_Go
    have Bo := n_Bo
    have Ga := n_Ga
    have Ba := n_Ba
    have Gx := n_Gx
    have Bx := n_Bx
    have Gy := n_Gy
    have By := n_By
    have Gz := n_Gz
    have Bz := n_Bz
    have Gw := n_Gw
    have Bw := n_Bw
    have Gl := n_Gl
    have Bl := n_Bl
    have Gv := n_Gv
    have Bv := n_Bv
    have Gb := n_Gb
    have Bb := n_Bb
    clear n_G0 n_G1 n_XA n_XB n_BL n_Go n_Bo n_Ga n_Ba n_Gx n_Bx n_Gy n_By n_Gz n_Bz n_Gw n_Bw n_Gl n_Bl n_Gv n_Bv n_Gb n_Bb
    clear hb
    clear v0_0 v0_1 v0_2
    go_wp2_with fail
    go_ret
    exact ⟨rfl, BL.out⟩
  | false =>
    have v0_0 := (blk_cell XA.out 0).trans rfl
    have v0_1 := (blk_cell XA.out 1).trans rfl
    have v0_2 := (blk_cell XA.out 2).trans rfl
    go_wp2_with fail
    refine (calc_empty s0 A0 c0 n0 B0 b0 e0 V27 G0.out.n2 G0.out.n1 G0.out.e2 G0.out.e1 Ea FF.out.fa).mono ?_
    rintro e_ V32 ⟨rfl, hb⟩
    have n_G0 := Aside0.mk (Got.below G0.out hb)
    have n_G1 := Aside0.mk (Got.below G1.out hb)
    have n_XA := Aside0.mk (blk_below XA.out hb)
    have n_XB := Aside0.mk (blk_below XB.out hb)
    have n_BL := Aside0.mk (BL.out.trans (Below.mono hb BL.out.size))
    have n_Go := Aside0.mk (Got.below Go.out hb)
    have n_Bo := Aside0.mk (blk_below Bo.out hb)
    have n_Ga := Aside0.mk (Got.below Ga.out hb)
    have n_Ba := Aside0.mk (blk_below Ba.out hb)
    have n_Gx := Aside0.mk (Got.below Gx.out hb)
    have n_Bx := Aside0.mk (blk_below Bx.out hb)
    have n_Gy := Aside0.mk (Got.below Gy.out hb)
    have n_By := Aside0.mk (blk_below By.out hb)
    have n_Gz := Aside0.mk (Got.below Gz.out hb)
    have n_Bz := Aside0.mk (blk_below Bz.out hb)
    have n_Gw := Aside0.mk (Got.below Gw.out hb)
    have n_Bw := Aside0.mk (blk_below Bw.out hb)
    have n_Gl := Aside0.mk (Got.below Gl.out hb)
    have n_Bl := Aside0.mk (blk_below Bl.out hb)
    have n_Gv := Aside0.mk (Got.below Gv.out hb)
    have n_Bv := Aside0.mk (blk_below Bv.out hb)
    have n_Gb := Aside0.mk (Got.below Gb.out hb)
    have n_Bb := Aside0.mk (blk_below Bb.out hb)
    clear G0 G1 XA XB BL Go Bo Ga Ba Gx Bx Gy By Gz Bz Gw Bw Gl Bl Gv Bv Gb Bb
    have G0 := n_G0
    have G1 := n_G1
    have XA := n_XA
    have XB := n_XB
    have BL := n_BL
    have Go := n_Go
    have Bo := n_Bo
    have Ga := n_Ga
    have Ba := n_Ba
    have Gx := n_Gx
    have Bx := n_Bx
    have Gy := n_Gy
    have By := n_By
    have Gz := n_Gz
    have Bz := n_Bz
    have Gw := n_Gw
    have Bw := n_Bw
    have Gl := n_Gl
    have Bl := n_Bl
    have Gv := n_Gv
    have Bv := n_Bv
    have Gb := n_Gb
    have Bb := n_Bb
    clear n_G0 n_G1 n_XA n_XB n_BL n_Go n_Bo n_Ga n_Ba n_Gx n_Bx n_Gy n_By n_Gz n_Bz n_Gw n_Bw n_Gl n_Bl n_Gv n_Bv n_Gb n_Bb
    clear hb
    clear v0_0 v0_1 v0_2
    cases Ea with
    | false =>
      go_wp2_with fail
      go_ret
      exact ⟨rfl, BL.out⟩
    | true =>
      have t3 := o2 rfl
      subst t3
      clear o1 o2
      have v0_0 := (blk_cell Ba.out 0).trans rfl
      have v0_1 := (blk_cell Ba.out 1).trans rfl
      have v0_2 := (blk_cell Ba.out 2).trans rfl
      go_wp2_with fail
      refine (calc_empty s0 Pa pa rows Qa qa ea V32 Ga.out.n2 Ga.out.n1 Ga.out.e2 Ga.out.e1 true FF.out.fn).mono ?_
      rintro e_ V33 ⟨rfl, hb⟩
      have n_G0 := Aside0.mk (Got.below G0.out hb)
      have n_G1 := Aside0.mk (Got.below G1.out hb)
      have n_XA := Aside0.mk (blk_below XA.out hb)
      have n_XB := Aside0.mk (blk_below XB.out hb)
      have n_BL := Aside0.mk (BL.out.trans (Below.mono hb BL.out.size))
      have n_Go := Aside0.mk (Got.below Go.out hb)
      have n_Bo := Aside0.mk (blk_below Bo.out hb)
      have n_Ga := Aside0.mk (Got.below Ga.out hb)
      have n_Ba := Aside0.mk (blk_below Ba.out hb)
      have n_Gx := Aside0.mk (Got.below Gx.out hb)
      have n_Bx := Aside0.mk (blk_below Bx.out hb)
      have n_Gy := Aside0.mk (Got.below Gy.out hb)
      have n_By := Aside0.mk (blk_below By.out hb)
      have n_Gz := Aside0.mk (Got.below Gz.out hb)
      have n_Bz := Aside0.mk (blk_below Bz.out hb)
      have n_Gw := Aside0.mk (Got.below Gw.out hb)
      have n_Bw := Aside0.mk (blk_below Bw.out hb)
      have n_Gl := Aside0.mk (Got.below Gl.out hb)
      have n_Bl := Aside0.mk (blk_below Bl.out hb)
      have n_Gv := Aside0.mk (Got.below Gv.out hb)
      have n_Bv := Aside0.mk (blk_below Bv.out hb)
      have n_Gb := Aside0.mk (Got.below Gb.out hb)
      have n_Bb := Aside0.mk (blk_below Bb.out hb)
      clear G0 G1 XA XB BL Go Bo Ga Ba Gx Bx Gy By Gz Bz Gw Bw Gl Bl Gv Bv Gb Bb
      have G0 := n_G0
      have G1 := n_G1
      have XA := n_XA
      have XB := n_XB
      have BL := n_BL
      have Go := n_Go
      have Bo := n_Bo
      have Ga := n_Ga
      have Ba := n_Ba
      have Gx := n_Gx
      have Bx := n_Bx
      have Gy := n_Gy
      have By := n_By
      have Gz := n_Gz
      have Bz := n_Bz
      have Gw := n_Gw
      have Bw := n_Bw
      have Gl := n_Gl
      have Bl := n_Bl
      have Gv := n_Gv
      have Bv := n_Bv
      have Gb := n_Gb
      have Bb := n_Bb
      clear n_G0 n_G1 n_XA n_XB n_BL n_Go n_Bo n_Ga n_Ba n_Gx n_Bx n_Gy n_By n_Gz n_Bz n_Gw n_Bw n_Gl n_Bl n_Gv n_Bv n_Gb n_Bb
      clear hb
      clear v0_0 v0_1 v0_2
      go_wp2_with fail
      go_ret
      exact ⟨rfl, BL.out⟩
/-- What two automata that come in are at the beginning of a law's walk. -/
theorem two_boxes (w : World) (a b : Array Value) : ∃ W, W = (w.alloc (.cells a 25)).alloc (.cells b 25) ∧ W.heap[w.heap.size]? = some (.cells a 25 (0, 0)) ∧ W.heap[w.heap.size + 1]? = some (.cells b 25 (0, 0)) ∧ Below w.heap.size w W := by
  refine ⟨_, rfl, blk_alloc (blk_new _ _) _, ?_, below_alloc (below_alloc (Below.refl _ _) _) _⟩
  have := blk_new (w.alloc (.cells a 25)) (.cells b 25)
  simpa using this
set_option maxHeartbeats 8000000 in
set_option maxRecDepth 100000 in
theorem CalcLaws_early (s0 : Int) (A0 : Option Addr) (c0 : Nat) (n0 : List (List Int)) (B0 : Option Addr) (b0 : Nat) (e0 : List Bool) (s1 : Int) (A1 : Option Addr) (c1 : Nat) (n1 : List (List Int)) (B1 : Option Addr) (b1 : Nat) (e1 : List Bool) (w : World)
    (g0 : Got 0 A0 c0 n0 B0 b0 e0 w) (g1 : Got 0 A1 c1 n1 B1 b1 e1 w) (kg kh : Nat) (r1 r2 : Bool) (hkg : caesuraref15_Great.f kg s0 n0 e0 60 = some r1) (hkh : caesuraref15_Great.f kh s1 n1 e1 60 = some r2) (r3 r4 : Bool) (hr3 : rightB s0 n0 e0 = r3) (hr4 : rightB s1 n1 e1 = r4) (h : r1 = true ∨ r2 = true ∨ r3 = false ∨ r4 = false ∨ (s0 != s1) = true) :
    Calls Try.prog 11 #[.agg #[.int .i64 s0, .slice A0 n0.length c0, .slice B0 e0.length b0], .agg #[.int .i64 s1, .slice A1 n1.length c1, .slice B1 e1.length b1]] w fun e w' => e = .returned (.bool true) ∧ Below w.heap.size w w' := by
  have hu25 := Try.underlying25
  have HH := Aside0.mk h
  have HGR := Aside0.mk hkg
  have HGS := Aside0.mk hkh
  have HR1 : Aside0 (L.rightx.f s0 n0 e0 = some r3) := ⟨by unfold L.rightx.f; rw [hr3]⟩
  have HR2 : Aside0 (L.rightx.f s1 n1 e1 = some r4) := ⟨by unfold L.rightx.f; rw [hr4]⟩
  clear h hkg hkh hr3 hr4
  go_enter Try.func11, Try.ntmps11
  go_upto_region 1 with (fail)
  obtain ⟨W, hW, x1, x2, hbl⟩ := two_boxes w #[.int .i64 s0, .slice A0 n0.length c0, .slice B0 e0.length b0] #[.int .i64 s1, .slice A1 n1.length c1, .slice B1 e1.length b1]
  rw [← hW]
  have G0 := Aside0.mk (g0.below hbl)
  have G1 := Aside0.mk (g1.below hbl)
  have XA := Aside0.mk x1
  have XB := Aside0.mk x2
  have BL := Aside0.mk hbl
  clear hW x1 x2 hbl g0 g1
  go_wp2_with fail
  refine (alive27 W).mono ?_
  rintro e_ V1 ⟨rfl, hb⟩
  have G0 := Aside0.mk (G0.out.below hb)
  have G1 := Aside0.mk (G1.out.below hb)
  have XA := Aside0.mk (blk_below XA.out hb)
  have XB := Aside0.mk (blk_below XB.out hb)
  have BL := Aside0.mk (BL.out.trans (hb.mono BL.out.size))
  clear hb
  have v0 := (blk_cell XA.out 0).trans rfl
  have v1 := (blk_cell XA.out 1).trans rfl
  have v2 := (blk_cell XA.out 2).trans rfl
  go_wp2_with fail
  refine (caesuraref15_Great.calls kg s0 A0 c0 n0 B0 b0 e0 60 r1 V1 G0.out.n2 G0.out.n1 G0.out.e2 G0.out.e1 HGR.out).mono ?_
  rintro e_ V2 ⟨rfl, hb⟩
  have G0 := Aside0.mk (G0.out.below hb)
  have G1 := Aside0.mk (G1.out.below hb)
  have XA := Aside0.mk (blk_below XA.out hb)
  have XB := Aside0.mk (blk_below XB.out hb)
  have BL := Aside0.mk (BL.out.trans (hb.mono BL.out.size))
  clear hb v0 v1 v2
  cases r1 with
  | true =>
    go_wp2_with fail
    go_ret
    exact ⟨rfl, BL.out⟩
  | false =>
    have v0 := (blk_cell XB.out 0).trans rfl
    have v1 := (blk_cell XB.out 1).trans rfl
    have v2 := (blk_cell XB.out 2).trans rfl
    go_wp2_with fail
    refine (caesuraref15_Great.calls kh s1 A1 c1 n1 B1 b1 e1 60 r2 V2 G1.out.n2 G1.out.n1 G1.out.e2 G1.out.e1 HGS.out).mono ?_
    rintro e_ V3 ⟨rfl, hb⟩
    have G0 := Aside0.mk (G0.out.below hb)
    have G1 := Aside0.mk (G1.out.below hb)
    have XA := Aside0.mk (blk_below XA.out hb)
    have XB := Aside0.mk (blk_below XB.out hb)
    have BL := Aside0.mk (BL.out.trans (hb.mono BL.out.size))
    clear hb v0 v1 v2
    cases r2 with
    | true =>
      go_wp2_with fail
      go_ret
      exact ⟨rfl, BL.out⟩
    | false =>
      have v0 := (blk_cell XA.out 0).trans rfl
      have v1 := (blk_cell XA.out 1).trans rfl
      have v2 := (blk_cell XA.out 2).trans rfl
      go_wp2_with fail
      refine (L.rightx.calls s0 A0 c0 n0 B0 b0 e0 r3 V3 G0.out.n2 G0.out.n1 G0.out.e2 G0.out.e1 HR1.out).mono ?_
      rintro e_ V4 ⟨rfl, hb⟩
      have G1 := Aside0.mk (G1.out.below hb)
      have XA := Aside0.mk (blk_below XA.out hb)
      have XB := Aside0.mk (blk_below XB.out hb)
      have BL := Aside0.mk (BL.out.trans (hb.mono BL.out.size))
      clear hb v0 v1 v2
      cases r3 with
      | false =>
        go_wp2_with fail
        go_ret
        exact ⟨rfl, BL.out⟩
      | true =>
        have v0 := (blk_cell XB.out 0).trans rfl
        have v1 := (blk_cell XB.out 1).trans rfl
        have v2 := (blk_cell XB.out 2).trans rfl
        go_wp2_with fail
        refine (L.rightx.calls s1 A1 c1 n1 B1 b1 e1 r4 V4 G1.out.n2 G1.out.n1 G1.out.e2 G1.out.e1 HR2.out).mono ?_
        rintro e_ V5 ⟨rfl, hb⟩
        have XA := Aside0.mk (blk_below XA.out hb)
        have XB := Aside0.mk (blk_below XB.out hb)
        have BL := Aside0.mk (BL.out.trans (hb.mono BL.out.size))
        clear hb v0 v1 v2
        cases r4 with
        | false =>
          go_wp2_with fail
          go_ret
          exact ⟨rfl, BL.out⟩
        | true =>
          have hne : (s0 != s1) = true := by
            rcases HH.out with h | h | h | h | h
            · cases h
            · cases h
            · cases h
            · cases h
            · exact h
          have v0 := (blk_cell XA.out 0).trans rfl
          have u0 := (blk_cell XB.out 0).trans rfl
          go_wp2_with fail
          go_ret
          exact ⟨rfl, BL.out⟩
theorem CalcLaws_walk (s0 : Int) (A0 : Option Addr) (c0 : Nat) (n0 : List (List Int)) (B0 : Option Addr) (b0 : Nat) (e0 : List Bool) (s1 : Int) (A1 : Option Addr) (c1 : Nat) (n1 : List (List Int)) (B1 : Option Addr) (b1 : Nat) (e1 : List Bool) (w : World)
    (g0 : Got 0 A0 c0 n0 B0 b0 e0 w) (g1 : Got 0 A1 c1 n1 B1 b1 e1 w) :
    Calls Try.prog 11 #[.agg #[.int .i64 s0, .slice A0 n0.length c0, .slice B0 e0.length b0], .agg #[.int .i64 s1, .slice A1 n1.length c1, .slice B1 e1.length b1]] w fun e w' => e = .returned (.bool true) ∧ Below w.heap.size w w' := by
  obtain ⟨r1, hg1⟩ := great_ev s0 n0 e0 60 (Kd.C_max g0.n2)
  obtain ⟨r2, hg2⟩ := great_ev s1 n1 e1 60 (Kd.C_max g1.n2)
  obtain ⟨kg, hkg⟩ := hg1.rounds
  obtain ⟨kh, hkh⟩ := hg2.rounds
  by_cases h : r1 = true ∨ r2 = true ∨ rightB s0 n0 e0 = false ∨ rightB s1 n1 e1 = false ∨ (s0 != s1) = true
  · exact CalcLaws_early s0 A0 c0 n0 B0 b0 e0 s1 A1 c1 n1 B1 b1 e1 w g0 g1 kg kh r1 r2 hkg hkh _ _ rfl rfl h
  · simp only [not_or, Bool.not_eq_true, Bool.not_eq_false, bne_eq_false_iff_eq] at h
    obtain ⟨rfl, rfl, h3, h4, rfl⟩ := h
    have k1 := great_small h3 hg1
    have k2 := great_small h4 hg2
    have hmul : n0.length * n1.length ≤ 60 * 60 := Nat.mul_le_mul (by omega) (by omega)
    have m1 := (rightB_spec h3).2.2.2.2.1
    have m2 := (rightB_spec h4).2.2.2.2.1
    have hmul : n0.length * n1.length ≤ 30 * 30 := Nat.mul_le_mul (by omega) (by omega)
    obtain ⟨rows, eo, ea, el, x, y, z, Eo, Ea, Eb, En, F⟩ := laws_some h3 h4 (by omega)
    exact CalcLaws_main s0 A0 c0 n0 B0 b0 e0 A1 c1 n1 B1 b1 e1 w g0 g1 kg kh hkg hkh rows eo ea el x y z Eo Ea Eb En F

end Go.Proofs.Ytpedenbcfbflbaa.X
