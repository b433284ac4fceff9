-- PRINTED BY print.sh 35421559b90ae4d0a3588c463048766b98c2df88dd9212a6774a882060cdf62d: not written by this session
import Derived.Test.YtpedenbcfbflbaaPMarkMakesx0
import Derived.Test.YtpedenbcfbflbaaPMarkMakesx1
namespace Go.Proofs.Ytpedenbcfbflbaa.PMarkMakes
open Go.RowKit Go.Proofs.YtpedenbcfbflbaaW.PrintWords Go.Proofs.YtpedenbcfbflbaaW.PrintLast Go.Proofs.YtpedenbcfbflbaaW.PrintMore
attribute [local go_sem] max2_int min2_int max_two min_two max_three min_three max_four min_four   -- for this text's walks alone
set_option linter.unusedVariables false
set_option linter.unusedSimpArgs false

/-! ### caesuraref19_next: function 47 -/
mutual
def caesuraref19_next.j0 : Nat → Int → Bool → Bool → Int → List (List Int) → List Bool → Int → List (List Int) → List Bool → Int → Int → Option (Int × Int)
  | 0, _, _, _, _, _, _, _, _, _, _, _ => none
  | k + 1, x9, x10, x16, x184000, x184001, x184002, x185000, x185001, x185002, x186000, x186001 => if x16 = true then (if 0 ≤ x186001 then (if x186001 < (x184001.length : Int) then (if 0 ≤ x9 then (if x9 < ((rd_L1 x184001 x186001).length : Int) then (some (1, rd (rd_L1 x184001 x186001) x9)) else (none)) else (none)) else (none)) else (none)) else (if x186000 = 1 then (if 0 ≤ x186001 then (if x186001 < (x184002.length : Int) then (caesuraref19_next.j1 k x9 x10 (rdOf false x184002 x186001) x185000 x185001 x185002 x186000 x186001) else (none)) else (none)) else (caesuraref19_next.j1 k x9 x10 false x185000 x185001 x185002 x186000 x186001))
def caesuraref19_next.j1 : Nat → Int → Bool → Bool → Int → List (List Int) → List Bool → Int → Int → Option (Int × Int)
  | 0, _, _, _, _, _, _, _, _ => none
  | k + 1, x9, x10, x34, x185000, x185001, x185002, x186000, x186001 => if x34 = true then (if 0 < (x185001.length : Int) then (if 0 ≤ x9 then (if x9 < ((rd_L1 x185001 0).length : Int) then (some (2, rd (rd_L1 x185001 0) x9)) else (none)) else (none)) else (none)) else (if x186000 = 2 then (if x10 = true then (some (3, 0)) else (if 0 ≤ x186001 then (if x186001 < (x185001.length : Int) then (if 0 ≤ x9 then (if x9 < ((rd_L1 x185001 x186001).length : Int) then (some (2, rd (rd_L1 x185001 x186001) x9)) else (none)) else (none)) else (none)) else (none))) else (some (3, 0)))
end
def caesuraref19_next.f (k : Nat) (a0_0 : Int) (l0_1 : List (List Int)) (l0_2 : List Bool) (a1_0 : Int) (l1_1 : List (List Int)) (l1_2 : List Bool) (a2_0 : Int) (a2_1 : Int) (a3 : Int) : Option (Int × Int) := if a2_0 ≤ 1 then (caesuraref19_next.j0 k (wrap64 (Int.tdiv a3 2)) ((Int.tmod a3 2) == 1) (!((Int.tmod a3 2) == 1)) a0_0 l0_1 l0_2 a1_0 l1_1 l1_2 a2_0 a2_1) else (caesuraref19_next.j0 k (wrap64 (Int.tdiv a3 2)) ((Int.tmod a3 2) == 1) false a0_0 l0_1 l0_2 a1_0 l1_1 l1_2 a2_0 a2_1)
theorem caesuraref19_next.mono_l : ∀ k, (∀ y0 y1 y2 y3 y4 y5 y6 y7 y8 y9 y10, LeO (caesuraref19_next.j0 k y0 y1 y2 y3 y4 y5 y6 y7 y8 y9 y10) (caesuraref19_next.j0 (k + 1) y0 y1 y2 y3 y4 y5 y6 y7 y8 y9 y10)) ∧ (∀ y0 y1 y2 y3 y4 y5 y6 y7, LeO (caesuraref19_next.j1 k y0 y1 y2 y3 y4 y5 y6 y7) (caesuraref19_next.j1 (k + 1) y0 y1 y2 y3 y4 y5 y6 y7))
  | 0 => ⟨fun _ _ _ _ _ _ _ _ _ _ _ r h => by simp [caesuraref19_next.j0] at h, fun _ _ _ _ _ _ _ _ r h => by simp [caesuraref19_next.j1] at h⟩
  | k + 1 => by
    obtain ⟨ih0, ih1⟩ := caesuraref19_next.mono_l k
    refine ⟨?_, ?_⟩
    · intro y0 y1 y2 y3 y4 y5 y6 y7 y8 y9 y10
      unfold caesuraref19_next.j0
      repeat' first
      | (with_reducible exact ih0 _ _ _ _ _ _ _ _ _ _ _)
      | (with_reducible exact ih1 _ _ _ _ _ _ _ _)
      | (with_reducible exact LeO.refl _)
      | (with_reducible exact LeO.none _)
      | (with_reducible refine LeO.ite ?_ ?_)
      | (with_reducible refine LeO.bind ?_ (fun _ => ?_))
      | exact ih0 _ _ _ _ _ _ _ _ _ _ _
      | exact ih1 _ _ _ _ _ _ _ _
      | exact LeO.none _
      | refine LeO.ite ?_ ?_
      | refine LeO.bind ?_ (fun _ => ?_)
    · intro y0 y1 y2 y3 y4 y5 y6 y7
      unfold caesuraref19_next.j1
      repeat' first
      | (with_reducible exact ih0 _ _ _ _ _ _ _ _ _ _ _)
      | (with_reducible exact ih1 _ _ _ _ _ _ _ _)
      | (with_reducible exact LeO.refl _)
      | (with_reducible exact LeO.none _)
      | (with_reducible refine LeO.ite ?_ ?_)
      | (with_reducible refine LeO.bind ?_ (fun _ => ?_))
      | exact ih0 _ _ _ _ _ _ _ _ _ _ _
      | exact ih1 _ _ _ _ _ _ _ _
      | exact LeO.none _
      | refine LeO.ite ?_ ?_
      | refine LeO.bind ?_ (fun _ => ?_)
theorem caesuraref19_next.mono : ∀ a0 a1 a2 a3 a4 a5 a6 a7 a8 k, LeO (caesuraref19_next.f k a0 a1 a2 a3 a4 a5 a6 a7 a8) (caesuraref19_next.f (k + 1) a0 a1 a2 a3 a4 a5 a6 a7 a8) := by
  intro a0 a1 a2 a3 a4 a5 a6 a7 a8 k
  obtain ⟨ih0, ih1⟩ := caesuraref19_next.mono_l k
  unfold caesuraref19_next.f
  repeat' first
      | (with_reducible exact ih0 _ _ _ _ _ _ _ _ _ _ _)
      | (with_reducible exact ih1 _ _ _ _ _ _ _ _)
      | (with_reducible exact LeO.refl _)
      | (with_reducible exact LeO.none _)
      | (with_reducible refine LeO.ite ?_ ?_)
      | (with_reducible refine LeO.bind ?_ (fun _ => ?_))
      | exact ih0 _ _ _ _ _ _ _ _ _ _ _
      | exact ih1 _ _ _ _ _ _ _ _
      | exact LeO.none _
      | refine LeO.ite ?_ ?_
      | refine LeO.bind ?_ (fun _ => ?_)
set_option maxHeartbeats 8000000 in
set_option maxRecDepth 100000 in
theorem caesuraref19_next.calls (k : Nat) (a0_0 : Int) (A0_1 : Option Addr) (c0_1 : Nat) (l0_1 : List (List Int)) (A0_2 : Option Addr) (c0_2 : Nat) (l0_2 : List Bool) (a1_0 : Int) (A1_1 : Option Addr) (c1_1 : Nat) (l1_1 : List (List Int)) (A1_2 : Option Addr) (c1_2 : Nat) (l1_2 : List Bool) (a2_0 : Int) (a2_1 : Int) (a3 : Int) (r1 : Int) (r2 : Int) (w : World) (hr0_1 : Kd.C (Kd.slice 3 (Kd.int .i64)) w A0_1 l0_1.length l0_1) (hc0_1 : l0_1.length ≤ c0_1) (hr0_2 : Kd.C Kd.bool w A0_2 l0_2.length l0_2) (hc0_2 : l0_2.length ≤ c0_2) (hr1_1 : Kd.C (Kd.slice 3 (Kd.int .i64)) w A1_1 l1_1.length l1_1) (hc1_1 : l1_1.length ≤ c1_1) (hr1_2 : Kd.C Kd.bool w A1_2 l1_2.length l1_2) (hc1_2 : l1_2.length ≤ c1_2) (h : caesuraref19_next.f k a0_0 l0_1 l0_2 a1_0 l1_1 l1_2 a2_0 a2_1 a3 = some (r1, r2)) :
    Calls Try.prog 47 #[.agg #[.int .i64 a0_0, .slice A0_1 l0_1.length c0_1, .slice A0_2 l0_2.length c0_2], .agg #[.int .i64 a1_0, .slice A1_1 l1_1.length c1_1, .slice A1_2 l1_2.length c1_2], .agg #[.int .i64 a2_0, .int .i64 a2_1], .int .i64 a3] w fun e w' => e = .returned (.agg #[.int .i64 r1, .int .i64 r2]) ∧ Below w.heap.size w w' := by
  have hu25 := Try.underlying25
  have hu58 := Try.underlying58
  have HR0_1 := Aside0.mk hr0_1
  have HC0_1 := Aside0.mk hc0_1
  clear hr0_1 hc0_1
  have HR0_2 := Aside0.mk hr0_2
  have HC0_2 := Aside0.mk hc0_2
  clear hr0_2 hc0_2
  have HR1_1 := Aside0.mk hr1_1
  have HC1_1 := Aside0.mk hc1_1
  clear hr1_1 hc1_1
  have HR1_2 := Aside0.mk hr1_2
  have HC1_2 := Aside0.mk hc1_2
  clear hr1_2 hc1_2
  have HB := Aside0.mk (Below.refl w.heap.size w)
  have H : (if a2_0 ≤ 1 then (caesuraref19_next.j0 k (wrap64 (Int.tdiv a3 2)) ((Int.tmod a3 2) == 1) (!((Int.tmod a3 2) == 1)) a0_0 l0_1 l0_2 a1_0 l1_1 l1_2 a2_0 a2_1) else (caesuraref19_next.j0 k (wrap64 (Int.tdiv a3 2)) ((Int.tmod a3 2) == 1) false a0_0 l0_1 l0_2 a1_0 l1_1 l1_2 a2_0 a2_1)) = some (r1, r2) := h
  clear h
  have HC5 := Aside0.mk H
  clear H
  go_enter Try.func47, Try.ntmps47
  go_upto_region 2 with (first | ((with_reducible refine gate_dst (N := 4) rfl ?_); refine box_event ?hg (N := 4) ?hd (cs := #[.int .i64 a0_0, .slice A0_1 l0_1.length c0_1, .slice A0_2 l0_2.length c0_2]) (t := 25) ?hr ?_; (case hd => rfl); (case hg => rfl); (case hr => first | (go_simp; done) | (go_simp; rfl)); intro gb183 hg w6 hbox hb; have n0_ := Aside0.mk (below_step (by repeat (first | (with_reducible first | exact HB.out | apply below_alloc | apply pw_below_drewN | apply below_drew1) | exact HB.out)) hb); have n1_ := Aside0.mk (hbox); have n2_ := Aside0.mk ((by rw [hg]; exact (below_size (by repeat (first | (with_reducible first | exact HB.out | apply below_alloc | apply pw_below_drewN | apply below_drew1) | exact HB.out))) : w.heap.size ≤ gb183)); have n3_ := Aside0.mk ((by rw [hg]; exact (below_size (by repeat (first | (with_reducible first | exact HB.out | apply below_alloc | apply pw_below_drewN | apply below_drew1) | exact HB.out))) : w.heap.size ≤ gb183)); clear HB; have HB := n0_; have BK183 := n1_; have GW183 := n2_; have GE183 := n3_; clear n0_ n1_ n2_ n3_; clear hb hbox hg) | ((with_reducible refine gate_dst (N := 5) rfl ?_); refine box_event ?hg (N := 5) ?hd (cs := #[.int .i64 a1_0, .slice A1_1 l1_1.length c1_1, .slice A1_2 l1_2.length c1_2]) (t := 25) ?hr ?_; (case hd => rfl); (case hg => rfl); (case hr => first | (go_simp; done) | (go_simp; rfl)); intro gb184 hg w7 hbox hb; have n0_ := Aside0.mk (blk_below (g := gb183) (o := .cells #[.int .i64 a0_0, .slice A0_1 l0_1.length c0_1, .slice A0_2 l0_2.length c0_2] 25 (0, 0)) (by (with_reducible repeat (first | refine blk_drewN ?_ _ | refine blk_drew ?_ | refine blk_alloc ?_ _)); exact BK183.out) hb); have n1_ := Aside0.mk (below_step (by repeat (first | (with_reducible first | exact HB.out | apply below_alloc | apply pw_below_drewN | apply below_drew1 | refine below_set ?_ GE183.out) | exact HB.out)) hb); have n2_ := Aside0.mk (hbox); have n3_ := Aside0.mk ((by rw [hg]; exact (below_size (by repeat (first | (with_reducible first | exact HB.out | apply below_alloc | apply pw_below_drewN | apply below_drew1 | refine below_set ?_ GE183.out) | exact HB.out))) : w.heap.size ≤ gb184)); have n4_ := Aside0.mk ((by rw [hg]; exact (below_size (by repeat (first | (with_reducible first | exact HB.out | apply below_alloc | apply pw_below_drewN | apply below_drew1 | refine below_set ?_ GE183.out) | exact HB.out))) : w.heap.size ≤ gb184)); have n5_ := Aside0.mk ((by rw [hg]; exact Nat.ne_of_lt (blk_lt (g := gb183) (o := .cells #[.int .i64 a0_0, .slice A0_1 l0_1.length c0_1, .slice A0_2 l0_2.length c0_2] 25 (0, 0)) (by (with_reducible repeat (first | refine blk_drewN ?_ _ | refine blk_drew ?_ | refine blk_alloc ?_ _)); exact BK183.out)) : gb183 ≠ gb184)); have n6_ := Aside0.mk ((by rw [hg]; exact Nat.ne_of_gt (blk_lt (g := gb183) (o := .cells #[.int .i64 a0_0, .slice A0_1 l0_1.length c0_1, .slice A0_2 l0_2.length c0_2] 25 (0, 0)) (by (with_reducible repeat (first | refine blk_drewN ?_ _ | refine blk_drew ?_ | refine blk_alloc ?_ _)); exact BK183.out)) : gb184 ≠ gb183)); clear BK183; clear HB; have BK183 := n0_; have HB := n1_; have BK184 := n2_; have GW184 := n3_; have GE184 := n4_; have NB183_184 := n5_; have NB184_183 := n6_; clear n0_ n1_ n2_ n3_ n4_ n5_ n6_; clear hb hbox hg) | ((with_reducible refine gate_dst (N := 6) rfl ?_); refine box_event ?hg (N := 6) ?hd (cs := #[.int .i64 a2_0, .int .i64 a2_1]) (t := 58) ?hr ?_; (case hd => rfl); (case hg => rfl); (case hr => first | (go_simp; done) | (go_simp; rfl)); intro gb185 hg w8 hbox hb; have n0_ := Aside0.mk (blk_below (g := gb183) (o := .cells #[.int .i64 a0_0, .slice A0_1 l0_1.length c0_1, .slice A0_2 l0_2.length c0_2] 25 (0, 0)) (by (with_reducible repeat (first | refine blk_drewN ?_ _ | refine blk_drew ?_ | refine blk_alloc ?_ _)); exact BK183.out) hb); have n1_ := Aside0.mk (blk_below (g := gb184) (o := .cells #[.int .i64 a1_0, .slice A1_1 l1_1.length c1_1, .slice A1_2 l1_2.length c1_2] 25 (0, 0)) (by (with_reducible repeat (first | refine blk_drewN ?_ _ | refine blk_drew ?_ | refine blk_alloc ?_ _)); exact BK184.out) hb); have n2_ := Aside0.mk (below_step (by repeat (first | (with_reducible first | exact HB.out | apply below_alloc | apply pw_below_drewN | apply below_drew1 | refine below_set ?_ GE183.out | refine below_set ?_ GE184.out) | exact HB.out)) hb); have n3_ := Aside0.mk (hbox); have n4_ := Aside0.mk ((by rw [hg]; exact (below_size (by repeat (first | (with_reducible first | exact HB.out | apply below_alloc | apply pw_below_drewN | apply below_drew1 | refine below_set ?_ GE183.out | refine below_set ?_ GE184.out) | exact HB.out))) : w.heap.size ≤ gb185)); have n5_ := Aside0.mk ((by rw [hg]; exact (below_size (by repeat (first | (with_reducible first | exact HB.out | apply below_alloc | apply pw_below_drewN | apply below_drew1 | refine below_set ?_ GE183.out | refine below_set ?_ GE184.out) | exact HB.out))) : w.heap.size ≤ gb185)); have n6_ := Aside0.mk ((by rw [hg]; exact Nat.ne_of_lt (blk_lt (g := gb183) (o := .cells #[.int .i64 a0_0, .slice A0_1 l0_1.length c0_1, .slice A0_2 l0_2.length c0_2] 25 (0, 0)) (by (with_reducible repeat (first | refine blk_drewN ?_ _ | refine blk_drew ?_ | refine blk_alloc ?_ _)); exact BK183.out)) : gb183 ≠ gb185)); have n7_ := Aside0.mk ((by rw [hg]; exact Nat.ne_of_gt (blk_lt (g := gb183) (o := .cells #[.int .i64 a0_0, .slice A0_1 l0_1.length c0_1, .slice A0_2 l0_2.length c0_2] 25 (0, 0)) (by (with_reducible repeat (first | refine blk_drewN ?_ _ | refine blk_drew ?_ | refine blk_alloc ?_ _)); exact BK183.out)) : gb185 ≠ gb183)); have n8_ := Aside0.mk ((by rw [hg]; exact Nat.ne_of_lt (blk_lt (g := gb184) (o := .cells #[.int .i64 a1_0, .slice A1_1 l1_1.length c1_1, .slice A1_2 l1_2.length c1_2] 25 (0, 0)) (by (with_reducible repeat (first | refine blk_drewN ?_ _ | refine blk_drew ?_ | refine blk_alloc ?_ _)); exact BK184.out)) : gb184 ≠ gb185)); have n9_ := Aside0.mk ((by rw [hg]; exact Nat.ne_of_gt (blk_lt (g := gb184) (o := .cells #[.int .i64 a1_0, .slice A1_1 l1_1.length c1_1, .slice A1_2 l1_2.length c1_2] 25 (0, 0)) (by (with_reducible repeat (first | refine blk_drewN ?_ _ | refine blk_drew ?_ | refine blk_alloc ?_ _)); exact BK184.out)) : gb185 ≠ gb184)); clear BK183; clear BK184; clear HB; have BK183 := n0_; have BK184 := n1_; have HB := n2_; have BK185 := n3_; have GW185 := n4_; have GE185 := n5_; have NB183_185 := n6_; have NB185_183 := n7_; have NB184_185 := n8_; have NB185_184 := n9_; clear n0_ n1_ n2_ n3_ n4_ n5_ n6_ n7_ n8_ n9_; clear hb hbox hg) | ((with_reducible refine gate_dst (N := 8) rfl ?_); refine box_event ?hg (N := 8) ?hd (cs := #[.int .i64 0, .int .i64 0]) (t := 58) ?hr ?_; (case hd => rfl); (case hg => rfl); (case hr => first | (go_simp; done) | (go_simp; rfl)); intro gb186 hg w9 hbox hb; have n0_ := Aside0.mk (blk_below (g := gb183) (o := .cells #[.int .i64 a0_0, .slice A0_1 l0_1.length c0_1, .slice A0_2 l0_2.length c0_2] 25 (0, 0)) (by (with_reducible repeat (first | refine blk_drewN ?_ _ | refine blk_drew ?_ | refine blk_alloc ?_ _)); exact BK183.out) hb); have n1_ := Aside0.mk (blk_below (g := gb184) (o := .cells #[.int .i64 a1_0, .slice A1_1 l1_1.length c1_1, .slice A1_2 l1_2.length c1_2] 25 (0, 0)) (by (with_reducible repeat (first | refine blk_drewN ?_ _ | refine blk_drew ?_ | refine blk_alloc ?_ _)); exact BK184.out) hb); have n2_ := Aside0.mk (blk_below (g := gb185) (o := .cells #[.int .i64 a2_0, .int .i64 a2_1] 58 (0, 0)) (by (with_reducible repeat (first | refine blk_drewN ?_ _ | refine blk_drew ?_ | refine blk_alloc ?_ _)); exact BK185.out) hb); have n3_ := Aside0.mk (below_step (by repeat (first | (with_reducible first | exact HB.out | apply below_alloc | apply pw_below_drewN | apply below_drew1 | refine below_set ?_ GE183.out | refine below_set ?_ GE184.out | refine below_set ?_ GE185.out) | exact HB.out)) hb); have n4_ := Aside0.mk (hbox); have n5_ := Aside0.mk ((by rw [hg]; exact (below_size (by repeat (first | (with_reducible first | exact HB.out | apply below_alloc | apply pw_below_drewN | apply below_drew1 | refine below_set ?_ GE183.out | refine below_set ?_ GE184.out | refine below_set ?_ GE185.out) | exact HB.out))) : w.heap.size ≤ gb186)); have n6_ := Aside0.mk ((by rw [hg]; exact (below_size (by repeat (first | (with_reducible first | exact HB.out | apply below_alloc | apply pw_below_drewN | apply below_drew1 | refine below_set ?_ GE183.out | refine below_set ?_ GE184.out | refine below_set ?_ GE185.out) | exact HB.out))) : w.heap.size ≤ gb186)); have n7_ := Aside0.mk ((by rw [hg]; exact Nat.ne_of_lt (blk_lt (g := gb183) (o := .cells #[.int .i64 a0_0, .slice A0_1 l0_1.length c0_1, .slice A0_2 l0_2.length c0_2] 25 (0, 0)) (by (with_reducible repeat (first | refine blk_drewN ?_ _ | refine blk_drew ?_ | refine blk_alloc ?_ _)); exact BK183.out)) : gb183 ≠ gb186)); have n8_ := Aside0.mk ((by rw [hg]; exact Nat.ne_of_gt (blk_lt (g := gb183) (o := .cells #[.int .i64 a0_0, .slice A0_1 l0_1.length c0_1, .slice A0_2 l0_2.length c0_2] 25 (0, 0)) (by (with_reducible repeat (first | refine blk_drewN ?_ _ | refine blk_drew ?_ | refine blk_alloc ?_ _)); exact BK183.out)) : gb186 ≠ gb183)); have n9_ := Aside0.mk ((by rw [hg]; exact Nat.ne_of_lt (blk_lt (g := gb184) (o := .cells #[.int .i64 a1_0, .slice A1_1 l1_1.length c1_1, .slice A1_2 l1_2.length c1_2] 25 (0, 0)) (by (with_reducible repeat (first | refine blk_drewN ?_ _ | refine blk_drew ?_ | refine blk_alloc ?_ _)); exact BK184.out)) : gb184 ≠ gb186)); have n10_ := Aside0.mk ((by rw [hg]; exact Nat.ne_of_gt (blk_lt (g := gb184) (o := .cells #[.int .i64 a1_0, .slice A1_1 l1_1.length c1_1, .slice A1_2 l1_2.length c1_2] 25 (0, 0)) (by (with_reducible repeat (first | refine blk_drewN ?_ _ | refine blk_drew ?_ | refine blk_alloc ?_ _)); exact BK184.out)) : gb186 ≠ gb184)); have n11_ := Aside0.mk ((by rw [hg]; exact Nat.ne_of_lt (blk_lt (g := gb185) (o := .cells #[.int .i64 a2_0, .int .i64 a2_1] 58 (0, 0)) (by (with_reducible repeat (first | refine blk_drewN ?_ _ | refine blk_drew ?_ | refine blk_alloc ?_ _)); exact BK185.out)) : gb185 ≠ gb186)); have n12_ := Aside0.mk ((by rw [hg]; exact Nat.ne_of_gt (blk_lt (g := gb185) (o := .cells #[.int .i64 a2_0, .int .i64 a2_1] 58 (0, 0)) (by (with_reducible repeat (first | refine blk_drewN ?_ _ | refine blk_drew ?_ | refine blk_alloc ?_ _)); exact BK185.out)) : gb186 ≠ gb185)); clear BK183; clear BK184; clear BK185; clear HB; have BK183 := n0_; have BK184 := n1_; have BK185 := n2_; have HB := n3_; have BK186 := n4_; have GW186 := n5_; have GE186 := n6_; have NB183_186 := n7_; have NB186_183 := n8_; have NB184_186 := n9_; have NB186_184 := n10_; have NB185_186 := n11_; have NB186_185 := n12_; clear n0_ n1_ n2_ n3_ n4_ n5_ n6_ n7_ n8_ n9_ n10_ n11_ n12_; clear hb hbox hg))
  (try simp only [Act.put, List.setIfInBounds_toArray, List.set_cons_zero, List.set_cons_succ])
  go_cut [16] (fun v16 wc => ∃ (kq : Nat) (x16_4 : Bool), v16 = .bool x16_4 ∧ Aside0 (caesuraref19_next.j0 kq (wrap64 (Int.tdiv a3 2)) ((Int.tmod a3 2) == 1) x16_4 a0_0 l0_1 l0_2 a1_0 l1_1 l1_2 a2_0 a2_1 = some (r1, r2)) ∧ Aside0 (kq ≤ k) ∧ Aside0 (wc.heap[gb183]? = some (.cells #[.int .i64 a0_0, (.slice A0_1 l0_1.length c0_1), (.slice A0_2 l0_2.length c0_2)] 25 (0, 0))) ∧ Aside0 (wc.heap[gb184]? = some (.cells #[.int .i64 a1_0, (.slice A1_1 l1_1.length c1_1), (.slice A1_2 l1_2.length c1_2)] 25 (0, 0))) ∧ Aside0 (wc.heap[gb185]? = some (.cells #[.int .i64 a2_0, .int .i64 a2_1] 58 (0, 0))) ∧ Aside0 (wc.heap[gb186]? = some (.cells #[.int .i64 0, .int .i64 0] 58 (0, 0))) ∧ Aside0 (Below w.heap.size w wc))
  case first =>
    have H := HC5.out
    clear HC5
    by_cases c10 : a2_0 ≤ 1
    · rw [if_pos c10] at H
      have c10b0 : decide (a2_0 ≤ 1) = true := decide_eq_true c10
      clear c10
      (first | rw [c10b0] | (simp only [i64_w, i32_w]; rw [c10b0]) | skip)
      have H' := Aside0.mk H
      clear H
      have hnb11 := NB185_183.out
      have hnc11 := NB183_185.out
      have hnb12 := NB185_184.out
      have hnc12 := NB184_185.out
      have hnb13 := NB185_186.out
      have hnc13 := NB186_185.out
      have hcz14_0 : w9.cell? ⟨gb185, 0, none⟩ = some (.int .i64 a2_0) := (blk_cell BK185.out 0).trans rfl
      have hcz14_1 : w9.cell? ⟨gb185, 1, none⟩ = some (.int .i64 a2_1) := (blk_cell BK185.out 1).trans rfl
      have hfz14_0 := blk_frozen BK185.out 0
      have hfz14_1 := blk_frozen BK185.out 1
      go_wp2
      go_meet
      case rel => exact ⟨_, (!((Int.tmod a3 2) == 1)), (by first | rfl | (simp; done) | (simp [*]; done)), H', ⟨by first | omega | exact Nat.le_refl _⟩, ⟨by (with_reducible repeat (first | refine blk_drewN ?_ _ | refine blk_drew ?_ | refine blk_alloc ?_ _)); exact BK183.out⟩, ⟨by (with_reducible repeat (first | refine blk_drewN ?_ _ | refine blk_drew ?_ | refine blk_alloc ?_ _)); exact BK184.out⟩, ⟨by (with_reducible repeat (first | refine blk_drewN ?_ _ | refine blk_drew ?_ | refine blk_alloc ?_ _)); exact BK185.out⟩, ⟨by (with_reducible repeat (first | refine blk_drewN ?_ _ | refine blk_drew ?_ | refine blk_alloc ?_ _)); exact BK186.out⟩, ⟨by repeat (first | (with_reducible first | exact HB.out | apply below_alloc | apply pw_below_drewN | apply below_drew1 | refine below_set ?_ GE183.out | refine below_set ?_ GE184.out | refine below_set ?_ GE185.out | refine below_set ?_ GE186.out) | exact HB.out)⟩⟩
    · rw [if_neg c10] at H
      have c10b0 : decide (a2_0 ≤ 1) = false := decide_eq_false c10
      clear c10
      (first | rw [c10b0] | (simp only [i64_w, i32_w]; rw [c10b0]) | skip)
      have H' := Aside0.mk H
      clear H
      have hnb15 := NB185_183.out
      have hnc15 := NB183_185.out
      have hnb16 := NB185_184.out
      have hnc16 := NB184_185.out
      have hnb17 := NB185_186.out
      have hnc17 := NB186_185.out
      have hcz18_0 : w9.cell? ⟨gb185, 0, none⟩ = some (.int .i64 a2_0) := (blk_cell BK185.out 0).trans rfl
      have hcz18_1 : w9.cell? ⟨gb185, 1, none⟩ = some (.int .i64 a2_1) := (blk_cell BK185.out 1).trans rfl
      have hfz18_0 := blk_frozen BK185.out 0
      have hfz18_1 := blk_frozen BK185.out 1
      go_wp2
      go_meet
      case rel => exact ⟨_, (false), (by first | rfl | (simp; done) | (simp [*]; done)), H', ⟨by first | omega | exact Nat.le_refl _⟩, ⟨by (with_reducible repeat (first | refine blk_drewN ?_ _ | refine blk_drew ?_ | refine blk_alloc ?_ _)); exact BK183.out⟩, ⟨by (with_reducible repeat (first | refine blk_drewN ?_ _ | refine blk_drew ?_ | refine blk_alloc ?_ _)); exact BK184.out⟩, ⟨by (with_reducible repeat (first | refine blk_drewN ?_ _ | refine blk_drew ?_ | refine blk_alloc ?_ _)); exact BK185.out⟩, ⟨by (with_reducible repeat (first | refine blk_drewN ?_ _ | refine blk_drew ?_ | refine blk_alloc ?_ _)); exact BK186.out⟩, ⟨by repeat (first | (with_reducible first | exact HB.out | apply below_alloc | apply pw_below_drewN | apply below_drew1 | refine below_set ?_ GE183.out | refine below_set ?_ GE184.out | refine below_set ?_ GE185.out | refine below_set ?_ GE186.out) | exact HB.out)⟩⟩
  case rest =>
    clear HC5
    try clear c1
    try clear p2
    try clear c4
    try clear p6
    try clear c10
    try clear c10b0
    try clear c11
    try clear c12
    try clear c13
    try clear c15
    try clear c16
    try clear c17
    try clear hcz14_0
    try clear hcz14_1
    try clear hcz18_0
    try clear hcz18_1
    try clear hfz14_0
    try clear hfz14_1
    try clear hfz18_0
    try clear hfz18_1
    obtain ⟨kq, x16_4, rfl, HA, HJ4, BK183, BK184, BK185, BK186, HB⟩ := hcut
    cases kq with
    | zero => exact absurd HA.out (by simp [caesuraref19_next.j0])
    | succ kj4 =>
      have H := HA.out
      clear HA
      simp only [caesuraref19_next.j0] at H
      by_cases c19 : x16_4 = true
      · subst c19
        have H1 : (if 0 ≤ a2_1 then (if a2_1 < (l0_1.length : Int) then (if 0 ≤ (wrap64 (Int.tdiv a3 2)) then (if (wrap64 (Int.tdiv a3 2)) < ((rd_L1 l0_1 a2_1).length : Int) then (some (1, rd (rd_L1 l0_1 a2_1) (wrap64 (Int.tdiv a3 2)))) else (none)) else (none)) else (none)) else (none)) = some (r1, r2) := by rw [if_pos rfl] at H; exact H
        clear H
        have H := H1
        clear H1
        by_cases c20 : 0 ≤ a2_1
        · rw [if_pos c20] at H
          have c20b0 : decide (0 ≤ a2_1) = true := decide_eq_true c20
          clear c20
          by_cases c21 : a2_1 < (l0_1.length : Int)
          · rw [if_pos c21] at H
            have c21b0 : decide (a2_1 < (l0_1.length : Int)) = true := decide_eq_true c21
            clear c21
            obtain ⟨ji22, hji22⟩ : ∃ j_ : Int, (wrap64 (Int.tdiv a3 2)) = j_ := ⟨_, rfl⟩
            replace H : (if 0 ≤ (ji22) then (if (ji22) < ((rd_L1 l0_1 a2_1).length : Int) then (some (1, rd (rd_L1 l0_1 a2_1) (ji22))) else (none)) else (none)) = some (r1, r2) := by first | (rw [hji22] at H; exact H) | (simp only [hji22] at H ⊢; exact H)
            have hji22w : (IntKind.i64.wrap (Int.tdiv a3 2)) = ji22 := (i64_w _).trans hji22
            by_cases c23 : 0 ≤ (ji22)
            · rw [if_pos c23] at H
              have c23b0 : decide (0 ≤ (ji22)) = true := decide_eq_true c23
              clear c23
              by_cases c24 : (ji22) < ((rd_L1 l0_1 a2_1).length : Int)
              · rw [if_pos c24] at H
                have c24b0 : decide ((ji22) < ((rd_L1 l0_1 a2_1).length : Int)) = true := decide_eq_true c24
                clear c24
                simp only [Option.some.injEq, Prod.mk.injEq] at H
                obtain ⟨rfl, rfl⟩ := H
                have hnb25 := NB183_184.out
                have hnc25 := NB184_183.out
                have hnb26 := NB183_185.out
                have hnc26 := NB185_183.out
                have hnb27 := NB183_186.out
                have hnc27 := NB186_183.out
                have hcz28_0 : wc.cell? ⟨gb183, 0, none⟩ = some (.int .i64 a0_0) := (blk_cell BK183.out 0).trans rfl
                have hcz28_1 : wc.cell? ⟨gb183, 1, none⟩ = some (.slice A0_1 l0_1.length c0_1) := (blk_cell BK183.out 1).trans rfl
                have hcz28_2 : wc.cell? ⟨gb183, 2, none⟩ = some (.slice A0_2 l0_2.length c0_2) := (blk_cell BK183.out 2).trans rfl
                have hfz28_0 := blk_frozen BK183.out 0
                have hfz28_1 := blk_frozen BK183.out 1
                have hfz28_2 := blk_frozen BK183.out 2
                have hnb29 := NB185_184.out
                have hnc29 := NB184_185.out
                have hnb30 := NB185_186.out
                have hnc30 := NB186_185.out
                have hcz31_0 : wc.cell? ⟨gb185, 0, none⟩ = some (.int .i64 a2_0) := (blk_cell BK185.out 0).trans rfl
                have hcz31_1 : wc.cell? ⟨gb185, 1, none⟩ = some (.int .i64 a2_1) := (blk_cell BK185.out 1).trans rfl
                have hfz31_0 := blk_frozen BK185.out 0
                have hfz31_1 := blk_frozen BK185.out 1
                have p187 : 0 ≤ (a2_1 : Int) := of_decide_eq_true (by first | (with_reducible assumption) | assumption)
                have q187 : a2_1 < (l0_1.length : Int) := of_decide_eq_true (by first | (with_reducible assumption) | assumption)
                obtain ⟨ad187, A187_0, c187_0, e187, hx187_0, hl187_0, hi187_0⟩ := at_L1 HR0_1.out a2_1 p187 q187
                cases e187
                replace hx187_0 := (HB.out.cell (World.block_lt_of_cell? w _ hx187_0)).trans hx187_0
                have HR187_0 := Aside0.mk hi187_0
                have HC187_0 := Aside0.mk hl187_0
                clear hi187_0 hl187_0
                replace p187 := eq_true p187
                replace q187 := eq_true q187
                have p188 : 0 ≤ ((ji22) : Int) := of_decide_eq_true (by first | (with_reducible assumption) | assumption)
                have q188 : (ji22) < ((rd_L1 l0_1 a2_1).length : Int) := of_decide_eq_true (by first | (with_reducible assumption) | assumption)
                obtain ⟨ad188, e188, hx188_0⟩ := Kd.at_int HR187_0.out (ji22) p188 q188
                cases e188
                replace hx188_0 := (HB.out.cell (World.block_lt_of_cell? w _ hx188_0)).trans hx188_0
                replace p188 := eq_true p188
                replace q188 := eq_true q188
                have hnb32 := NB186_184.out
                have hnc32 := NB184_186.out
                have hcz33_0 : wc.cell? ⟨gb186, 0, none⟩ = some (.int .i64 0) := (blk_cell BK186.out 0).trans rfl
                have hcz33_1 : wc.cell? ⟨gb186, 1, none⟩ = some (.int .i64 0) := (blk_cell BK186.out 1).trans rfl
                have hfz33_0 := blk_frozen BK186.out 0
                have hfz33_1 := blk_frozen BK186.out 1
                go_wp2
                refine bodyPost_ret (results_cell_row rfl _ _ gb186 58 #[.int .i64 1, .int .i64 (rd (rd_L1 l0_1 a2_1) (ji22))] (0, 0) _ rfl (by (with_reducible repeat (first | refine blk_drewN ?_ _ | refine blk_drew ?_ | refine blk_alloc ?_ _)); refine blk_put (cs := #[.int .i64 1, .int .i64 0]) ?_ 1 _ rfl; (with_reducible repeat (first | refine blk_drewN ?_ _ | refine blk_drew ?_ | refine blk_alloc ?_ _)); refine blk_put (cs := #[.int .i64 0, .int .i64 0]) ?_ 0 _ rfl; (with_reducible repeat (first | refine blk_drewN ?_ _ | refine blk_drew ?_ | refine blk_alloc ?_ _)); exact BK186.out) Try.underlying58 rfl (by kernel_rfl)) rfl ?_
                exact ⟨by first | rfl | (simp [errW_none, errW_some] <;> rfl) | (simp only [← hji22]; first | rfl | (simp [errW_none, errW_some] <;> rfl)) | (simp [*, errW_none, errW_some] <;> rfl), by repeat (first | (with_reducible first | exact HB.out | apply below_alloc | apply pw_below_drewN | apply below_drew1 | refine below_set ?_ GE183.out | refine below_set ?_ GE184.out | refine below_set ?_ GE185.out | refine below_set ?_ GE186.out) | exact HB.out)⟩
              · rw [if_neg c24] at H
                exact absurd H (by simp)
            · rw [if_neg c23] at H
              exact absurd H (by simp)
          · rw [if_neg c21] at H
            exact absurd H (by simp)
        · rw [if_neg c20] at H
          exact absurd H (by simp)
      · replace c19 := Bool.eq_false_iff.mpr c19
        subst c19
        have H1 : (if a2_0 = 1 then (if 0 ≤ a2_1 then (if a2_1 < (l0_2.length : Int) then (caesuraref19_next.j1 kj4 (wrap64 (Int.tdiv a3 2)) ((Int.tmod a3 2) == 1) (rdOf false l0_2 a2_1) a1_0 l1_1 l1_2 a2_0 a2_1) else (none)) else (none)) else (caesuraref19_next.j1 kj4 (wrap64 (Int.tdiv a3 2)) ((Int.tmod a3 2) == 1) false a1_0 l1_1 l1_2 a2_0 a2_1)) = some (r1, r2) := by rw [if_neg (show ¬ (false = true) by decide)] at H; exact H
        clear H
        have H := H1
        clear H1
        have HC34 := Aside0.mk H
        clear H
        go_upto_region 4 with (fail)
        go_cut [34] (fun v34 wc => ∃ (kq : Nat) (x34_33 : Bool), v34 = .bool x34_33 ∧ Aside0 (caesuraref19_next.j1 kq (wrap64 (Int.tdiv a3 2)) ((Int.tmod a3 2) == 1) x34_33 a1_0 l1_1 l1_2 a2_0 a2_1 = some (r1, r2)) ∧ Aside0 (kq ≤ kj4) ∧ Aside0 (wc.heap[gb183]? = some (.cells #[.int .i64 a0_0, (.slice A0_1 l0_1.length c0_1), (.slice A0_2 l0_2.length c0_2)] 25 (0, 0))) ∧ Aside0 (wc.heap[gb184]? = some (.cells #[.int .i64 a1_0, (.slice A1_1 l1_1.length c1_1), (.slice A1_2 l1_2.length c1_2)] 25 (0, 0))) ∧ Aside0 (wc.heap[gb185]? = some (.cells #[.int .i64 a2_0, .int .i64 a2_1] 58 (0, 0))) ∧ Aside0 (wc.heap[gb186]? = some (.cells #[.int .i64 0, .int .i64 0] 58 (0, 0))) ∧ Aside0 (Below w.heap.size w wc))
        case first =>
          have H := HC34.out
          clear HC34
          by_cases c35 : a2_0 = 1
          · rw [if_pos c35] at H
            have c35b0 : (a2_0 == 1) = true := beq_iff_eq.mpr c35
            have c35b1 : (a2_0 != 1) = false := bne_eq_false_iff_eq.mpr c35
            clear c35
            (first | rw [c35b0] | (simp only [i64_w, i32_w]; rw [c35b0]) | skip)
            by_cases c36 : 0 ≤ a2_1
            · rw [if_pos c36] at H
              have c36b0 : decide (0 ≤ a2_1) = true := decide_eq_true c36
              clear c36
              by_cases c37 : a2_1 < (l0_2.length : Int)
              · rw [if_pos c37] at H
                have c37b0 : decide (a2_1 < (l0_2.length : Int)) = true := decide_eq_true c37
                clear c37
                have H' := Aside0.mk H
                clear H
                have hnb38 := NB185_183.out
                have hnc38 := NB183_185.out
                have hnb39 := NB185_184.out
                have hnc39 := NB184_185.out
                have hnb40 := NB185_186.out
                have hnc40 := NB186_185.out
                have hcz41_0 : wc.cell? ⟨gb185, 0, none⟩ = some (.int .i64 a2_0) := (blk_cell BK185.out 0).trans rfl
                have hcz41_1 : wc.cell? ⟨gb185, 1, none⟩ = some (.int .i64 a2_1) := (blk_cell BK185.out 1).trans rfl
                have hfz41_0 := blk_frozen BK185.out 0
                have hfz41_1 := blk_frozen BK185.out 1
                have hnb42 := NB183_184.out
                have hnc42 := NB184_183.out
                have hnb43 := NB183_186.out
                have hnc43 := NB186_183.out
                have hcz44_0 : wc.cell? ⟨gb183, 0, none⟩ = some (.int .i64 a0_0) := (blk_cell BK183.out 0).trans rfl
                have hcz44_1 : wc.cell? ⟨gb183, 1, none⟩ = some (.slice A0_1 l0_1.length c0_1) := (blk_cell BK183.out 1).trans rfl
                have hcz44_2 : wc.cell? ⟨gb183, 2, none⟩ = some (.slice A0_2 l0_2.length c0_2) := (blk_cell BK183.out 2).trans rfl
                have hfz44_0 := blk_frozen BK183.out 0
                have hfz44_1 := blk_frozen BK183.out 1
                have hfz44_2 := blk_frozen BK183.out 2
                have p189 : 0 ≤ (a2_1 : Int) := of_decide_eq_true (by first | (with_reducible assumption) | assumption)
                have q189 : a2_1 < (l0_2.length : Int) := of_decide_eq_true (by first | (with_reducible assumption) | assumption)
                obtain ⟨ad189, e189, hx189_0⟩ := Kd.at_bool HR0_2.out a2_1 p189 q189
                cases e189
                replace hx189_0 := (HB.out.cell (World.block_lt_of_cell? w _ hx189_0)).trans hx189_0
                replace p189 := eq_true p189
                replace q189 := eq_true q189
                go_wp2
                go_meet
                case rel => exact ⟨_, (rdOf false l0_2 a2_1), (by first | rfl | (simp; done) | (simp [*]; done)), H', ⟨by have := HJ4.out; first | omega | exact Nat.le_refl _⟩, ⟨by (with_reducible repeat (first | refine blk_drewN ?_ _ | refine blk_drew ?_ | refine blk_alloc ?_ _)); exact BK183.out⟩, ⟨by (with_reducible repeat (first | refine blk_drewN ?_ _ | refine blk_drew ?_ | refine blk_alloc ?_ _)); exact BK184.out⟩, ⟨by (with_reducible repeat (first | refine blk_drewN ?_ _ | refine blk_drew ?_ | refine blk_alloc ?_ _)); exact BK185.out⟩, ⟨by (with_reducible repeat (first | refine blk_drewN ?_ _ | refine blk_drew ?_ | refine blk_alloc ?_ _)); exact BK186.out⟩, ⟨by repeat (first | (with_reducible first | exact HB.out | apply below_alloc | apply pw_below_drewN | apply below_drew1 | refine below_set ?_ GE183.out | refine below_set ?_ GE184.out | refine below_set ?_ GE185.out | refine below_set ?_ GE186.out) | exact HB.out)⟩⟩
              · rw [if_neg c37] at H
                exact absurd H (by simp)
            · rw [if_neg c36] at H
              exact absurd H (by simp)
          · rw [if_neg c35] at H
            have c35b0 : (a2_0 == 1) = false := beq_eq_false_iff_ne.mpr c35
            have c35b1 : (a2_0 != 1) = true := bne_iff_ne.mpr c35
            (first | rw [c35b0] | (simp only [i64_w, i32_w]; rw [c35b0]) | skip)
            have H' := Aside0.mk H
            clear H
            have hnb45 := NB185_183.out
            have hnc45 := NB183_185.out
            have hnb46 := NB185_184.out
            have hnc46 := NB184_185.out
            have hnb47 := NB185_186.out
            have hnc47 := NB186_185.out
            have hcz48_0 : wc.cell? ⟨gb185, 0, none⟩ = some (.int .i64 a2_0) := (blk_cell BK185.out 0).trans rfl
            have hcz48_1 : wc.cell? ⟨gb185, 1, none⟩ = some (.int .i64 a2_1) := (blk_cell BK185.out 1).trans rfl
            have hfz48_0 := blk_frozen BK185.out 0
            have hfz48_1 := blk_frozen BK185.out 1
            go_wp2
            go_meet
            case rel => exact ⟨_, (false), (by first | rfl | (simp; done) | (simp [*]; done)), H', ⟨by have := HJ4.out; first | omega | exact Nat.le_refl _⟩, ⟨by (with_reducible repeat (first | refine blk_drewN ?_ _ | refine blk_drew ?_ | refine blk_alloc ?_ _)); exact BK183.out⟩, ⟨by (with_reducible repeat (first | refine blk_drewN ?_ _ | refine blk_drew ?_ | refine blk_alloc ?_ _)); exact BK184.out⟩, ⟨by (with_reducible repeat (first | refine blk_drewN ?_ _ | refine blk_drew ?_ | refine blk_alloc ?_ _)); exact BK185.out⟩, ⟨by (with_reducible repeat (first | refine blk_drewN ?_ _ | refine blk_drew ?_ | refine blk_alloc ?_ _)); exact BK186.out⟩, ⟨by repeat (first | (with_reducible first | exact HB.out | apply below_alloc | apply pw_below_drewN | apply below_drew1 | refine below_set ?_ GE183.out | refine below_set ?_ GE184.out | refine below_set ?_ GE185.out | refine below_set ?_ GE186.out) | exact HB.out)⟩⟩
        case rest =>
          clear HC34
          try clear c1
          try clear p1
          try clear q1
          try clear hx1
          try clear c2
          try clear p2
          try clear c3
          try clear c4
          try clear p6
          try clear c10
          try clear c10b0
          try clear c11
          try clear c12
          try clear c13
          try clear c15
          try clear c16
          try clear c17
          try clear c18
          try clear p18
          try clear q18
          try clear hx18
          try clear c19
          try clear c20
          try clear c20b0
          try clear c21
          try clear c21b0
          try clear c23
          try clear c23b0
          try clear c24
          try clear c24b0
          try clear c25
          try clear c26
          try clear c27
          try clear c29
          try clear c30
          try clear c32
          try clear c35
          try clear c35b0
          try clear c35b1
          try clear c36
          try clear c36b0
          try clear c37
          try clear c37b0
          try clear c38
          try clear c39
          try clear c40
          try clear c42
          try clear c43
          try clear c45
          try clear c46
          try clear c47
          try clear hcz14_0
          try clear hcz14_1
          try clear hcz18_0
          try clear hcz18_1
          try clear hcz28_0
          try clear hcz28_1
          try clear hcz28_2
          try clear hcz31_0
          try clear hcz31_1
          try clear hcz33_0
          try clear hcz33_1
          try clear hcz41_0
          try clear hcz41_1
          try clear hcz44_0
          try clear hcz44_1
          try clear hcz44_2
          try clear hcz48_0
          try clear hcz48_1
          try clear hfz14_0
          try clear hfz14_1
          try clear hfz18_0
          try clear hfz18_1
          try clear hfz28_0
          try clear hfz28_1
          try clear hfz28_2
          try clear hfz31_0
          try clear hfz31_1
          try clear hfz33_0
          try clear hfz33_1
          try clear hfz41_0
          try clear hfz41_1
          try clear hfz44_0
          try clear hfz44_1
          try clear hfz44_2
          try clear hfz48_0
          try clear hfz48_1
          try clear hx187_0
          try clear hx188_0
          try clear hx189_0
          try clear p187
          try clear p188
          try clear p189
          try clear p2
          try clear p6
          try clear q187
          try clear q188
          try clear q189
          obtain ⟨kq, x34_33, rfl, HA, HJ33, BK183, BK184, BK185, BK186, HB⟩ := hcut
          cases kq with
          | zero => exact absurd HA.out (by simp [caesuraref19_next.j1])
          | succ kj33 =>
            have H := HA.out
            clear HA
            simp only [caesuraref19_next.j1] at H
            by_cases c49 : x34_33 = true
            · subst c49
              have H1 : (if 0 < (l1_1.length : Int) then (if 0 ≤ (wrap64 (Int.tdiv a3 2)) then (if (wrap64 (Int.tdiv a3 2)) < ((rd_L1 l1_1 0).length : Int) then (some (2, rd (rd_L1 l1_1 0) (wrap64 (Int.tdiv a3 2)))) else (none)) else (none)) else (none)) = some (r1, r2) := by rw [if_pos rfl] at H; exact H
              clear H
              have H := H1
              clear H1
              by_cases c50 : 0 < (l1_1.length : Int)
              · rw [if_pos c50] at H
                have c50b0 : decide (0 < (l1_1.length : Int)) = true := decide_eq_true c50
                have c50b1 : decide (0 < l1_1.length) = true := decide_eq_true (by omega)
                clear c50
                obtain ⟨ji51, hji51⟩ : ∃ j_ : Int, (wrap64 (Int.tdiv a3 2)) = j_ := ⟨_, rfl⟩
                replace H : (if 0 ≤ (ji51) then (if (ji51) < ((rd_L1 l1_1 0).length : Int) then (some (2, rd (rd_L1 l1_1 0) (ji51))) else (none)) else (none)) = some (r1, r2) := by first | (rw [hji51] at H; exact H) | (simp only [hji51] at H ⊢; exact H)
                have hji51w : (IntKind.i64.wrap (Int.tdiv a3 2)) = ji51 := (i64_w _).trans hji51
                by_cases c52 : 0 ≤ (ji51)
                · rw [if_pos c52] at H
                  have c52b0 : decide (0 ≤ (ji51)) = true := decide_eq_true c52
                  clear c52
                  by_cases c53 : (ji51) < ((rd_L1 l1_1 0).length : Int)
                  · rw [if_pos c53] at H
                    have c53b0 : decide ((ji51) < ((rd_L1 l1_1 0).length : Int)) = true := decide_eq_true c53
                    clear c53
                    simp only [Option.some.injEq, Prod.mk.injEq] at H
                    obtain ⟨rfl, rfl⟩ := H
                    have hnb54 := NB184_183.out
                    have hnc54 := NB183_184.out
                    have hnb55 := NB184_185.out
                    have hnc55 := NB185_184.out
                    have hnb56 := NB184_186.out
                    have hnc56 := NB186_184.out
                    have hcz57_0 : wc.cell? ⟨gb184, 0, none⟩ = some (.int .i64 a1_0) := (blk_cell BK184.out 0).trans rfl
                    have hcz57_1 : wc.cell? ⟨gb184, 1, none⟩ = some (.slice A1_1 l1_1.length c1_1) := (blk_cell BK184.out 1).trans rfl
                    have hcz57_2 : wc.cell? ⟨gb184, 2, none⟩ = some (.slice A1_2 l1_2.length c1_2) := (blk_cell BK184.out 2).trans rfl
                    have hfz57_0 := blk_frozen BK184.out 0
                    have hfz57_1 := blk_frozen BK184.out 1
                    have hfz57_2 := blk_frozen BK184.out 2
                    have p190 : 0 ≤ (0 : Int) := (by omega)
                    have q190 : 0 < (l1_1.length : Int) := of_decide_eq_true (by first | (with_reducible assumption) | assumption)
                    obtain ⟨ad190, A190_0, c190_0, e190, hx190_0, hl190_0, hi190_0⟩ := at_L1 HR1_1.out 0 p190 q190
                    cases e190
                    have qi190 : (0 < l1_1.length) = True := eq_true (by omega)
                    (try rw [show ((0 : Int)).toNat = 0 from rfl] at hx190_0)
                    (try rw [Addr.add_zero'] at hx190_0)
                    replace hx190_0 := (HB.out.cell (World.block_lt_of_cell? w _ hx190_0)).trans hx190_0
                    have HR190_0 := Aside0.mk hi190_0
                    have HC190_0 := Aside0.mk hl190_0
                    clear hi190_0 hl190_0
                    replace p190 := eq_true p190
                    replace q190 := eq_true q190
                    have p191 : 0 ≤ ((ji51) : Int) := of_decide_eq_true (by first | (with_reducible assumption) | assumption)
                    have q191 : (ji51) < ((rd_L1 l1_1 0).length : Int) := of_decide_eq_true (by first | (with_reducible assumption) | assumption)
                    obtain ⟨ad191, e191, hx191_0⟩ := Kd.at_int HR190_0.out (ji51) p191 q191
                    cases e191
                    replace hx191_0 := (HB.out.cell (World.block_lt_of_cell? w _ hx191_0)).trans hx191_0
                    replace p191 := eq_true p191
                    replace q191 := eq_true q191
                    have hnb58 := NB186_183.out
                    have hnc58 := NB183_186.out
                    have hnb59 := NB186_185.out
                    have hnc59 := NB185_186.out
                    have hcz60_0 : wc.cell? ⟨gb186, 0, none⟩ = some (.int .i64 0) := (blk_cell BK186.out 0).trans rfl
                    have hcz60_1 : wc.cell? ⟨gb186, 1, none⟩ = some (.int .i64 0) := (blk_cell BK186.out 1).trans rfl
                    have hfz60_0 := blk_frozen BK186.out 0
                    have hfz60_1 := blk_frozen BK186.out 1
                    go_wp2
                    refine bodyPost_ret (results_cell_row rfl _ _ gb186 58 #[.int .i64 2, .int .i64 (rd (rd_L1 l1_1 0) (ji51))] (0, 0) _ rfl (by (with_reducible repeat (first | refine blk_drewN ?_ _ | refine blk_drew ?_ | refine blk_alloc ?_ _)); refine blk_put (cs := #[.int .i64 2, .int .i64 0]) ?_ 1 _ rfl; (with_reducible repeat (first | refine blk_drewN ?_ _ | refine blk_drew ?_ | refine blk_alloc ?_ _)); refine blk_put (cs := #[.int .i64 0, .int .i64 0]) ?_ 0 _ rfl; (with_reducible repeat (first | refine blk_drewN ?_ _ | refine blk_drew ?_ | refine blk_alloc ?_ _)); exact BK186.out) Try.underlying58 rfl (by kernel_rfl)) rfl ?_
                    exact ⟨by first | rfl | (simp [errW_none, errW_some] <;> rfl) | (simp only [← hji51]; first | rfl | (simp [errW_none, errW_some] <;> rfl)) | (simp [*, errW_none, errW_some] <;> rfl), by repeat (first | (with_reducible first | exact HB.out | apply below_alloc | apply pw_below_drewN | apply below_drew1 | refine below_set ?_ GE183.out | refine below_set ?_ GE184.out | refine below_set ?_ GE185.out | refine below_set ?_ GE186.out) | exact HB.out)⟩
                  · rw [if_neg c53] at H
                    exact absurd H (by simp)
                · rw [if_neg c52] at H
                  exact absurd H (by simp)
              · rw [if_neg c50] at H
                exact absurd H (by simp)
            · replace c49 := Bool.eq_false_iff.mpr c49
              subst c49
              have H1 : (if a2_0 = 2 then (if ((Int.tmod a3 2) == 1) = true then (some (3, 0)) else (if 0 ≤ a2_1 then (if a2_1 < (l1_1.length : Int) then (if 0 ≤ (wrap64 (Int.tdiv a3 2)) then (if (wrap64 (Int.tdiv a3 2)) < ((rd_L1 l1_1 a2_1).length : Int) then (some (2, rd (rd_L1 l1_1 a2_1) (wrap64 (Int.tdiv a3 2)))) else (none)) else (none)) else (none)) else (none))) else (some (3, 0))) = some (r1, r2) := by rw [if_neg (show ¬ (false = true) by decide)] at H; exact H
              clear H
              have H := H1
              clear H1
              by_cases c61 : a2_0 = 2
              · rw [if_pos c61] at H
                have c61b0 : (a2_0 == 2) = true := beq_iff_eq.mpr c61
                have c61b1 : (a2_0 != 2) = false := bne_eq_false_iff_eq.mpr c61
                clear c61
                by_cases c62 : ((Int.tmod a3 2) == 1) = true
                · rw [if_pos c62] at H
                  have c62b0 : ((Int.tmod a3 2) == 1) = true := c62
                  (try (have c62b1 : decide ((Int.tmod a3 2) = 1) = true := by simpa using c62))
                  (try (have c62b2 : ((Int.tmod a3 2) == 1) = true := by simpa using c62))
                  clear c62
                  simp only [Option.some.injEq, Prod.mk.injEq] at H
                  obtain ⟨rfl, rfl⟩ := H
                  have hnb63 := NB185_183.out
                  have hnc63 := NB183_185.out
                  have hnb64 := NB185_184.out
                  have hnc64 := NB184_185.out
                  have hnb65 := NB185_186.out
                  have hnc65 := NB186_185.out
                  have hcz66_0 : wc.cell? ⟨gb185, 0, none⟩ = some (.int .i64 a2_0) := (blk_cell BK185.out 0).trans rfl
                  have hcz66_1 : wc.cell? ⟨gb185, 1, none⟩ = some (.int .i64 a2_1) := (blk_cell BK185.out 1).trans rfl
                  have hfz66_0 := blk_frozen BK185.out 0
                  have hfz66_1 := blk_frozen BK185.out 1
                  have hnb67 := NB186_183.out
                  have hnc67 := NB183_186.out
                  have hnb68 := NB186_184.out
                  have hnc68 := NB184_186.out
                  have hcz69_0 : wc.cell? ⟨gb186, 0, none⟩ = some (.int .i64 0) := (blk_cell BK186.out 0).trans rfl
                  have hcz69_1 : wc.cell? ⟨gb186, 1, none⟩ = some (.int .i64 0) := (blk_cell BK186.out 1).trans rfl
                  have hfz69_0 := blk_frozen BK186.out 0
                  have hfz69_1 := blk_frozen BK186.out 1
                  go_wp2
                  refine bodyPost_ret (results_cell_row rfl _ _ gb186 58 #[.int .i64 3, .int .i64 0] (0, 0) _ rfl (by (with_reducible repeat (first | refine blk_drewN ?_ _ | refine blk_drew ?_ | refine blk_alloc ?_ _)); refine blk_put (cs := #[.int .i64 3, .int .i64 0]) ?_ 1 _ rfl; (with_reducible repeat (first | refine blk_drewN ?_ _ | refine blk_drew ?_ | refine blk_alloc ?_ _)); refine blk_put (cs := #[.int .i64 0, .int .i64 0]) ?_ 0 _ rfl; (with_reducible repeat (first | refine blk_drewN ?_ _ | refine blk_drew ?_ | refine blk_alloc ?_ _)); exact BK186.out) Try.underlying58 rfl (by kernel_rfl)) rfl ?_
                  exact ⟨by first | rfl | (simp [errW_none, errW_some] <;> rfl) | (simp [*, errW_none, errW_some] <;> rfl), by repeat (first | (with_reducible first | exact HB.out | apply below_alloc | apply pw_below_drewN | apply below_drew1 | refine below_set ?_ GE183.out | refine below_set ?_ GE184.out | refine below_set ?_ GE185.out | refine below_set ?_ GE186.out) | exact HB.out)⟩
                · rw [if_neg c62] at H
                  have c62b0 : ((Int.tmod a3 2) == 1) = false := by simpa using c62
                  (try (have c62b1 : decide ((Int.tmod a3 2) = 1) = false := by simpa using c62))
                  (try (have c62b2 : ((Int.tmod a3 2) == 1) = false := by simpa using c62))
                  (try (have c62b3 : ¬ ((Int.tmod a3 2) = 1) := by simpa using c62))
                  clear c62
                  by_cases c70 : 0 ≤ a2_1
                  · rw [if_pos c70] at H
                    have c70b0 : decide (0 ≤ a2_1) = true := decide_eq_true c70
                    clear c70
                    by_cases c71 : a2_1 < (l1_1.length : Int)
                    · rw [if_pos c71] at H
                      have c71b0 : decide (a2_1 < (l1_1.length : Int)) = true := decide_eq_true c71
                      clear c71
                      obtain ⟨ji72, hji72⟩ : ∃ j_ : Int, (wrap64 (Int.tdiv a3 2)) = j_ := ⟨_, rfl⟩
                      replace H : (if 0 ≤ (ji72) then (if (ji72) < ((rd_L1 l1_1 a2_1).length : Int) then (some (2, rd (rd_L1 l1_1 a2_1) (ji72))) else (none)) else (none)) = some (r1, r2) := by first | (rw [hji72] at H; exact H) | (simp only [hji72] at H ⊢; exact H)
                      have hji72w : (IntKind.i64.wrap (Int.tdiv a3 2)) = ji72 := (i64_w _).trans hji72
                      by_cases c73 : 0 ≤ (ji72)
                      · rw [if_pos c73] at H
                        have c73b0 : decide (0 ≤ (ji72)) = true := decide_eq_true c73
                        clear c73
                        by_cases c74 : (ji72) < ((rd_L1 l1_1 a2_1).length : Int)
                        · rw [if_pos c74] at H
                          have c74b0 : decide ((ji72) < ((rd_L1 l1_1 a2_1).length : Int)) = true := decide_eq_true c74
                          clear c74
                          simp only [Option.some.injEq, Prod.mk.injEq] at H
                          obtain ⟨rfl, rfl⟩ := H
                          have hnb75 := NB185_183.out
                          have hnc75 := NB183_185.out
                          have hnb76 := NB185_184.out
                          have hnc76 := NB184_185.out
                          have hnb77 := NB185_186.out
                          have hnc77 := NB186_185.out
                          have hcz78_0 : wc.cell? ⟨gb185, 0, none⟩ = some (.int .i64 a2_0) := (blk_cell BK185.out 0).trans rfl
                          have hcz78_1 : wc.cell? ⟨gb185, 1, none⟩ = some (.int .i64 a2_1) := (blk_cell BK185.out 1).trans rfl
                          have hfz78_0 := blk_frozen BK185.out 0
                          have hfz78_1 := blk_frozen BK185.out 1
                          have hnb79 := NB184_183.out
                          have hnc79 := NB183_184.out
                          have hnb80 := NB184_186.out
                          have hnc80 := NB186_184.out
                          have hcz81_0 : wc.cell? ⟨gb184, 0, none⟩ = some (.int .i64 a1_0) := (blk_cell BK184.out 0).trans rfl
                          have hcz81_1 : wc.cell? ⟨gb184, 1, none⟩ = some (.slice A1_1 l1_1.length c1_1) := (blk_cell BK184.out 1).trans rfl
                          have hcz81_2 : wc.cell? ⟨gb184, 2, none⟩ = some (.slice A1_2 l1_2.length c1_2) := (blk_cell BK184.out 2).trans rfl
                          have hfz81_0 := blk_frozen BK184.out 0
                          have hfz81_1 := blk_frozen BK184.out 1
                          have hfz81_2 := blk_frozen BK184.out 2
                          have p192 : 0 ≤ (a2_1 : Int) := of_decide_eq_true (by first | (with_reducible assumption) | assumption)
                          have q192 : a2_1 < (l1_1.length : Int) := of_decide_eq_true (by first | (with_reducible assumption) | assumption)
                          obtain ⟨ad192, A192_0, c192_0, e192, hx192_0, hl192_0, hi192_0⟩ := at_L1 HR1_1.out a2_1 p192 q192
                          cases e192
                          replace hx192_0 := (HB.out.cell (World.block_lt_of_cell? w _ hx192_0)).trans hx192_0
                          have HR192_0 := Aside0.mk hi192_0
                          have HC192_0 := Aside0.mk hl192_0
                          clear hi192_0 hl192_0
                          replace p192 := eq_true p192
                          replace q192 := eq_true q192
                          have p193 : 0 ≤ ((ji72) : Int) := of_decide_eq_true (by first | (with_reducible assumption) | assumption)
                          have q193 : (ji72) < ((rd_L1 l1_1 a2_1).length : Int) := of_decide_eq_true (by first | (with_reducible assumption) | assumption)
                          obtain ⟨ad193, e193, hx193_0⟩ := Kd.at_int HR192_0.out (ji72) p193 q193
                          cases e193
                          replace hx193_0 := (HB.out.cell (World.block_lt_of_cell? w _ hx193_0)).trans hx193_0
                          replace p193 := eq_true p193
                          replace q193 := eq_true q193
                          have hnb82 := NB186_183.out
                          have hnc82 := NB183_186.out
                          have hcz83_0 : wc.cell? ⟨gb186, 0, none⟩ = some (.int .i64 0) := (blk_cell BK186.out 0).trans rfl
                          have hcz83_1 : wc.cell? ⟨gb186, 1, none⟩ = some (.int .i64 0) := (blk_cell BK186.out 1).trans rfl
                          have hfz83_0 := blk_frozen BK186.out 0
                          have hfz83_1 := blk_frozen BK186.out 1
                          go_wp2
                          refine bodyPost_ret (results_cell_row rfl _ _ gb186 58 #[.int .i64 2, .int .i64 (rd (rd_L1 l1_1 a2_1) (ji72))] (0, 0) _ rfl (by (with_reducible repeat (first | refine blk_drewN ?_ _ | refine blk_drew ?_ | refine blk_alloc ?_ _)); refine blk_put (cs := #[.int .i64 2, .int .i64 0]) ?_ 1 _ rfl; (with_reducible repeat (first | refine blk_drewN ?_ _ | refine blk_drew ?_ | refine blk_alloc ?_ _)); refine blk_put (cs := #[.int .i64 0, .int .i64 0]) ?_ 0 _ rfl; (with_reducible repeat (first | refine blk_drewN ?_ _ | refine blk_drew ?_ | refine blk_alloc ?_ _)); exact BK186.out) Try.underlying58 rfl (by kernel_rfl)) rfl ?_
                          exact ⟨by first | rfl | (simp [errW_none, errW_some] <;> rfl) | (simp only [← hji72]; first | rfl | (simp [errW_none, errW_some] <;> rfl)) | (simp [*, errW_none, errW_some] <;> rfl), by repeat (first | (with_reducible first | exact HB.out | apply below_alloc | apply pw_below_drewN | apply below_drew1 | refine below_set ?_ GE183.out | refine below_set ?_ GE184.out | refine below_set ?_ GE185.out | refine below_set ?_ GE186.out) | exact HB.out)⟩
                        · rw [if_neg c74] at H
                          exact absurd H (by simp)
                      · rw [if_neg c73] at H
                        exact absurd H (by simp)
                    · rw [if_neg c71] at H
                      exact absurd H (by simp)
                  · rw [if_neg c70] at H
                    exact absurd H (by simp)
              · rw [if_neg c61] at H
                have c61b0 : (a2_0 == 2) = false := beq_eq_false_iff_ne.mpr c61
                have c61b1 : (a2_0 != 2) = true := bne_iff_ne.mpr c61
                simp only [Option.some.injEq, Prod.mk.injEq] at H
                obtain ⟨rfl, rfl⟩ := H
                have hnb84 := NB185_183.out
                have hnc84 := NB183_185.out
                have hnb85 := NB185_184.out
                have hnc85 := NB184_185.out
                have hnb86 := NB185_186.out
                have hnc86 := NB186_185.out
                have hcz87_0 : wc.cell? ⟨gb185, 0, none⟩ = some (.int .i64 a2_0) := (blk_cell BK185.out 0).trans rfl
                have hcz87_1 : wc.cell? ⟨gb185, 1, none⟩ = some (.int .i64 a2_1) := (blk_cell BK185.out 1).trans rfl
                have hfz87_0 := blk_frozen BK185.out 0
                have hfz87_1 := blk_frozen BK185.out 1
                have hnb88 := NB186_183.out
                have hnc88 := NB183_186.out
                have hnb89 := NB186_184.out
                have hnc89 := NB184_186.out
                have hcz90_0 : wc.cell? ⟨gb186, 0, none⟩ = some (.int .i64 0) := (blk_cell BK186.out 0).trans rfl
                have hcz90_1 : wc.cell? ⟨gb186, 1, none⟩ = some (.int .i64 0) := (blk_cell BK186.out 1).trans rfl
                have hfz90_0 := blk_frozen BK186.out 0
                have hfz90_1 := blk_frozen BK186.out 1
                go_wp2
                refine bodyPost_ret (results_cell_row rfl _ _ gb186 58 #[.int .i64 3, .int .i64 0] (0, 0) _ rfl (by (with_reducible repeat (first | refine blk_drewN ?_ _ | refine blk_drew ?_ | refine blk_alloc ?_ _)); refine blk_put (cs := #[.int .i64 3, .int .i64 0]) ?_ 1 _ rfl; (with_reducible repeat (first | refine blk_drewN ?_ _ | refine blk_drew ?_ | refine blk_alloc ?_ _)); refine blk_put (cs := #[.int .i64 0, .int .i64 0]) ?_ 0 _ rfl; (with_reducible repeat (first | refine blk_drewN ?_ _ | refine blk_drew ?_ | refine blk_alloc ?_ _)); exact BK186.out) Try.underlying58 rfl (by kernel_rfl)) rfl ?_
                exact ⟨by first | rfl | (simp [errW_none, errW_some] <;> rfl) | (simp [*, errW_none, errW_some] <;> rfl), by repeat (first | (with_reducible first | exact HB.out | apply below_alloc | apply pw_below_drewN | apply below_drew1 | refine below_set ?_ GE183.out | refine below_set ?_ GE184.out | refine below_set ?_ GE185.out | refine below_set ?_ GE186.out) | exact HB.out)⟩

-- NOT PRINTED: function 15 (caesuraref19_Of)

/-! ### caesuraref13_Lists: function 48 -/
def caesuraref13_Lists.l0 : Nat → List (List Int) → List (List Int) → Int → Option (Bool)
  | 0, _, _, _ => none
  | k + 1, x0, x1, x5 => if x5 < (x0.length : Int) then (if 0 ≤ x5 then (if x5 < (x1.length : Int) then ((caesuraref01_Ints.f k (rd_L1 x0 x5) (rd_L1 x1 x5)).bind fun t231 => (if t231 = true then (caesuraref13_Lists.l0 k x0 x1 (wrap64 (x5 + 1))) else (some false))) else (none)) else (none)) else (some true)
def caesuraref13_Lists.f (k : Nat) (l0 : List (List Int)) (l1 : List (List Int)) : Option (Bool) := if (l0.length : Int) = (l1.length : Int) then (caesuraref13_Lists.l0 k l0 l1 0) else (some false)
theorem caesuraref13_Lists.mono_l : ∀ k, (∀ y0 y1 y2, LeO (caesuraref13_Lists.l0 k y0 y1 y2) (caesuraref13_Lists.l0 (k + 1) y0 y1 y2))
  | 0 => fun _ _ _ r h => by simp [caesuraref13_Lists.l0] at h
  | k + 1 => by
    have ih0 := caesuraref13_Lists.mono_l k
    · intro y0 y1 y2
      unfold caesuraref13_Lists.l0
      repeat' first
      | (with_reducible exact ih0 _ _ _)
      | (with_reducible exact caesuraref01_Ints.mono _ _ _)
      | (with_reducible exact LeO.refl _)
      | (with_reducible exact LeO.none _)
      | (with_reducible refine LeO.ite ?_ ?_)
      | (with_reducible refine LeO.bind ?_ (fun _ => ?_))
      | exact ih0 _ _ _
      | exact caesuraref01_Ints.mono _ _ _
      | exact LeO.none _
      | refine LeO.ite ?_ ?_
      | refine LeO.bind ?_ (fun _ => ?_)
theorem caesuraref13_Lists.mono : ∀ a0 a1 k, LeO (caesuraref13_Lists.f k a0 a1) (caesuraref13_Lists.f (k + 1) a0 a1) := by
  intro a0 a1 k
  have ih0 := caesuraref13_Lists.mono_l k
  unfold caesuraref13_Lists.f
  repeat' first
      | (with_reducible exact ih0 _ _ _)
      | (with_reducible exact caesuraref01_Ints.mono _ _ _)
      | (with_reducible exact LeO.refl _)
      | (with_reducible exact LeO.none _)
      | (with_reducible refine LeO.ite ?_ ?_)
      | (with_reducible refine LeO.bind ?_ (fun _ => ?_))
      | exact ih0 _ _ _
      | exact caesuraref01_Ints.mono _ _ _
      | exact LeO.none _
      | refine LeO.ite ?_ ?_
      | refine LeO.bind ?_ (fun _ => ?_)
set_option maxHeartbeats 8000000 in
set_option maxRecDepth 100000 in
theorem caesuraref13_Lists.calls (k : Nat) (A0 : Option Addr) (c0 : Nat) (l0 : List (List Int)) (A1 : Option Addr) (c1 : Nat) (l1 : List (List Int)) (r : Bool) (w : World) (hr0 : Kd.C (Kd.slice 3 (Kd.int .i64)) w A0 l0.length l0) (hc0 : l0.length ≤ c0) (hr1 : Kd.C (Kd.slice 3 (Kd.int .i64)) w A1 l1.length l1) (hc1 : l1.length ≤ c1) (h : caesuraref13_Lists.f k l0 l1 = some r) :
    Calls Try.prog 48 #[.slice A0 l0.length c0, .slice A1 l1.length c1] w fun e w' => e = .returned (.bool r) ∧ Drawn0 w w' := by
  have HR0 := Aside0.mk hr0
  have HC0 := Aside0.mk hc0
  clear hr0 hc0
  have HR1 := Aside0.mk hr1
  have HC1 := Aside0.mk hc1
  clear hr1 hc1
  have H : (if (l0.length : Int) = (l1.length : Int) then (caesuraref13_Lists.l0 k l0 l1 0) else (some false)) = some r := h
  clear h
  by_cases c3 : (l0.length : Int) = (l1.length : Int)
  · rw [if_pos c3] at H
    have c3b0 : ((l0.length : Int) == (l1.length : Int)) = true := beq_iff_eq.mpr c3
    have c3b1 : ((l0.length : Int) != (l1.length : Int)) = false := bne_eq_false_iff_eq.mpr c3
    have c3b2 : (l0.length == l1.length) = true := by first | simpa using c3 | (simp at c3 ⊢; omega)
    clear c3
    have H' := Aside0.mk H
    clear H
    go_enter Try.func48, Try.ntmps48
    go_wp2
    repeat (go_quiet (fail); try go_wp2)
    go_loopg [5] k (fun kq v5 w' => ∃ (x5_1 : Int), v5 = .int .i64 x5_1 ∧ Aside0 (caesuraref13_Lists.l0 kq l0 l1 x5_1 = some r) ∧ Aside0 (kq ≤ k) ∧ Drawn0 w w')
    case atStart => exact ⟨(0), (by first | rfl | (simp; done) | (simp [*]; done)), H', ⟨Nat.le_refl _⟩, by repeat (first | exact Drawn0.refl _ | apply Drawn0.step)⟩
    case round =>
      clear H'
      try clear c1
      try clear p2
      try clear c3
      try clear c3b0
      try clear c3b1
      try clear c3b2
      obtain ⟨x5_1, rfl, HA, HK1, ⟨m1, rfl⟩⟩ := hrel
      cases gk with
      | zero => exact absurd HA.out (by simp [caesuraref13_Lists.l0])
      | succ k1 =>
        have H := HA.out
        clear HA
        simp only [caesuraref13_Lists.l0] at H
        by_cases c4 : x5_1 < (l0.length : Int)
        · rw [if_pos c4] at H
          have c4b0 : decide (x5_1 < (l0.length : Int)) = true := decide_eq_true c4
          clear c4
          by_cases c5 : 0 ≤ x5_1
          · rw [if_pos c5] at H
            have c5b0 : decide (0 ≤ x5_1) = true := decide_eq_true c5
            clear c5
            by_cases c6 : x5_1 < (l1.length : Int)
            · rw [if_pos c6] at H
              have c6b0 : decide (x5_1 < (l1.length : Int)) = true := decide_eq_true c6
              clear c6
              replace H := Option.bind_eq_some_iff.mp H
              obtain ⟨t231, A70, H⟩ := H
              replace H : (if t231 = true then (caesuraref13_Lists.l0 k1 l0 l1 (wrap64 (x5_1 + 1))) else (some false)) = some r := H
              have A7 := Aside0.mk A70
              clear A70
              by_cases c8 : t231 = true
              · subst c8
                have H1 : (caesuraref13_Lists.l0 k1 l0 l1 (wrap64 (x5_1 + 1))) = some r := by rw [if_pos rfl] at H; exact H
                clear H
                have H := H1
                clear H1
                have H' := Aside0.mk H
                clear H
                have p229 : 0 ≤ (x5_1 : Int) := of_decide_eq_true (by first | (with_reducible assumption) | assumption)
                have q229 : x5_1 < (l0.length : Int) := of_decide_eq_true (by first | (with_reducible assumption) | assumption)
                obtain ⟨ad229, A229_0, c229_0, e229, hx229_0, hl229_0, hi229_0⟩ := at_L1 HR0.out x5_1 p229 q229
                cases e229
                have HR229_0 := Aside0.mk hi229_0
                have HC229_0 := Aside0.mk hl229_0
                clear hi229_0 hl229_0
                replace p229 := eq_true p229
                replace q229 := eq_true q229
                have p230 : 0 ≤ (x5_1 : Int) := of_decide_eq_true (by first | (with_reducible assumption) | assumption)
                have q230 : x5_1 < (l1.length : Int) := of_decide_eq_true (by first | (with_reducible assumption) | assumption)
                obtain ⟨ad230, A230_0, c230_0, e230, hx230_0, hl230_0, hi230_0⟩ := at_L1 HR1.out x5_1 p230 q230
                cases e230
                have HR230_0 := Aside0.mk hi230_0
                have HC230_0 := Aside0.mk hl230_0
                clear hi230_0 hl230_0
                replace p230 := eq_true p230
                replace q230 := eq_true q230
                go_wp2_with (first | (go_at_call 21; (with_reducible refine (caesuraref01_Ints.calls k1 _ _ (rd_L1 l0 x5_1) _ _ (rd_L1 l1 x5_1) true _ ?side1 ?side2 ?side3 ?side4 A7.out).mono ?_); (case side1 => repeat (first | exact HR229_0.out | (with_reducible refine Kd.C_alloc ?_ _) | (with_reducible refine Kd.C_drewN ?_ _) | (with_reducible refine Kd.C_drew ?_))); (case side2 => exact HC229_0.out); (case side3 => repeat (first | exact HR230_0.out | (with_reducible refine Kd.C_alloc ?_ _) | (with_reducible refine Kd.C_drewN ?_ _) | (with_reducible refine Kd.C_drew ?_))); (case side4 => exact HC230_0.out); rintro e w' ⟨rfl, ⟨nd, rfl⟩⟩; (try first | exact ⟨rfl, _, World.drewN_drewN _ _ _⟩ | exact ⟨rfl, _, Eq.trans (World.drewN_drewN _ _ _) (congrArg (World.drewN _) (Nat.add_assoc _ _ _))⟩)))
                repeat (go_quiet (first | (go_at_call 21; (with_reducible refine (caesuraref01_Ints.calls k1 _ _ (rd_L1 l0 x5_1) _ _ (rd_L1 l1 x5_1) true _ ?side1 ?side2 ?side3 ?side4 A7.out).mono ?_); (case side1 => repeat (first | exact HR229_0.out | (with_reducible refine Kd.C_alloc ?_ _) | (with_reducible refine Kd.C_drewN ?_ _) | (with_reducible refine Kd.C_drew ?_))); (case side2 => exact HC229_0.out); (case side3 => repeat (first | exact HR230_0.out | (with_reducible refine Kd.C_alloc ?_ _) | (with_reducible refine Kd.C_drewN ?_ _) | (with_reducible refine Kd.C_drew ?_))); (case side4 => exact HC230_0.out); rintro e w' ⟨rfl, ⟨nd, rfl⟩⟩; (try first | exact ⟨rfl, _, World.drewN_drewN _ _ _⟩ | exact ⟨rfl, _, Eq.trans (World.drewN_drewN _ _ _) (congrArg (World.drewN _) (Nat.add_assoc _ _ _))⟩))); try go_wp2_with (first | (go_at_call 21; (with_reducible refine (caesuraref01_Ints.calls k1 _ _ (rd_L1 l0 x5_1) _ _ (rd_L1 l1 x5_1) true _ ?side1 ?side2 ?side3 ?side4 A7.out).mono ?_); (case side1 => repeat (first | exact HR229_0.out | (with_reducible refine Kd.C_alloc ?_ _) | (with_reducible refine Kd.C_drewN ?_ _) | (with_reducible refine Kd.C_drew ?_))); (case side2 => exact HC229_0.out); (case side3 => repeat (first | exact HR230_0.out | (with_reducible refine Kd.C_alloc ?_ _) | (with_reducible refine Kd.C_drewN ?_ _) | (with_reducible refine Kd.C_drew ?_))); (case side4 => exact HC230_0.out); rintro e w' ⟨rfl, ⟨nd, rfl⟩⟩; (try first | exact ⟨rfl, _, World.drewN_drewN _ _ _⟩ | exact ⟨rfl, _, Eq.trans (World.drewN_drewN _ _ _) (congrArg (World.drewN _) (Nat.add_assoc _ _ _))⟩))))
                go_roundg k1
                case measure => have := HK1.out; omega
                case rel => exact ⟨(wrap64 (x5_1 + 1)), (by first | rfl | (simp; done) | (simp [*]; done)), H', ⟨by have := HK1.out; omega⟩, by repeat (first | exact Drawn0.refl _ | apply Drawn0.step)⟩
              · replace c8 := Bool.eq_false_iff.mpr c8
                subst c8
                have H1 : (some false) = some r := by rw [if_neg (show ¬ (false = true) by decide)] at H; exact H
                clear H
                have H := H1
                clear H1
                obtain rfl := Option.some.inj H
                have p229 : 0 ≤ (x5_1 : Int) := of_decide_eq_true (by first | (with_reducible assumption) | assumption)
                have q229 : x5_1 < (l0.length : Int) := of_decide_eq_true (by first | (with_reducible assumption) | assumption)
                obtain ⟨ad229, A229_0, c229_0, e229, hx229_0, hl229_0, hi229_0⟩ := at_L1 HR0.out x5_1 p229 q229
                cases e229
                have HR229_0 := Aside0.mk hi229_0
                have HC229_0 := Aside0.mk hl229_0
                clear hi229_0 hl229_0
                replace p229 := eq_true p229
                replace q229 := eq_true q229
                have p230 : 0 ≤ (x5_1 : Int) := of_decide_eq_true (by first | (with_reducible assumption) | assumption)
                have q230 : x5_1 < (l1.length : Int) := of_decide_eq_true (by first | (with_reducible assumption) | assumption)
                obtain ⟨ad230, A230_0, c230_0, e230, hx230_0, hl230_0, hi230_0⟩ := at_L1 HR1.out x5_1 p230 q230
                cases e230
                have HR230_0 := Aside0.mk hi230_0
                have HC230_0 := Aside0.mk hl230_0
                clear hi230_0 hl230_0
                replace p230 := eq_true p230
                replace q230 := eq_true q230
                go_wp2_with (first | (go_at_call 21; (with_reducible refine (caesuraref01_Ints.calls k1 _ _ (rd_L1 l0 x5_1) _ _ (rd_L1 l1 x5_1) false _ ?side1 ?side2 ?side3 ?side4 A7.out).mono ?_); (case side1 => repeat (first | exact HR229_0.out | (with_reducible refine Kd.C_alloc ?_ _) | (with_reducible refine Kd.C_drewN ?_ _) | (with_reducible refine Kd.C_drew ?_))); (case side2 => exact HC229_0.out); (case side3 => repeat (first | exact HR230_0.out | (with_reducible refine Kd.C_alloc ?_ _) | (with_reducible refine Kd.C_drewN ?_ _) | (with_reducible refine Kd.C_drew ?_))); (case side4 => exact HC230_0.out); rintro e w' ⟨rfl, ⟨nd, rfl⟩⟩; (try first | exact ⟨rfl, _, World.drewN_drewN _ _ _⟩ | exact ⟨rfl, _, Eq.trans (World.drewN_drewN _ _ _) (congrArg (World.drewN _) (Nat.add_assoc _ _ _))⟩)))
                repeat (go_quiet (first | (go_at_call 21; (with_reducible refine (caesuraref01_Ints.calls k1 _ _ (rd_L1 l0 x5_1) _ _ (rd_L1 l1 x5_1) false _ ?side1 ?side2 ?side3 ?side4 A7.out).mono ?_); (case side1 => repeat (first | exact HR229_0.out | (with_reducible refine Kd.C_alloc ?_ _) | (with_reducible refine Kd.C_drewN ?_ _) | (with_reducible refine Kd.C_drew ?_))); (case side2 => exact HC229_0.out); (case side3 => repeat (first | exact HR230_0.out | (with_reducible refine Kd.C_alloc ?_ _) | (with_reducible refine Kd.C_drewN ?_ _) | (with_reducible refine Kd.C_drew ?_))); (case side4 => exact HC230_0.out); rintro e w' ⟨rfl, ⟨nd, rfl⟩⟩; (try first | exact ⟨rfl, _, World.drewN_drewN _ _ _⟩ | exact ⟨rfl, _, Eq.trans (World.drewN_drewN _ _ _) (congrArg (World.drewN _) (Nat.add_assoc _ _ _))⟩))); try go_wp2_with (first | (go_at_call 21; (with_reducible refine (caesuraref01_Ints.calls k1 _ _ (rd_L1 l0 x5_1) _ _ (rd_L1 l1 x5_1) false _ ?side1 ?side2 ?side3 ?side4 A7.out).mono ?_); (case side1 => repeat (first | exact HR229_0.out | (with_reducible refine Kd.C_alloc ?_ _) | (with_reducible refine Kd.C_drewN ?_ _) | (with_reducible refine Kd.C_drew ?_))); (case side2 => exact HC229_0.out); (case side3 => repeat (first | exact HR230_0.out | (with_reducible refine Kd.C_alloc ?_ _) | (with_reducible refine Kd.C_drewN ?_ _) | (with_reducible refine Kd.C_drew ?_))); (case side4 => exact HC230_0.out); rintro e w' ⟨rfl, ⟨nd, rfl⟩⟩; (try first | exact ⟨rfl, _, World.drewN_drewN _ _ _⟩ | exact ⟨rfl, _, Eq.trans (World.drewN_drewN _ _ _) (congrArg (World.drewN _) (Nat.add_assoc _ _ _))⟩))))
                go_ret
                exact ⟨by first | rfl | (simp; done) | (simp [*]; done), by repeat (first | exact Drawn0.refl _ | apply Drawn0.step)⟩
            · rw [if_neg c6] at H
              exact absurd H (by simp)
          · rw [if_neg c5] at H
            exact absurd H (by simp)
        · rw [if_neg c4] at H
          have c4b0 : decide (x5_1 < (l0.length : Int)) = false := decide_eq_false c4
          clear c4
          obtain rfl := Option.some.inj H
          go_wp2
          repeat (go_quiet (fail); try go_wp2)
          go_ret
          exact ⟨by first | rfl | (simp; done) | (simp [*]; done), by repeat (first | exact Drawn0.refl _ | apply Drawn0.step)⟩
  · rw [if_neg c3] at H
    have c3b0 : ((l0.length : Int) == (l1.length : Int)) = false := beq_eq_false_iff_ne.mpr c3
    have c3b1 : ((l0.length : Int) != (l1.length : Int)) = true := bne_iff_ne.mpr c3
    have c3b2 : (l0.length == l1.length) = false := by first | simpa using c3 | (simp at c3 ⊢; omega)
    obtain rfl := Option.some.inj H
    go_enter Try.func48, Try.ntmps48
    go_wp2
    repeat (go_quiet (fail); try go_wp2)
    go_ret
    exact ⟨by first | rfl | (simp; done) | (simp [*]; done), by repeat (first | exact Drawn0.refl _ | apply Drawn0.step)⟩

end Go.Proofs.Ytpedenbcfbflbaa.PMarkMakes
