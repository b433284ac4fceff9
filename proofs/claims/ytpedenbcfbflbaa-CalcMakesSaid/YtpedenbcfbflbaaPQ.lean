/- The contracts of calc's Or, And, Less, Xor. -/
import Derived.Test.YtpedenbcfbflbaaXProd
import Derived.Test.YtpedenbcfbflbaaZA
namespace Go.Proofs.Ytpedenbcfbflbaa.X
open Go.RowKit Go.Proofs.YtpedenbcfbflbaaW.PrintWords Go.Proofs.YtpedenbcfbflbaaW.PrintLast Go.Proofs.YtpedenbcfbflbaaW.PrintMore Go.Maps Num
set_option linter.unusedVariables false
set_option linter.unusedSimpArgs false

/-- Three boxes of a call's own. -/
theorem three_boxes (w : World) (a b c : Array Value) : ∃ W, W = ((w.alloc (.cells a 25)).alloc (.cells b 25)).alloc (.cells c 25) ∧ W.heap[w.heap.size]? = some (.cells a 25 (0, 0)) ∧ W.heap[w.heap.size + 1]? = some (.cells b 25 (0, 0)) ∧ W.heap[w.heap.size + 1 + 1]? = some (.cells c 25 (0, 0)) ∧ Below w.heap.size w W := by
  have hb := below_alloc (below_alloc (below_alloc (Below.refl w.heap.size w) (.cells a 25)) (.cells b 25)) (.cells c 25)
  refine ⟨_, rfl, blk_alloc (blk_alloc (blk_new _ _) _) _, ?_, ?_, hb⟩
  · have := blk_alloc (blk_new (w.alloc (.cells a 25)) (.cells b 25)) (.cells c 25)
    simpa using this
  · have := blk_new ((w.alloc (.cells a 25)).alloc (.cells b 25)) (.cells c 25)
    simpa using this

theorem rule53 (a b : Bool) (W : World) : Calls Try.prog 53 (#[.bool a, .bool b] ++ #[]) W fun e w' => e = .returned (.bool (a || b)) ∧ Drawn0 W w' := by
  cases a <;> cases b <;> (go_enter Try.func53, Try.ntmps53; go_wp2_with fail; go_ret; exact ⟨rfl, Drawn0.refl _⟩)
set_option maxHeartbeats 2000000 in
theorem prod29 (s1 : Int) (A1 : Option Addr) (c1 : Nat) (n1 : List (List Int)) (B1 : Option Addr) (d1 : Nat) (e1 : List Bool) (s2 : Int) (A2 : Option Addr) (c2 : Nat) (n2 : List (List Int)) (B2 : Option Addr) (d2 : Nat) (e2 : List Bool) (most : Int) (r1 : Int) (r2 : List (List Int)) (r3 : List Bool) (r4 : Int) (w : World)
    (hr1 : Kd.C (Kd.slice 3 (Kd.int .i64)) w A1 n1.length n1) (hc1 : n1.length ≤ c1) (hb1 : Kd.C Kd.bool w B1 e1.length e1) (hd1 : e1.length ≤ d1)
    (hr2 : Kd.C (Kd.slice 3 (Kd.int .i64)) w A2 n2.length n2) (hc2 : n2.length ≤ c2) (hb2 : Kd.C Kd.bool w B2 e2.length e2) (hd2 : e2.length ≤ d2)
    (h : prodF (fun a b => a || b) s1 n1 e1 s2 n2 e2 most = (r1, r2, r3, r4)) :
    Calls Try.prog 29 #[.agg #[.int .i64 s1, .slice A1 n1.length c1, .slice B1 e1.length d1], .agg #[.int .i64 s2, .slice A2 n2.length c2, .slice B2 e2.length d2], .int .i64 most] w
      fun e w' => ∃ v1_ v2_ : Value, e = .returned (.tuple #[.agg #[.int .i64 r1, v1_, v2_], .int .i64 r4]) ∧ Kd.S (Kd.slice 3 (Kd.int .i64)) 33 w' w.heap.size (fun k_ => some k_ ≠ (v2_ : Value).ownBlock) v1_ r2 ∧ Kd.R Kd.bool 4 w' w.heap.size (fun k_ => True) v2_ r3 ∧ Below w.heap.size w w' := by
  have hu25 := Try.underlying25
  have H := Aside0.mk h
  have HR1 := Aside0.mk hr1
  have HR2 := Aside0.mk hr2
  have HB1 := Aside0.mk hb1
  have HB2 := Aside0.mk hb2
  clear h hr1 hr2 hb1 hb2
  go_enter Try.func29, Try.ntmps29
  go_upto_region 1 with (fail)
  obtain ⟨W, hW, x1, x2, x3, hbl⟩ := three_boxes w #[.int .i64 s1, .slice A1 n1.length c1, .slice B1 e1.length d1] #[.int .i64 s2, .slice A2 n2.length c2, .slice B2 e2.length d2] #[.int .i64 0, .slice none 0 0, .slice none 0 0]
  rw [← hW]
  clear hW
  have X3 := Aside0.mk x3
  have BL := Aside0.mk hbl
  have HR1' := Aside0.mk (Kd.C_below HR1.out hbl)
  have HR2' := Aside0.mk (Kd.C_below HR2.out hbl)
  have HB1' := Aside0.mk (Kd.C_below HB1.out hbl)
  have HB2' := Aside0.mk (Kd.C_below HB2.out hbl)
  have k0 := (blk_cell x1 0).trans rfl
  have k1 := (blk_cell x1 1).trans rfl
  have k2 := (blk_cell x1 2).trans rfl
  have k3 := (blk_cell x2 0).trans rfl
  have k4 := (blk_cell x2 1).trans rfl
  have k5 := (blk_cell x2 2).trans rfl
  clear x1 x2 x3 hbl HR1 HR2 HB1 HB2
  go_wp2_with fail
  refine (product (fun a b => a || b) 53 #[] (enters_of Try.func53 (by kernel_rfl) rfl) rule53 s1 A1 c1 n1 B1 d1 e1 s2 A2 c2 n2 B2 d2 e2 most W HR1'.out hc1 HB1'.out hd1 HR2'.out hc2 HB2'.out hd2 r1 r2 r3 r4 H.out).mono ?_
  rintro e W4 ⟨v1, v2, rfl, hs4, hr4, hb4⟩
  obtain ⟨D1, f1, rfl⟩ := Kd.S_slice hs4
  obtain ⟨D2, f2, rfl⟩ := Kd.R_slice hr4
  have B4 := Aside0.mk (blk_below X3.out hb4)
  have L4 := Aside0.mk (BL.out.trans (hb4.mono BL.out.size))
  have S4 := Aside0.mk (Kd.S_lower hs4 BL.out.size)
  have R4 := Aside0.mk (Kd.R_lower hr4 BL.out.size)
  clear hs4 hr4 hb4 k0 k1 k2 k3 k4 k5
  have k6 := blk_cell B4.out 0
  have k7 := blk_cell B4.out 1
  have k8 := blk_cell B4.out 2
  have m6 := blk_frozen B4.out 0
  have m7 := blk_frozen B4.out 1
  have m8 := blk_frozen B4.out 2
  obtain ⟨kp3, hb3, bl3⟩ := keeps_put3 L4.out (show w.heap.size ≤ w.heap.size + 1 + 1 by omega) B4.out (.int .i64 r1) (.slice D1 r2.length f1) (.slice D2 r3.length f2)
  have FIN := Aside0.mk (And.intro hb3 (And.intro (S_keeps S4.out kp3 (by decide)) (And.intro (R_keeps R4.out kp3 (by decide)) bl3)))
  clear kp3 hb3 bl3
  go_wp2_with fail
  refine bodyPost_ret (results_ct rfl _ _ (w.heap.size + 1 + 1) 25 #[.int .i64 r1, _, _] (0, 0) _ rfl FIN.out.1 Try.underlying25 rfl (by kernel_rfl)) rfl ?_
  exact ⟨_, _, rfl, FIN.out.2.1, FIN.out.2.2.1, FIN.out.2.2.2⟩

theorem rule55 (a b : Bool) (W : World) : Calls Try.prog 55 (#[.bool a, .bool b] ++ #[]) W fun e w' => e = .returned (.bool (a && b)) ∧ Drawn0 W w' := by
  cases a <;> cases b <;> (go_enter Try.func55, Try.ntmps55; go_wp2_with fail; go_ret; exact ⟨rfl, Drawn0.refl _⟩)
set_option maxHeartbeats 2000000 in
theorem prod31 (s1 : Int) (A1 : Option Addr) (c1 : Nat) (n1 : List (List Int)) (B1 : Option Addr) (d1 : Nat) (e1 : List Bool) (s2 : Int) (A2 : Option Addr) (c2 : Nat) (n2 : List (List Int)) (B2 : Option Addr) (d2 : Nat) (e2 : List Bool) (most : Int) (r1 : Int) (r2 : List (List Int)) (r3 : List Bool) (r4 : Int) (w : World)
    (hr1 : Kd.C (Kd.slice 3 (Kd.int .i64)) w A1 n1.length n1) (hc1 : n1.length ≤ c1) (hb1 : Kd.C Kd.bool w B1 e1.length e1) (hd1 : e1.length ≤ d1)
    (hr2 : Kd.C (Kd.slice 3 (Kd.int .i64)) w A2 n2.length n2) (hc2 : n2.length ≤ c2) (hb2 : Kd.C Kd.bool w B2 e2.length e2) (hd2 : e2.length ≤ d2)
    (h : prodF (fun a b => a && b) s1 n1 e1 s2 n2 e2 most = (r1, r2, r3, r4)) :
    Calls Try.prog 31 #[.agg #[.int .i64 s1, .slice A1 n1.length c1, .slice B1 e1.length d1], .agg #[.int .i64 s2, .slice A2 n2.length c2, .slice B2 e2.length d2], .int .i64 most] w
      fun e w' => ∃ v1_ v2_ : Value, e = .returned (.tuple #[.agg #[.int .i64 r1, v1_, v2_], .int .i64 r4]) ∧ Kd.S (Kd.slice 3 (Kd.int .i64)) 33 w' w.heap.size (fun k_ => some k_ ≠ (v2_ : Value).ownBlock) v1_ r2 ∧ Kd.R Kd.bool 4 w' w.heap.size (fun k_ => True) v2_ r3 ∧ Below w.heap.size w w' := by
  have hu25 := Try.underlying25
  have H := Aside0.mk h
  have HR1 := Aside0.mk hr1
  have HR2 := Aside0.mk hr2
  have HB1 := Aside0.mk hb1
  have HB2 := Aside0.mk hb2
  clear h hr1 hr2 hb1 hb2
  go_enter Try.func31, Try.ntmps31
  go_upto_region 1 with (fail)
  obtain ⟨W, hW, x1, x2, x3, hbl⟩ := three_boxes w #[.int .i64 s1, .slice A1 n1.length c1, .slice B1 e1.length d1] #[.int .i64 s2, .slice A2 n2.length c2, .slice B2 e2.length d2] #[.int .i64 0, .slice none 0 0, .slice none 0 0]
  rw [← hW]
  clear hW
  have X3 := Aside0.mk x3
  have BL := Aside0.mk hbl
  have HR1' := Aside0.mk (Kd.C_below HR1.out hbl)
  have HR2' := Aside0.mk (Kd.C_below HR2.out hbl)
  have HB1' := Aside0.mk (Kd.C_below HB1.out hbl)
  have HB2' := Aside0.mk (Kd.C_below HB2.out hbl)
  have k0 := (blk_cell x1 0).trans rfl
  have k1 := (blk_cell x1 1).trans rfl
  have k2 := (blk_cell x1 2).trans rfl
  have k3 := (blk_cell x2 0).trans rfl
  have k4 := (blk_cell x2 1).trans rfl
  have k5 := (blk_cell x2 2).trans rfl
  clear x1 x2 x3 hbl HR1 HR2 HB1 HB2
  go_wp2_with fail
  refine (product (fun a b => a && b) 55 #[] (enters_of Try.func55 (by kernel_rfl) rfl) rule55 s1 A1 c1 n1 B1 d1 e1 s2 A2 c2 n2 B2 d2 e2 most W HR1'.out hc1 HB1'.out hd1 HR2'.out hc2 HB2'.out hd2 r1 r2 r3 r4 H.out).mono ?_
  rintro e W4 ⟨v1, v2, rfl, hs4, hr4, hb4⟩
  obtain ⟨D1, f1, rfl⟩ := Kd.S_slice hs4
  obtain ⟨D2, f2, rfl⟩ := Kd.R_slice hr4
  have B4 := Aside0.mk (blk_below X3.out hb4)
  have L4 := Aside0.mk (BL.out.trans (hb4.mono BL.out.size))
  have S4 := Aside0.mk (Kd.S_lower hs4 BL.out.size)
  have R4 := Aside0.mk (Kd.R_lower hr4 BL.out.size)
  clear hs4 hr4 hb4 k0 k1 k2 k3 k4 k5
  have k6 := blk_cell B4.out 0
  have k7 := blk_cell B4.out 1
  have k8 := blk_cell B4.out 2
  have m6 := blk_frozen B4.out 0
  have m7 := blk_frozen B4.out 1
  have m8 := blk_frozen B4.out 2
  obtain ⟨kp3, hb3, bl3⟩ := keeps_put3 L4.out (show w.heap.size ≤ w.heap.size + 1 + 1 by omega) B4.out (.int .i64 r1) (.slice D1 r2.length f1) (.slice D2 r3.length f2)
  have FIN := Aside0.mk (And.intro hb3 (And.intro (S_keeps S4.out kp3 (by decide)) (And.intro (R_keeps R4.out kp3 (by decide)) bl3)))
  clear kp3 hb3 bl3
  go_wp2_with fail
  refine bodyPost_ret (results_ct rfl _ _ (w.heap.size + 1 + 1) 25 #[.int .i64 r1, _, _] (0, 0) _ rfl FIN.out.1 Try.underlying25 rfl (by kernel_rfl)) rfl ?_
  exact ⟨_, _, rfl, FIN.out.2.1, FIN.out.2.2.1, FIN.out.2.2.2⟩

theorem rule56 (a b : Bool) (W : World) : Calls Try.prog 56 (#[.bool a, .bool b] ++ #[]) W fun e w' => e = .returned (.bool (a && !b)) ∧ Drawn0 W w' := by
  cases a <;> cases b <;> (go_enter Try.func56, Try.ntmps56; go_wp2_with fail; go_ret; exact ⟨rfl, Drawn0.refl _⟩)
set_option maxHeartbeats 2000000 in
theorem prod33 (s1 : Int) (A1 : Option Addr) (c1 : Nat) (n1 : List (List Int)) (B1 : Option Addr) (d1 : Nat) (e1 : List Bool) (s2 : Int) (A2 : Option Addr) (c2 : Nat) (n2 : List (List Int)) (B2 : Option Addr) (d2 : Nat) (e2 : List Bool) (most : Int) (r1 : Int) (r2 : List (List Int)) (r3 : List Bool) (r4 : Int) (w : World)
    (hr1 : Kd.C (Kd.slice 3 (Kd.int .i64)) w A1 n1.length n1) (hc1 : n1.length ≤ c1) (hb1 : Kd.C Kd.bool w B1 e1.length e1) (hd1 : e1.length ≤ d1)
    (hr2 : Kd.C (Kd.slice 3 (Kd.int .i64)) w A2 n2.length n2) (hc2 : n2.length ≤ c2) (hb2 : Kd.C Kd.bool w B2 e2.length e2) (hd2 : e2.length ≤ d2)
    (h : prodF (fun a b => a && !b) s1 n1 e1 s2 n2 e2 most = (r1, r2, r3, r4)) :
    Calls Try.prog 33 #[.agg #[.int .i64 s1, .slice A1 n1.length c1, .slice B1 e1.length d1], .agg #[.int .i64 s2, .slice A2 n2.length c2, .slice B2 e2.length d2], .int .i64 most] w
      fun e w' => ∃ v1_ v2_ : Value, e = .returned (.tuple #[.agg #[.int .i64 r1, v1_, v2_], .int .i64 r4]) ∧ Kd.S (Kd.slice 3 (Kd.int .i64)) 33 w' w.heap.size (fun k_ => some k_ ≠ (v2_ : Value).ownBlock) v1_ r2 ∧ Kd.R Kd.bool 4 w' w.heap.size (fun k_ => True) v2_ r3 ∧ Below w.heap.size w w' := by
  have hu25 := Try.underlying25
  have H := Aside0.mk h
  have HR1 := Aside0.mk hr1
  have HR2 := Aside0.mk hr2
  have HB1 := Aside0.mk hb1
  have HB2 := Aside0.mk hb2
  clear h hr1 hr2 hb1 hb2
  go_enter Try.func33, Try.ntmps33
  go_upto_region 1 with (fail)
  obtain ⟨W, hW, x1, x2, x3, hbl⟩ := three_boxes w #[.int .i64 s1, .slice A1 n1.length c1, .slice B1 e1.length d1] #[.int .i64 s2, .slice A2 n2.length c2, .slice B2 e2.length d2] #[.int .i64 0, .slice none 0 0, .slice none 0 0]
  rw [← hW]
  clear hW
  have X3 := Aside0.mk x3
  have BL := Aside0.mk hbl
  have HR1' := Aside0.mk (Kd.C_below HR1.out hbl)
  have HR2' := Aside0.mk (Kd.C_below HR2.out hbl)
  have HB1' := Aside0.mk (Kd.C_below HB1.out hbl)
  have HB2' := Aside0.mk (Kd.C_below HB2.out hbl)
  have k0 := (blk_cell x1 0).trans rfl
  have k1 := (blk_cell x1 1).trans rfl
  have k2 := (blk_cell x1 2).trans rfl
  have k3 := (blk_cell x2 0).trans rfl
  have k4 := (blk_cell x2 1).trans rfl
  have k5 := (blk_cell x2 2).trans rfl
  clear x1 x2 x3 hbl HR1 HR2 HB1 HB2
  go_wp2_with fail
  refine (product (fun a b => a && !b) 56 #[] (enters_of Try.func56 (by kernel_rfl) rfl) rule56 s1 A1 c1 n1 B1 d1 e1 s2 A2 c2 n2 B2 d2 e2 most W HR1'.out hc1 HB1'.out hd1 HR2'.out hc2 HB2'.out hd2 r1 r2 r3 r4 H.out).mono ?_
  rintro e W4 ⟨v1, v2, rfl, hs4, hr4, hb4⟩
  obtain ⟨D1, f1, rfl⟩ := Kd.S_slice hs4
  obtain ⟨D2, f2, rfl⟩ := Kd.R_slice hr4
  have B4 := Aside0.mk (blk_below X3.out hb4)
  have L4 := Aside0.mk (BL.out.trans (hb4.mono BL.out.size))
  have S4 := Aside0.mk (Kd.S_lower hs4 BL.out.size)
  have R4 := Aside0.mk (Kd.R_lower hr4 BL.out.size)
  clear hs4 hr4 hb4 k0 k1 k2 k3 k4 k5
  have k6 := blk_cell B4.out 0
  have k7 := blk_cell B4.out 1
  have k8 := blk_cell B4.out 2
  have m6 := blk_frozen B4.out 0
  have m7 := blk_frozen B4.out 1
  have m8 := blk_frozen B4.out 2
  obtain ⟨kp3, hb3, bl3⟩ := keeps_put3 L4.out (show w.heap.size ≤ w.heap.size + 1 + 1 by omega) B4.out (.int .i64 r1) (.slice D1 r2.length f1) (.slice D2 r3.length f2)
  have FIN := Aside0.mk (And.intro hb3 (And.intro (S_keeps S4.out kp3 (by decide)) (And.intro (R_keeps R4.out kp3 (by decide)) bl3)))
  clear kp3 hb3 bl3
  go_wp2_with fail
  refine bodyPost_ret (results_ct rfl _ _ (w.heap.size + 1 + 1) 25 #[.int .i64 r1, _, _] (0, 0) _ rfl FIN.out.1 Try.underlying25 rfl (by kernel_rfl)) rfl ?_
  exact ⟨_, _, rfl, FIN.out.2.1, FIN.out.2.2.1, FIN.out.2.2.2⟩

theorem rule57 (a b : Bool) (W : World) : Calls Try.prog 57 (#[.bool a, .bool b] ++ #[]) W fun e w' => e = .returned (.bool (a != b)) ∧ Drawn0 W w' := by
  cases a <;> cases b <;> (go_enter Try.func57, Try.ntmps57; go_wp2_with fail; go_ret; exact ⟨rfl, Drawn0.refl _⟩)
set_option maxHeartbeats 2000000 in
theorem prod35 (s1 : Int) (A1 : Option Addr) (c1 : Nat) (n1 : List (List Int)) (B1 : Option Addr) (d1 : Nat) (e1 : List Bool) (s2 : Int) (A2 : Option Addr) (c2 : Nat) (n2 : List (List Int)) (B2 : Option Addr) (d2 : Nat) (e2 : List Bool) (most : Int) (r1 : Int) (r2 : List (List Int)) (r3 : List Bool) (r4 : Int) (w : World)
    (hr1 : Kd.C (Kd.slice 3 (Kd.int .i64)) w A1 n1.length n1) (hc1 : n1.length ≤ c1) (hb1 : Kd.C Kd.bool w B1 e1.length e1) (hd1 : e1.length ≤ d1)
    (hr2 : Kd.C (Kd.slice 3 (Kd.int .i64)) w A2 n2.length n2) (hc2 : n2.length ≤ c2) (hb2 : Kd.C Kd.bool w B2 e2.length e2) (hd2 : e2.length ≤ d2)
    (h : prodF (fun a b => a != b) s1 n1 e1 s2 n2 e2 most = (r1, r2, r3, r4)) :
    Calls Try.prog 35 #[.agg #[.int .i64 s1, .slice A1 n1.length c1, .slice B1 e1.length d1], .agg #[.int .i64 s2, .slice A2 n2.length c2, .slice B2 e2.length d2], .int .i64 most] w
      fun e w' => ∃ v1_ v2_ : Value, e = .returned (.tuple #[.agg #[.int .i64 r1, v1_, v2_], .int .i64 r4]) ∧ Kd.S (Kd.slice 3 (Kd.int .i64)) 33 w' w.heap.size (fun k_ => some k_ ≠ (v2_ : Value).ownBlock) v1_ r2 ∧ Kd.R Kd.bool 4 w' w.heap.size (fun k_ => True) v2_ r3 ∧ Below w.heap.size w w' := by
  have hu25 := Try.underlying25
  have H := Aside0.mk h
  have HR1 := Aside0.mk hr1
  have HR2 := Aside0.mk hr2
  have HB1 := Aside0.mk hb1
  have HB2 := Aside0.mk hb2
  clear h hr1 hr2 hb1 hb2
  go_enter Try.func35, Try.ntmps35
  go_upto_region 1 with (fail)
  obtain ⟨W, hW, x1, x2, x3, hbl⟩ := three_boxes w #[.int .i64 s1, .slice A1 n1.length c1, .slice B1 e1.length d1] #[.int .i64 s2, .slice A2 n2.length c2, .slice B2 e2.length d2] #[.int .i64 0, .slice none 0 0, .slice none 0 0]
  rw [← hW]
  clear hW
  have X3 := Aside0.mk x3
  have BL := Aside0.mk hbl
  have HR1' := Aside0.mk (Kd.C_below HR1.out hbl)
  have HR2' := Aside0.mk (Kd.C_below HR2.out hbl)
  have HB1' := Aside0.mk (Kd.C_below HB1.out hbl)
  have HB2' := Aside0.mk (Kd.C_below HB2.out hbl)
  have k0 := (blk_cell x1 0).trans rfl
  have k1 := (blk_cell x1 1).trans rfl
  have k2 := (blk_cell x1 2).trans rfl
  have k3 := (blk_cell x2 0).trans rfl
  have k4 := (blk_cell x2 1).trans rfl
  have k5 := (blk_cell x2 2).trans rfl
  clear x1 x2 x3 hbl HR1 HR2 HB1 HB2
  go_wp2_with fail
  refine (product (fun a b => a != b) 57 #[] (enters_of Try.func57 (by kernel_rfl) rfl) rule57 s1 A1 c1 n1 B1 d1 e1 s2 A2 c2 n2 B2 d2 e2 most W HR1'.out hc1 HB1'.out hd1 HR2'.out hc2 HB2'.out hd2 r1 r2 r3 r4 H.out).mono ?_
  rintro e W4 ⟨v1, v2, rfl, hs4, hr4, hb4⟩
  obtain ⟨D1, f1, rfl⟩ := Kd.S_slice hs4
  obtain ⟨D2, f2, rfl⟩ := Kd.R_slice hr4
  have B4 := Aside0.mk (blk_below X3.out hb4)
  have L4 := Aside0.mk (BL.out.trans (hb4.mono BL.out.size))
  have S4 := Aside0.mk (Kd.S_lower hs4 BL.out.size)
  have R4 := Aside0.mk (Kd.R_lower hr4 BL.out.size)
  clear hs4 hr4 hb4 k0 k1 k2 k3 k4 k5
  have k6 := blk_cell B4.out 0
  have k7 := blk_cell B4.out 1
  have k8 := blk_cell B4.out 2
  have m6 := blk_frozen B4.out 0
  have m7 := blk_frozen B4.out 1
  have m8 := blk_frozen B4.out 2
  obtain ⟨kp3, hb3, bl3⟩ := keeps_put3 L4.out (show w.heap.size ≤ w.heap.size + 1 + 1 by omega) B4.out (.int .i64 r1) (.slice D1 r2.length f1) (.slice D2 r3.length f2)
  have FIN := Aside0.mk (And.intro hb3 (And.intro (S_keeps S4.out kp3 (by decide)) (And.intro (R_keeps R4.out kp3 (by decide)) bl3)))
  clear kp3 hb3 bl3
  go_wp2_with fail
  refine bodyPost_ret (results_ct rfl _ _ (w.heap.size + 1 + 1) 25 #[.int .i64 r1, _, _] (0, 0) _ rfl FIN.out.1 Try.underlying25 rfl (by kernel_rfl)) rfl ?_
  exact ⟨_, _, rfl, FIN.out.2.1, FIN.out.2.2.1, FIN.out.2.2.2⟩
end Go.Proofs.Ytpedenbcfbflbaa.X
