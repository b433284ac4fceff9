/- alive of law 01: a fixed fact. -/
import Derived.Test.YtippkbgeeeimjaaPLit
namespace Go.Proofs.Ytippkbgeeeimjaa.L
open Go.RowKit Go.Proofs.YtippkbgeeeimjaaW.PrintWords Go.Proofs.YtippkbgeeeimjaaW.PrintLast Go.Proofs.YtippkbgeeeimjaaW.PrintMore Go.Proofs.Ytippkbgeeeimjaa.A Go.Proofs.Ytippkbgeeeimjaa.P Go.Proofs.Ytippkbgeeeimjaa.B
set_option linter.unusedVariables false
set_option linter.unusedSimpArgs false

theorem reps34 (W : World) : ∀ xs : List S34, Reps (k34.K W) 2 xs (xs.flatMap fun x => [Value.int .i64 x.f0, Value.int .i64 x.f1]) := by
  intro xs
  induction xs with
  | nil => exact Reps.none _ _
  | cons x xs ih => exact Reps.c2 (k34_mk W x) ih
theorem C_34 {W : World} {g t : Nat} (xs : List S34) (hb : W.heap[g]? = some (.cells (xs.flatMap fun x => [Value.int .i64 x.f0, Value.int .i64 x.f1]).toArray t (0, 0))) (hm : xs.length ≤ 9223372036854775807) : Kd.C k34 W (some ⟨g, 0, none⟩) xs.length xs :=
  C_box hb (reps34 W xs) hm
def caesuralaw01_alive.f : Option Bool := some true
set_option maxHeartbeats 4000000 in
set_option maxRecDepth 100000 in
theorem alive_calls (w : World) : Calls Try.prog 11 #[] w fun e w' => e = .returned (.bool true) ∧ Below w.heap.size w w' := by
  have BL := Aside0.mk (Below.refl w.heap.size w)
  go_enter Try.func11, Try.ntmps11
  go_wp2_with fail
  obtain ⟨V1, h_⟩ : ∃ W_, W_ = w.alloc (.cells #[.int .i64 4, .int .i64 5, .int .i64 1, .int .i64 3, .int .i64 9, .int .i64 8] 34) := ⟨_, rfl⟩
  have hb1 : Below w.heap.size w V1 := by rw [h_]; exact below_alloc (Below.refl _ _) _
  have hx1 : V1.heap[w.heap.size]? = some (.cells #[.int .i64 4, .int .i64 5, .int .i64 1, .int .i64 3, .int .i64 9, .int .i64 8] 34 (0, 0)) := by rw [h_]; exact blk_new _ _
  have hs1 : V1.heap.size = w.heap.size + 1 := by rw [h_]; first | exact Array.size_push _ | simp only [World.alloc, Array.size_push]
  rw [← h_]
  clear h_
  have n_BL := Aside0.mk (BL.out.trans (Below.mono hb1 BL.out.size))
  clear BL
  have BL := n_BL
  clear n_BL
  have XA := Aside0.mk hx1
  clear hx1 hb1
  obtain ⟨V2, h_⟩ : ∃ W_, W_ = V1.alloc (.cells #[.int .i64 3, .int .i64 7] 34) := ⟨_, rfl⟩
  have hb2 : Below V1.heap.size V1 V2 := by rw [h_]; exact below_alloc (Below.refl _ _) _
  have hx2 : V2.heap[w.heap.size + 1]? = some (.cells #[.int .i64 3, .int .i64 7] 34 (0, 0)) := by rw [h_, ← hs1]; exact blk_new _ _
  rw [← h_]
  clear h_
  have n_BL := Aside0.mk (BL.out.trans (Below.mono hb2 BL.out.size))
  have n_XA := Aside0.mk (blk_below XA.out hb2)
  clear BL XA
  have BL := n_BL
  have XA := n_XA
  clear n_BL n_XA
  clear hb2 hs1
  obtain ⟨gb, e_⟩ : ∃ g_, g_ = w.heap.size + 1 := ⟨_, rfl⟩
  rw [← e_] at hx2 ⊢
  clear e_
  have XB := Aside0.mk hx2
  clear hx2
  have hx1 := XA.out
  clear XA
  obtain ⟨ga, e_⟩ : ∃ g_, g_ = w.heap.size := ⟨_, rfl⟩
  rw [← e_] at hx1 ⊢
  clear e_
  have XA := Aside0.mk hx1
  clear hx1
  skip
  refine (span_Plain.calls (some ⟨ga, 0, none⟩) 3 [⟨4, 5⟩, ⟨1, 3⟩, ⟨9, 8⟩] [⟨1, 5⟩] V2 (C_34 [⟨4, 5⟩, ⟨1, 3⟩, ⟨9, 8⟩] XA.out (by decide)) (by decide) l1).mono ?_
  rintro e_ V3 ⟨v1, rfl, hs, hb⟩
  obtain ⟨A1, a1, rfl⟩ := Kd.R_slice hs
  have n_BL := Aside0.mk (BL.out.trans (Below.mono hb BL.out.size))
  have n_XA := Aside0.mk (blk_below XA.out hb)
  have n_XB := Aside0.mk (blk_below XB.out hb)
  clear BL XA XB
  have BL := n_BL
  have XA := n_XA
  have XB := n_XB
  clear n_BL n_XA n_XB
  have RA1 := Aside0.mk hs
  clear hs hb
  go_wp2_with fail
  obtain ⟨V4, h_⟩ : ∃ W_, W_ = V3.alloc (.cells #[.int .i64 1, .int .i64 5] 34) := ⟨_, rfl⟩
  have hb_ : Below V3.heap.size V3 V4 := by rw [h_]; exact below_alloc (Below.refl _ _) _
  have hx_ : V4.heap[V3.heap.size]? = some (.cells #[.int .i64 1, .int .i64 5] 34 (0, 0)) := by rw [h_]; exact blk_new _ _
  rw [← h_]
  clear h_
  have n_BL := Aside0.mk (BL.out.trans (Below.mono hb_ BL.out.size))
  have n_XA := Aside0.mk (blk_below XA.out hb_)
  have n_XB := Aside0.mk (blk_below XB.out hb_)
  have n_RA1 := Aside0.mk (Kd.R_below RA1.out hb_)
  clear BL XA XB RA1
  have BL := n_BL
  have XA := n_XA
  have XB := n_XB
  have RA1 := n_RA1
  clear n_BL n_XA n_XB n_RA1
  clear hb_
  obtain ⟨g1, e_⟩ : ∃ g_, g_ = V3.heap.size := ⟨_, rfl⟩
  rw [← e_] at hx_ ⊢
  clear e_
  have X1 := Aside0.mk hx_
  clear hx_
  go_wp2_with fail
  refine (caesuraref01_Ranges.calls 4 A1 a1 [⟨1, 5⟩] (some ⟨g1, 0, none⟩) 1 [⟨1, 5⟩] true V4 (Kd.R_reads' RA1.out).2.2 (Kd.R_reads' RA1.out).2.1 (C_34 [⟨1, 5⟩] X1.out (by decide)) (by decide) g15).mono ?_
  rintro e_ V5 ⟨rfl, hb⟩
  replace hb := hb.below
  have n_BL := Aside0.mk (BL.out.trans (Below.mono hb BL.out.size))
  have n_XA := Aside0.mk (blk_below XA.out hb)
  have n_XB := Aside0.mk (blk_below XB.out hb)
  have n_RA1 := Aside0.mk (Kd.R_below RA1.out hb)
  have n_X1 := Aside0.mk (blk_below X1.out hb)
  clear BL XA XB RA1 X1
  have BL := n_BL
  have XA := n_XA
  have XB := n_XB
  have RA1 := n_RA1
  have X1 := n_X1
  clear n_BL n_XA n_XB n_RA1 n_X1
  clear hb
  go_wp2_with fail
  refine (span_And.calls (some ⟨ga, 0, none⟩) 3 [⟨4, 5⟩, ⟨1, 3⟩, ⟨9, 8⟩] (some ⟨gb, 0, none⟩) 1 [⟨3, 7⟩] [⟨3, 5⟩] V5 (C_34 [⟨4, 5⟩, ⟨1, 3⟩, ⟨9, 8⟩] XA.out (by decide)) (by decide) (C_34 [⟨3, 7⟩] XB.out (by decide)) (by decide) l2).mono ?_
  rintro e_ V6 ⟨v1, rfl, hs, hb⟩
  obtain ⟨A2, a2, rfl⟩ := Kd.R_slice hs
  have n_BL := Aside0.mk (BL.out.trans (Below.mono hb BL.out.size))
  have n_XA := Aside0.mk (blk_below XA.out hb)
  have n_XB := Aside0.mk (blk_below XB.out hb)
  have n_RA1 := Aside0.mk (Kd.R_below RA1.out hb)
  have n_X1 := Aside0.mk (blk_below X1.out hb)
  clear BL XA XB RA1 X1
  have BL := n_BL
  have XA := n_XA
  have XB := n_XB
  have RA1 := n_RA1
  have X1 := n_X1
  clear n_BL n_XA n_XB n_RA1 n_X1
  have RA2 := Aside0.mk hs
  clear hs hb
  go_wp2_with fail
  obtain ⟨V7, h_⟩ : ∃ W_, W_ = V6.alloc (.cells #[.int .i64 3, .int .i64 5] 34) := ⟨_, rfl⟩
  have hb_ : Below V6.heap.size V6 V7 := by rw [h_]; exact below_alloc (Below.refl _ _) _
  have hx_ : V7.heap[V6.heap.size]? = some (.cells #[.int .i64 3, .int .i64 5] 34 (0, 0)) := by rw [h_]; exact blk_new _ _
  rw [← h_]
  clear h_
  have n_BL := Aside0.mk (BL.out.trans (Below.mono hb_ BL.out.size))
  have n_XA := Aside0.mk (blk_below XA.out hb_)
  have n_XB := Aside0.mk (blk_below XB.out hb_)
  have n_RA1 := Aside0.mk (Kd.R_below RA1.out hb_)
  have n_X1 := Aside0.mk (blk_below X1.out hb_)
  have n_RA2 := Aside0.mk (Kd.R_below RA2.out hb_)
  clear BL XA XB RA1 X1 RA2
  have BL := n_BL
  have XA := n_XA
  have XB := n_XB
  have RA1 := n_RA1
  have X1 := n_X1
  have RA2 := n_RA2
  clear n_BL n_XA n_XB n_RA1 n_X1 n_RA2
  clear hb_
  obtain ⟨g2, e_⟩ : ∃ g_, g_ = V6.heap.size := ⟨_, rfl⟩
  rw [← e_] at hx_ ⊢
  clear e_
  have X2 := Aside0.mk hx_
  clear hx_
  go_wp2_with fail
  refine (caesuraref01_Ranges.calls 4 A2 a2 [⟨3, 5⟩] (some ⟨g2, 0, none⟩) 1 [⟨3, 5⟩] true V7 (Kd.R_reads' RA2.out).2.2 (Kd.R_reads' RA2.out).2.1 (C_34 [⟨3, 5⟩] X2.out (by decide)) (by decide) g35).mono ?_
  rintro e_ V8 ⟨rfl, hb⟩
  replace hb := hb.below
  have n_BL := Aside0.mk (BL.out.trans (Below.mono hb BL.out.size))
  have n_XA := Aside0.mk (blk_below XA.out hb)
  have n_XB := Aside0.mk (blk_below XB.out hb)
  have n_RA1 := Aside0.mk (Kd.R_below RA1.out hb)
  have n_X1 := Aside0.mk (blk_below X1.out hb)
  have n_RA2 := Aside0.mk (Kd.R_below RA2.out hb)
  have n_X2 := Aside0.mk (blk_below X2.out hb)
  clear BL XA XB RA1 X1 RA2 X2
  have BL := n_BL
  have XA := n_XA
  have XB := n_XB
  have RA1 := n_RA1
  have X1 := n_X1
  have RA2 := n_RA2
  have X2 := n_X2
  clear n_BL n_XA n_XB n_RA1 n_X1 n_RA2 n_X2
  clear hb
  go_wp2_with fail
  refine (span_Less.calls (some ⟨gb, 0, none⟩) 1 [⟨3, 7⟩] (some ⟨ga, 0, none⟩) 3 [⟨4, 5⟩, ⟨1, 3⟩, ⟨9, 8⟩] [⟨6, 7⟩] V8 (C_34 [⟨3, 7⟩] XB.out (by decide)) (by decide) (C_34 [⟨4, 5⟩, ⟨1, 3⟩, ⟨9, 8⟩] XA.out (by decide)) (by decide) l3).mono ?_
  rintro e_ V9 ⟨v1, rfl, hs, hb⟩
  obtain ⟨A3, a3, rfl⟩ := Kd.R_slice hs
  have n_BL := Aside0.mk (BL.out.trans (Below.mono hb BL.out.size))
  have n_XA := Aside0.mk (blk_below XA.out hb)
  have n_XB := Aside0.mk (blk_below XB.out hb)
  have n_RA1 := Aside0.mk (Kd.R_below RA1.out hb)
  have n_X1 := Aside0.mk (blk_below X1.out hb)
  have n_RA2 := Aside0.mk (Kd.R_below RA2.out hb)
  have n_X2 := Aside0.mk (blk_below X2.out hb)
  clear BL XA XB RA1 X1 RA2 X2
  have BL := n_BL
  have XA := n_XA
  have XB := n_XB
  have RA1 := n_RA1
  have X1 := n_X1
  have RA2 := n_RA2
  have X2 := n_X2
  clear n_BL n_XA n_XB n_RA1 n_X1 n_RA2 n_X2
  have RA3 := Aside0.mk hs
  clear hs hb
  go_wp2_with fail
  obtain ⟨V10, h_⟩ : ∃ W_, W_ = V9.alloc (.cells #[.int .i64 6, .int .i64 7] 34) := ⟨_, rfl⟩
  have hb_ : Below V9.heap.size V9 V10 := by rw [h_]; exact below_alloc (Below.refl _ _) _
  have hx_ : V10.heap[V9.heap.size]? = some (.cells #[.int .i64 6, .int .i64 7] 34 (0, 0)) := by rw [h_]; exact blk_new _ _
  rw [← h_]
  clear h_
  have n_BL := Aside0.mk (BL.out.trans (Below.mono hb_ BL.out.size))
  have n_XA := Aside0.mk (blk_below XA.out hb_)
  have n_XB := Aside0.mk (blk_below XB.out hb_)
  have n_RA1 := Aside0.mk (Kd.R_below RA1.out hb_)
  have n_X1 := Aside0.mk (blk_below X1.out hb_)
  have n_RA2 := Aside0.mk (Kd.R_below RA2.out hb_)
  have n_X2 := Aside0.mk (blk_below X2.out hb_)
  have n_RA3 := Aside0.mk (Kd.R_below RA3.out hb_)
  clear BL XA XB RA1 X1 RA2 X2 RA3
  have BL := n_BL
  have XA := n_XA
  have XB := n_XB
  have RA1 := n_RA1
  have X1 := n_X1
  have RA2 := n_RA2
  have X2 := n_X2
  have RA3 := n_RA3
  clear n_BL n_XA n_XB n_RA1 n_X1 n_RA2 n_X2 n_RA3
  clear hb_
  obtain ⟨g3, e_⟩ : ∃ g_, g_ = V9.heap.size := ⟨_, rfl⟩
  rw [← e_] at hx_ ⊢
  clear e_
  have X3 := Aside0.mk hx_
  clear hx_
  go_wp2_with fail
  refine (caesuraref01_Ranges.calls 4 A3 a3 [⟨6, 7⟩] (some ⟨g3, 0, none⟩) 1 [⟨6, 7⟩] true V10 (Kd.R_reads' RA3.out).2.2 (Kd.R_reads' RA3.out).2.1 (C_34 [⟨6, 7⟩] X3.out (by decide)) (by decide) g67).mono ?_
  rintro e_ V11 ⟨rfl, hb⟩
  replace hb := hb.below
  have n_BL := Aside0.mk (BL.out.trans (Below.mono hb BL.out.size))
  have n_XA := Aside0.mk (blk_below XA.out hb)
  have n_XB := Aside0.mk (blk_below XB.out hb)
  have n_RA1 := Aside0.mk (Kd.R_below RA1.out hb)
  have n_X1 := Aside0.mk (blk_below X1.out hb)
  have n_RA2 := Aside0.mk (Kd.R_below RA2.out hb)
  have n_X2 := Aside0.mk (blk_below X2.out hb)
  have n_RA3 := Aside0.mk (Kd.R_below RA3.out hb)
  have n_X3 := Aside0.mk (blk_below X3.out hb)
  clear BL XA XB RA1 X1 RA2 X2 RA3 X3
  have BL := n_BL
  have XA := n_XA
  have XB := n_XB
  have RA1 := n_RA1
  have X1 := n_X1
  have RA2 := n_RA2
  have X2 := n_X2
  have RA3 := n_RA3
  have X3 := n_X3
  clear n_BL n_XA n_XB n_RA1 n_X1 n_RA2 n_X2 n_RA3 n_X3
  clear hb
  go_wp2_with fail
  refine (span_Or.calls (some ⟨ga, 0, none⟩) 3 [⟨4, 5⟩, ⟨1, 3⟩, ⟨9, 8⟩] (some ⟨gb, 0, none⟩) 1 [⟨3, 7⟩] [⟨1, 7⟩] V11 (C_34 [⟨4, 5⟩, ⟨1, 3⟩, ⟨9, 8⟩] XA.out (by decide)) (by decide) (C_34 [⟨3, 7⟩] XB.out (by decide)) (by decide) l4).mono ?_
  rintro e_ V12 ⟨v1, rfl, hs, hb⟩
  obtain ⟨A4, a4, rfl⟩ := Kd.R_slice hs
  have n_BL := Aside0.mk (BL.out.trans (Below.mono hb BL.out.size))
  have n_XA := Aside0.mk (blk_below XA.out hb)
  have n_XB := Aside0.mk (blk_below XB.out hb)
  have n_RA1 := Aside0.mk (Kd.R_below RA1.out hb)
  have n_X1 := Aside0.mk (blk_below X1.out hb)
  have n_RA2 := Aside0.mk (Kd.R_below RA2.out hb)
  have n_X2 := Aside0.mk (blk_below X2.out hb)
  have n_RA3 := Aside0.mk (Kd.R_below RA3.out hb)
  have n_X3 := Aside0.mk (blk_below X3.out hb)
  clear BL XA XB RA1 X1 RA2 X2 RA3 X3
  have BL := n_BL
  have XA := n_XA
  have XB := n_XB
  have RA1 := n_RA1
  have X1 := n_X1
  have RA2 := n_RA2
  have X2 := n_X2
  have RA3 := n_RA3
  have X3 := n_X3
  clear n_BL n_XA n_XB n_RA1 n_X1 n_RA2 n_X2 n_RA3 n_X3
  have RA4 := Aside0.mk hs
  clear hs hb
  go_wp2_with fail
  obtain ⟨V13, h_⟩ : ∃ W_, W_ = V12.alloc (.cells #[.int .i64 1, .int .i64 7] 34) := ⟨_, rfl⟩
  have hb_ : Below V12.heap.size V12 V13 := by rw [h_]; exact below_alloc (Below.refl _ _) _
  have hx_ : V13.heap[V12.heap.size]? = some (.cells #[.int .i64 1, .int .i64 7] 34 (0, 0)) := by rw [h_]; exact blk_new _ _
  rw [← h_]
  clear h_
  have n_BL := Aside0.mk (BL.out.trans (Below.mono hb_ BL.out.size))
  have n_XA := Aside0.mk (blk_below XA.out hb_)
  have n_XB := Aside0.mk (blk_below XB.out hb_)
  have n_RA1 := Aside0.mk (Kd.R_below RA1.out hb_)
  have n_X1 := Aside0.mk (blk_below X1.out hb_)
  have n_RA2 := Aside0.mk (Kd.R_below RA2.out hb_)
  have n_X2 := Aside0.mk (blk_below X2.out hb_)
  have n_RA3 := Aside0.mk (Kd.R_below RA3.out hb_)
  have n_X3 := Aside0.mk (blk_below X3.out hb_)
  have n_RA4 := Aside0.mk (Kd.R_below RA4.out hb_)
  clear BL XA XB RA1 X1 RA2 X2 RA3 X3 RA4
  have BL := n_BL
  have XA := n_XA
  have XB := n_XB
  have RA1 := n_RA1
  have X1 := n_X1
  have RA2 := n_RA2
  have X2 := n_X2
  have RA3 := n_RA3
  have X3 := n_X3
  have RA4 := n_RA4
  clear n_BL n_XA n_XB n_RA1 n_X1 n_RA2 n_X2 n_RA3 n_X3 n_RA4
  clear hb_
  obtain ⟨g4, e_⟩ : ∃ g_, g_ = V12.heap.size := ⟨_, rfl⟩
  rw [← e_] at hx_ ⊢
  clear e_
  have X4 := Aside0.mk hx_
  clear hx_
  go_wp2_with fail
  refine (caesuraref01_Ranges.calls 4 A4 a4 [⟨1, 7⟩] (some ⟨g4, 0, none⟩) 1 [⟨1, 7⟩] true V13 (Kd.R_reads' RA4.out).2.2 (Kd.R_reads' RA4.out).2.1 (C_34 [⟨1, 7⟩] X4.out (by decide)) (by decide) g17).mono ?_
  rintro e_ V14 ⟨rfl, hb⟩
  replace hb := hb.below
  have n_BL := Aside0.mk (BL.out.trans (Below.mono hb BL.out.size))
  have n_XA := Aside0.mk (blk_below XA.out hb)
  have n_XB := Aside0.mk (blk_below XB.out hb)
  have n_RA1 := Aside0.mk (Kd.R_below RA1.out hb)
  have n_X1 := Aside0.mk (blk_below X1.out hb)
  have n_RA2 := Aside0.mk (Kd.R_below RA2.out hb)
  have n_X2 := Aside0.mk (blk_below X2.out hb)
  have n_RA3 := Aside0.mk (Kd.R_below RA3.out hb)
  have n_X3 := Aside0.mk (blk_below X3.out hb)
  have n_RA4 := Aside0.mk (Kd.R_below RA4.out hb)
  have n_X4 := Aside0.mk (blk_below X4.out hb)
  clear BL XA XB RA1 X1 RA2 X2 RA3 X3 RA4 X4
  have BL := n_BL
  have XA := n_XA
  have XB := n_XB
  have RA1 := n_RA1
  have X1 := n_X1
  have RA2 := n_RA2
  have X2 := n_X2
  have RA3 := n_RA3
  have X3 := n_X3
  have RA4 := n_RA4
  have X4 := n_X4
  clear n_BL n_XA n_XB n_RA1 n_X1 n_RA2 n_X2 n_RA3 n_X3 n_RA4 n_X4
  clear hb
  go_wp2_with fail
  refine (span_First.calls 4 (some ⟨ga, 0, none⟩) 3 [⟨4, 5⟩, ⟨1, 3⟩, ⟨9, 8⟩]  1 V14 (C_34 [⟨4, 5⟩, ⟨1, 3⟩, ⟨9, 8⟩] XA.out (by decide)) (by decide) l5).mono ?_
  rintro e_ V15 ⟨rfl, hb⟩
  have n_BL := Aside0.mk (BL.out.trans (Below.mono hb BL.out.size))
  have n_XA := Aside0.mk (blk_below XA.out hb)
  have n_XB := Aside0.mk (blk_below XB.out hb)
  have n_RA1 := Aside0.mk (Kd.R_below RA1.out hb)
  have n_X1 := Aside0.mk (blk_below X1.out hb)
  have n_RA2 := Aside0.mk (Kd.R_below RA2.out hb)
  have n_X2 := Aside0.mk (blk_below X2.out hb)
  have n_RA3 := Aside0.mk (Kd.R_below RA3.out hb)
  have n_X3 := Aside0.mk (blk_below X3.out hb)
  have n_RA4 := Aside0.mk (Kd.R_below RA4.out hb)
  have n_X4 := Aside0.mk (blk_below X4.out hb)
  clear BL XA XB RA1 X1 RA2 X2 RA3 X3 RA4 X4
  have BL := n_BL
  have XA := n_XA
  have XB := n_XB
  have RA1 := n_RA1
  have X1 := n_X1
  have RA2 := n_RA2
  have X2 := n_X2
  have RA3 := n_RA3
  have X3 := n_X3
  have RA4 := n_RA4
  have X4 := n_X4
  clear n_BL n_XA n_XB n_RA1 n_X1 n_RA2 n_X2 n_RA3 n_X3 n_RA4 n_X4
  clear hb
  go_wp2_with fail
  refine (span_Size.calls 4 (some ⟨ga, 0, none⟩) 3 [⟨4, 5⟩, ⟨1, 3⟩, ⟨9, 8⟩]  5 V15 (C_34 [⟨4, 5⟩, ⟨1, 3⟩, ⟨9, 8⟩] XA.out (by decide)) (by decide) l6).mono ?_
  rintro e_ V16 ⟨rfl, hb⟩
  have n_BL := Aside0.mk (BL.out.trans (Below.mono hb BL.out.size))
  have n_XA := Aside0.mk (blk_below XA.out hb)
  have n_XB := Aside0.mk (blk_below XB.out hb)
  have n_RA1 := Aside0.mk (Kd.R_below RA1.out hb)
  have n_X1 := Aside0.mk (blk_below X1.out hb)
  have n_RA2 := Aside0.mk (Kd.R_below RA2.out hb)
  have n_X2 := Aside0.mk (blk_below X2.out hb)
  have n_RA3 := Aside0.mk (Kd.R_below RA3.out hb)
  have n_X3 := Aside0.mk (blk_below X3.out hb)
  have n_RA4 := Aside0.mk (Kd.R_below RA4.out hb)
  have n_X4 := Aside0.mk (blk_below X4.out hb)
  clear BL XA XB RA1 X1 RA2 X2 RA3 X3 RA4 X4
  have BL := n_BL
  have XA := n_XA
  have XB := n_XB
  have RA1 := n_RA1
  have X1 := n_X1
  have RA2 := n_RA2
  have X2 := n_X2
  have RA3 := n_RA3
  have X3 := n_X3
  have RA4 := n_RA4
  have X4 := n_X4
  clear n_BL n_XA n_XB n_RA1 n_X1 n_RA2 n_X2 n_RA3 n_X3 n_RA4 n_X4
  clear hb
  go_wp2_with fail
  refine (span_Has.calls (some ⟨ga, 0, none⟩) 3 [⟨4, 5⟩, ⟨1, 3⟩, ⟨9, 8⟩] 4 true V16 (C_34 [⟨4, 5⟩, ⟨1, 3⟩, ⟨9, 8⟩] XA.out (by decide)) (by decide) l7).mono ?_
  rintro e_ V17 ⟨rfl, hb⟩
  have n_BL := Aside0.mk (BL.out.trans (Below.mono hb BL.out.size))
  have n_XA := Aside0.mk (blk_below XA.out hb)
  have n_XB := Aside0.mk (blk_below XB.out hb)
  have n_RA1 := Aside0.mk (Kd.R_below RA1.out hb)
  have n_X1 := Aside0.mk (blk_below X1.out hb)
  have n_RA2 := Aside0.mk (Kd.R_below RA2.out hb)
  have n_X2 := Aside0.mk (blk_below X2.out hb)
  have n_RA3 := Aside0.mk (Kd.R_below RA3.out hb)
  have n_X3 := Aside0.mk (blk_below X3.out hb)
  have n_RA4 := Aside0.mk (Kd.R_below RA4.out hb)
  have n_X4 := Aside0.mk (blk_below X4.out hb)
  clear BL XA XB RA1 X1 RA2 X2 RA3 X3 RA4 X4
  have BL := n_BL
  have XA := n_XA
  have XB := n_XB
  have RA1 := n_RA1
  have X1 := n_X1
  have RA2 := n_RA2
  have X2 := n_X2
  have RA3 := n_RA3
  have X3 := n_X3
  have RA4 := n_RA4
  have X4 := n_X4
  clear n_BL n_XA n_XB n_RA1 n_X1 n_RA2 n_X2 n_RA3 n_X3 n_RA4 n_X4
  clear hb
  go_wp2_with fail
  refine (span_Has.calls (some ⟨ga, 0, none⟩) 3 [⟨4, 5⟩, ⟨1, 3⟩, ⟨9, 8⟩] 8 false V17 (C_34 [⟨4, 5⟩, ⟨1, 3⟩, ⟨9, 8⟩] XA.out (by decide)) (by decide) l8).mono ?_
  rintro e_ V18 ⟨rfl, hb⟩
  have n_BL := Aside0.mk (BL.out.trans (Below.mono hb BL.out.size))
  have n_XA := Aside0.mk (blk_below XA.out hb)
  have n_XB := Aside0.mk (blk_below XB.out hb)
  have n_RA1 := Aside0.mk (Kd.R_below RA1.out hb)
  have n_X1 := Aside0.mk (blk_below X1.out hb)
  have n_RA2 := Aside0.mk (Kd.R_below RA2.out hb)
  have n_X2 := Aside0.mk (blk_below X2.out hb)
  have n_RA3 := Aside0.mk (Kd.R_below RA3.out hb)
  have n_X3 := Aside0.mk (blk_below X3.out hb)
  have n_RA4 := Aside0.mk (Kd.R_below RA4.out hb)
  have n_X4 := Aside0.mk (blk_below X4.out hb)
  clear BL XA XB RA1 X1 RA2 X2 RA3 X3 RA4 X4
  have BL := n_BL
  have XA := n_XA
  have XB := n_XB
  have RA1 := n_RA1
  have X1 := n_X1
  have RA2 := n_RA2
  have X2 := n_X2
  have RA3 := n_RA3
  have X3 := n_X3
  have RA4 := n_RA4
  have X4 := n_X4
  clear n_BL n_XA n_XB n_RA1 n_X1 n_RA2 n_X2 n_RA3 n_X3 n_RA4 n_X4
  clear hb
  go_wp2_with fail
  obtain ⟨V19, h_⟩ : ∃ W_, W_ = V18.alloc (.cells #[.int .i64 1, .int .i64 5] 34) := ⟨_, rfl⟩
  have hb_ : Below V18.heap.size V18 V19 := by rw [h_]; exact below_alloc (Below.refl _ _) _
  have hx_ : V19.heap[V18.heap.size]? = some (.cells #[.int .i64 1, .int .i64 5] 34 (0, 0)) := by rw [h_]; exact blk_new _ _
  rw [← h_]
  clear h_
  have n_BL := Aside0.mk (BL.out.trans (Below.mono hb_ BL.out.size))
  have n_XA := Aside0.mk (blk_below XA.out hb_)
  have n_XB := Aside0.mk (blk_below XB.out hb_)
  have n_RA1 := Aside0.mk (Kd.R_below RA1.out hb_)
  have n_X1 := Aside0.mk (blk_below X1.out hb_)
  have n_RA2 := Aside0.mk (Kd.R_below RA2.out hb_)
  have n_X2 := Aside0.mk (blk_below X2.out hb_)
  have n_RA3 := Aside0.mk (Kd.R_below RA3.out hb_)
  have n_X3 := Aside0.mk (blk_below X3.out hb_)
  have n_RA4 := Aside0.mk (Kd.R_below RA4.out hb_)
  have n_X4 := Aside0.mk (blk_below X4.out hb_)
  clear BL XA XB RA1 X1 RA2 X2 RA3 X3 RA4 X4
  have BL := n_BL
  have XA := n_XA
  have XB := n_XB
  have RA1 := n_RA1
  have X1 := n_X1
  have RA2 := n_RA2
  have X2 := n_X2
  have RA3 := n_RA3
  have X3 := n_X3
  have RA4 := n_RA4
  have X4 := n_X4
  clear n_BL n_XA n_XB n_RA1 n_X1 n_RA2 n_X2 n_RA3 n_X3 n_RA4 n_X4
  clear hb_
  obtain ⟨g5, e_⟩ : ∃ g_, g_ = V18.heap.size := ⟨_, rfl⟩
  rw [← e_] at hx_ ⊢
  clear e_
  have X5 := Aside0.mk hx_
  clear hx_
  go_wp2_with fail
  refine (span_Same.calls 4 (some ⟨ga, 0, none⟩) 3 [⟨4, 5⟩, ⟨1, 3⟩, ⟨9, 8⟩] (some ⟨g5, 0, none⟩) 1 [⟨1, 5⟩] true V19 (C_34 [⟨4, 5⟩, ⟨1, 3⟩, ⟨9, 8⟩] XA.out (by decide)) (by decide) (C_34 [⟨1, 5⟩] X5.out (by decide)) (by decide) l9).mono ?_
  rintro e_ V20 ⟨rfl, hb⟩
  have n_BL := Aside0.mk (BL.out.trans (Below.mono hb BL.out.size))
  have n_XA := Aside0.mk (blk_below XA.out hb)
  have n_XB := Aside0.mk (blk_below XB.out hb)
  have n_RA1 := Aside0.mk (Kd.R_below RA1.out hb)
  have n_X1 := Aside0.mk (blk_below X1.out hb)
  have n_RA2 := Aside0.mk (Kd.R_below RA2.out hb)
  have n_X2 := Aside0.mk (blk_below X2.out hb)
  have n_RA3 := Aside0.mk (Kd.R_below RA3.out hb)
  have n_X3 := Aside0.mk (blk_below X3.out hb)
  have n_RA4 := Aside0.mk (Kd.R_below RA4.out hb)
  have n_X4 := Aside0.mk (blk_below X4.out hb)
  have n_X5 := Aside0.mk (blk_below X5.out hb)
  clear BL XA XB RA1 X1 RA2 X2 RA3 X3 RA4 X4 X5
  have BL := n_BL
  have XA := n_XA
  have XB := n_XB
  have RA1 := n_RA1
  have X1 := n_X1
  have RA2 := n_RA2
  have X2 := n_X2
  have RA3 := n_RA3
  have X3 := n_X3
  have RA4 := n_RA4
  have X4 := n_X4
  have X5 := n_X5
  clear n_BL n_XA n_XB n_RA1 n_X1 n_RA2 n_X2 n_RA3 n_X3 n_RA4 n_X4 n_X5
  clear hb
  go_wp2_with fail
  refine (span_Right.calls 4 (some ⟨gb, 0, none⟩) 1 [⟨3, 7⟩]  true V20 (C_34 [⟨3, 7⟩] XB.out (by decide)) (by decide) l10).mono ?_
  rintro e_ V21 ⟨rfl, hb⟩
  have n_BL := Aside0.mk (BL.out.trans (Below.mono hb BL.out.size))
  have n_XA := Aside0.mk (blk_below XA.out hb)
  have n_XB := Aside0.mk (blk_below XB.out hb)
  have n_RA1 := Aside0.mk (Kd.R_below RA1.out hb)
  have n_X1 := Aside0.mk (blk_below X1.out hb)
  have n_RA2 := Aside0.mk (Kd.R_below RA2.out hb)
  have n_X2 := Aside0.mk (blk_below X2.out hb)
  have n_RA3 := Aside0.mk (Kd.R_below RA3.out hb)
  have n_X3 := Aside0.mk (blk_below X3.out hb)
  have n_RA4 := Aside0.mk (Kd.R_below RA4.out hb)
  have n_X4 := Aside0.mk (blk_below X4.out hb)
  have n_X5 := Aside0.mk (blk_below X5.out hb)
  clear BL XA XB RA1 X1 RA2 X2 RA3 X3 RA4 X4 X5
  have BL := n_BL
  have XA := n_XA
  have XB := n_XB
  have RA1 := n_RA1
  have X1 := n_X1
  have RA2 := n_RA2
  have X2 := n_X2
  have RA3 := n_RA3
  have X3 := n_X3
  have RA4 := n_RA4
  have X4 := n_X4
  have X5 := n_X5
  clear n_BL n_XA n_XB n_RA1 n_X1 n_RA2 n_X2 n_RA3 n_X3 n_RA4 n_X4 n_X5
  clear hb
  go_wp2_with fail
  refine (span_Right.calls 4 (some ⟨ga, 0, none⟩) 3 [⟨4, 5⟩, ⟨1, 3⟩, ⟨9, 8⟩]  false V21 (C_34 [⟨4, 5⟩, ⟨1, 3⟩, ⟨9, 8⟩] XA.out (by decide)) (by decide) l11).mono ?_
  rintro e_ V22 ⟨rfl, hb⟩
  have n_BL := Aside0.mk (BL.out.trans (Below.mono hb BL.out.size))
  have n_XA := Aside0.mk (blk_below XA.out hb)
  have n_XB := Aside0.mk (blk_below XB.out hb)
  have n_RA1 := Aside0.mk (Kd.R_below RA1.out hb)
  have n_X1 := Aside0.mk (blk_below X1.out hb)
  have n_RA2 := Aside0.mk (Kd.R_below RA2.out hb)
  have n_X2 := Aside0.mk (blk_below X2.out hb)
  have n_RA3 := Aside0.mk (Kd.R_below RA3.out hb)
  have n_X3 := Aside0.mk (blk_below X3.out hb)
  have n_RA4 := Aside0.mk (Kd.R_below RA4.out hb)
  have n_X4 := Aside0.mk (blk_below X4.out hb)
  have n_X5 := Aside0.mk (blk_below X5.out hb)
  clear BL XA XB RA1 X1 RA2 X2 RA3 X3 RA4 X4 X5
  have BL := n_BL
  have XA := n_XA
  have XB := n_XB
  have RA1 := n_RA1
  have X1 := n_X1
  have RA2 := n_RA2
  have X2 := n_X2
  have RA3 := n_RA3
  have X3 := n_X3
  have RA4 := n_RA4
  have X4 := n_X4
  have X5 := n_X5
  clear n_BL n_XA n_XB n_RA1 n_X1 n_RA2 n_X2 n_RA3 n_X3 n_RA4 n_X4 n_X5
  clear hb
  go_wp2_with fail
  refine (span_Not.calls (some ⟨ga, 0, none⟩) 3 [⟨4, 5⟩, ⟨1, 3⟩, ⟨9, 8⟩] [⟨0, 0⟩, ⟨6, 1114111⟩] V22 (C_34 [⟨4, 5⟩, ⟨1, 3⟩, ⟨9, 8⟩] XA.out (by decide)) (by decide) l12).mono ?_
  rintro e_ V23 ⟨v1, rfl, hs, hb⟩
  obtain ⟨A5, a5, rfl⟩ := Kd.R_slice hs
  have n_BL := Aside0.mk (BL.out.trans (Below.mono hb BL.out.size))
  have n_XA := Aside0.mk (blk_below XA.out hb)
  have n_XB := Aside0.mk (blk_below XB.out hb)
  have n_RA1 := Aside0.mk (Kd.R_below RA1.out hb)
  have n_X1 := Aside0.mk (blk_below X1.out hb)
  have n_RA2 := Aside0.mk (Kd.R_below RA2.out hb)
  have n_X2 := Aside0.mk (blk_below X2.out hb)
  have n_RA3 := Aside0.mk (Kd.R_below RA3.out hb)
  have n_X3 := Aside0.mk (blk_below X3.out hb)
  have n_RA4 := Aside0.mk (Kd.R_below RA4.out hb)
  have n_X4 := Aside0.mk (blk_below X4.out hb)
  have n_X5 := Aside0.mk (blk_below X5.out hb)
  clear BL XA XB RA1 X1 RA2 X2 RA3 X3 RA4 X4 X5
  have BL := n_BL
  have XA := n_XA
  have XB := n_XB
  have RA1 := n_RA1
  have X1 := n_X1
  have RA2 := n_RA2
  have X2 := n_X2
  have RA3 := n_RA3
  have X3 := n_X3
  have RA4 := n_RA4
  have X4 := n_X4
  have X5 := n_X5
  clear n_BL n_XA n_XB n_RA1 n_X1 n_RA2 n_X2 n_RA3 n_X3 n_RA4 n_X4 n_X5
  have RA5 := Aside0.mk hs
  clear hs hb
  go_wp2_with fail
  refine (span_Size.calls 4 A5 a5 [⟨0, 0⟩, ⟨6, 1114111⟩]  1114107 V23 (Kd.R_reads' RA5.out).2.2 (Kd.R_reads' RA5.out).2.1 l13).mono ?_
  rintro e_ V24 ⟨rfl, hb⟩
  have n_BL := Aside0.mk (BL.out.trans (Below.mono hb BL.out.size))
  have n_XA := Aside0.mk (blk_below XA.out hb)
  have n_XB := Aside0.mk (blk_below XB.out hb)
  have n_RA1 := Aside0.mk (Kd.R_below RA1.out hb)
  have n_X1 := Aside0.mk (blk_below X1.out hb)
  have n_RA2 := Aside0.mk (Kd.R_below RA2.out hb)
  have n_X2 := Aside0.mk (blk_below X2.out hb)
  have n_RA3 := Aside0.mk (Kd.R_below RA3.out hb)
  have n_X3 := Aside0.mk (blk_below X3.out hb)
  have n_RA4 := Aside0.mk (Kd.R_below RA4.out hb)
  have n_X4 := Aside0.mk (blk_below X4.out hb)
  have n_X5 := Aside0.mk (blk_below X5.out hb)
  have n_RA5 := Aside0.mk (Kd.R_below RA5.out hb)
  clear BL XA XB RA1 X1 RA2 X2 RA3 X3 RA4 X4 X5 RA5
  have BL := n_BL
  have XA := n_XA
  have XB := n_XB
  have RA1 := n_RA1
  have X1 := n_X1
  have RA2 := n_RA2
  have X2 := n_X2
  have RA3 := n_RA3
  have X3 := n_X3
  have RA4 := n_RA4
  have X4 := n_X4
  have X5 := n_X5
  have RA5 := n_RA5
  clear n_BL n_XA n_XB n_RA1 n_X1 n_RA2 n_X2 n_RA3 n_X3 n_RA4 n_X4 n_X5 n_RA5
  clear hb
  go_wp2_with fail
  go_ret
  exact ⟨rfl, BL.out⟩
theorem caesuralaw01_alive.calls (r : Bool) (w : World) (h : caesuralaw01_alive.f = some r) : Calls Try.prog 11 #[] w fun e w' => e = .returned (.bool r) ∧ Below w.heap.size w w' := by
  obtain rfl : true = r := Option.some.inj h
  exact alive_calls w
end Go.Proofs.Ytippkbgeeeimjaa.L
