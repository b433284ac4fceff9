/- alive: a fixed fact. -/
import Derived.Test.YtfdllcakpmaifaaDoorFx1
import Derived.Test.YtfdllcakpmaifaaDoorRx2
import Derived.Test.YtfdllcakpmaifaaDoorEx1
import Derived.Lib.SlBytesConst
namespace Go.Proofs.YtfdllcakpmaifaaDoor.L
open Go.RowKit Go.Proofs.YtfdllcakpmaifaaDoorW.PrintWords Go.Proofs.YtfdllcakpmaifaaDoorW.PrintLast Go.Proofs.YtfdllcakpmaifaaDoorW.PrintMore Go.Proofs.YtfdllcakpmaifaaDoor.R Go.Proofs.YtfdllcakpmaifaaDoor.E Go.Proofs.YtfdllcakpmaifaaDoor.F
set_option linter.unusedVariables false
set_option linter.unusedSimpArgs false

theorem C_box {α : Type} {d : Kd α} {W : World} {g t : Nat} {inner : List Value} {xs : List α} (hb : W.heap[g]? = some (.cells inner.toArray t (0, 0))) (hr : Reps (d.K W) d.sz xs inner) (hm : xs.length ≤ 9223372036854775807) : d.C W (some ⟨g, 0, none⟩) xs.length xs := by
  refine ⟨rfl, hm, fun _ => ⟨_, rfl, fun j p hp => ⟨(inner.drop (j * d.sz)).take d.sz, d.K_len (hr.2 j p hp), hr.2 j p hp, fun i u hu => ?_⟩⟩⟩
  rw [add_plain, blk_cell hb]
  rw [List.getElem?_take] at hu
  split at hu
  · rw [List.getElem?_drop] at hu
    simpa using hu
  · cases hu
theorem C_ints {W : World} {g t : Nat} {xs : List Int} (hb : W.heap[g]? = some (.cells (xs.map (Value.int .i64)).toArray t (0, 0))) (hm : xs.length ≤ 9223372036854775807) : Kd.C (Kd.int .i64) W (some ⟨g, 0, none⟩) xs.length xs :=
  C_box hb (Kd.reps_scalar xs) hm
theorem C_u8 {W : World} {g t : Nat} {xs : List Int} (hb : W.heap[g]? = some (.cells (xs.map (Value.int .u8)).toArray t (0, 0))) (hm : xs.length ≤ 9223372036854775807) : Kd.C (Kd.int .u8) W (some ⟨g, 0, none⟩) xs.length xs :=
  C_box hb (Kd.reps_scalar xs) hm
theorem C_boxf {α : Type} {d : Kd α} {W : World} {g t : Nat} {fr : Nat × Nat} {inner : List Value} {xs : List α} (hb : W.heap[g]? = some (.cells inner.toArray t fr)) (hr : Reps (d.K W) d.sz xs inner) (hm : xs.length ≤ 9223372036854775807) : d.C W (some ⟨g, 0, none⟩) xs.length xs := by
  refine ⟨rfl, hm, fun _ => ⟨_, rfl, fun j p hp => ⟨(inner.drop (j * d.sz)).take d.sz, d.K_len (hr.2 j p hp), hr.2 j p hp, fun i u hu => ?_⟩⟩⟩
  rw [add_plain, cell_of_row W g _ _ t fr hb]
  rw [List.getElem?_take] at hu
  split at hu
  · rw [List.getElem?_drop] at hu
    simpa using hu
  · cases hu
theorem C_u8f {W : World} {g t : Nat} {fr : Nat × Nat} {xs : List Int} (hb : W.heap[g]? = some (.cells (xs.map (Value.int .u8)).toArray t fr)) (hm : xs.length ≤ 9223372036854775807) : Kd.C (Kd.int .u8) W (some ⟨g, 0, none⟩) xs.length xs :=
  C_boxf hb (Kd.reps_scalar xs) hm
theorem f1 : byte8_Decode.f 20 [97, 195, 151, 226, 130, 172] = some ([97, 215, 8364], [0, 1, 3, 6], -1, 0) := by decide +kernel
theorem f2 : byte8_Decode.f 20 [97, 237, 160, 128] = some ([], [], 1, 3) := by decide +kernel
theorem f3 : byte8_Encode.f 20 [247] = some ([195, 183], 0) := by decide +kernel
theorem f4 : byte8_First.f [195] = some (-1, 0) := by decide +kernel
theorem f5 : byte8_Line.f 20 [97, 10, 98] 3 = some (2, 2) := by decide +kernel
theorem f6 : caesuraref01_Ints.f 20 [97, 215, 8364] [97, 215, 8364] = some true := by decide +kernel
theorem f7 : caesuraref01_Ints.f 20 [0, 1, 3, 6] [0, 1, 3, 6] = some true := by decide +kernel
def caesuralaw03_alive.f : Option Bool := some true
set_option maxHeartbeats 4000000 in
set_option maxRecDepth 100000 in
theorem alive_calls (w : World) (hT_ : Tabs w) : Calls Tryd.prog 8 #[] w fun e w' => e = .returned (.bool true) ∧ Below w.heap.size w w' := by
  have TB := Aside0.mk hT_
  have BL := Aside0.mk (Below.refl w.heap.size w)
  clear hT_
  go_enter Tryd.func8, Tryd.ntmps8
  go_wp2_with fail
  obtain ⟨V1, h_⟩ : ∃ W_, W_ = w.alloc (.cells #[.int .u8 97, .int .u8 195, .int .u8 151, .int .u8 226, .int .u8 130, .int .u8 172] 5) := ⟨_, rfl⟩
  have hb_ : Below w.heap.size w V1 := by rw [h_]; exact below_alloc (Below.refl _ _) _
  have hx_ : V1.heap[w.heap.size]? = some (.cells #[.int .u8 97, .int .u8 195, .int .u8 151, .int .u8 226, .int .u8 130, .int .u8 172] 5 (0, 0)) := by rw [h_]; exact blk_new _ _
  rw [← h_]
  clear h_
  have n_TB := Aside0.mk (Tabs.below TB.out hb_)
  have n_BL := Aside0.mk (BL.out.trans (Below.mono hb_ BL.out.size))
  clear TB BL
  have TB := n_TB
  have BL := n_BL
  clear n_TB n_BL
  clear hb_
  obtain ⟨g1, e_⟩ : ∃ g_, g_ = w.heap.size := ⟨_, rfl⟩
  rw [← e_] at hx_ ⊢
  clear e_
  have X1 := Aside0.mk hx_
  clear hx_
  refine (byte8_Decode.calls 20 (some ⟨g1, 0, none⟩) 6 [97, 195, 151, 226, 130, 172] [97, 215, 8364] [0, 1, 3, 6] (-1) 0 V1 (C_u8 (xs := [97, 195, 151, 226, 130, 172]) X1.out (by decide)) (by decide) TB.out f1).mono ?_
  rintro e_ V2 ⟨v1, v2, rfl, hs, hr, hb⟩
  obtain ⟨A1, a1, rfl⟩ := Kd.R_slice hs
  obtain ⟨B1, b1, rfl⟩ := Kd.R_slice hr
  have n_TB := Aside0.mk (Tabs.below TB.out hb)
  have n_BL := Aside0.mk (BL.out.trans (Below.mono hb BL.out.size))
  have n_X1 := Aside0.mk (blk_below X1.out hb)
  clear TB BL X1
  have TB := n_TB
  have BL := n_BL
  have X1 := n_X1
  clear n_TB n_BL n_X1
  have RA1 := Aside0.mk hs
  have RB1 := Aside0.mk hr
  clear hs hr hb
  go_wp2_with fail
  obtain ⟨V3, h_⟩ : ∃ W_, W_ = V2.alloc (.cells #[.int .u8 97, .int .u8 237, .int .u8 160, .int .u8 128] 5) := ⟨_, rfl⟩
  have hb_ : Below V2.heap.size V2 V3 := by rw [h_]; exact below_alloc (Below.refl _ _) _
  have hx_ : V3.heap[V2.heap.size]? = some (.cells #[.int .u8 97, .int .u8 237, .int .u8 160, .int .u8 128] 5 (0, 0)) := by rw [h_]; exact blk_new _ _
  rw [← h_]
  clear h_
  have n_TB := Aside0.mk (Tabs.below TB.out hb_)
  have n_BL := Aside0.mk (BL.out.trans (Below.mono hb_ BL.out.size))
  have n_X1 := Aside0.mk (blk_below X1.out hb_)
  have n_RA1 := Aside0.mk (Kd.R_below RA1.out hb_)
  have n_RB1 := Aside0.mk (Kd.R_below RB1.out hb_)
  clear TB BL X1 RA1 RB1
  have TB := n_TB
  have BL := n_BL
  have X1 := n_X1
  have RA1 := n_RA1
  have RB1 := n_RB1
  clear n_TB n_BL n_X1 n_RA1 n_RB1
  clear hb_
  obtain ⟨g2, e_⟩ : ∃ g_, g_ = V2.heap.size := ⟨_, rfl⟩
  rw [← e_] at hx_ ⊢
  clear e_
  have X2 := Aside0.mk hx_
  clear hx_
  refine (byte8_Decode.calls 20 (some ⟨g2, 0, none⟩) 4 [97, 237, 160, 128] [] [] 1 3 V3 (C_u8 (xs := [97, 237, 160, 128]) X2.out (by decide)) (by decide) TB.out f2).mono ?_
  rintro e_ V4 ⟨v1, v2, rfl, hs, hr, hb⟩
  obtain ⟨A2, a2, rfl⟩ := Kd.R_slice hs
  obtain ⟨B2, b2, rfl⟩ := Kd.R_slice hr
  have n_TB := Aside0.mk (Tabs.below TB.out hb)
  have n_BL := Aside0.mk (BL.out.trans (Below.mono hb BL.out.size))
  have n_X1 := Aside0.mk (blk_below X1.out hb)
  have n_RA1 := Aside0.mk (Kd.R_below RA1.out hb)
  have n_RB1 := Aside0.mk (Kd.R_below RB1.out hb)
  have n_X2 := Aside0.mk (blk_below X2.out hb)
  clear TB BL X1 RA1 RB1 X2
  have TB := n_TB
  have BL := n_BL
  have X1 := n_X1
  have RA1 := n_RA1
  have RB1 := n_RB1
  have X2 := n_X2
  clear n_TB n_BL n_X1 n_RA1 n_RB1 n_X2
  have RA2 := Aside0.mk hs
  have RB2 := Aside0.mk hr
  clear hs hr hb
  go_wp2_with fail
  obtain ⟨V5, h_⟩ : ∃ W_, W_ = V4.alloc (.cells #[.int .i64 247] 3) := ⟨_, rfl⟩
  have hb_ : Below V4.heap.size V4 V5 := by rw [h_]; exact below_alloc (Below.refl _ _) _
  have hx_ : V5.heap[V4.heap.size]? = some (.cells #[.int .i64 247] 3 (0, 0)) := by rw [h_]; exact blk_new _ _
  rw [← h_]
  clear h_
  have n_TB := Aside0.mk (Tabs.below TB.out hb_)
  have n_BL := Aside0.mk (BL.out.trans (Below.mono hb_ BL.out.size))
  have n_X1 := Aside0.mk (blk_below X1.out hb_)
  have n_RA1 := Aside0.mk (Kd.R_below RA1.out hb_)
  have n_RB1 := Aside0.mk (Kd.R_below RB1.out hb_)
  have n_X2 := Aside0.mk (blk_below X2.out hb_)
  have n_RA2 := Aside0.mk (Kd.R_below RA2.out hb_)
  have n_RB2 := Aside0.mk (Kd.R_below RB2.out hb_)
  clear TB BL X1 RA1 RB1 X2 RA2 RB2
  have TB := n_TB
  have BL := n_BL
  have X1 := n_X1
  have RA1 := n_RA1
  have RB1 := n_RB1
  have X2 := n_X2
  have RA2 := n_RA2
  have RB2 := n_RB2
  clear n_TB n_BL n_X1 n_RA1 n_RB1 n_X2 n_RA2 n_RB2
  clear hb_
  obtain ⟨g3, e_⟩ : ∃ g_, g_ = V4.heap.size := ⟨_, rfl⟩
  rw [← e_] at hx_ ⊢
  clear e_
  have X3 := Aside0.mk hx_
  clear hx_
  refine (byte8_Encode.calls 20 (some ⟨g3, 0, none⟩) 1 [247] [195, 183] 0 V5 (C_ints (xs := [247]) X3.out (by decide)) (by decide) f3).mono ?_
  rintro e_ V6 ⟨v1, rfl, hs, hb⟩
  obtain ⟨A3, a3, rfl⟩ := Kd.R_slice hs
  have n_TB := Aside0.mk (Tabs.below TB.out hb)
  have n_BL := Aside0.mk (BL.out.trans (Below.mono hb BL.out.size))
  have n_X1 := Aside0.mk (blk_below X1.out hb)
  have n_RA1 := Aside0.mk (Kd.R_below RA1.out hb)
  have n_RB1 := Aside0.mk (Kd.R_below RB1.out hb)
  have n_X2 := Aside0.mk (blk_below X2.out hb)
  have n_RA2 := Aside0.mk (Kd.R_below RA2.out hb)
  have n_RB2 := Aside0.mk (Kd.R_below RB2.out hb)
  have n_X3 := Aside0.mk (blk_below X3.out hb)
  clear TB BL X1 RA1 RB1 X2 RA2 RB2 X3
  have TB := n_TB
  have BL := n_BL
  have X1 := n_X1
  have RA1 := n_RA1
  have RB1 := n_RB1
  have X2 := n_X2
  have RA2 := n_RA2
  have RB2 := n_RB2
  have X3 := n_X3
  clear n_TB n_BL n_X1 n_RA1 n_RB1 n_X2 n_RA2 n_RB2 n_X3
  have RA3 := Aside0.mk hs
  clear hs hb
  go_wp2_with fail
  obtain ⟨V7, h_⟩ : ∃ W_, W_ = V6.alloc (.cells #[.int .u8 195] 5) := ⟨_, rfl⟩
  have hb_ : Below V6.heap.size V6 V7 := by rw [h_]; exact below_alloc (Below.refl _ _) _
  have hx_ : V7.heap[V6.heap.size]? = some (.cells #[.int .u8 195] 5 (0, 0)) := by rw [h_]; exact blk_new _ _
  rw [← h_]
  clear h_
  have n_TB := Aside0.mk (Tabs.below TB.out hb_)
  have n_BL := Aside0.mk (BL.out.trans (Below.mono hb_ BL.out.size))
  have n_X1 := Aside0.mk (blk_below X1.out hb_)
  have n_RA1 := Aside0.mk (Kd.R_below RA1.out hb_)
  have n_RB1 := Aside0.mk (Kd.R_below RB1.out hb_)
  have n_X2 := Aside0.mk (blk_below X2.out hb_)
  have n_RA2 := Aside0.mk (Kd.R_below RA2.out hb_)
  have n_RB2 := Aside0.mk (Kd.R_below RB2.out hb_)
  have n_X3 := Aside0.mk (blk_below X3.out hb_)
  have n_RA3 := Aside0.mk (Kd.R_below RA3.out hb_)
  clear TB BL X1 RA1 RB1 X2 RA2 RB2 X3 RA3
  have TB := n_TB
  have BL := n_BL
  have X1 := n_X1
  have RA1 := n_RA1
  have RB1 := n_RB1
  have X2 := n_X2
  have RA2 := n_RA2
  have RB2 := n_RB2
  have X3 := n_X3
  have RA3 := n_RA3
  clear n_TB n_BL n_X1 n_RA1 n_RB1 n_X2 n_RA2 n_RB2 n_X3 n_RA3
  clear hb_
  obtain ⟨g4, e_⟩ : ∃ g_, g_ = V6.heap.size := ⟨_, rfl⟩
  rw [← e_] at hx_ ⊢
  clear e_
  have X4 := Aside0.mk hx_
  clear hx_
  refine (byte8_First.calls (some ⟨g4, 0, none⟩) 1 [195] (-1) 0 V7 (C_u8 (xs := [195]) X4.out (by decide)) (by decide) TB.out f4).mono ?_
  rintro e_ V8 ⟨rfl, hb⟩
  have n_TB := Aside0.mk (Tabs.below TB.out hb)
  have n_BL := Aside0.mk (BL.out.trans (Below.mono hb BL.out.size))
  have n_X1 := Aside0.mk (blk_below X1.out hb)
  have n_RA1 := Aside0.mk (Kd.R_below RA1.out hb)
  have n_RB1 := Aside0.mk (Kd.R_below RB1.out hb)
  have n_X2 := Aside0.mk (blk_below X2.out hb)
  have n_RA2 := Aside0.mk (Kd.R_below RA2.out hb)
  have n_RB2 := Aside0.mk (Kd.R_below RB2.out hb)
  have n_X3 := Aside0.mk (blk_below X3.out hb)
  have n_RA3 := Aside0.mk (Kd.R_below RA3.out hb)
  have n_X4 := Aside0.mk (blk_below X4.out hb)
  clear TB BL X1 RA1 RB1 X2 RA2 RB2 X3 RA3 X4
  have TB := n_TB
  have BL := n_BL
  have X1 := n_X1
  have RA1 := n_RA1
  have RB1 := n_RB1
  have X2 := n_X2
  have RA2 := n_RA2
  have RB2 := n_RB2
  have X3 := n_X3
  have RA3 := n_RA3
  have X4 := n_X4
  clear n_TB n_BL n_X1 n_RA1 n_RB1 n_X2 n_RA2 n_RB2 n_X3 n_RA3 n_X4
  clear hb
  have hcv5 : (convert 22 22 (.slice (some ⟨V8.heap.size, 0, none⟩) 3 3)).run Tryd.prog (V8.alloc (.cells #[.int .u8 97, .int .u8 10, .int .u8 98] 5)) = .ok (.slice (some ⟨V8.heap.size, 0, none⟩) 3 3) (V8.alloc (.cells #[.int .u8 97, .int .u8 10, .int .u8 98] 5 (3, 4))) := Lib.run_convert_bytes_const V8 22 5 #[.int .u8 97, .int .u8 10, .int .u8 98] 3 3 Tryd.underlying22 Tryd.underlying5
  go_wp2_with fail
  obtain ⟨V9, h_⟩ : ∃ W_, W_ = V8.alloc (.cells #[.int .u8 97, .int .u8 10, .int .u8 98] 5 (3, 4)) := ⟨_, rfl⟩
  have hb_ : Below V8.heap.size V8 V9 := by rw [h_]; exact below_alloc (Below.refl _ _) _
  have hx_ : V9.heap[V8.heap.size]? = some (.cells #[.int .u8 97, .int .u8 10, .int .u8 98] 5 (3, 4)) := by rw [h_]; exact blk_new _ _
  rw [← h_]
  clear h_ hcv5
  have n_TB := Aside0.mk (Tabs.below TB.out hb_)
  have n_BL := Aside0.mk (BL.out.trans (Below.mono hb_ BL.out.size))
  have n_X1 := Aside0.mk (blk_below X1.out hb_)
  have n_RA1 := Aside0.mk (Kd.R_below RA1.out hb_)
  have n_RB1 := Aside0.mk (Kd.R_below RB1.out hb_)
  have n_X2 := Aside0.mk (blk_below X2.out hb_)
  have n_RA2 := Aside0.mk (Kd.R_below RA2.out hb_)
  have n_RB2 := Aside0.mk (Kd.R_below RB2.out hb_)
  have n_X3 := Aside0.mk (blk_below X3.out hb_)
  have n_RA3 := Aside0.mk (Kd.R_below RA3.out hb_)
  have n_X4 := Aside0.mk (blk_below X4.out hb_)
  clear TB BL X1 RA1 RB1 X2 RA2 RB2 X3 RA3 X4
  have TB := n_TB
  have BL := n_BL
  have X1 := n_X1
  have RA1 := n_RA1
  have RB1 := n_RB1
  have X2 := n_X2
  have RA2 := n_RA2
  have RB2 := n_RB2
  have X3 := n_X3
  have RA3 := n_RA3
  have X4 := n_X4
  clear n_TB n_BL n_X1 n_RA1 n_RB1 n_X2 n_RA2 n_RB2 n_X3 n_RA3 n_X4
  clear hb_
  obtain ⟨g5, e_⟩ : ∃ g_, g_ = V8.heap.size := ⟨_, rfl⟩
  rw [← e_] at hx_ ⊢
  clear e_
  have X5 := Aside0.mk hx_
  clear hx_
  refine (byte8_Line.calls 20 (some ⟨g5, 0, none⟩) 3 [97, 10, 98] 3 2 2 V9 (C_u8f (xs := [97, 10, 98]) X5.out (by decide)) (by decide) f5).mono ?_
  rintro e_ V10 ⟨rfl, hb⟩
  have n_TB := Aside0.mk (Tabs.below TB.out hb)
  have n_BL := Aside0.mk (BL.out.trans (Below.mono hb BL.out.size))
  have n_X1 := Aside0.mk (blk_below X1.out hb)
  have n_RA1 := Aside0.mk (Kd.R_below RA1.out hb)
  have n_RB1 := Aside0.mk (Kd.R_below RB1.out hb)
  have n_X2 := Aside0.mk (blk_below X2.out hb)
  have n_RA2 := Aside0.mk (Kd.R_below RA2.out hb)
  have n_RB2 := Aside0.mk (Kd.R_below RB2.out hb)
  have n_X3 := Aside0.mk (blk_below X3.out hb)
  have n_RA3 := Aside0.mk (Kd.R_below RA3.out hb)
  have n_X4 := Aside0.mk (blk_below X4.out hb)
  have n_X5 := Aside0.mk (blk_below X5.out hb)
  clear TB BL X1 RA1 RB1 X2 RA2 RB2 X3 RA3 X4 X5
  have TB := n_TB
  have BL := n_BL
  have X1 := n_X1
  have RA1 := n_RA1
  have RB1 := n_RB1
  have X2 := n_X2
  have RA2 := n_RA2
  have RB2 := n_RB2
  have X3 := n_X3
  have RA3 := n_RA3
  have X4 := n_X4
  have X5 := n_X5
  clear n_TB n_BL n_X1 n_RA1 n_RB1 n_X2 n_RA2 n_RB2 n_X3 n_RA3 n_X4 n_X5
  clear hb
  go_wp2_with fail
  obtain ⟨V11, h_⟩ : ∃ W_, W_ = V10.alloc (.cells #[.int .i64 97, .int .i64 215, .int .i64 8364] 3) := ⟨_, rfl⟩
  have hb_ : Below V10.heap.size V10 V11 := by rw [h_]; exact below_alloc (Below.refl _ _) _
  have hx_ : V11.heap[V10.heap.size]? = some (.cells #[.int .i64 97, .int .i64 215, .int .i64 8364] 3 (0, 0)) := by rw [h_]; exact blk_new _ _
  rw [← h_]
  clear h_
  have n_TB := Aside0.mk (Tabs.below TB.out hb_)
  have n_BL := Aside0.mk (BL.out.trans (Below.mono hb_ BL.out.size))
  have n_X1 := Aside0.mk (blk_below X1.out hb_)
  have n_RA1 := Aside0.mk (Kd.R_below RA1.out hb_)
  have n_RB1 := Aside0.mk (Kd.R_below RB1.out hb_)
  have n_X2 := Aside0.mk (blk_below X2.out hb_)
  have n_RA2 := Aside0.mk (Kd.R_below RA2.out hb_)
  have n_RB2 := Aside0.mk (Kd.R_below RB2.out hb_)
  have n_X3 := Aside0.mk (blk_below X3.out hb_)
  have n_RA3 := Aside0.mk (Kd.R_below RA3.out hb_)
  have n_X4 := Aside0.mk (blk_below X4.out hb_)
  have n_X5 := Aside0.mk (blk_below X5.out hb_)
  clear TB BL X1 RA1 RB1 X2 RA2 RB2 X3 RA3 X4 X5
  have TB := n_TB
  have BL := n_BL
  have X1 := n_X1
  have RA1 := n_RA1
  have RB1 := n_RB1
  have X2 := n_X2
  have RA2 := n_RA2
  have RB2 := n_RB2
  have X3 := n_X3
  have RA3 := n_RA3
  have X4 := n_X4
  have X5 := n_X5
  clear n_TB n_BL n_X1 n_RA1 n_RB1 n_X2 n_RA2 n_RB2 n_X3 n_RA3 n_X4 n_X5
  clear hb_
  obtain ⟨g6, e_⟩ : ∃ g_, g_ = V10.heap.size := ⟨_, rfl⟩
  rw [← e_] at hx_ ⊢
  clear e_
  have X6 := Aside0.mk hx_
  clear hx_
  refine (caesuraref01_Ints.calls 20 A1 a1 [97, 215, 8364] (some ⟨g6, 0, none⟩) 3 [97, 215, 8364] true V11 (Kd.R_reads' RA1.out).2.2 (Kd.R_reads' RA1.out).2.1 (C_ints (xs := [97, 215, 8364]) X6.out (by decide)) (by decide) f6).mono ?_
  rintro e_ V12 ⟨rfl, hb⟩
  replace hb := hb.below
  have n_TB := Aside0.mk (Tabs.below TB.out hb)
  have n_BL := Aside0.mk (BL.out.trans (Below.mono hb BL.out.size))
  have n_X1 := Aside0.mk (blk_below X1.out hb)
  have n_RA1 := Aside0.mk (Kd.R_below RA1.out hb)
  have n_RB1 := Aside0.mk (Kd.R_below RB1.out hb)
  have n_X2 := Aside0.mk (blk_below X2.out hb)
  have n_RA2 := Aside0.mk (Kd.R_below RA2.out hb)
  have n_RB2 := Aside0.mk (Kd.R_below RB2.out hb)
  have n_X3 := Aside0.mk (blk_below X3.out hb)
  have n_RA3 := Aside0.mk (Kd.R_below RA3.out hb)
  have n_X4 := Aside0.mk (blk_below X4.out hb)
  have n_X5 := Aside0.mk (blk_below X5.out hb)
  have n_X6 := Aside0.mk (blk_below X6.out hb)
  clear TB BL X1 RA1 RB1 X2 RA2 RB2 X3 RA3 X4 X5 X6
  have TB := n_TB
  have BL := n_BL
  have X1 := n_X1
  have RA1 := n_RA1
  have RB1 := n_RB1
  have X2 := n_X2
  have RA2 := n_RA2
  have RB2 := n_RB2
  have X3 := n_X3
  have RA3 := n_RA3
  have X4 := n_X4
  have X5 := n_X5
  have X6 := n_X6
  clear n_TB n_BL n_X1 n_RA1 n_RB1 n_X2 n_RA2 n_RB2 n_X3 n_RA3 n_X4 n_X5 n_X6
  clear hb
  go_wp2_with fail
  obtain ⟨V13, h_⟩ : ∃ W_, W_ = V12.alloc (.cells #[.int .i64 0, .int .i64 1, .int .i64 3, .int .i64 6] 3) := ⟨_, rfl⟩
  have hb_ : Below V12.heap.size V12 V13 := by rw [h_]; exact below_alloc (Below.refl _ _) _
  have hx_ : V13.heap[V12.heap.size]? = some (.cells #[.int .i64 0, .int .i64 1, .int .i64 3, .int .i64 6] 3 (0, 0)) := by rw [h_]; exact blk_new _ _
  rw [← h_]
  clear h_
  have n_TB := Aside0.mk (Tabs.below TB.out hb_)
  have n_BL := Aside0.mk (BL.out.trans (Below.mono hb_ BL.out.size))
  have n_X1 := Aside0.mk (blk_below X1.out hb_)
  have n_RA1 := Aside0.mk (Kd.R_below RA1.out hb_)
  have n_RB1 := Aside0.mk (Kd.R_below RB1.out hb_)
  have n_X2 := Aside0.mk (blk_below X2.out hb_)
  have n_RA2 := Aside0.mk (Kd.R_below RA2.out hb_)
  have n_RB2 := Aside0.mk (Kd.R_below RB2.out hb_)
  have n_X3 := Aside0.mk (blk_below X3.out hb_)
  have n_RA3 := Aside0.mk (Kd.R_below RA3.out hb_)
  have n_X4 := Aside0.mk (blk_below X4.out hb_)
  have n_X5 := Aside0.mk (blk_below X5.out hb_)
  have n_X6 := Aside0.mk (blk_below X6.out hb_)
  clear TB BL X1 RA1 RB1 X2 RA2 RB2 X3 RA3 X4 X5 X6
  have TB := n_TB
  have BL := n_BL
  have X1 := n_X1
  have RA1 := n_RA1
  have RB1 := n_RB1
  have X2 := n_X2
  have RA2 := n_RA2
  have RB2 := n_RB2
  have X3 := n_X3
  have RA3 := n_RA3
  have X4 := n_X4
  have X5 := n_X5
  have X6 := n_X6
  clear n_TB n_BL n_X1 n_RA1 n_RB1 n_X2 n_RA2 n_RB2 n_X3 n_RA3 n_X4 n_X5 n_X6
  clear hb_
  obtain ⟨g7, e_⟩ : ∃ g_, g_ = V12.heap.size := ⟨_, rfl⟩
  rw [← e_] at hx_ ⊢
  clear e_
  have X7 := Aside0.mk hx_
  clear hx_
  refine (caesuraref01_Ints.calls 20 B1 b1 [0, 1, 3, 6] (some ⟨g7, 0, none⟩) 4 [0, 1, 3, 6] true V13 (Kd.R_reads' RB1.out).2.2 (Kd.R_reads' RB1.out).2.1 (C_ints (xs := [0, 1, 3, 6]) X7.out (by decide)) (by decide) f7).mono ?_
  rintro e_ V14 ⟨rfl, hb⟩
  replace hb := hb.below
  have n_TB := Aside0.mk (Tabs.below TB.out hb)
  have n_BL := Aside0.mk (BL.out.trans (Below.mono hb BL.out.size))
  have n_X1 := Aside0.mk (blk_below X1.out hb)
  have n_RA1 := Aside0.mk (Kd.R_below RA1.out hb)
  have n_RB1 := Aside0.mk (Kd.R_below RB1.out hb)
  have n_X2 := Aside0.mk (blk_below X2.out hb)
  have n_RA2 := Aside0.mk (Kd.R_below RA2.out hb)
  have n_RB2 := Aside0.mk (Kd.R_below RB2.out hb)
  have n_X3 := Aside0.mk (blk_below X3.out hb)
  have n_RA3 := Aside0.mk (Kd.R_below RA3.out hb)
  have n_X4 := Aside0.mk (blk_below X4.out hb)
  have n_X5 := Aside0.mk (blk_below X5.out hb)
  have n_X6 := Aside0.mk (blk_below X6.out hb)
  have n_X7 := Aside0.mk (blk_below X7.out hb)
  clear TB BL X1 RA1 RB1 X2 RA2 RB2 X3 RA3 X4 X5 X6 X7
  have TB := n_TB
  have BL := n_BL
  have X1 := n_X1
  have RA1 := n_RA1
  have RB1 := n_RB1
  have X2 := n_X2
  have RA2 := n_RA2
  have RB2 := n_RB2
  have X3 := n_X3
  have RA3 := n_RA3
  have X4 := n_X4
  have X5 := n_X5
  have X6 := n_X6
  have X7 := n_X7
  clear n_TB n_BL n_X1 n_RA1 n_RB1 n_X2 n_RA2 n_RB2 n_X3 n_RA3 n_X4 n_X5 n_X6 n_X7
  clear hb
  have hcv : (convert 22 9 (.slice A3 2 a3)).run Tryd.prog V14 = .ok (.string ⟨#[195, 183]⟩) V14 := own_string (P := Tryd.prog) (dst := 9) Tryd.underlying22 Tryd.underlying5 Tryd.underlying9 (Kd.own_of_R RA3.out)
  go_wp2_with fail
  go_ret
  exact ⟨rfl, BL.out⟩
theorem caesuralaw03_alive.calls (r : Bool) (w : World) (hT_ : Tabs w) (h : caesuralaw03_alive.f = some r) : Calls Tryd.prog 8 #[] w fun e w' => e = .returned (.bool r) ∧ Below w.heap.size w w' := by
  obtain rfl : true = r := Option.some.inj h
  exact alive_calls w hT_
end Go.Proofs.YtfdllcakpmaifaaDoor.L
