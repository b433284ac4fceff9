/- caesuralaw16.alive answers true. -/
import Derived.Test.YtpedenbcfbflbaaYM
import Derived.Test.YtpedenbcfbflbaaKx1
namespace Go.Proofs.Ytpedenbcfbflbaa.X
open Go.RowKit Go.Proofs.YtpedenbcfbflbaaW.PrintWords Go.Proofs.YtpedenbcfbflbaaW.PrintLast Go.Proofs.YtpedenbcfbflbaaW.PrintMore Go.Maps Num
set_option linter.unusedVariables false
set_option linter.unusedSimpArgs false

def a6N : List (List Int) := [[1, 0], [0, 1]]
def a6E : List Bool := [true, false]
def b6N : List (List Int) := [[0, 1], [1, 1]]
def b6E : List Bool := [false, true]
def p6N : List (List Int) := [[1, 2], [0, 3], [3, 2], [2, 3]]
def x6E : List Bool := [false, false, true, false]
def y6E : List Bool := [true, false, false, false]
def o6E : List Bool := [true, false, true, true]
def z6E : List Bool := [true, false]
def t6N : List (List Int) := [[0, 0]]
def t6E : List Bool := [true]
def n6E : List Bool := [false]
def q6N : List (List Int) := [[1, 0], [0, 1]]
def q6E : List Bool := [false, false]
theorem g6a : prodF (fun a b => a && b) 2 a6N a6E 2 b6N b6E 4 = (2, p6N, x6E, 0) := by kernel_rfl
theorem g6b : prodF (fun a b => a && b) 2 a6N a6E 2 b6N b6E 3 = (0, [], [], 13) := by kernel_rfl
theorem g6c : prodF (fun a b => a && !b) 2 a6N a6E 2 b6N b6E 9 = (2, p6N, y6E, 0) := by kernel_rfl
theorem g6d : prodF (fun a b => a || b) 2 a6N a6E 2 b6N b6E 9 = (2, p6N, o6E, 0) := by kernel_rfl
theorem g6e : prodF (fun a b => a != b) 2 a6N a6E 2 a6N a6E 9 = (2, q6N, q6E, 0) := by kernel_rfl
theorem g6f : PMarkMakes.calc_All.f 2 = some (2, t6N, t6E, 0) := by kernel_rfl
theorem h6a : K.det_Accepts.f 60 2 p6N x6E [0, 1, 0] = some true := by kernel_rfl
theorem h6b : K.det_Accepts.f 60 2 p6N x6E [0, 0] = some false := by kernel_rfl
theorem h6c : K.det_Accepts.f 60 2 p6N y6E [0, 0] = some true := by kernel_rfl
theorem h6d : K.det_Accepts.f 60 2 b6N z6E [] = some true := by kernel_rfl
theorem h6e : K.det_Accepts.f 60 2 p6N o6E [1, 0] = some true := by kernel_rfl
theorem r6b : rightB 2 b6N b6E = true := by kernel_rfl
theorem r6t : rightB 2 t6N t6E = true := by kernel_rfl
theorem none_of {s : Int} {n : List (List Int)} {e : List Bool} (h : ∀ b ∈ e, b = false) : NoneAcc s n e := fun l _ => by
  rw [List.getD_eq_getElem?_getD]
  cases hb : e[(runF n 0 l).toNat]? with
  | none => rfl
  | some b => exact h b (List.mem_of_getElem? hb)
theorem m6n : if rightB 2 t6N n6E then (true = true ↔ NoneAcc 2 t6N n6E) else true = false := by
  rw [if_pos (by kernel_rfl)]
  exact ⟨fun _ => none_of (by decide), fun _ => rfl⟩
theorem m6q : if rightB 2 q6N q6E then (true = true ↔ NoneAcc 2 q6N q6E) else true = false := by
  rw [if_pos (by kernel_rfl)]
  exact ⟨fun _ => none_of (by decide), fun _ => rfl⟩
theorem m6t : if rightB 2 t6N t6E then (false = true ↔ NoneAcc 2 t6N t6E) else false = false := by
  rw [if_pos (by kernel_rfl)]
  exact ⟨fun h => (by cases h), fun h => (by have := h [] rfl; cases this)⟩
set_option maxHeartbeats 8000000 in
set_option maxRecDepth 100000 in
theorem alive27 (w : World) : Calls Try.prog 27 #[] w fun e w' => e = .returned (.bool true) ∧ Below w.heap.size w w' := by
  have hu25 := Try.underlying25
  go_enter Try.func27, Try.ntmps27
  go_upto_region 3 with (fail)
  obtain ⟨W, hW⟩ : ∃ W, W = ((((((((((w.alloc (.cells #[.int .i64 1, .int .i64 0] 3)).alloc (.cells #[.int .i64 0, .int .i64 1] 3)).alloc (.cells #[.slice (some ⟨w.heap.size, 0, none⟩) 2 2, .slice (some ⟨w.heap.size + 1, 0, none⟩) 2 2] 33)).alloc (.cells #[.bool true, .bool false] 4)).alloc (.cells #[.int .i64 2, .slice (some ⟨w.heap.size + 1 + 1, 0, none⟩) 2 2, .slice (some ⟨w.heap.size + 1 + 1 + 1, 0, none⟩) 2 2] 25)).alloc (.cells #[.int .i64 0, .int .i64 1] 3)).alloc (.cells #[.int .i64 1, .int .i64 1] 3)).alloc (.cells #[.slice (some ⟨w.heap.size + 1 + 1 + 1 + 1 + 1, 0, none⟩) 2 2, .slice (some ⟨w.heap.size + 1 + 1 + 1 + 1 + 1 + 1, 0, none⟩) 2 2] 33)).alloc (.cells #[.bool false, .bool true] 4)).alloc (.cells #[.int .i64 2, .slice (some ⟨w.heap.size + 1 + 1 + 1 + 1 + 1 + 1 + 1, 0, none⟩) 2 2, .slice (some ⟨w.heap.size + 1 + 1 + 1 + 1 + 1 + 1 + 1 + 1, 0, none⟩) 2 2] 25)) := ⟨_, rfl⟩
  rw [← hW]
  have hA : W = allocs w [(.cells #[.int .i64 1, .int .i64 0] 3), (.cells #[.int .i64 0, .int .i64 1] 3), (.cells #[.slice (some ⟨w.heap.size, 0, none⟩) 2 2, .slice (some ⟨w.heap.size + 1, 0, none⟩) 2 2] 33), (.cells #[.bool true, .bool false] 4), (.cells #[.int .i64 2, .slice (some ⟨w.heap.size + 1 + 1, 0, none⟩) 2 2, .slice (some ⟨w.heap.size + 1 + 1 + 1, 0, none⟩) 2 2] 25), (.cells #[.int .i64 0, .int .i64 1] 3), (.cells #[.int .i64 1, .int .i64 1] 3), (.cells #[.slice (some ⟨w.heap.size + 1 + 1 + 1 + 1 + 1, 0, none⟩) 2 2, .slice (some ⟨w.heap.size + 1 + 1 + 1 + 1 + 1 + 1, 0, none⟩) 2 2] 33), (.cells #[.bool false, .bool true] 4), (.cells #[.int .i64 2, .slice (some ⟨w.heap.size + 1 + 1 + 1 + 1 + 1 + 1 + 1, 0, none⟩) 2 2, .slice (some ⟨w.heap.size + 1 + 1 + 1 + 1 + 1 + 1 + 1 + 1, 0, none⟩) 2 2] 25)] := hW
  have G := fun i o h => hA ▸ allocs_get [(.cells #[.int .i64 1, .int .i64 0] 3), (.cells #[.int .i64 0, .int .i64 1] 3), (.cells #[.slice (some ⟨w.heap.size, 0, none⟩) 2 2, .slice (some ⟨w.heap.size + 1, 0, none⟩) 2 2] 33), (.cells #[.bool true, .bool false] 4), (.cells #[.int .i64 2, .slice (some ⟨w.heap.size + 1 + 1, 0, none⟩) 2 2, .slice (some ⟨w.heap.size + 1 + 1 + 1, 0, none⟩) 2 2] 25), (.cells #[.int .i64 0, .int .i64 1] 3), (.cells #[.int .i64 1, .int .i64 1] 3), (.cells #[.slice (some ⟨w.heap.size + 1 + 1 + 1 + 1 + 1, 0, none⟩) 2 2, .slice (some ⟨w.heap.size + 1 + 1 + 1 + 1 + 1 + 1, 0, none⟩) 2 2] 33), (.cells #[.bool false, .bool true] 4), (.cells #[.int .i64 2, .slice (some ⟨w.heap.size + 1 + 1 + 1 + 1 + 1 + 1 + 1, 0, none⟩) 2 2, .slice (some ⟨w.heap.size + 1 + 1 + 1 + 1 + 1 + 1 + 1 + 1, 0, none⟩) 2 2] 25)] w i o h
  have hbl : Below w.heap.size w W := by rw [hA]; exact allocs_below _ w
  clear hW hA
  have CA1 : Aside0 (Kd.C (Kd.slice 3 (Kd.int .i64)) W (some ⟨w.heap.size + 1 + 1, 0, none⟩) a6N.length a6N) := ⟨C_box (G 2 _ rfl) (Reps.one ⟨some ⟨w.heap.size, 0, none⟩, 2, rfl, by decide, C_ints (xs := [1, 0]) (G 0 _ rfl) (by decide)⟩ (Reps.one ⟨some ⟨w.heap.size + 1, 0, none⟩, 2, rfl, by decide, C_ints (xs := [0, 1]) (G 1 _ rfl) (by decide)⟩ (Reps.none _ _))) (by decide)⟩
  have CA2 : Aside0 (Kd.C Kd.bool W (some ⟨w.heap.size + 1 + 1 + 1, 0, none⟩) a6E.length a6E) := ⟨C_bools (G 3 _ rfl) (by decide)⟩
  have CB1 : Aside0 (Kd.C (Kd.slice 3 (Kd.int .i64)) W (some ⟨w.heap.size + 1 + 1 + 1 + 1 + 1 + 1 + 1, 0, none⟩) b6N.length b6N) := ⟨C_box (G 7 _ rfl) (Reps.one ⟨some ⟨w.heap.size + 1 + 1 + 1 + 1 + 1, 0, none⟩, 2, rfl, by decide, C_ints (xs := [0, 1]) (G 5 _ rfl) (by decide)⟩ (Reps.one ⟨some ⟨w.heap.size + 1 + 1 + 1 + 1 + 1 + 1, 0, none⟩, 2, rfl, by decide, C_ints (xs := [1, 1]) (G 6 _ rfl) (by decide)⟩ (Reps.none _ _))) (by decide)⟩
  have CB2 : Aside0 (Kd.C Kd.bool W (some ⟨w.heap.size + 1 + 1 + 1 + 1 + 1 + 1 + 1 + 1, 0, none⟩) b6E.length b6E) := ⟨C_bools (G 8 _ rfl) (by decide)⟩
  have XA := Aside0.mk (G 4 _ rfl)
  have XB := Aside0.mk (G 9 _ rfl)
  have BL := Aside0.mk hbl
  clear G hbl
  have GB : Aside0 (Got 0 (some ⟨w.heap.size + 1 + 1 + 1 + 1 + 1 + 1 + 1, 0, none⟩) 2 b6N (some ⟨w.heap.size + 1 + 1 + 1 + 1 + 1 + 1 + 1 + 1, 0, none⟩) 2 b6E W) := ⟨⟨by decide, CB1.out, by decide, CB2.out⟩⟩
  have k0 := (blk_cell XA.out 0).trans rfl
  have k1 := (blk_cell XA.out 1).trans rfl
  have k2 := (blk_cell XA.out 2).trans rfl
  have l0 := (blk_cell XB.out 0).trans rfl
  have l1 := (blk_cell XB.out 1).trans rfl
  have l2 := (blk_cell XB.out 2).trans rfl
  go_wp2_with fail
  refine (prod31 2 _ 2 a6N _ 2 a6E 2 _ 2 b6N _ 2 b6E 4 2 p6N x6E 0 W CA1.out (by decide) CA2.out (by decide) CB1.out (by decide) CB2.out (by decide) g6a).mono ?_
  rintro e_ V1 ⟨v1, v2, rfl, hs, hr, hb⟩
  obtain ⟨X1, x1, rfl⟩ := Kd.S_slice hs
  obtain ⟨X2, x2, rfl⟩ := Kd.R_slice hr
  have GX : Aside0 (Got 0 X1 x1 p6N X2 x2 x6E V1) := ⟨⟨(Kd.S_reads' hs).2.1, (Kd.S_reads' hs).2.2, (Kd.R_reads' hr).2.1, (Kd.R_reads' hr).2.2⟩⟩
  have n_CA1 := Aside0.mk (Kd.C_below CA1.out hb)
  have n_CA2 := Aside0.mk (Kd.C_below CA2.out hb)
  have n_CB1 := Aside0.mk (Kd.C_below CB1.out hb)
  have n_CB2 := Aside0.mk (Kd.C_below CB2.out hb)
  have n_XA := Aside0.mk (blk_below XA.out hb)
  have n_XB := Aside0.mk (blk_below XB.out hb)
  have n_BL := Aside0.mk (BL.out.trans (Below.mono hb BL.out.size))
  have n_GB := Aside0.mk (Got.below GB.out hb)
  clear CA1 CA2 CB1 CB2 XA XB BL GB
  have CA1 := n_CA1
  have CA2 := n_CA2
  have CB1 := n_CB1
  have CB2 := n_CB2
  have XA := n_XA
  have XB := n_XB
  have BL := n_BL
  have GB := n_GB
  clear n_CA1 n_CA2 n_CB1 n_CB2 n_XA n_XB n_BL n_GB
  clear hs hr hb
  clear k0 k1 k2
  clear l0 l1 l2
  have k0 := (blk_cell XA.out 0).trans rfl
  have k1 := (blk_cell XA.out 1).trans rfl
  have k2 := (blk_cell XA.out 2).trans rfl
  have l0 := (blk_cell XB.out 0).trans rfl
  have l1 := (blk_cell XB.out 1).trans rfl
  have l2 := (blk_cell XB.out 2).trans rfl
  go_upto_region 4 with (fail)
  obtain ⟨V2, h_⟩ : ∃ W_, W_ = V1.alloc (.cells #[.int .i64 2, .slice X1 p6N.length x1, .slice X2 x6E.length x2] 25) := ⟨_, rfl⟩
  have hb_ : Below V1.heap.size V1 V2 := by rw [h_]; exact below_alloc (Below.refl _ _) _
  have hx_ : V2.heap[V1.heap.size]? = some (.cells #[.int .i64 2, .slice X1 p6N.length x1, .slice X2 x6E.length x2] 25 (0, 0)) := by rw [h_]; exact blk_new _ _
  rw [← h_]
  clear h_
  have n_CA1 := Aside0.mk (Kd.C_below CA1.out hb_)
  have n_CA2 := Aside0.mk (Kd.C_below CA2.out hb_)
  have n_CB1 := Aside0.mk (Kd.C_below CB1.out hb_)
  have n_CB2 := Aside0.mk (Kd.C_below CB2.out hb_)
  have n_XA := Aside0.mk (blk_below XA.out hb_)
  have n_XB := Aside0.mk (blk_below XB.out hb_)
  have n_BL := Aside0.mk (BL.out.trans (Below.mono hb_ BL.out.size))
  have n_GB := Aside0.mk (Got.below GB.out hb_)
  have n_GX := Aside0.mk (Got.below GX.out hb_)
  clear CA1 CA2 CB1 CB2 XA XB BL GB GX
  have CA1 := n_CA1
  have CA2 := n_CA2
  have CB1 := n_CB1
  have CB2 := n_CB2
  have XA := n_XA
  have XB := n_XB
  have BL := n_BL
  have GB := n_GB
  have GX := n_GX
  clear n_CA1 n_CA2 n_CB1 n_CB2 n_XA n_XB n_BL n_GB n_GX
  clear hb_
  obtain ⟨gx, e_⟩ : ∃ g_, g_ = V1.heap.size := ⟨_, rfl⟩
  rw [← e_] at hx_ ⊢
  clear e_
  have BX := Aside0.mk hx_
  clear hx_
  clear k0 k1 k2
  clear l0 l1 l2
  have k0 := (blk_cell XA.out 0).trans rfl
  have k1 := (blk_cell XA.out 1).trans rfl
  have k2 := (blk_cell XA.out 2).trans rfl
  have l0 := (blk_cell XB.out 0).trans rfl
  have l1 := (blk_cell XB.out 1).trans rfl
  have l2 := (blk_cell XB.out 2).trans rfl
  have cx0 := (blk_cell BX.out 0).trans rfl
  have cx1 := (blk_cell BX.out 1).trans rfl
  have cx2 := (blk_cell BX.out 2).trans rfl
  go_wp2_with fail
  refine (prod31 2 _ 2 a6N _ 2 a6E 2 _ 2 b6N _ 2 b6E 3 0 [] [] 13 V2 CA1.out (by decide) CA2.out (by decide) CB1.out (by decide) CB2.out (by decide) g6b).mono ?_
  rintro e_ V3 ⟨v1, v2, rfl, hs, hr, hb⟩
  obtain ⟨F1, f1, rfl⟩ := Kd.S_slice hs
  obtain ⟨F2, f2, rfl⟩ := Kd.R_slice hr
  have GF : Aside0 (Got 0 F1 f1 ([] : List (List Int)) F2 f2 ([] : List Bool) V3) := ⟨⟨(Kd.S_reads' hs).2.1, (Kd.S_reads' hs).2.2, (Kd.R_reads' hr).2.1, (Kd.R_reads' hr).2.2⟩⟩
  have n_CA1 := Aside0.mk (Kd.C_below CA1.out hb)
  have n_CA2 := Aside0.mk (Kd.C_below CA2.out hb)
  have n_CB1 := Aside0.mk (Kd.C_below CB1.out hb)
  have n_CB2 := Aside0.mk (Kd.C_below CB2.out hb)
  have n_XA := Aside0.mk (blk_below XA.out hb)
  have n_XB := Aside0.mk (blk_below XB.out hb)
  have n_BL := Aside0.mk (BL.out.trans (Below.mono hb BL.out.size))
  have n_GB := Aside0.mk (Got.below GB.out hb)
  have n_GX := Aside0.mk (Got.below GX.out hb)
  have n_BX := Aside0.mk (blk_below BX.out hb)
  clear CA1 CA2 CB1 CB2 XA XB BL GB GX BX
  have CA1 := n_CA1
  have CA2 := n_CA2
  have CB1 := n_CB1
  have CB2 := n_CB2
  have XA := n_XA
  have XB := n_XB
  have BL := n_BL
  have GB := n_GB
  have GX := n_GX
  have BX := n_BX
  clear n_CA1 n_CA2 n_CB1 n_CB2 n_XA n_XB n_BL n_GB n_GX n_BX
  clear hs hr hb
  clear k0 k1 k2
  clear l0 l1 l2
  clear cx0 cx1 cx2
  have k0 := (blk_cell XA.out 0).trans rfl
  have k1 := (blk_cell XA.out 1).trans rfl
  have k2 := (blk_cell XA.out 2).trans rfl
  have l0 := (blk_cell XB.out 0).trans rfl
  have l1 := (blk_cell XB.out 1).trans rfl
  have l2 := (blk_cell XB.out 2).trans rfl
  have cx0 := (blk_cell BX.out 0).trans rfl
  have cx1 := (blk_cell BX.out 1).trans rfl
  have cx2 := (blk_cell BX.out 2).trans rfl
  go_upto_region 5 with (fail)
  obtain ⟨V4, h_⟩ : ∃ W_, W_ = V3.alloc (.cells #[.int .i64 0, .slice F1 0 f1, .slice F2 0 f2] 25) := ⟨_, rfl⟩
  have hb_ : Below V3.heap.size V3 V4 := by rw [h_]; exact below_alloc (Below.refl _ _) _
  have hx_ : V4.heap[V3.heap.size]? = some (.cells #[.int .i64 0, .slice F1 0 f1, .slice F2 0 f2] 25 (0, 0)) := by rw [h_]; exact blk_new _ _
  rw [← h_]
  clear h_
  have n_CA1 := Aside0.mk (Kd.C_below CA1.out hb_)
  have n_CA2 := Aside0.mk (Kd.C_below CA2.out hb_)
  have n_CB1 := Aside0.mk (Kd.C_below CB1.out hb_)
  have n_CB2 := Aside0.mk (Kd.C_below CB2.out hb_)
  have n_XA := Aside0.mk (blk_below XA.out hb_)
  have n_XB := Aside0.mk (blk_below XB.out hb_)
  have n_BL := Aside0.mk (BL.out.trans (Below.mono hb_ BL.out.size))
  have n_GB := Aside0.mk (Got.below GB.out hb_)
  have n_GX := Aside0.mk (Got.below GX.out hb_)
  have n_BX := Aside0.mk (blk_below BX.out hb_)
  have n_GF := Aside0.mk (Got.below GF.out hb_)
  clear CA1 CA2 CB1 CB2 XA XB BL GB GX BX GF
  have CA1 := n_CA1
  have CA2 := n_CA2
  have CB1 := n_CB1
  have CB2 := n_CB2
  have XA := n_XA
  have XB := n_XB
  have BL := n_BL
  have GB := n_GB
  have GX := n_GX
  have BX := n_BX
  have GF := n_GF
  clear n_CA1 n_CA2 n_CB1 n_CB2 n_XA n_XB n_BL n_GB n_GX n_BX n_GF
  clear hb_
  clear hx_
  clear k0 k1 k2
  clear l0 l1 l2
  clear cx0 cx1 cx2
  have k0 := (blk_cell XA.out 0).trans rfl
  have k1 := (blk_cell XA.out 1).trans rfl
  have k2 := (blk_cell XA.out 2).trans rfl
  have l0 := (blk_cell XB.out 0).trans rfl
  have l1 := (blk_cell XB.out 1).trans rfl
  have l2 := (blk_cell XB.out 2).trans rfl
  have cx0 := (blk_cell BX.out 0).trans rfl
  have cx1 := (blk_cell BX.out 1).trans rfl
  have cx2 := (blk_cell BX.out 2).trans rfl
  clear GF
  go_wp2_with fail
  refine (prod33 2 _ 2 a6N _ 2 a6E 2 _ 2 b6N _ 2 b6E 9 2 p6N y6E 0 V4 CA1.out (by decide) CA2.out (by decide) CB1.out (by decide) CB2.out (by decide) g6c).mono ?_
  rintro e_ V5 ⟨v1, v2, rfl, hs, hr, hb⟩
  obtain ⟨Y1, y1, rfl⟩ := Kd.S_slice hs
  obtain ⟨Y2, y2, rfl⟩ := Kd.R_slice hr
  have GY : Aside0 (Got 0 Y1 y1 p6N Y2 y2 y6E V5) := ⟨⟨(Kd.S_reads' hs).2.1, (Kd.S_reads' hs).2.2, (Kd.R_reads' hr).2.1, (Kd.R_reads' hr).2.2⟩⟩
  have n_CA1 := Aside0.mk (Kd.C_below CA1.out hb)
  have n_CA2 := Aside0.mk (Kd.C_below CA2.out hb)
  have n_CB1 := Aside0.mk (Kd.C_below CB1.out hb)
  have n_CB2 := Aside0.mk (Kd.C_below CB2.out hb)
  have n_XA := Aside0.mk (blk_below XA.out hb)
  have n_XB := Aside0.mk (blk_below XB.out hb)
  have n_BL := Aside0.mk (BL.out.trans (Below.mono hb BL.out.size))
  have n_GB := Aside0.mk (Got.below GB.out hb)
  have n_GX := Aside0.mk (Got.below GX.out hb)
  have n_BX := Aside0.mk (blk_below BX.out hb)
  clear CA1 CA2 CB1 CB2 XA XB BL GB GX BX
  have CA1 := n_CA1
  have CA2 := n_CA2
  have CB1 := n_CB1
  have CB2 := n_CB2
  have XA := n_XA
  have XB := n_XB
  have BL := n_BL
  have GB := n_GB
  have GX := n_GX
  have BX := n_BX
  clear n_CA1 n_CA2 n_CB1 n_CB2 n_XA n_XB n_BL n_GB n_GX n_BX
  clear hs hr hb
  clear k0 k1 k2
  clear l0 l1 l2
  clear cx0 cx1 cx2
  have k0 := (blk_cell XA.out 0).trans rfl
  have k1 := (blk_cell XA.out 1).trans rfl
  have k2 := (blk_cell XA.out 2).trans rfl
  have l0 := (blk_cell XB.out 0).trans rfl
  have l1 := (blk_cell XB.out 1).trans rfl
  have l2 := (blk_cell XB.out 2).trans rfl
  have cx0 := (blk_cell BX.out 0).trans rfl
  have cx1 := (blk_cell BX.out 1).trans rfl
  have cx2 := (blk_cell BX.out 2).trans rfl
  go_upto_region 6 with (fail)
  obtain ⟨V6, h_⟩ : ∃ W_, W_ = V5.alloc (.cells #[.int .i64 2, .slice Y1 p6N.length y1, .slice Y2 y6E.length y2] 25) := ⟨_, rfl⟩
  have hb_ : Below V5.heap.size V5 V6 := by rw [h_]; exact below_alloc (Below.refl _ _) _
  have hx_ : V6.heap[V5.heap.size]? = some (.cells #[.int .i64 2, .slice Y1 p6N.length y1, .slice Y2 y6E.length y2] 25 (0, 0)) := by rw [h_]; exact blk_new _ _
  rw [← h_]
  clear h_
  have n_CA1 := Aside0.mk (Kd.C_below CA1.out hb_)
  have n_CA2 := Aside0.mk (Kd.C_below CA2.out hb_)
  have n_CB1 := Aside0.mk (Kd.C_below CB1.out hb_)
  have n_CB2 := Aside0.mk (Kd.C_below CB2.out hb_)
  have n_XA := Aside0.mk (blk_below XA.out hb_)
  have n_XB := Aside0.mk (blk_below XB.out hb_)
  have n_BL := Aside0.mk (BL.out.trans (Below.mono hb_ BL.out.size))
  have n_GB := Aside0.mk (Got.below GB.out hb_)
  have n_GX := Aside0.mk (Got.below GX.out hb_)
  have n_BX := Aside0.mk (blk_below BX.out hb_)
  have n_GY := Aside0.mk (Got.below GY.out hb_)
  clear CA1 CA2 CB1 CB2 XA XB BL GB GX BX GY
  have CA1 := n_CA1
  have CA2 := n_CA2
  have CB1 := n_CB1
  have CB2 := n_CB2
  have XA := n_XA
  have XB := n_XB
  have BL := n_BL
  have GB := n_GB
  have GX := n_GX
  have BX := n_BX
  have GY := n_GY
  clear n_CA1 n_CA2 n_CB1 n_CB2 n_XA n_XB n_BL n_GB n_GX n_BX n_GY
  clear hb_
  obtain ⟨gy, e_⟩ : ∃ g_, g_ = V5.heap.size := ⟨_, rfl⟩
  rw [← e_] at hx_ ⊢
  clear e_
  have BY := Aside0.mk hx_
  clear hx_
  clear k0 k1 k2
  clear l0 l1 l2
  clear cx0 cx1 cx2
  have k0 := (blk_cell XA.out 0).trans rfl
  have k1 := (blk_cell XA.out 1).trans rfl
  have k2 := (blk_cell XA.out 2).trans rfl
  have l0 := (blk_cell XB.out 0).trans rfl
  have l1 := (blk_cell XB.out 1).trans rfl
  have l2 := (blk_cell XB.out 2).trans rfl
  have cx0 := (blk_cell BX.out 0).trans rfl
  have cx1 := (blk_cell BX.out 1).trans rfl
  have cx2 := (blk_cell BX.out 2).trans rfl
  have cy0 := (blk_cell BY.out 0).trans rfl
  have cy1 := (blk_cell BY.out 1).trans rfl
  have cy2 := (blk_cell BY.out 2).trans rfl
  go_wp2_with fail
  refine (calc_not 2 _ 2 b6N _ 2 b6E V6 CB1.out (by decide) CB2.out (by decide) r6b).mono ?_
  rintro e_ V7 ⟨v2, rfl, hr, hb⟩
  rw [show b6E.map (!·) = z6E from rfl] at hr
  obtain ⟨Z2, z2, rfl⟩ := Kd.R_slice hr
  have n_CA1 := Aside0.mk (Kd.C_below CA1.out hb)
  have n_CA2 := Aside0.mk (Kd.C_below CA2.out hb)
  have n_CB1 := Aside0.mk (Kd.C_below CB1.out hb)
  have n_CB2 := Aside0.mk (Kd.C_below CB2.out hb)
  have n_XA := Aside0.mk (blk_below XA.out hb)
  have n_XB := Aside0.mk (blk_below XB.out hb)
  have n_BL := Aside0.mk (BL.out.trans (Below.mono hb BL.out.size))
  have n_GB := Aside0.mk (Got.below GB.out hb)
  have n_GX := Aside0.mk (Got.below GX.out hb)
  have n_BX := Aside0.mk (blk_below BX.out hb)
  have n_GY := Aside0.mk (Got.below GY.out hb)
  have n_BY := Aside0.mk (blk_below BY.out hb)
  clear CA1 CA2 CB1 CB2 XA XB BL GB GX BX GY BY
  have CA1 := n_CA1
  have CA2 := n_CA2
  have CB1 := n_CB1
  have CB2 := n_CB2
  have XA := n_XA
  have XB := n_XB
  have BL := n_BL
  have GB := n_GB
  have GX := n_GX
  have BX := n_BX
  have GY := n_GY
  have BY := n_BY
  clear n_CA1 n_CA2 n_CB1 n_CB2 n_XA n_XB n_BL n_GB n_GX n_BX n_GY n_BY
  have GZ : Aside0 (Got 0 (some ⟨w.heap.size + 1 + 1 + 1 + 1 + 1 + 1 + 1, 0, none⟩) 2 b6N Z2 z2 z6E V7) := ⟨⟨GB.out.n1, GB.out.n2, (Kd.R_reads' hr).2.1, (Kd.R_reads' hr).2.2⟩⟩
  clear hr hb
  clear k0 k1 k2
  clear l0 l1 l2
  clear cx0 cx1 cx2
  clear cy0 cy1 cy2
  have k0 := (blk_cell XA.out 0).trans rfl
  have k1 := (blk_cell XA.out 1).trans rfl
  have k2 := (blk_cell XA.out 2).trans rfl
  have l0 := (blk_cell XB.out 0).trans rfl
  have l1 := (blk_cell XB.out 1).trans rfl
  have l2 := (blk_cell XB.out 2).trans rfl
  have cx0 := (blk_cell BX.out 0).trans rfl
  have cx1 := (blk_cell BX.out 1).trans rfl
  have cx2 := (blk_cell BX.out 2).trans rfl
  have cy0 := (blk_cell BY.out 0).trans rfl
  have cy1 := (blk_cell BY.out 1).trans rfl
  have cy2 := (blk_cell BY.out 2).trans rfl
  go_upto_region 7 with (fail)
  obtain ⟨V8, h_⟩ : ∃ W_, W_ = V7.alloc (.cells #[.int .i64 2, .slice (some ⟨w.heap.size + 1 + 1 + 1 + 1 + 1 + 1 + 1, 0, none⟩) b6N.length 2, .slice Z2 z6E.length z2] 25) := ⟨_, rfl⟩
  have hb_ : Below V7.heap.size V7 V8 := by rw [h_]; exact below_alloc (Below.refl _ _) _
  have hx_ : V8.heap[V7.heap.size]? = some (.cells #[.int .i64 2, .slice (some ⟨w.heap.size + 1 + 1 + 1 + 1 + 1 + 1 + 1, 0, none⟩) b6N.length 2, .slice Z2 z6E.length z2] 25 (0, 0)) := by rw [h_]; exact blk_new _ _
  rw [← h_]
  clear h_
  have n_CA1 := Aside0.mk (Kd.C_below CA1.out hb_)
  have n_CA2 := Aside0.mk (Kd.C_below CA2.out hb_)
  have n_CB1 := Aside0.mk (Kd.C_below CB1.out hb_)
  have n_CB2 := Aside0.mk (Kd.C_below CB2.out hb_)
  have n_XA := Aside0.mk (blk_below XA.out hb_)
  have n_XB := Aside0.mk (blk_below XB.out hb_)
  have n_BL := Aside0.mk (BL.out.trans (Below.mono hb_ BL.out.size))
  have n_GB := Aside0.mk (Got.below GB.out hb_)
  have n_GX := Aside0.mk (Got.below GX.out hb_)
  have n_BX := Aside0.mk (blk_below BX.out hb_)
  have n_GY := Aside0.mk (Got.below GY.out hb_)
  have n_BY := Aside0.mk (blk_below BY.out hb_)
  have n_GZ := Aside0.mk (Got.below GZ.out hb_)
  clear CA1 CA2 CB1 CB2 XA XB BL GB GX BX GY BY GZ
  have CA1 := n_CA1
  have CA2 := n_CA2
  have CB1 := n_CB1
  have CB2 := n_CB2
  have XA := n_XA
  have XB := n_XB
  have BL := n_BL
  have GB := n_GB
  have GX := n_GX
  have BX := n_BX
  have GY := n_GY
  have BY := n_BY
  have GZ := n_GZ
  clear n_CA1 n_CA2 n_CB1 n_CB2 n_XA n_XB n_BL n_GB n_GX n_BX n_GY n_BY n_GZ
  clear hb_
  obtain ⟨gz, e_⟩ : ∃ g_, g_ = V7.heap.size := ⟨_, rfl⟩
  rw [← e_] at hx_ ⊢
  clear e_
  have BZ := Aside0.mk hx_
  clear hx_
  clear k0 k1 k2
  clear l0 l1 l2
  clear cx0 cx1 cx2
  clear cy0 cy1 cy2
  have k0 := (blk_cell XA.out 0).trans rfl
  have k1 := (blk_cell XA.out 1).trans rfl
  have k2 := (blk_cell XA.out 2).trans rfl
  have l0 := (blk_cell XB.out 0).trans rfl
  have l1 := (blk_cell XB.out 1).trans rfl
  have l2 := (blk_cell XB.out 2).trans rfl
  have cx0 := (blk_cell BX.out 0).trans rfl
  have cx1 := (blk_cell BX.out 1).trans rfl
  have cx2 := (blk_cell BX.out 2).trans rfl
  have cy0 := (blk_cell BY.out 0).trans rfl
  have cy1 := (blk_cell BY.out 1).trans rfl
  have cy2 := (blk_cell BY.out 2).trans rfl
  have cz0 := (blk_cell BZ.out 0).trans rfl
  have cz1 := (blk_cell BZ.out 1).trans rfl
  have cz2 := (blk_cell BZ.out 2).trans rfl
  go_wp2_with fail
  refine (PMarkMakes.calc_All.calls 2 2 t6N t6E 0 V8 g6f).mono ?_
  rintro e_ V9 ⟨v1, v2, rfl, hs, hr, hb⟩
  obtain ⟨T1, t1, rfl⟩ := Kd.N_slice hs
  obtain ⟨T2, t2, rfl⟩ := Kd.R_slice hr
  have GT : Aside0 (Got 0 T1 t1 t6N T2 t2 t6E V9) := ⟨⟨(Kd.N_reads' hs).2.1, (Kd.N_reads' hs).2.2, (Kd.R_reads' hr).2.1, (Kd.R_reads' hr).2.2⟩⟩
  have n_CA1 := Aside0.mk (Kd.C_below CA1.out hb)
  have n_CA2 := Aside0.mk (Kd.C_below CA2.out hb)
  have n_CB1 := Aside0.mk (Kd.C_below CB1.out hb)
  have n_CB2 := Aside0.mk (Kd.C_below CB2.out hb)
  have n_XA := Aside0.mk (blk_below XA.out hb)
  have n_XB := Aside0.mk (blk_below XB.out hb)
  have n_BL := Aside0.mk (BL.out.trans (Below.mono hb BL.out.size))
  have n_GB := Aside0.mk (Got.below GB.out hb)
  have n_GX := Aside0.mk (Got.below GX.out hb)
  have n_BX := Aside0.mk (blk_below BX.out hb)
  have n_GY := Aside0.mk (Got.below GY.out hb)
  have n_BY := Aside0.mk (blk_below BY.out hb)
  have n_GZ := Aside0.mk (Got.below GZ.out hb)
  have n_BZ := Aside0.mk (blk_below BZ.out hb)
  clear CA1 CA2 CB1 CB2 XA XB BL GB GX BX GY BY GZ BZ
  have CA1 := n_CA1
  have CA2 := n_CA2
  have CB1 := n_CB1
  have CB2 := n_CB2
  have XA := n_XA
  have XB := n_XB
  have BL := n_BL
  have GB := n_GB
  have GX := n_GX
  have BX := n_BX
  have GY := n_GY
  have BY := n_BY
  have GZ := n_GZ
  have BZ := n_BZ
  clear n_CA1 n_CA2 n_CB1 n_CB2 n_XA n_XB n_BL n_GB n_GX n_BX n_GY n_BY n_GZ n_BZ
  clear hs hr hb
  clear k0 k1 k2
  clear l0 l1 l2
  clear cx0 cx1 cx2
  clear cy0 cy1 cy2
  clear cz0 cz1 cz2
  have k0 := (blk_cell XA.out 0).trans rfl
  have k1 := (blk_cell XA.out 1).trans rfl
  have k2 := (blk_cell XA.out 2).trans rfl
  have l0 := (blk_cell XB.out 0).trans rfl
  have l1 := (blk_cell XB.out 1).trans rfl
  have l2 := (blk_cell XB.out 2).trans rfl
  have cx0 := (blk_cell BX.out 0).trans rfl
  have cx1 := (blk_cell BX.out 1).trans rfl
  have cx2 := (blk_cell BX.out 2).trans rfl
  have cy0 := (blk_cell BY.out 0).trans rfl
  have cy1 := (blk_cell BY.out 1).trans rfl
  have cy2 := (blk_cell BY.out 2).trans rfl
  have cz0 := (blk_cell BZ.out 0).trans rfl
  have cz1 := (blk_cell BZ.out 1).trans rfl
  have cz2 := (blk_cell BZ.out 2).trans rfl
  go_upto_region 8 with (fail)
  obtain ⟨V10, h_⟩ : ∃ W_, W_ = V9.alloc (.cells #[.int .i64 2, .slice T1 t6N.length t1, .slice T2 t6E.length t2] 25) := ⟨_, rfl⟩
  have hb_ : Below V9.heap.size V9 V10 := by rw [h_]; exact below_alloc (Below.refl _ _) _
  have hx_ : V10.heap[V9.heap.size]? = some (.cells #[.int .i64 2, .slice T1 t6N.length t1, .slice T2 t6E.length t2] 25 (0, 0)) := by rw [h_]; exact blk_new _ _
  rw [← h_]
  clear h_
  have n_CA1 := Aside0.mk (Kd.C_below CA1.out hb_)
  have n_CA2 := Aside0.mk (Kd.C_below CA2.out hb_)
  have n_CB1 := Aside0.mk (Kd.C_below CB1.out hb_)
  have n_CB2 := Aside0.mk (Kd.C_below CB2.out hb_)
  have n_XA := Aside0.mk (blk_below XA.out hb_)
  have n_XB := Aside0.mk (blk_below XB.out hb_)
  have n_BL := Aside0.mk (BL.out.trans (Below.mono hb_ BL.out.size))
  have n_GB := Aside0.mk (Got.below GB.out hb_)
  have n_GX := Aside0.mk (Got.below GX.out hb_)
  have n_BX := Aside0.mk (blk_below BX.out hb_)
  have n_GY := Aside0.mk (Got.below GY.out hb_)
  have n_BY := Aside0.mk (blk_below BY.out hb_)
  have n_GZ := Aside0.mk (Got.below GZ.out hb_)
  have n_BZ := Aside0.mk (blk_below BZ.out hb_)
  have n_GT := Aside0.mk (Got.below GT.out hb_)
  clear CA1 CA2 CB1 CB2 XA XB BL GB GX BX GY BY GZ BZ GT
  have CA1 := n_CA1
  have CA2 := n_CA2
  have CB1 := n_CB1
  have CB2 := n_CB2
  have XA := n_XA
  have XB := n_XB
  have BL := n_BL
  have GB := n_GB
  have GX := n_GX
  have BX := n_BX
  have GY := n_GY
  have BY := n_BY
  have GZ := n_GZ
  have BZ := n_BZ
  have GT := n_GT
  clear n_CA1 n_CA2 n_CB1 n_CB2 n_XA n_XB n_BL n_GB n_GX n_BX n_GY n_BY n_GZ n_BZ n_GT
  clear hb_
  obtain ⟨gt, e_⟩ : ∃ g_, g_ = V9.heap.size := ⟨_, rfl⟩
  rw [← e_] at hx_ ⊢
  clear e_
  have BT := Aside0.mk hx_
  clear hx_
  clear k0 k1 k2
  clear l0 l1 l2
  clear cx0 cx1 cx2
  clear cy0 cy1 cy2
  clear cz0 cz1 cz2
  have k0 := (blk_cell XA.out 0).trans rfl
  have k1 := (blk_cell XA.out 1).trans rfl
  have k2 := (blk_cell XA.out 2).trans rfl
  have l0 := (blk_cell XB.out 0).trans rfl
  have l1 := (blk_cell XB.out 1).trans rfl
  have l2 := (blk_cell XB.out 2).trans rfl
  have cx0 := (blk_cell BX.out 0).trans rfl
  have cx1 := (blk_cell BX.out 1).trans rfl
  have cx2 := (blk_cell BX.out 2).trans rfl
  have cy0 := (blk_cell BY.out 0).trans rfl
  have cy1 := (blk_cell BY.out 1).trans rfl
  have cy2 := (blk_cell BY.out 2).trans rfl
  have cz0 := (blk_cell BZ.out 0).trans rfl
  have cz1 := (blk_cell BZ.out 1).trans rfl
  have cz2 := (blk_cell BZ.out 2).trans rfl
  have ct0 := (blk_cell BT.out 0).trans rfl
  have ct1 := (blk_cell BT.out 1).trans rfl
  have ct2 := (blk_cell BT.out 2).trans rfl
  go_wp2_with fail
  refine (calc_not 2 T1 t1 t6N T2 t2 t6E V10 GT.out.n2 GT.out.n1 GT.out.e2 GT.out.e1 r6t).mono ?_
  rintro e_ V11 ⟨v2, rfl, hr, hb⟩
  rw [show t6E.map (!·) = n6E from rfl] at hr
  obtain ⟨N2, n2, rfl⟩ := Kd.R_slice hr
  have n_CA1 := Aside0.mk (Kd.C_below CA1.out hb)
  have n_CA2 := Aside0.mk (Kd.C_below CA2.out hb)
  have n_CB1 := Aside0.mk (Kd.C_below CB1.out hb)
  have n_CB2 := Aside0.mk (Kd.C_below CB2.out hb)
  have n_XA := Aside0.mk (blk_below XA.out hb)
  have n_XB := Aside0.mk (blk_below XB.out hb)
  have n_BL := Aside0.mk (BL.out.trans (Below.mono hb BL.out.size))
  have n_GB := Aside0.mk (Got.below GB.out hb)
  have n_GX := Aside0.mk (Got.below GX.out hb)
  have n_BX := Aside0.mk (blk_below BX.out hb)
  have n_GY := Aside0.mk (Got.below GY.out hb)
  have n_BY := Aside0.mk (blk_below BY.out hb)
  have n_GZ := Aside0.mk (Got.below GZ.out hb)
  have n_BZ := Aside0.mk (blk_below BZ.out hb)
  have n_GT := Aside0.mk (Got.below GT.out hb)
  have n_BT := Aside0.mk (blk_below BT.out hb)
  clear CA1 CA2 CB1 CB2 XA XB BL GB GX BX GY BY GZ BZ GT BT
  have CA1 := n_CA1
  have CA2 := n_CA2
  have CB1 := n_CB1
  have CB2 := n_CB2
  have XA := n_XA
  have XB := n_XB
  have BL := n_BL
  have GB := n_GB
  have GX := n_GX
  have BX := n_BX
  have GY := n_GY
  have BY := n_BY
  have GZ := n_GZ
  have BZ := n_BZ
  have GT := n_GT
  have BT := n_BT
  clear n_CA1 n_CA2 n_CB1 n_CB2 n_XA n_XB n_BL n_GB n_GX n_BX n_GY n_BY n_GZ n_BZ n_GT n_BT
  have GN : Aside0 (Got 0 T1 t1 t6N N2 n2 n6E V11) := ⟨⟨GT.out.n1, GT.out.n2, (Kd.R_reads' hr).2.1, (Kd.R_reads' hr).2.2⟩⟩
  clear hr hb
  clear k0 k1 k2
  clear l0 l1 l2
  clear cx0 cx1 cx2
  clear cy0 cy1 cy2
  clear cz0 cz1 cz2
  clear ct0 ct1 ct2
  have k0 := (blk_cell XA.out 0).trans rfl
  have k1 := (blk_cell XA.out 1).trans rfl
  have k2 := (blk_cell XA.out 2).trans rfl
  have l0 := (blk_cell XB.out 0).trans rfl
  have l1 := (blk_cell XB.out 1).trans rfl
  have l2 := (blk_cell XB.out 2).trans rfl
  have cx0 := (blk_cell BX.out 0).trans rfl
  have cx1 := (blk_cell BX.out 1).trans rfl
  have cx2 := (blk_cell BX.out 2).trans rfl
  have cy0 := (blk_cell BY.out 0).trans rfl
  have cy1 := (blk_cell BY.out 1).trans rfl
  have cy2 := (blk_cell BY.out 2).trans rfl
  have cz0 := (blk_cell BZ.out 0).trans rfl
  have cz1 := (blk_cell BZ.out 1).trans rfl
  have cz2 := (blk_cell BZ.out 2).trans rfl
  have ct0 := (blk_cell BT.out 0).trans rfl
  have ct1 := (blk_cell BT.out 1).trans rfl
  have ct2 := (blk_cell BT.out 2).trans rfl
  go_upto_region 9 with (fail)
  obtain ⟨V12, h_⟩ : ∃ W_, W_ = V11.alloc (.cells #[.int .i64 2, .slice T1 t6N.length t1, .slice N2 n6E.length n2] 25) := ⟨_, rfl⟩
  have hb_ : Below V11.heap.size V11 V12 := by rw [h_]; exact below_alloc (Below.refl _ _) _
  have hx_ : V12.heap[V11.heap.size]? = some (.cells #[.int .i64 2, .slice T1 t6N.length t1, .slice N2 n6E.length n2] 25 (0, 0)) := by rw [h_]; exact blk_new _ _
  rw [← h_]
  clear h_
  have n_CA1 := Aside0.mk (Kd.C_below CA1.out hb_)
  have n_CA2 := Aside0.mk (Kd.C_below CA2.out hb_)
  have n_CB1 := Aside0.mk (Kd.C_below CB1.out hb_)
  have n_CB2 := Aside0.mk (Kd.C_below CB2.out hb_)
  have n_XA := Aside0.mk (blk_below XA.out hb_)
  have n_XB := Aside0.mk (blk_below XB.out hb_)
  have n_BL := Aside0.mk (BL.out.trans (Below.mono hb_ BL.out.size))
  have n_GB := Aside0.mk (Got.below GB.out hb_)
  have n_GX := Aside0.mk (Got.below GX.out hb_)
  have n_BX := Aside0.mk (blk_below BX.out hb_)
  have n_GY := Aside0.mk (Got.below GY.out hb_)
  have n_BY := Aside0.mk (blk_below BY.out hb_)
  have n_GZ := Aside0.mk (Got.below GZ.out hb_)
  have n_BZ := Aside0.mk (blk_below BZ.out hb_)
  have n_GT := Aside0.mk (Got.below GT.out hb_)
  have n_BT := Aside0.mk (blk_below BT.out hb_)
  have n_GN := Aside0.mk (Got.below GN.out hb_)
  clear CA1 CA2 CB1 CB2 XA XB BL GB GX BX GY BY GZ BZ GT BT GN
  have CA1 := n_CA1
  have CA2 := n_CA2
  have CB1 := n_CB1
  have CB2 := n_CB2
  have XA := n_XA
  have XB := n_XB
  have BL := n_BL
  have GB := n_GB
  have GX := n_GX
  have BX := n_BX
  have GY := n_GY
  have BY := n_BY
  have GZ := n_GZ
  have BZ := n_BZ
  have GT := n_GT
  have BT := n_BT
  have GN := n_GN
  clear n_CA1 n_CA2 n_CB1 n_CB2 n_XA n_XB n_BL n_GB n_GX n_BX n_GY n_BY n_GZ n_BZ n_GT n_BT n_GN
  clear hb_
  obtain ⟨gn, e_⟩ : ∃ g_, g_ = V11.heap.size := ⟨_, rfl⟩
  rw [← e_] at hx_ ⊢
  clear e_
  have BN := Aside0.mk hx_
  clear hx_
  clear k0 k1 k2
  clear l0 l1 l2
  clear cx0 cx1 cx2
  clear cy0 cy1 cy2
  clear cz0 cz1 cz2
  clear ct0 ct1 ct2
  have k0 := (blk_cell XA.out 0).trans rfl
  have k1 := (blk_cell XA.out 1).trans rfl
  have k2 := (blk_cell XA.out 2).trans rfl
  have l0 := (blk_cell XB.out 0).trans rfl
  have l1 := (blk_cell XB.out 1).trans rfl
  have l2 := (blk_cell XB.out 2).trans rfl
  have cx0 := (blk_cell BX.out 0).trans rfl
  have cx1 := (blk_cell BX.out 1).trans rfl
  have cx2 := (blk_cell BX.out 2).trans rfl
  have cy0 := (blk_cell BY.out 0).trans rfl
  have cy1 := (blk_cell BY.out 1).trans rfl
  have cy2 := (blk_cell BY.out 2).trans rfl
  have cz0 := (blk_cell BZ.out 0).trans rfl
  have cz1 := (blk_cell BZ.out 1).trans rfl
  have cz2 := (blk_cell BZ.out 2).trans rfl
  have ct0 := (blk_cell BT.out 0).trans rfl
  have ct1 := (blk_cell BT.out 1).trans rfl
  have ct2 := (blk_cell BT.out 2).trans rfl
  have cn0 := (blk_cell BN.out 0).trans rfl
  have cn1 := (blk_cell BN.out 1).trans rfl
  have cn2 := (blk_cell BN.out 2).trans rfl
  go_wp2_with fail
  refine (prod29 2 _ 2 a6N _ 2 a6E 2 _ 2 b6N _ 2 b6E 9 2 p6N o6E 0 V12 CA1.out (by decide) CA2.out (by decide) CB1.out (by decide) CB2.out (by decide) g6d).mono ?_
  rintro e_ V13 ⟨v1, v2, rfl, hs, hr, hb⟩
  obtain ⟨O1, o1, rfl⟩ := Kd.S_slice hs
  obtain ⟨O2, o2, rfl⟩ := Kd.R_slice hr
  have GO : Aside0 (Got 0 O1 o1 p6N O2 o2 o6E V13) := ⟨⟨(Kd.S_reads' hs).2.1, (Kd.S_reads' hs).2.2, (Kd.R_reads' hr).2.1, (Kd.R_reads' hr).2.2⟩⟩
  have n_CA1 := Aside0.mk (Kd.C_below CA1.out hb)
  have n_CA2 := Aside0.mk (Kd.C_below CA2.out hb)
  have n_CB1 := Aside0.mk (Kd.C_below CB1.out hb)
  have n_CB2 := Aside0.mk (Kd.C_below CB2.out hb)
  have n_XA := Aside0.mk (blk_below XA.out hb)
  have n_XB := Aside0.mk (blk_below XB.out hb)
  have n_BL := Aside0.mk (BL.out.trans (Below.mono hb BL.out.size))
  have n_GB := Aside0.mk (Got.below GB.out hb)
  have n_GX := Aside0.mk (Got.below GX.out hb)
  have n_BX := Aside0.mk (blk_below BX.out hb)
  have n_GY := Aside0.mk (Got.below GY.out hb)
  have n_BY := Aside0.mk (blk_below BY.out hb)
  have n_GZ := Aside0.mk (Got.below GZ.out hb)
  have n_BZ := Aside0.mk (blk_below BZ.out hb)
  have n_GT := Aside0.mk (Got.below GT.out hb)
  have n_BT := Aside0.mk (blk_below BT.out hb)
  have n_GN := Aside0.mk (Got.below GN.out hb)
  have n_BN := Aside0.mk (blk_below BN.out hb)
  clear CA1 CA2 CB1 CB2 XA XB BL GB GX BX GY BY GZ BZ GT BT GN BN
  have CA1 := n_CA1
  have CA2 := n_CA2
  have CB1 := n_CB1
  have CB2 := n_CB2
  have XA := n_XA
  have XB := n_XB
  have BL := n_BL
  have GB := n_GB
  have GX := n_GX
  have BX := n_BX
  have GY := n_GY
  have BY := n_BY
  have GZ := n_GZ
  have BZ := n_BZ
  have GT := n_GT
  have BT := n_BT
  have GN := n_GN
  have BN := n_BN
  clear n_CA1 n_CA2 n_CB1 n_CB2 n_XA n_XB n_BL n_GB n_GX n_BX n_GY n_BY n_GZ n_BZ n_GT n_BT n_GN n_BN
  clear hs hr hb
  clear k0 k1 k2
  clear l0 l1 l2
  clear cx0 cx1 cx2
  clear cy0 cy1 cy2
  clear cz0 cz1 cz2
  clear ct0 ct1 ct2
  clear cn0 cn1 cn2
  have k0 := (blk_cell XA.out 0).trans rfl
  have k1 := (blk_cell XA.out 1).trans rfl
  have k2 := (blk_cell XA.out 2).trans rfl
  have l0 := (blk_cell XB.out 0).trans rfl
  have l1 := (blk_cell XB.out 1).trans rfl
  have l2 := (blk_cell XB.out 2).trans rfl
  have cx0 := (blk_cell BX.out 0).trans rfl
  have cx1 := (blk_cell BX.out 1).trans rfl
  have cx2 := (blk_cell BX.out 2).trans rfl
  have cy0 := (blk_cell BY.out 0).trans rfl
  have cy1 := (blk_cell BY.out 1).trans rfl
  have cy2 := (blk_cell BY.out 2).trans rfl
  have cz0 := (blk_cell BZ.out 0).trans rfl
  have cz1 := (blk_cell BZ.out 1).trans rfl
  have cz2 := (blk_cell BZ.out 2).trans rfl
  have ct0 := (blk_cell BT.out 0).trans rfl
  have ct1 := (blk_cell BT.out 1).trans rfl
  have ct2 := (blk_cell BT.out 2).trans rfl
  have cn0 := (blk_cell BN.out 0).trans rfl
  have cn1 := (blk_cell BN.out 1).trans rfl
  have cn2 := (blk_cell BN.out 2).trans rfl
  go_upto_region 10 with (fail)
  obtain ⟨V14, h_⟩ : ∃ W_, W_ = V13.alloc (.cells #[.int .i64 2, .slice O1 p6N.length o1, .slice O2 o6E.length o2] 25) := ⟨_, rfl⟩
  have hb_ : Below V13.heap.size V13 V14 := by rw [h_]; exact below_alloc (Below.refl _ _) _
  have hx_ : V14.heap[V13.heap.size]? = some (.cells #[.int .i64 2, .slice O1 p6N.length o1, .slice O2 o6E.length o2] 25 (0, 0)) := by rw [h_]; exact blk_new _ _
  rw [← h_]
  clear h_
  have n_CA1 := Aside0.mk (Kd.C_below CA1.out hb_)
  have n_CA2 := Aside0.mk (Kd.C_below CA2.out hb_)
  have n_CB1 := Aside0.mk (Kd.C_below CB1.out hb_)
  have n_CB2 := Aside0.mk (Kd.C_below CB2.out hb_)
  have n_XA := Aside0.mk (blk_below XA.out hb_)
  have n_XB := Aside0.mk (blk_below XB.out hb_)
  have n_BL := Aside0.mk (BL.out.trans (Below.mono hb_ BL.out.size))
  have n_GB := Aside0.mk (Got.below GB.out hb_)
  have n_GX := Aside0.mk (Got.below GX.out hb_)
  have n_BX := Aside0.mk (blk_below BX.out hb_)
  have n_GY := Aside0.mk (Got.below GY.out hb_)
  have n_BY := Aside0.mk (blk_below BY.out hb_)
  have n_GZ := Aside0.mk (Got.below GZ.out hb_)
  have n_BZ := Aside0.mk (blk_below BZ.out hb_)
  have n_GT := Aside0.mk (Got.below GT.out hb_)
  have n_BT := Aside0.mk (blk_below BT.out hb_)
  have n_GN := Aside0.mk (Got.below GN.out hb_)
  have n_BN := Aside0.mk (blk_below BN.out hb_)
  have n_GO := Aside0.mk (Got.below GO.out hb_)
  clear CA1 CA2 CB1 CB2 XA XB BL GB GX BX GY BY GZ BZ GT BT GN BN GO
  have CA1 := n_CA1
  have CA2 := n_CA2
  have CB1 := n_CB1
  have CB2 := n_CB2
  have XA := n_XA
  have XB := n_XB
  have BL := n_BL
  have GB := n_GB
  have GX := n_GX
  have BX := n_BX
  have GY := n_GY
  have BY := n_BY
  have GZ := n_GZ
  have BZ := n_BZ
  have GT := n_GT
  have BT := n_BT
  have GN := n_GN
  have BN := n_BN
  have GO := n_GO
  clear n_CA1 n_CA2 n_CB1 n_CB2 n_XA n_XB n_BL n_GB n_GX n_BX n_GY n_BY n_GZ n_BZ n_GT n_BT n_GN n_BN n_GO
  clear hb_
  obtain ⟨go, e_⟩ : ∃ g_, g_ = V13.heap.size := ⟨_, rfl⟩
  rw [← e_] at hx_ ⊢
  clear e_
  have BO := Aside0.mk hx_
  clear hx_
  clear k0 k1 k2
  clear l0 l1 l2
  clear cx0 cx1 cx2
  clear cy0 cy1 cy2
  clear cz0 cz1 cz2
  clear ct0 ct1 ct2
  clear cn0 cn1 cn2
  have k0 := (blk_cell XA.out 0).trans rfl
  have k1 := (blk_cell XA.out 1).trans rfl
  have k2 := (blk_cell XA.out 2).trans rfl
  have l0 := (blk_cell XB.out 0).trans rfl
  have l1 := (blk_cell XB.out 1).trans rfl
  have l2 := (blk_cell XB.out 2).trans rfl
  have cx0 := (blk_cell BX.out 0).trans rfl
  have cx1 := (blk_cell BX.out 1).trans rfl
  have cx2 := (blk_cell BX.out 2).trans rfl
  have cy0 := (blk_cell BY.out 0).trans rfl
  have cy1 := (blk_cell BY.out 1).trans rfl
  have cy2 := (blk_cell BY.out 2).trans rfl
  have cz0 := (blk_cell BZ.out 0).trans rfl
  have cz1 := (blk_cell BZ.out 1).trans rfl
  have cz2 := (blk_cell BZ.out 2).trans rfl
  have ct0 := (blk_cell BT.out 0).trans rfl
  have ct1 := (blk_cell BT.out 1).trans rfl
  have ct2 := (blk_cell BT.out 2).trans rfl
  have cn0 := (blk_cell BN.out 0).trans rfl
  have cn1 := (blk_cell BN.out 1).trans rfl
  have cn2 := (blk_cell BN.out 2).trans rfl
  have co0 := (blk_cell BO.out 0).trans rfl
  have co1 := (blk_cell BO.out 1).trans rfl
  have co2 := (blk_cell BO.out 2).trans rfl
  go_wp2_with fail
  refine (prod35 2 _ 2 a6N _ 2 a6E 2 _ 2 a6N _ 2 a6E 9 2 q6N q6E 0 V14 CA1.out (by decide) CA2.out (by decide) CA1.out (by decide) CA2.out (by decide) g6e).mono ?_
  rintro e_ V15 ⟨v1, v2, rfl, hs, hr, hb⟩
  obtain ⟨Q1, q1, rfl⟩ := Kd.S_slice hs
  obtain ⟨Q2, q2, rfl⟩ := Kd.R_slice hr
  have GQ : Aside0 (Got 0 Q1 q1 q6N Q2 q2 q6E V15) := ⟨⟨(Kd.S_reads' hs).2.1, (Kd.S_reads' hs).2.2, (Kd.R_reads' hr).2.1, (Kd.R_reads' hr).2.2⟩⟩
  have n_CA1 := Aside0.mk (Kd.C_below CA1.out hb)
  have n_CA2 := Aside0.mk (Kd.C_below CA2.out hb)
  have n_CB1 := Aside0.mk (Kd.C_below CB1.out hb)
  have n_CB2 := Aside0.mk (Kd.C_below CB2.out hb)
  have n_XA := Aside0.mk (blk_below XA.out hb)
  have n_XB := Aside0.mk (blk_below XB.out hb)
  have n_BL := Aside0.mk (BL.out.trans (Below.mono hb BL.out.size))
  have n_GB := Aside0.mk (Got.below GB.out hb)
  have n_GX := Aside0.mk (Got.below GX.out hb)
  have n_BX := Aside0.mk (blk_below BX.out hb)
  have n_GY := Aside0.mk (Got.below GY.out hb)
  have n_BY := Aside0.mk (blk_below BY.out hb)
  have n_GZ := Aside0.mk (Got.below GZ.out hb)
  have n_BZ := Aside0.mk (blk_below BZ.out hb)
  have n_GT := Aside0.mk (Got.below GT.out hb)
  have n_BT := Aside0.mk (blk_below BT.out hb)
  have n_GN := Aside0.mk (Got.below GN.out hb)
  have n_BN := Aside0.mk (blk_below BN.out hb)
  have n_GO := Aside0.mk (Got.below GO.out hb)
  have n_BO := Aside0.mk (blk_below BO.out hb)
  clear CA1 CA2 CB1 CB2 XA XB BL GB GX BX GY BY GZ BZ GT BT GN BN GO BO
  have CA1 := n_CA1
  have CA2 := n_CA2
  have CB1 := n_CB1
  have CB2 := n_CB2
  have XA := n_XA
  have XB := n_XB
  have BL := n_BL
  have GB := n_GB
  have GX := n_GX
  have BX := n_BX
  have GY := n_GY
  have BY := n_BY
  have GZ := n_GZ
  have BZ := n_BZ
  have GT := n_GT
  have BT := n_BT
  have GN := n_GN
  have BN := n_BN
  have GO := n_GO
  have BO := n_BO
  clear n_CA1 n_CA2 n_CB1 n_CB2 n_XA n_XB n_BL n_GB n_GX n_BX n_GY n_BY n_GZ n_BZ n_GT n_BT n_GN n_BN n_GO n_BO
  clear hs hr hb
  clear k0 k1 k2
  clear l0 l1 l2
  clear cx0 cx1 cx2
  clear cy0 cy1 cy2
  clear cz0 cz1 cz2
  clear ct0 ct1 ct2
  clear cn0 cn1 cn2
  clear co0 co1 co2
  have k0 := (blk_cell XA.out 0).trans rfl
  have k1 := (blk_cell XA.out 1).trans rfl
  have k2 := (blk_cell XA.out 2).trans rfl
  have l0 := (blk_cell XB.out 0).trans rfl
  have l1 := (blk_cell XB.out 1).trans rfl
  have l2 := (blk_cell XB.out 2).trans rfl
  have cx0 := (blk_cell BX.out 0).trans rfl
  have cx1 := (blk_cell BX.out 1).trans rfl
  have cx2 := (blk_cell BX.out 2).trans rfl
  have cy0 := (blk_cell BY.out 0).trans rfl
  have cy1 := (blk_cell BY.out 1).trans rfl
  have cy2 := (blk_cell BY.out 2).trans rfl
  have cz0 := (blk_cell BZ.out 0).trans rfl
  have cz1 := (blk_cell BZ.out 1).trans rfl
  have cz2 := (blk_cell BZ.out 2).trans rfl
  have ct0 := (blk_cell BT.out 0).trans rfl
  have ct1 := (blk_cell BT.out 1).trans rfl
  have ct2 := (blk_cell BT.out 2).trans rfl
  have cn0 := (blk_cell BN.out 0).trans rfl
  have cn1 := (blk_cell BN.out 1).trans rfl
  have cn2 := (blk_cell BN.out 2).trans rfl
  have co0 := (blk_cell BO.out 0).trans rfl
  have co1 := (blk_cell BO.out 1).trans rfl
  have co2 := (blk_cell BO.out 2).trans rfl
  go_upto_region 11 with (fail)
  obtain ⟨V16, h_⟩ : ∃ W_, W_ = V15.alloc (.cells #[.int .i64 2, .slice Q1 q6N.length q1, .slice Q2 q6E.length q2] 25) := ⟨_, rfl⟩
  have hb_ : Below V15.heap.size V15 V16 := by rw [h_]; exact below_alloc (Below.refl _ _) _
  have hx_ : V16.heap[V15.heap.size]? = some (.cells #[.int .i64 2, .slice Q1 q6N.length q1, .slice Q2 q6E.length q2] 25 (0, 0)) := by rw [h_]; exact blk_new _ _
  rw [← h_]
  clear h_
  have n_CA1 := Aside0.mk (Kd.C_below CA1.out hb_)
  have n_CA2 := Aside0.mk (Kd.C_below CA2.out hb_)
  have n_CB1 := Aside0.mk (Kd.C_below CB1.out hb_)
  have n_CB2 := Aside0.mk (Kd.C_below CB2.out hb_)
  have n_XA := Aside0.mk (blk_below XA.out hb_)
  have n_XB := Aside0.mk (blk_below XB.out hb_)
  have n_BL := Aside0.mk (BL.out.trans (Below.mono hb_ BL.out.size))
  have n_GB := Aside0.mk (Got.below GB.out hb_)
  have n_GX := Aside0.mk (Got.below GX.out hb_)
  have n_BX := Aside0.mk (blk_below BX.out hb_)
  have n_GY := Aside0.mk (Got.below GY.out hb_)
  have n_BY := Aside0.mk (blk_below BY.out hb_)
  have n_GZ := Aside0.mk (Got.below GZ.out hb_)
  have n_BZ := Aside0.mk (blk_below BZ.out hb_)
  have n_GT := Aside0.mk (Got.below GT.out hb_)
  have n_BT := Aside0.mk (blk_below BT.out hb_)
  have n_GN := Aside0.mk (Got.below GN.out hb_)
  have n_BN := Aside0.mk (blk_below BN.out hb_)
  have n_GO := Aside0.mk (Got.below GO.out hb_)
  have n_BO := Aside0.mk (blk_below BO.out hb_)
  have n_GQ := Aside0.mk (Got.below GQ.out hb_)
  clear CA1 CA2 CB1 CB2 XA XB BL GB GX BX GY BY GZ BZ GT BT GN BN GO BO GQ
  have CA1 := n_CA1
  have CA2 := n_CA2
  have CB1 := n_CB1
  have CB2 := n_CB2
  have XA := n_XA
  have XB := n_XB
  have BL := n_BL
  have GB := n_GB
  have GX := n_GX
  have BX := n_BX
  have GY := n_GY
  have BY := n_BY
  have GZ := n_GZ
  have BZ := n_BZ
  have GT := n_GT
  have BT := n_BT
  have GN := n_GN
  have BN := n_BN
  have GO := n_GO
  have BO := n_BO
  have GQ := n_GQ
  clear n_CA1 n_CA2 n_CB1 n_CB2 n_XA n_XB n_BL n_GB n_GX n_BX n_GY n_BY n_GZ n_BZ n_GT n_BT n_GN n_BN n_GO n_BO n_GQ
  clear hb_
  obtain ⟨gq, e_⟩ : ∃ g_, g_ = V15.heap.size := ⟨_, rfl⟩
  rw [← e_] at hx_ ⊢
  clear e_
  have BQ := Aside0.mk hx_
  clear hx_
  clear k0 k1 k2
  clear l0 l1 l2
  clear cx0 cx1 cx2
  clear cy0 cy1 cy2
  clear cz0 cz1 cz2
  clear ct0 ct1 ct2
  clear cn0 cn1 cn2
  clear co0 co1 co2
  have k0 := (blk_cell XA.out 0).trans rfl
  have k1 := (blk_cell XA.out 1).trans rfl
  have k2 := (blk_cell XA.out 2).trans rfl
  have l0 := (blk_cell XB.out 0).trans rfl
  have l1 := (blk_cell XB.out 1).trans rfl
  have l2 := (blk_cell XB.out 2).trans rfl
  have cx0 := (blk_cell BX.out 0).trans rfl
  have cx1 := (blk_cell BX.out 1).trans rfl
  have cx2 := (blk_cell BX.out 2).trans rfl
  have cy0 := (blk_cell BY.out 0).trans rfl
  have cy1 := (blk_cell BY.out 1).trans rfl
  have cy2 := (blk_cell BY.out 2).trans rfl
  have cz0 := (blk_cell BZ.out 0).trans rfl
  have cz1 := (blk_cell BZ.out 1).trans rfl
  have cz2 := (blk_cell BZ.out 2).trans rfl
  have ct0 := (blk_cell BT.out 0).trans rfl
  have ct1 := (blk_cell BT.out 1).trans rfl
  have ct2 := (blk_cell BT.out 2).trans rfl
  have cn0 := (blk_cell BN.out 0).trans rfl
  have cn1 := (blk_cell BN.out 1).trans rfl
  have cn2 := (blk_cell BN.out 2).trans rfl
  have co0 := (blk_cell BO.out 0).trans rfl
  have co1 := (blk_cell BO.out 1).trans rfl
  have co2 := (blk_cell BO.out 2).trans rfl
  have cq0 := (blk_cell BQ.out 0).trans rfl
  have cq1 := (blk_cell BQ.out 1).trans rfl
  have cq2 := (blk_cell BQ.out 2).trans rfl
  go_wp2_with fail
  obtain ⟨V17, h_⟩ : ∃ W_, W_ = V16.alloc (.cells #[.int .i64 0, .int .i64 1, .int .i64 0] 3) := ⟨_, rfl⟩
  have hb_ : Below V16.heap.size V16 V17 := by rw [h_]; exact below_alloc (Below.refl _ _) _
  have hx_ : V17.heap[V16.heap.size]? = some (.cells #[.int .i64 0, .int .i64 1, .int .i64 0] 3 (0, 0)) := by rw [h_]; exact blk_new _ _
  rw [← h_]
  clear h_
  have n_CA1 := Aside0.mk (Kd.C_below CA1.out hb_)
  have n_CA2 := Aside0.mk (Kd.C_below CA2.out hb_)
  have n_CB1 := Aside0.mk (Kd.C_below CB1.out hb_)
  have n_CB2 := Aside0.mk (Kd.C_below CB2.out hb_)
  have n_XA := Aside0.mk (blk_below XA.out hb_)
  have n_XB := Aside0.mk (blk_below XB.out hb_)
  have n_BL := Aside0.mk (BL.out.trans (Below.mono hb_ BL.out.size))
  have n_GB := Aside0.mk (Got.below GB.out hb_)
  have n_GX := Aside0.mk (Got.below GX.out hb_)
  have n_BX := Aside0.mk (blk_below BX.out hb_)
  have n_GY := Aside0.mk (Got.below GY.out hb_)
  have n_BY := Aside0.mk (blk_below BY.out hb_)
  have n_GZ := Aside0.mk (Got.below GZ.out hb_)
  have n_BZ := Aside0.mk (blk_below BZ.out hb_)
  have n_GT := Aside0.mk (Got.below GT.out hb_)
  have n_BT := Aside0.mk (blk_below BT.out hb_)
  have n_GN := Aside0.mk (Got.below GN.out hb_)
  have n_BN := Aside0.mk (blk_below BN.out hb_)
  have n_GO := Aside0.mk (Got.below GO.out hb_)
  have n_BO := Aside0.mk (blk_below BO.out hb_)
  have n_GQ := Aside0.mk (Got.below GQ.out hb_)
  have n_BQ := Aside0.mk (blk_below BQ.out hb_)
  clear CA1 CA2 CB1 CB2 XA XB BL GB GX BX GY BY GZ BZ GT BT GN BN GO BO GQ BQ
  have CA1 := n_CA1
  have CA2 := n_CA2
  have CB1 := n_CB1
  have CB2 := n_CB2
  have XA := n_XA
  have XB := n_XB
  have BL := n_BL
  have GB := n_GB
  have GX := n_GX
  have BX := n_BX
  have GY := n_GY
  have BY := n_BY
  have GZ := n_GZ
  have BZ := n_BZ
  have GT := n_GT
  have BT := n_BT
  have GN := n_GN
  have BN := n_BN
  have GO := n_GO
  have BO := n_BO
  have GQ := n_GQ
  have BQ := n_BQ
  clear n_CA1 n_CA2 n_CB1 n_CB2 n_XA n_XB n_BL n_GB n_GX n_BX n_GY n_BY n_GZ n_BZ n_GT n_BT n_GN n_BN n_GO n_BO n_GQ n_BQ
  clear hb_
  obtain ⟨gl1, e_⟩ : ∃ g_, g_ = V16.heap.size := ⟨_, rfl⟩
  rw [← e_] at hx_ ⊢
  clear e_
  have LX1 := Aside0.mk hx_
  clear hx_
  clear k0 k1 k2
  clear l0 l1 l2
  clear cx0 cx1 cx2
  clear cy0 cy1 cy2
  clear cz0 cz1 cz2
  clear ct0 ct1 ct2
  clear cn0 cn1 cn2
  clear co0 co1 co2
  clear cq0 cq1 cq2
  have k0 := (blk_cell XA.out 0).trans rfl
  have k1 := (blk_cell XA.out 1).trans rfl
  have k2 := (blk_cell XA.out 2).trans rfl
  have l0 := (blk_cell XB.out 0).trans rfl
  have l1 := (blk_cell XB.out 1).trans rfl
  have l2 := (blk_cell XB.out 2).trans rfl
  have cx0 := (blk_cell BX.out 0).trans rfl
  have cx1 := (blk_cell BX.out 1).trans rfl
  have cx2 := (blk_cell BX.out 2).trans rfl
  have cy0 := (blk_cell BY.out 0).trans rfl
  have cy1 := (blk_cell BY.out 1).trans rfl
  have cy2 := (blk_cell BY.out 2).trans rfl
  have cz0 := (blk_cell BZ.out 0).trans rfl
  have cz1 := (blk_cell BZ.out 1).trans rfl
  have cz2 := (blk_cell BZ.out 2).trans rfl
  have ct0 := (blk_cell BT.out 0).trans rfl
  have ct1 := (blk_cell BT.out 1).trans rfl
  have ct2 := (blk_cell BT.out 2).trans rfl
  have cn0 := (blk_cell BN.out 0).trans rfl
  have cn1 := (blk_cell BN.out 1).trans rfl
  have cn2 := (blk_cell BN.out 2).trans rfl
  have co0 := (blk_cell BO.out 0).trans rfl
  have co1 := (blk_cell BO.out 1).trans rfl
  have co2 := (blk_cell BO.out 2).trans rfl
  have cq0 := (blk_cell BQ.out 0).trans rfl
  have cq1 := (blk_cell BQ.out 1).trans rfl
  have cq2 := (blk_cell BQ.out 2).trans rfl
  refine (K.det_Accepts.calls 60 2 X1 x1 p6N X2 x2 x6E (some ⟨gl1, 0, none⟩) 3 [0, 1, 0] true V17 GX.out.n2 GX.out.n1 GX.out.e2 GX.out.e1 (C_ints (xs := [0, 1, 0]) LX1.out (by decide)) (by decide) h6a).mono ?_
  rintro e_ V18 ⟨rfl, hb⟩
  have n_CA1 := Aside0.mk (Kd.C_below CA1.out hb)
  have n_CA2 := Aside0.mk (Kd.C_below CA2.out hb)
  have n_CB1 := Aside0.mk (Kd.C_below CB1.out hb)
  have n_CB2 := Aside0.mk (Kd.C_below CB2.out hb)
  have n_XA := Aside0.mk (blk_below XA.out hb)
  have n_XB := Aside0.mk (blk_below XB.out hb)
  have n_BL := Aside0.mk (BL.out.trans (Below.mono hb BL.out.size))
  have n_GB := Aside0.mk (Got.below GB.out hb)
  have n_GX := Aside0.mk (Got.below GX.out hb)
  have n_BX := Aside0.mk (blk_below BX.out hb)
  have n_GY := Aside0.mk (Got.below GY.out hb)
  have n_BY := Aside0.mk (blk_below BY.out hb)
  have n_GZ := Aside0.mk (Got.below GZ.out hb)
  have n_BZ := Aside0.mk (blk_below BZ.out hb)
  have n_GT := Aside0.mk (Got.below GT.out hb)
  have n_BT := Aside0.mk (blk_below BT.out hb)
  have n_GN := Aside0.mk (Got.below GN.out hb)
  have n_BN := Aside0.mk (blk_below BN.out hb)
  have n_GO := Aside0.mk (Got.below GO.out hb)
  have n_BO := Aside0.mk (blk_below BO.out hb)
  have n_GQ := Aside0.mk (Got.below GQ.out hb)
  have n_BQ := Aside0.mk (blk_below BQ.out hb)
  have n_LX1 := Aside0.mk (blk_below LX1.out hb)
  clear CA1 CA2 CB1 CB2 XA XB BL GB GX BX GY BY GZ BZ GT BT GN BN GO BO GQ BQ LX1
  have CA1 := n_CA1
  have CA2 := n_CA2
  have CB1 := n_CB1
  have CB2 := n_CB2
  have XA := n_XA
  have XB := n_XB
  have BL := n_BL
  have GB := n_GB
  have GX := n_GX
  have BX := n_BX
  have GY := n_GY
  have BY := n_BY
  have GZ := n_GZ
  have BZ := n_BZ
  have GT := n_GT
  have BT := n_BT
  have GN := n_GN
  have BN := n_BN
  have GO := n_GO
  have BO := n_BO
  have GQ := n_GQ
  have BQ := n_BQ
  have LX1 := n_LX1
  clear n_CA1 n_CA2 n_CB1 n_CB2 n_XA n_XB n_BL n_GB n_GX n_BX n_GY n_BY n_GZ n_BZ n_GT n_BT n_GN n_BN n_GO n_BO n_GQ n_BQ n_LX1
  clear hb
  clear k0 k1 k2
  clear l0 l1 l2
  clear cx0 cx1 cx2
  clear cy0 cy1 cy2
  clear cz0 cz1 cz2
  clear ct0 ct1 ct2
  clear cn0 cn1 cn2
  clear co0 co1 co2
  clear cq0 cq1 cq2
  have k0 := (blk_cell XA.out 0).trans rfl
  have k1 := (blk_cell XA.out 1).trans rfl
  have k2 := (blk_cell XA.out 2).trans rfl
  have l0 := (blk_cell XB.out 0).trans rfl
  have l1 := (blk_cell XB.out 1).trans rfl
  have l2 := (blk_cell XB.out 2).trans rfl
  have cx0 := (blk_cell BX.out 0).trans rfl
  have cx1 := (blk_cell BX.out 1).trans rfl
  have cx2 := (blk_cell BX.out 2).trans rfl
  have cy0 := (blk_cell BY.out 0).trans rfl
  have cy1 := (blk_cell BY.out 1).trans rfl
  have cy2 := (blk_cell BY.out 2).trans rfl
  have cz0 := (blk_cell BZ.out 0).trans rfl
  have cz1 := (blk_cell BZ.out 1).trans rfl
  have cz2 := (blk_cell BZ.out 2).trans rfl
  have ct0 := (blk_cell BT.out 0).trans rfl
  have ct1 := (blk_cell BT.out 1).trans rfl
  have ct2 := (blk_cell BT.out 2).trans rfl
  have cn0 := (blk_cell BN.out 0).trans rfl
  have cn1 := (blk_cell BN.out 1).trans rfl
  have cn2 := (blk_cell BN.out 2).trans rfl
  have co0 := (blk_cell BO.out 0).trans rfl
  have co1 := (blk_cell BO.out 1).trans rfl
  have co2 := (blk_cell BO.out 2).trans rfl
  have cq0 := (blk_cell BQ.out 0).trans rfl
  have cq1 := (blk_cell BQ.out 1).trans rfl
  have cq2 := (blk_cell BQ.out 2).trans rfl
  clear LX1
  go_wp2_with fail
  obtain ⟨V19, h_⟩ : ∃ W_, W_ = V18.alloc (.cells #[.int .i64 0, .int .i64 0] 3) := ⟨_, rfl⟩
  have hb_ : Below V18.heap.size V18 V19 := by rw [h_]; exact below_alloc (Below.refl _ _) _
  have hx_ : V19.heap[V18.heap.size]? = some (.cells #[.int .i64 0, .int .i64 0] 3 (0, 0)) := by rw [h_]; exact blk_new _ _
  rw [← h_]
  clear h_
  have n_CA1 := Aside0.mk (Kd.C_below CA1.out hb_)
  have n_CA2 := Aside0.mk (Kd.C_below CA2.out hb_)
  have n_CB1 := Aside0.mk (Kd.C_below CB1.out hb_)
  have n_CB2 := Aside0.mk (Kd.C_below CB2.out hb_)
  have n_XA := Aside0.mk (blk_below XA.out hb_)
  have n_XB := Aside0.mk (blk_below XB.out hb_)
  have n_BL := Aside0.mk (BL.out.trans (Below.mono hb_ BL.out.size))
  have n_GB := Aside0.mk (Got.below GB.out hb_)
  have n_GX := Aside0.mk (Got.below GX.out hb_)
  have n_BX := Aside0.mk (blk_below BX.out hb_)
  have n_GY := Aside0.mk (Got.below GY.out hb_)
  have n_BY := Aside0.mk (blk_below BY.out hb_)
  have n_GZ := Aside0.mk (Got.below GZ.out hb_)
  have n_BZ := Aside0.mk (blk_below BZ.out hb_)
  have n_GT := Aside0.mk (Got.below GT.out hb_)
  have n_BT := Aside0.mk (blk_below BT.out hb_)
  have n_GN := Aside0.mk (Got.below GN.out hb_)
  have n_BN := Aside0.mk (blk_below BN.out hb_)
  have n_GO := Aside0.mk (Got.below GO.out hb_)
  have n_BO := Aside0.mk (blk_below BO.out hb_)
  have n_GQ := Aside0.mk (Got.below GQ.out hb_)
  have n_BQ := Aside0.mk (blk_below BQ.out hb_)
  clear CA1 CA2 CB1 CB2 XA XB BL GB GX BX GY BY GZ BZ GT BT GN BN GO BO GQ BQ
  have CA1 := n_CA1
  have CA2 := n_CA2
  have CB1 := n_CB1
  have CB2 := n_CB2
  have XA := n_XA
  have XB := n_XB
  have BL := n_BL
  have GB := n_GB
  have GX := n_GX
  have BX := n_BX
  have GY := n_GY
  have BY := n_BY
  have GZ := n_GZ
  have BZ := n_BZ
  have GT := n_GT
  have BT := n_BT
  have GN := n_GN
  have BN := n_BN
  have GO := n_GO
  have BO := n_BO
  have GQ := n_GQ
  have BQ := n_BQ
  clear n_CA1 n_CA2 n_CB1 n_CB2 n_XA n_XB n_BL n_GB n_GX n_BX n_GY n_BY n_GZ n_BZ n_GT n_BT n_GN n_BN n_GO n_BO n_GQ n_BQ
  clear hb_
  obtain ⟨gl2, e_⟩ : ∃ g_, g_ = V18.heap.size := ⟨_, rfl⟩
  rw [← e_] at hx_ ⊢
  clear e_
  have LX2 := Aside0.mk hx_
  clear hx_
  clear k0 k1 k2
  clear l0 l1 l2
  clear cx0 cx1 cx2
  clear cy0 cy1 cy2
  clear cz0 cz1 cz2
  clear ct0 ct1 ct2
  clear cn0 cn1 cn2
  clear co0 co1 co2
  clear cq0 cq1 cq2
  have k0 := (blk_cell XA.out 0).trans rfl
  have k1 := (blk_cell XA.out 1).trans rfl
  have k2 := (blk_cell XA.out 2).trans rfl
  have l0 := (blk_cell XB.out 0).trans rfl
  have l1 := (blk_cell XB.out 1).trans rfl
  have l2 := (blk_cell XB.out 2).trans rfl
  have cx0 := (blk_cell BX.out 0).trans rfl
  have cx1 := (blk_cell BX.out 1).trans rfl
  have cx2 := (blk_cell BX.out 2).trans rfl
  have cy0 := (blk_cell BY.out 0).trans rfl
  have cy1 := (blk_cell BY.out 1).trans rfl
  have cy2 := (blk_cell BY.out 2).trans rfl
  have cz0 := (blk_cell BZ.out 0).trans rfl
  have cz1 := (blk_cell BZ.out 1).trans rfl
  have cz2 := (blk_cell BZ.out 2).trans rfl
  have ct0 := (blk_cell BT.out 0).trans rfl
  have ct1 := (blk_cell BT.out 1).trans rfl
  have ct2 := (blk_cell BT.out 2).trans rfl
  have cn0 := (blk_cell BN.out 0).trans rfl
  have cn1 := (blk_cell BN.out 1).trans rfl
  have cn2 := (blk_cell BN.out 2).trans rfl
  have co0 := (blk_cell BO.out 0).trans rfl
  have co1 := (blk_cell BO.out 1).trans rfl
  have co2 := (blk_cell BO.out 2).trans rfl
  have cq0 := (blk_cell BQ.out 0).trans rfl
  have cq1 := (blk_cell BQ.out 1).trans rfl
  have cq2 := (blk_cell BQ.out 2).trans rfl
  refine (K.det_Accepts.calls 60 2 X1 x1 p6N X2 x2 x6E (some ⟨gl2, 0, none⟩) 2 [0, 0] false V19 GX.out.n2 GX.out.n1 GX.out.e2 GX.out.e1 (C_ints (xs := [0, 0]) LX2.out (by decide)) (by decide) h6b).mono ?_
  rintro e_ V20 ⟨rfl, hb⟩
  have n_CA1 := Aside0.mk (Kd.C_below CA1.out hb)
  have n_CA2 := Aside0.mk (Kd.C_below CA2.out hb)
  have n_CB1 := Aside0.mk (Kd.C_below CB1.out hb)
  have n_CB2 := Aside0.mk (Kd.C_below CB2.out hb)
  have n_XA := Aside0.mk (blk_below XA.out hb)
  have n_XB := Aside0.mk (blk_below XB.out hb)
  have n_BL := Aside0.mk (BL.out.trans (Below.mono hb BL.out.size))
  have n_GB := Aside0.mk (Got.below GB.out hb)
  have n_GX := Aside0.mk (Got.below GX.out hb)
  have n_BX := Aside0.mk (blk_below BX.out hb)
  have n_GY := Aside0.mk (Got.below GY.out hb)
  have n_BY := Aside0.mk (blk_below BY.out hb)
  have n_GZ := Aside0.mk (Got.below GZ.out hb)
  have n_BZ := Aside0.mk (blk_below BZ.out hb)
  have n_GT := Aside0.mk (Got.below GT.out hb)
  have n_BT := Aside0.mk (blk_below BT.out hb)
  have n_GN := Aside0.mk (Got.below GN.out hb)
  have n_BN := Aside0.mk (blk_below BN.out hb)
  have n_GO := Aside0.mk (Got.below GO.out hb)
  have n_BO := Aside0.mk (blk_below BO.out hb)
  have n_GQ := Aside0.mk (Got.below GQ.out hb)
  have n_BQ := Aside0.mk (blk_below BQ.out hb)
  have n_LX2 := Aside0.mk (blk_below LX2.out hb)
  clear CA1 CA2 CB1 CB2 XA XB BL GB GX BX GY BY GZ BZ GT BT GN BN GO BO GQ BQ LX2
  have CA1 := n_CA1
  have CA2 := n_CA2
  have CB1 := n_CB1
  have CB2 := n_CB2
  have XA := n_XA
  have XB := n_XB
  have BL := n_BL
  have GB := n_GB
  have GX := n_GX
  have BX := n_BX
  have GY := n_GY
  have BY := n_BY
  have GZ := n_GZ
  have BZ := n_BZ
  have GT := n_GT
  have BT := n_BT
  have GN := n_GN
  have BN := n_BN
  have GO := n_GO
  have BO := n_BO
  have GQ := n_GQ
  have BQ := n_BQ
  have LX2 := n_LX2
  clear n_CA1 n_CA2 n_CB1 n_CB2 n_XA n_XB n_BL n_GB n_GX n_BX n_GY n_BY n_GZ n_BZ n_GT n_BT n_GN n_BN n_GO n_BO n_GQ n_BQ n_LX2
  clear hb
  clear k0 k1 k2
  clear l0 l1 l2
  clear cx0 cx1 cx2
  clear cy0 cy1 cy2
  clear cz0 cz1 cz2
  clear ct0 ct1 ct2
  clear cn0 cn1 cn2
  clear co0 co1 co2
  clear cq0 cq1 cq2
  have k0 := (blk_cell XA.out 0).trans rfl
  have k1 := (blk_cell XA.out 1).trans rfl
  have k2 := (blk_cell XA.out 2).trans rfl
  have l0 := (blk_cell XB.out 0).trans rfl
  have l1 := (blk_cell XB.out 1).trans rfl
  have l2 := (blk_cell XB.out 2).trans rfl
  have cx0 := (blk_cell BX.out 0).trans rfl
  have cx1 := (blk_cell BX.out 1).trans rfl
  have cx2 := (blk_cell BX.out 2).trans rfl
  have cy0 := (blk_cell BY.out 0).trans rfl
  have cy1 := (blk_cell BY.out 1).trans rfl
  have cy2 := (blk_cell BY.out 2).trans rfl
  have cz0 := (blk_cell BZ.out 0).trans rfl
  have cz1 := (blk_cell BZ.out 1).trans rfl
  have cz2 := (blk_cell BZ.out 2).trans rfl
  have ct0 := (blk_cell BT.out 0).trans rfl
  have ct1 := (blk_cell BT.out 1).trans rfl
  have ct2 := (blk_cell BT.out 2).trans rfl
  have cn0 := (blk_cell BN.out 0).trans rfl
  have cn1 := (blk_cell BN.out 1).trans rfl
  have cn2 := (blk_cell BN.out 2).trans rfl
  have co0 := (blk_cell BO.out 0).trans rfl
  have co1 := (blk_cell BO.out 1).trans rfl
  have co2 := (blk_cell BO.out 2).trans rfl
  have cq0 := (blk_cell BQ.out 0).trans rfl
  have cq1 := (blk_cell BQ.out 1).trans rfl
  have cq2 := (blk_cell BQ.out 2).trans rfl
  clear LX2
  go_wp2_with fail
  obtain ⟨V21, h_⟩ : ∃ W_, W_ = V20.alloc (.cells #[.int .i64 0, .int .i64 0] 3) := ⟨_, rfl⟩
  have hb_ : Below V20.heap.size V20 V21 := by rw [h_]; exact below_alloc (Below.refl _ _) _
  have hx_ : V21.heap[V20.heap.size]? = some (.cells #[.int .i64 0, .int .i64 0] 3 (0, 0)) := by rw [h_]; exact blk_new _ _
  rw [← h_]
  clear h_
  have n_CA1 := Aside0.mk (Kd.C_below CA1.out hb_)
  have n_CA2 := Aside0.mk (Kd.C_below CA2.out hb_)
  have n_CB1 := Aside0.mk (Kd.C_below CB1.out hb_)
  have n_CB2 := Aside0.mk (Kd.C_below CB2.out hb_)
  have n_XA := Aside0.mk (blk_below XA.out hb_)
  have n_XB := Aside0.mk (blk_below XB.out hb_)
  have n_BL := Aside0.mk (BL.out.trans (Below.mono hb_ BL.out.size))
  have n_GB := Aside0.mk (Got.below GB.out hb_)
  have n_GX := Aside0.mk (Got.below GX.out hb_)
  have n_BX := Aside0.mk (blk_below BX.out hb_)
  have n_GY := Aside0.mk (Got.below GY.out hb_)
  have n_BY := Aside0.mk (blk_below BY.out hb_)
  have n_GZ := Aside0.mk (Got.below GZ.out hb_)
  have n_BZ := Aside0.mk (blk_below BZ.out hb_)
  have n_GT := Aside0.mk (Got.below GT.out hb_)
  have n_BT := Aside0.mk (blk_below BT.out hb_)
  have n_GN := Aside0.mk (Got.below GN.out hb_)
  have n_BN := Aside0.mk (blk_below BN.out hb_)
  have n_GO := Aside0.mk (Got.below GO.out hb_)
  have n_BO := Aside0.mk (blk_below BO.out hb_)
  have n_GQ := Aside0.mk (Got.below GQ.out hb_)
  have n_BQ := Aside0.mk (blk_below BQ.out hb_)
  clear CA1 CA2 CB1 CB2 XA XB BL GB GX BX GY BY GZ BZ GT BT GN BN GO BO GQ BQ
  have CA1 := n_CA1
  have CA2 := n_CA2
  have CB1 := n_CB1
  have CB2 := n_CB2
  have XA := n_XA
  have XB := n_XB
  have BL := n_BL
  have GB := n_GB
  have GX := n_GX
  have BX := n_BX
  have GY := n_GY
  have BY := n_BY
  have GZ := n_GZ
  have BZ := n_BZ
  have GT := n_GT
  have BT := n_BT
  have GN := n_GN
  have BN := n_BN
  have GO := n_GO
  have BO := n_BO
  have GQ := n_GQ
  have BQ := n_BQ
  clear n_CA1 n_CA2 n_CB1 n_CB2 n_XA n_XB n_BL n_GB n_GX n_BX n_GY n_BY n_GZ n_BZ n_GT n_BT n_GN n_BN n_GO n_BO n_GQ n_BQ
  clear hb_
  obtain ⟨gl3, e_⟩ : ∃ g_, g_ = V20.heap.size := ⟨_, rfl⟩
  rw [← e_] at hx_ ⊢
  clear e_
  have LX3 := Aside0.mk hx_
  clear hx_
  clear k0 k1 k2
  clear l0 l1 l2
  clear cx0 cx1 cx2
  clear cy0 cy1 cy2
  clear cz0 cz1 cz2
  clear ct0 ct1 ct2
  clear cn0 cn1 cn2
  clear co0 co1 co2
  clear cq0 cq1 cq2
  have k0 := (blk_cell XA.out 0).trans rfl
  have k1 := (blk_cell XA.out 1).trans rfl
  have k2 := (blk_cell XA.out 2).trans rfl
  have l0 := (blk_cell XB.out 0).trans rfl
  have l1 := (blk_cell XB.out 1).trans rfl
  have l2 := (blk_cell XB.out 2).trans rfl
  have cx0 := (blk_cell BX.out 0).trans rfl
  have cx1 := (blk_cell BX.out 1).trans rfl
  have cx2 := (blk_cell BX.out 2).trans rfl
  have cy0 := (blk_cell BY.out 0).trans rfl
  have cy1 := (blk_cell BY.out 1).trans rfl
  have cy2 := (blk_cell BY.out 2).trans rfl
  have cz0 := (blk_cell BZ.out 0).trans rfl
  have cz1 := (blk_cell BZ.out 1).trans rfl
  have cz2 := (blk_cell BZ.out 2).trans rfl
  have ct0 := (blk_cell BT.out 0).trans rfl
  have ct1 := (blk_cell BT.out 1).trans rfl
  have ct2 := (blk_cell BT.out 2).trans rfl
  have cn0 := (blk_cell BN.out 0).trans rfl
  have cn1 := (blk_cell BN.out 1).trans rfl
  have cn2 := (blk_cell BN.out 2).trans rfl
  have co0 := (blk_cell BO.out 0).trans rfl
  have co1 := (blk_cell BO.out 1).trans rfl
  have co2 := (blk_cell BO.out 2).trans rfl
  have cq0 := (blk_cell BQ.out 0).trans rfl
  have cq1 := (blk_cell BQ.out 1).trans rfl
  have cq2 := (blk_cell BQ.out 2).trans rfl
  refine (K.det_Accepts.calls 60 2 Y1 y1 p6N Y2 y2 y6E (some ⟨gl3, 0, none⟩) 2 [0, 0] true V21 GY.out.n2 GY.out.n1 GY.out.e2 GY.out.e1 (C_ints (xs := [0, 0]) LX3.out (by decide)) (by decide) h6c).mono ?_
  rintro e_ V22 ⟨rfl, hb⟩
  have n_CA1 := Aside0.mk (Kd.C_below CA1.out hb)
  have n_CA2 := Aside0.mk (Kd.C_below CA2.out hb)
  have n_CB1 := Aside0.mk (Kd.C_below CB1.out hb)
  have n_CB2 := Aside0.mk (Kd.C_below CB2.out hb)
  have n_XA := Aside0.mk (blk_below XA.out hb)
  have n_XB := Aside0.mk (blk_below XB.out hb)
  have n_BL := Aside0.mk (BL.out.trans (Below.mono hb BL.out.size))
  have n_GB := Aside0.mk (Got.below GB.out hb)
  have n_GX := Aside0.mk (Got.below GX.out hb)
  have n_BX := Aside0.mk (blk_below BX.out hb)
  have n_GY := Aside0.mk (Got.below GY.out hb)
  have n_BY := Aside0.mk (blk_below BY.out hb)
  have n_GZ := Aside0.mk (Got.below GZ.out hb)
  have n_BZ := Aside0.mk (blk_below BZ.out hb)
  have n_GT := Aside0.mk (Got.below GT.out hb)
  have n_BT := Aside0.mk (blk_below BT.out hb)
  have n_GN := Aside0.mk (Got.below GN.out hb)
  have n_BN := Aside0.mk (blk_below BN.out hb)
  have n_GO := Aside0.mk (Got.below GO.out hb)
  have n_BO := Aside0.mk (blk_below BO.out hb)
  have n_GQ := Aside0.mk (Got.below GQ.out hb)
  have n_BQ := Aside0.mk (blk_below BQ.out hb)
  have n_LX3 := Aside0.mk (blk_below LX3.out hb)
  clear CA1 CA2 CB1 CB2 XA XB BL GB GX BX GY BY GZ BZ GT BT GN BN GO BO GQ BQ LX3
  have CA1 := n_CA1
  have CA2 := n_CA2
  have CB1 := n_CB1
  have CB2 := n_CB2
  have XA := n_XA
  have XB := n_XB
  have BL := n_BL
  have GB := n_GB
  have GX := n_GX
  have BX := n_BX
  have GY := n_GY
  have BY := n_BY
  have GZ := n_GZ
  have BZ := n_BZ
  have GT := n_GT
  have BT := n_BT
  have GN := n_GN
  have BN := n_BN
  have GO := n_GO
  have BO := n_BO
  have GQ := n_GQ
  have BQ := n_BQ
  have LX3 := n_LX3
  clear n_CA1 n_CA2 n_CB1 n_CB2 n_XA n_XB n_BL n_GB n_GX n_BX n_GY n_BY n_GZ n_BZ n_GT n_BT n_GN n_BN n_GO n_BO n_GQ n_BQ n_LX3
  clear hb
  clear k0 k1 k2
  clear l0 l1 l2
  clear cx0 cx1 cx2
  clear cy0 cy1 cy2
  clear cz0 cz1 cz2
  clear ct0 ct1 ct2
  clear cn0 cn1 cn2
  clear co0 co1 co2
  clear cq0 cq1 cq2
  have k0 := (blk_cell XA.out 0).trans rfl
  have k1 := (blk_cell XA.out 1).trans rfl
  have k2 := (blk_cell XA.out 2).trans rfl
  have l0 := (blk_cell XB.out 0).trans rfl
  have l1 := (blk_cell XB.out 1).trans rfl
  have l2 := (blk_cell XB.out 2).trans rfl
  have cx0 := (blk_cell BX.out 0).trans rfl
  have cx1 := (blk_cell BX.out 1).trans rfl
  have cx2 := (blk_cell BX.out 2).trans rfl
  have cy0 := (blk_cell BY.out 0).trans rfl
  have cy1 := (blk_cell BY.out 1).trans rfl
  have cy2 := (blk_cell BY.out 2).trans rfl
  have cz0 := (blk_cell BZ.out 0).trans rfl
  have cz1 := (blk_cell BZ.out 1).trans rfl
  have cz2 := (blk_cell BZ.out 2).trans rfl
  have ct0 := (blk_cell BT.out 0).trans rfl
  have ct1 := (blk_cell BT.out 1).trans rfl
  have ct2 := (blk_cell BT.out 2).trans rfl
  have cn0 := (blk_cell BN.out 0).trans rfl
  have cn1 := (blk_cell BN.out 1).trans rfl
  have cn2 := (blk_cell BN.out 2).trans rfl
  have co0 := (blk_cell BO.out 0).trans rfl
  have co1 := (blk_cell BO.out 1).trans rfl
  have co2 := (blk_cell BO.out 2).trans rfl
  have cq0 := (blk_cell BQ.out 0).trans rfl
  have cq1 := (blk_cell BQ.out 1).trans rfl
  have cq2 := (blk_cell BQ.out 2).trans rfl
  clear LX3
  go_wp2_with fail
  refine (K.det_Accepts.calls 60 2 _ 2 b6N Z2 z2 z6E none 0 [] true V22 GZ.out.n2 GZ.out.n1 GZ.out.e2 GZ.out.e1 (Kd.C_nil _ _) (Nat.le_refl _) h6d).mono ?_
  rintro e_ V23 ⟨rfl, hb⟩
  have n_CA1 := Aside0.mk (Kd.C_below CA1.out hb)
  have n_CA2 := Aside0.mk (Kd.C_below CA2.out hb)
  have n_CB1 := Aside0.mk (Kd.C_below CB1.out hb)
  have n_CB2 := Aside0.mk (Kd.C_below CB2.out hb)
  have n_XA := Aside0.mk (blk_below XA.out hb)
  have n_XB := Aside0.mk (blk_below XB.out hb)
  have n_BL := Aside0.mk (BL.out.trans (Below.mono hb BL.out.size))
  have n_GB := Aside0.mk (Got.below GB.out hb)
  have n_GX := Aside0.mk (Got.below GX.out hb)
  have n_BX := Aside0.mk (blk_below BX.out hb)
  have n_GY := Aside0.mk (Got.below GY.out hb)
  have n_BY := Aside0.mk (blk_below BY.out hb)
  have n_GZ := Aside0.mk (Got.below GZ.out hb)
  have n_BZ := Aside0.mk (blk_below BZ.out hb)
  have n_GT := Aside0.mk (Got.below GT.out hb)
  have n_BT := Aside0.mk (blk_below BT.out hb)
  have n_GN := Aside0.mk (Got.below GN.out hb)
  have n_BN := Aside0.mk (blk_below BN.out hb)
  have n_GO := Aside0.mk (Got.below GO.out hb)
  have n_BO := Aside0.mk (blk_below BO.out hb)
  have n_GQ := Aside0.mk (Got.below GQ.out hb)
  have n_BQ := Aside0.mk (blk_below BQ.out hb)
  clear CA1 CA2 CB1 CB2 XA XB BL GB GX BX GY BY GZ BZ GT BT GN BN GO BO GQ BQ
  have CA1 := n_CA1
  have CA2 := n_CA2
  have CB1 := n_CB1
  have CB2 := n_CB2
  have XA := n_XA
  have XB := n_XB
  have BL := n_BL
  have GB := n_GB
  have GX := n_GX
  have BX := n_BX
  have GY := n_GY
  have BY := n_BY
  have GZ := n_GZ
  have BZ := n_BZ
  have GT := n_GT
  have BT := n_BT
  have GN := n_GN
  have BN := n_BN
  have GO := n_GO
  have BO := n_BO
  have GQ := n_GQ
  have BQ := n_BQ
  clear n_CA1 n_CA2 n_CB1 n_CB2 n_XA n_XB n_BL n_GB n_GX n_BX n_GY n_BY n_GZ n_BZ n_GT n_BT n_GN n_BN n_GO n_BO n_GQ n_BQ
  clear hb
  clear k0 k1 k2
  clear l0 l1 l2
  clear cx0 cx1 cx2
  clear cy0 cy1 cy2
  clear cz0 cz1 cz2
  clear ct0 ct1 ct2
  clear cn0 cn1 cn2
  clear co0 co1 co2
  clear cq0 cq1 cq2
  have k0 := (blk_cell XA.out 0).trans rfl
  have k1 := (blk_cell XA.out 1).trans rfl
  have k2 := (blk_cell XA.out 2).trans rfl
  have l0 := (blk_cell XB.out 0).trans rfl
  have l1 := (blk_cell XB.out 1).trans rfl
  have l2 := (blk_cell XB.out 2).trans rfl
  have cx0 := (blk_cell BX.out 0).trans rfl
  have cx1 := (blk_cell BX.out 1).trans rfl
  have cx2 := (blk_cell BX.out 2).trans rfl
  have cy0 := (blk_cell BY.out 0).trans rfl
  have cy1 := (blk_cell BY.out 1).trans rfl
  have cy2 := (blk_cell BY.out 2).trans rfl
  have cz0 := (blk_cell BZ.out 0).trans rfl
  have cz1 := (blk_cell BZ.out 1).trans rfl
  have cz2 := (blk_cell BZ.out 2).trans rfl
  have ct0 := (blk_cell BT.out 0).trans rfl
  have ct1 := (blk_cell BT.out 1).trans rfl
  have ct2 := (blk_cell BT.out 2).trans rfl
  have cn0 := (blk_cell BN.out 0).trans rfl
  have cn1 := (blk_cell BN.out 1).trans rfl
  have cn2 := (blk_cell BN.out 2).trans rfl
  have co0 := (blk_cell BO.out 0).trans rfl
  have co1 := (blk_cell BO.out 1).trans rfl
  have co2 := (blk_cell BO.out 2).trans rfl
  have cq0 := (blk_cell BQ.out 0).trans rfl
  have cq1 := (blk_cell BQ.out 1).trans rfl
  have cq2 := (blk_cell BQ.out 2).trans rfl
  go_wp2_with fail
  refine (calc_empty 2 T1 t1 t6N N2 n2 n6E V23 GN.out.n2 GN.out.n1 GN.out.e2 GN.out.e1 true m6n).mono ?_
  rintro e_ V24 ⟨rfl, hb⟩
  have n_CA1 := Aside0.mk (Kd.C_below CA1.out hb)
  have n_CA2 := Aside0.mk (Kd.C_below CA2.out hb)
  have n_CB1 := Aside0.mk (Kd.C_below CB1.out hb)
  have n_CB2 := Aside0.mk (Kd.C_below CB2.out hb)
  have n_XA := Aside0.mk (blk_below XA.out hb)
  have n_XB := Aside0.mk (blk_below XB.out hb)
  have n_BL := Aside0.mk (BL.out.trans (Below.mono hb BL.out.size))
  have n_GB := Aside0.mk (Got.below GB.out hb)
  have n_GX := Aside0.mk (Got.below GX.out hb)
  have n_BX := Aside0.mk (blk_below BX.out hb)
  have n_GY := Aside0.mk (Got.below GY.out hb)
  have n_BY := Aside0.mk (blk_below BY.out hb)
  have n_GZ := Aside0.mk (Got.below GZ.out hb)
  have n_BZ := Aside0.mk (blk_below BZ.out hb)
  have n_GT := Aside0.mk (Got.below GT.out hb)
  have n_BT := Aside0.mk (blk_below BT.out hb)
  have n_GN := Aside0.mk (Got.below GN.out hb)
  have n_BN := Aside0.mk (blk_below BN.out hb)
  have n_GO := Aside0.mk (Got.below GO.out hb)
  have n_BO := Aside0.mk (blk_below BO.out hb)
  have n_GQ := Aside0.mk (Got.below GQ.out hb)
  have n_BQ := Aside0.mk (blk_below BQ.out hb)
  clear CA1 CA2 CB1 CB2 XA XB BL GB GX BX GY BY GZ BZ GT BT GN BN GO BO GQ BQ
  have CA1 := n_CA1
  have CA2 := n_CA2
  have CB1 := n_CB1
  have CB2 := n_CB2
  have XA := n_XA
  have XB := n_XB
  have BL := n_BL
  have GB := n_GB
  have GX := n_GX
  have BX := n_BX
  have GY := n_GY
  have BY := n_BY
  have GZ := n_GZ
  have BZ := n_BZ
  have GT := n_GT
  have BT := n_BT
  have GN := n_GN
  have BN := n_BN
  have GO := n_GO
  have BO := n_BO
  have GQ := n_GQ
  have BQ := n_BQ
  clear n_CA1 n_CA2 n_CB1 n_CB2 n_XA n_XB n_BL n_GB n_GX n_BX n_GY n_BY n_GZ n_BZ n_GT n_BT n_GN n_BN n_GO n_BO n_GQ n_BQ
  clear hb
  clear k0 k1 k2
  clear l0 l1 l2
  clear cx0 cx1 cx2
  clear cy0 cy1 cy2
  clear cz0 cz1 cz2
  clear ct0 ct1 ct2
  clear cn0 cn1 cn2
  clear co0 co1 co2
  clear cq0 cq1 cq2
  have k0 := (blk_cell XA.out 0).trans rfl
  have k1 := (blk_cell XA.out 1).trans rfl
  have k2 := (blk_cell XA.out 2).trans rfl
  have l0 := (blk_cell XB.out 0).trans rfl
  have l1 := (blk_cell XB.out 1).trans rfl
  have l2 := (blk_cell XB.out 2).trans rfl
  have cx0 := (blk_cell BX.out 0).trans rfl
  have cx1 := (blk_cell BX.out 1).trans rfl
  have cx2 := (blk_cell BX.out 2).trans rfl
  have cy0 := (blk_cell BY.out 0).trans rfl
  have cy1 := (blk_cell BY.out 1).trans rfl
  have cy2 := (blk_cell BY.out 2).trans rfl
  have cz0 := (blk_cell BZ.out 0).trans rfl
  have cz1 := (blk_cell BZ.out 1).trans rfl
  have cz2 := (blk_cell BZ.out 2).trans rfl
  have ct0 := (blk_cell BT.out 0).trans rfl
  have ct1 := (blk_cell BT.out 1).trans rfl
  have ct2 := (blk_cell BT.out 2).trans rfl
  have cn0 := (blk_cell BN.out 0).trans rfl
  have cn1 := (blk_cell BN.out 1).trans rfl
  have cn2 := (blk_cell BN.out 2).trans rfl
  have co0 := (blk_cell BO.out 0).trans rfl
  have co1 := (blk_cell BO.out 1).trans rfl
  have co2 := (blk_cell BO.out 2).trans rfl
  have cq0 := (blk_cell BQ.out 0).trans rfl
  have cq1 := (blk_cell BQ.out 1).trans rfl
  have cq2 := (blk_cell BQ.out 2).trans rfl
  go_wp2_with fail
  refine (calc_empty 2 T1 t1 t6N T2 t2 t6E V24 GT.out.n2 GT.out.n1 GT.out.e2 GT.out.e1 false m6t).mono ?_
  rintro e_ V25 ⟨rfl, hb⟩
  have n_CA1 := Aside0.mk (Kd.C_below CA1.out hb)
  have n_CA2 := Aside0.mk (Kd.C_below CA2.out hb)
  have n_CB1 := Aside0.mk (Kd.C_below CB1.out hb)
  have n_CB2 := Aside0.mk (Kd.C_below CB2.out hb)
  have n_XA := Aside0.mk (blk_below XA.out hb)
  have n_XB := Aside0.mk (blk_below XB.out hb)
  have n_BL := Aside0.mk (BL.out.trans (Below.mono hb BL.out.size))
  have n_GB := Aside0.mk (Got.below GB.out hb)
  have n_GX := Aside0.mk (Got.below GX.out hb)
  have n_BX := Aside0.mk (blk_below BX.out hb)
  have n_GY := Aside0.mk (Got.below GY.out hb)
  have n_BY := Aside0.mk (blk_below BY.out hb)
  have n_GZ := Aside0.mk (Got.below GZ.out hb)
  have n_BZ := Aside0.mk (blk_below BZ.out hb)
  have n_GT := Aside0.mk (Got.below GT.out hb)
  have n_BT := Aside0.mk (blk_below BT.out hb)
  have n_GN := Aside0.mk (Got.below GN.out hb)
  have n_BN := Aside0.mk (blk_below BN.out hb)
  have n_GO := Aside0.mk (Got.below GO.out hb)
  have n_BO := Aside0.mk (blk_below BO.out hb)
  have n_GQ := Aside0.mk (Got.below GQ.out hb)
  have n_BQ := Aside0.mk (blk_below BQ.out hb)
  clear CA1 CA2 CB1 CB2 XA XB BL GB GX BX GY BY GZ BZ GT BT GN BN GO BO GQ BQ
  have CA1 := n_CA1
  have CA2 := n_CA2
  have CB1 := n_CB1
  have CB2 := n_CB2
  have XA := n_XA
  have XB := n_XB
  have BL := n_BL
  have GB := n_GB
  have GX := n_GX
  have BX := n_BX
  have GY := n_GY
  have BY := n_BY
  have GZ := n_GZ
  have BZ := n_BZ
  have GT := n_GT
  have BT := n_BT
  have GN := n_GN
  have BN := n_BN
  have GO := n_GO
  have BO := n_BO
  have GQ := n_GQ
  have BQ := n_BQ
  clear n_CA1 n_CA2 n_CB1 n_CB2 n_XA n_XB n_BL n_GB n_GX n_BX n_GY n_BY n_GZ n_BZ n_GT n_BT n_GN n_BN n_GO n_BO n_GQ n_BQ
  clear hb
  clear k0 k1 k2
  clear l0 l1 l2
  clear cx0 cx1 cx2
  clear cy0 cy1 cy2
  clear cz0 cz1 cz2
  clear ct0 ct1 ct2
  clear cn0 cn1 cn2
  clear co0 co1 co2
  clear cq0 cq1 cq2
  have k0 := (blk_cell XA.out 0).trans rfl
  have k1 := (blk_cell XA.out 1).trans rfl
  have k2 := (blk_cell XA.out 2).trans rfl
  have l0 := (blk_cell XB.out 0).trans rfl
  have l1 := (blk_cell XB.out 1).trans rfl
  have l2 := (blk_cell XB.out 2).trans rfl
  have cx0 := (blk_cell BX.out 0).trans rfl
  have cx1 := (blk_cell BX.out 1).trans rfl
  have cx2 := (blk_cell BX.out 2).trans rfl
  have cy0 := (blk_cell BY.out 0).trans rfl
  have cy1 := (blk_cell BY.out 1).trans rfl
  have cy2 := (blk_cell BY.out 2).trans rfl
  have cz0 := (blk_cell BZ.out 0).trans rfl
  have cz1 := (blk_cell BZ.out 1).trans rfl
  have cz2 := (blk_cell BZ.out 2).trans rfl
  have ct0 := (blk_cell BT.out 0).trans rfl
  have ct1 := (blk_cell BT.out 1).trans rfl
  have ct2 := (blk_cell BT.out 2).trans rfl
  have cn0 := (blk_cell BN.out 0).trans rfl
  have cn1 := (blk_cell BN.out 1).trans rfl
  have cn2 := (blk_cell BN.out 2).trans rfl
  have co0 := (blk_cell BO.out 0).trans rfl
  have co1 := (blk_cell BO.out 1).trans rfl
  have co2 := (blk_cell BO.out 2).trans rfl
  have cq0 := (blk_cell BQ.out 0).trans rfl
  have cq1 := (blk_cell BQ.out 1).trans rfl
  have cq2 := (blk_cell BQ.out 2).trans rfl
  go_wp2_with fail
  obtain ⟨V26, h_⟩ : ∃ W_, W_ = V25.alloc (.cells #[.int .i64 1, .int .i64 0] 3) := ⟨_, rfl⟩
  have hb_ : Below V25.heap.size V25 V26 := by rw [h_]; exact below_alloc (Below.refl _ _) _
  have hx_ : V26.heap[V25.heap.size]? = some (.cells #[.int .i64 1, .int .i64 0] 3 (0, 0)) := by rw [h_]; exact blk_new _ _
  rw [← h_]
  clear h_
  have n_CA1 := Aside0.mk (Kd.C_below CA1.out hb_)
  have n_CA2 := Aside0.mk (Kd.C_below CA2.out hb_)
  have n_CB1 := Aside0.mk (Kd.C_below CB1.out hb_)
  have n_CB2 := Aside0.mk (Kd.C_below CB2.out hb_)
  have n_XA := Aside0.mk (blk_below XA.out hb_)
  have n_XB := Aside0.mk (blk_below XB.out hb_)
  have n_BL := Aside0.mk (BL.out.trans (Below.mono hb_ BL.out.size))
  have n_GB := Aside0.mk (Got.below GB.out hb_)
  have n_GX := Aside0.mk (Got.below GX.out hb_)
  have n_BX := Aside0.mk (blk_below BX.out hb_)
  have n_GY := Aside0.mk (Got.below GY.out hb_)
  have n_BY := Aside0.mk (blk_below BY.out hb_)
  have n_GZ := Aside0.mk (Got.below GZ.out hb_)
  have n_BZ := Aside0.mk (blk_below BZ.out hb_)
  have n_GT := Aside0.mk (Got.below GT.out hb_)
  have n_BT := Aside0.mk (blk_below BT.out hb_)
  have n_GN := Aside0.mk (Got.below GN.out hb_)
  have n_BN := Aside0.mk (blk_below BN.out hb_)
  have n_GO := Aside0.mk (Got.below GO.out hb_)
  have n_BO := Aside0.mk (blk_below BO.out hb_)
  have n_GQ := Aside0.mk (Got.below GQ.out hb_)
  have n_BQ := Aside0.mk (blk_below BQ.out hb_)
  clear CA1 CA2 CB1 CB2 XA XB BL GB GX BX GY BY GZ BZ GT BT GN BN GO BO GQ BQ
  have CA1 := n_CA1
  have CA2 := n_CA2
  have CB1 := n_CB1
  have CB2 := n_CB2
  have XA := n_XA
  have XB := n_XB
  have BL := n_BL
  have GB := n_GB
  have GX := n_GX
  have BX := n_BX
  have GY := n_GY
  have BY := n_BY
  have GZ := n_GZ
  have BZ := n_BZ
  have GT := n_GT
  have BT := n_BT
  have GN := n_GN
  have BN := n_BN
  have GO := n_GO
  have BO := n_BO
  have GQ := n_GQ
  have BQ := n_BQ
  clear n_CA1 n_CA2 n_CB1 n_CB2 n_XA n_XB n_BL n_GB n_GX n_BX n_GY n_BY n_GZ n_BZ n_GT n_BT n_GN n_BN n_GO n_BO n_GQ n_BQ
  clear hb_
  obtain ⟨gl4, e_⟩ : ∃ g_, g_ = V25.heap.size := ⟨_, rfl⟩
  rw [← e_] at hx_ ⊢
  clear e_
  have LX4 := Aside0.mk hx_
  clear hx_
  clear k0 k1 k2
  clear l0 l1 l2
  clear cx0 cx1 cx2
  clear cy0 cy1 cy2
  clear cz0 cz1 cz2
  clear ct0 ct1 ct2
  clear cn0 cn1 cn2
  clear co0 co1 co2
  clear cq0 cq1 cq2
  have k0 := (blk_cell XA.out 0).trans rfl
  have k1 := (blk_cell XA.out 1).trans rfl
  have k2 := (blk_cell XA.out 2).trans rfl
  have l0 := (blk_cell XB.out 0).trans rfl
  have l1 := (blk_cell XB.out 1).trans rfl
  have l2 := (blk_cell XB.out 2).trans rfl
  have cx0 := (blk_cell BX.out 0).trans rfl
  have cx1 := (blk_cell BX.out 1).trans rfl
  have cx2 := (blk_cell BX.out 2).trans rfl
  have cy0 := (blk_cell BY.out 0).trans rfl
  have cy1 := (blk_cell BY.out 1).trans rfl
  have cy2 := (blk_cell BY.out 2).trans rfl
  have cz0 := (blk_cell BZ.out 0).trans rfl
  have cz1 := (blk_cell BZ.out 1).trans rfl
  have cz2 := (blk_cell BZ.out 2).trans rfl
  have ct0 := (blk_cell BT.out 0).trans rfl
  have ct1 := (blk_cell BT.out 1).trans rfl
  have ct2 := (blk_cell BT.out 2).trans rfl
  have cn0 := (blk_cell BN.out 0).trans rfl
  have cn1 := (blk_cell BN.out 1).trans rfl
  have cn2 := (blk_cell BN.out 2).trans rfl
  have co0 := (blk_cell BO.out 0).trans rfl
  have co1 := (blk_cell BO.out 1).trans rfl
  have co2 := (blk_cell BO.out 2).trans rfl
  have cq0 := (blk_cell BQ.out 0).trans rfl
  have cq1 := (blk_cell BQ.out 1).trans rfl
  have cq2 := (blk_cell BQ.out 2).trans rfl
  refine (K.det_Accepts.calls 60 2 O1 o1 p6N O2 o2 o6E (some ⟨gl4, 0, none⟩) 2 [1, 0] true V26 GO.out.n2 GO.out.n1 GO.out.e2 GO.out.e1 (C_ints (xs := [1, 0]) LX4.out (by decide)) (by decide) h6e).mono ?_
  rintro e_ V27 ⟨rfl, hb⟩
  have n_CA1 := Aside0.mk (Kd.C_below CA1.out hb)
  have n_CA2 := Aside0.mk (Kd.C_below CA2.out hb)
  have n_CB1 := Aside0.mk (Kd.C_below CB1.out hb)
  have n_CB2 := Aside0.mk (Kd.C_below CB2.out hb)
  have n_XA := Aside0.mk (blk_below XA.out hb)
  have n_XB := Aside0.mk (blk_below XB.out hb)
  have n_BL := Aside0.mk (BL.out.trans (Below.mono hb BL.out.size))
  have n_GB := Aside0.mk (Got.below GB.out hb)
  have n_GX := Aside0.mk (Got.below GX.out hb)
  have n_BX := Aside0.mk (blk_below BX.out hb)
  have n_GY := Aside0.mk (Got.below GY.out hb)
  have n_BY := Aside0.mk (blk_below BY.out hb)
  have n_GZ := Aside0.mk (Got.below GZ.out hb)
  have n_BZ := Aside0.mk (blk_below BZ.out hb)
  have n_GT := Aside0.mk (Got.below GT.out hb)
  have n_BT := Aside0.mk (blk_below BT.out hb)
  have n_GN := Aside0.mk (Got.below GN.out hb)
  have n_BN := Aside0.mk (blk_below BN.out hb)
  have n_GO := Aside0.mk (Got.below GO.out hb)
  have n_BO := Aside0.mk (blk_below BO.out hb)
  have n_GQ := Aside0.mk (Got.below GQ.out hb)
  have n_BQ := Aside0.mk (blk_below BQ.out hb)
  have n_LX4 := Aside0.mk (blk_below LX4.out hb)
  clear CA1 CA2 CB1 CB2 XA XB BL GB GX BX GY BY GZ BZ GT BT GN BN GO BO GQ BQ LX4
  have CA1 := n_CA1
  have CA2 := n_CA2
  have CB1 := n_CB1
  have CB2 := n_CB2
  have XA := n_XA
  have XB := n_XB
  have BL := n_BL
  have GB := n_GB
  have GX := n_GX
  have BX := n_BX
  have GY := n_GY
  have BY := n_BY
  have GZ := n_GZ
  have BZ := n_BZ
  have GT := n_GT
  have BT := n_BT
  have GN := n_GN
  have BN := n_BN
  have GO := n_GO
  have BO := n_BO
  have GQ := n_GQ
  have BQ := n_BQ
  have LX4 := n_LX4
  clear n_CA1 n_CA2 n_CB1 n_CB2 n_XA n_XB n_BL n_GB n_GX n_BX n_GY n_BY n_GZ n_BZ n_GT n_BT n_GN n_BN n_GO n_BO n_GQ n_BQ n_LX4
  clear hb
  clear k0 k1 k2
  clear l0 l1 l2
  clear cx0 cx1 cx2
  clear cy0 cy1 cy2
  clear cz0 cz1 cz2
  clear ct0 ct1 ct2
  clear cn0 cn1 cn2
  clear co0 co1 co2
  clear cq0 cq1 cq2
  have k0 := (blk_cell XA.out 0).trans rfl
  have k1 := (blk_cell XA.out 1).trans rfl
  have k2 := (blk_cell XA.out 2).trans rfl
  have l0 := (blk_cell XB.out 0).trans rfl
  have l1 := (blk_cell XB.out 1).trans rfl
  have l2 := (blk_cell XB.out 2).trans rfl
  have cx0 := (blk_cell BX.out 0).trans rfl
  have cx1 := (blk_cell BX.out 1).trans rfl
  have cx2 := (blk_cell BX.out 2).trans rfl
  have cy0 := (blk_cell BY.out 0).trans rfl
  have cy1 := (blk_cell BY.out 1).trans rfl
  have cy2 := (blk_cell BY.out 2).trans rfl
  have cz0 := (blk_cell BZ.out 0).trans rfl
  have cz1 := (blk_cell BZ.out 1).trans rfl
  have cz2 := (blk_cell BZ.out 2).trans rfl
  have ct0 := (blk_cell BT.out 0).trans rfl
  have ct1 := (blk_cell BT.out 1).trans rfl
  have ct2 := (blk_cell BT.out 2).trans rfl
  have cn0 := (blk_cell BN.out 0).trans rfl
  have cn1 := (blk_cell BN.out 1).trans rfl
  have cn2 := (blk_cell BN.out 2).trans rfl
  have co0 := (blk_cell BO.out 0).trans rfl
  have co1 := (blk_cell BO.out 1).trans rfl
  have co2 := (blk_cell BO.out 2).trans rfl
  have cq0 := (blk_cell BQ.out 0).trans rfl
  have cq1 := (blk_cell BQ.out 1).trans rfl
  have cq2 := (blk_cell BQ.out 2).trans rfl
  clear LX4
  go_wp2_with fail
  refine (calc_empty 2 Q1 q1 q6N Q2 q2 q6E V27 GQ.out.n2 GQ.out.n1 GQ.out.e2 GQ.out.e1 true m6q).mono ?_
  rintro e_ V28 ⟨rfl, hb⟩
  have n_CA1 := Aside0.mk (Kd.C_below CA1.out hb)
  have n_CA2 := Aside0.mk (Kd.C_below CA2.out hb)
  have n_CB1 := Aside0.mk (Kd.C_below CB1.out hb)
  have n_CB2 := Aside0.mk (Kd.C_below CB2.out hb)
  have n_XA := Aside0.mk (blk_below XA.out hb)
  have n_XB := Aside0.mk (blk_below XB.out hb)
  have n_BL := Aside0.mk (BL.out.trans (Below.mono hb BL.out.size))
  have n_GB := Aside0.mk (Got.below GB.out hb)
  have n_GX := Aside0.mk (Got.below GX.out hb)
  have n_BX := Aside0.mk (blk_below BX.out hb)
  have n_GY := Aside0.mk (Got.below GY.out hb)
  have n_BY := Aside0.mk (blk_below BY.out hb)
  have n_GZ := Aside0.mk (Got.below GZ.out hb)
  have n_BZ := Aside0.mk (blk_below BZ.out hb)
  have n_GT := Aside0.mk (Got.below GT.out hb)
  have n_BT := Aside0.mk (blk_below BT.out hb)
  have n_GN := Aside0.mk (Got.below GN.out hb)
  have n_BN := Aside0.mk (blk_below BN.out hb)
  have n_GO := Aside0.mk (Got.below GO.out hb)
  have n_BO := Aside0.mk (blk_below BO.out hb)
  have n_GQ := Aside0.mk (Got.below GQ.out hb)
  have n_BQ := Aside0.mk (blk_below BQ.out hb)
  clear CA1 CA2 CB1 CB2 XA XB BL GB GX BX GY BY GZ BZ GT BT GN BN GO BO GQ BQ
  have CA1 := n_CA1
  have CA2 := n_CA2
  have CB1 := n_CB1
  have CB2 := n_CB2
  have XA := n_XA
  have XB := n_XB
  have BL := n_BL
  have GB := n_GB
  have GX := n_GX
  have BX := n_BX
  have GY := n_GY
  have BY := n_BY
  have GZ := n_GZ
  have BZ := n_BZ
  have GT := n_GT
  have BT := n_BT
  have GN := n_GN
  have BN := n_BN
  have GO := n_GO
  have BO := n_BO
  have GQ := n_GQ
  have BQ := n_BQ
  clear n_CA1 n_CA2 n_CB1 n_CB2 n_XA n_XB n_BL n_GB n_GX n_BX n_GY n_BY n_GZ n_BZ n_GT n_BT n_GN n_BN n_GO n_BO n_GQ n_BQ
  clear hb
  clear k0 k1 k2
  clear l0 l1 l2
  clear cx0 cx1 cx2
  clear cy0 cy1 cy2
  clear cz0 cz1 cz2
  clear ct0 ct1 ct2
  clear cn0 cn1 cn2
  clear co0 co1 co2
  clear cq0 cq1 cq2
  have k0 := (blk_cell XA.out 0).trans rfl
  have k1 := (blk_cell XA.out 1).trans rfl
  have k2 := (blk_cell XA.out 2).trans rfl
  have l0 := (blk_cell XB.out 0).trans rfl
  have l1 := (blk_cell XB.out 1).trans rfl
  have l2 := (blk_cell XB.out 2).trans rfl
  have cx0 := (blk_cell BX.out 0).trans rfl
  have cx1 := (blk_cell BX.out 1).trans rfl
  have cx2 := (blk_cell BX.out 2).trans rfl
  have cy0 := (blk_cell BY.out 0).trans rfl
  have cy1 := (blk_cell BY.out 1).trans rfl
  have cy2 := (blk_cell BY.out 2).trans rfl
  have cz0 := (blk_cell BZ.out 0).trans rfl
  have cz1 := (blk_cell BZ.out 1).trans rfl
  have cz2 := (blk_cell BZ.out 2).trans rfl
  have ct0 := (blk_cell BT.out 0).trans rfl
  have ct1 := (blk_cell BT.out 1).trans rfl
  have ct2 := (blk_cell BT.out 2).trans rfl
  have cn0 := (blk_cell BN.out 0).trans rfl
  have cn1 := (blk_cell BN.out 1).trans rfl
  have cn2 := (blk_cell BN.out 2).trans rfl
  have co0 := (blk_cell BO.out 0).trans rfl
  have co1 := (blk_cell BO.out 1).trans rfl
  have co2 := (blk_cell BO.out 2).trans rfl
  have cq0 := (blk_cell BQ.out 0).trans rfl
  have cq1 := (blk_cell BQ.out 1).trans rfl
  have cq2 := (blk_cell BQ.out 2).trans rfl
  clear k0 k1 k2
  clear l0 l1 l2
  clear cx0 cx1 cx2
  clear cy0 cy1 cy2
  clear cz0 cz1 cz2
  clear ct0 ct1 ct2
  clear cn0 cn1 cn2
  clear co0 co1 co2
  clear cq0 cq1 cq2
  go_wp2_with fail
  go_ret
  exact ⟨rfl, BL.out⟩
end Go.Proofs.Ytpedenbcfbflbaa.X
