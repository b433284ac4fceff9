import Derived.Test.YtpedenbcfbflbaaXOne
import Derived.Test.YtpedenbcfbflbaaPMarkMakesx3
namespace Go.Proofs.Ytpedenbcfbflbaa.X
open Go.RowKit Go.Proofs.YtpedenbcfbflbaaW.PrintWords Go.Proofs.YtpedenbcfbflbaaW.PrintLast Go.Proofs.YtpedenbcfbflbaaW.PrintMore Go.Maps Num
set_option linter.unusedVariables false
set_option linter.unusedSimpArgs false

theorem C_box {α : Type} {d : Kd α} {W : World} {g t : Nat} {inner : List Value} {xs : List α} (hb : W.heap[g]? = some (.cells inner.toArray t (0, 0))) (hr : Reps (d.K W) d.sz xs inner) (hm : xs.length ≤ 9223372036854775807) : d.C W (some ⟨g, 0, none⟩) xs.length xs := by
  refine ⟨rfl, hm, fun _ => ⟨_, rfl, fun j p hp => ⟨(inner.drop (j * d.sz)).take d.sz, d.K_len (hr.2 j p hp), hr.2 j p hp, fun i u hu => ?_⟩⟩⟩
  rw [add_plain, blk_cell hb]
  rw [List.getElem?_take] at hu
  split at hu
  · rw [List.getElem?_drop] at hu
    simpa using hu
  · cases hu
theorem C_ints {W : World} {g t : Nat} {xs : List Int} (hb : W.heap[g]? = some (.cells (xs.map (Value.int .i64)).toArray t (0, 0))) (hm : xs.length ≤ 9223372036854775807) : Kd.C (Kd.int .i64) W (some ⟨g, 0, none⟩) xs.length xs :=
  C_box hb (Kd.reps_scalar xs) hm
theorem C_bools {W : World} {g t : Nat} {xs : List Bool} (hb : W.heap[g]? = some (.cells (xs.map Value.bool).toArray t (0, 0))) (hm : xs.length ≤ 9223372036854775807) : Kd.C Kd.bool W (some ⟨g, 0, none⟩) xs.length xs :=
  C_box hb (Kd.reps_scalar xs) hm

def allocs (w : World) : List Obj → World
  | [] => w
  | o :: r => allocs (w.alloc o) r
theorem allocs_below (os : List Obj) : ∀ w : World, Below w.heap.size w (allocs w os) := by
  induction os with
  | nil => exact fun w => Below.refl _ _
  | cons o r ih => exact fun w => (below_alloc (Below.refl _ _) o).trans ((ih (w.alloc o)).mono (by simp))
theorem allocs_get (os : List Obj) : ∀ (w : World) (i : Nat) (o : Obj), os[i]? = some o → (allocs w os).heap[w.heap.size + i]? = some o := by
  induction os with
  | nil => intro w i o h; simp at h
  | cons p r ih =>
    intro w i o h
    cases i with
    | zero =>
      simp at h; subst h
      exact blk_below (blk_new w p) (allocs_below r (w.alloc p))
    | succ i =>
      have := ih (w.alloc p) i o (by simpa using h)
      rw [show (w.alloc p).heap.size = w.heap.size + 1 by simp] at this
      rw [show w.heap.size + (i + 1) = w.heap.size + 1 + i by omega]
      exact this
/-- The first automaton's rows, ends; the second's. -/
def bN : List (List Int) := [[1, 0], [1, 0]]
def bE : List Bool := [false, true]
def aN : List (List Int) := [[1, 2], [1, 1], [2, 2]]
def aE : List Bool := [false, false, true]
/-- What the two make; what all marked ones are. -/
def dN : List (List Int) := [[1, 2, 3, 2], [1, 4, 3, 5], [2, 2, 2, 2], [1, 2, 3, 2], [4, 2, 4, 2], [5, 2, 5, 2]]
def dE : List Bool := [false, false, false, false, false, true]
def oN : List (List Int) := [[1, 2, 1, 2], [1, 3, 1, 3], [2, 2, 2, 2], [3, 2, 3, 2]]
def oE : List Bool := [false, false, false, true]
theorem fOf1 : markF 2 bN bE 2 aN aE 20 = (4, dN, dE, 0) := by kernel_rfl
theorem fOf2 : markF 2 bN bE 2 aN aE 2 = (0, [], [], 13) := by kernel_rfl
theorem fOne : oneF 2 = (4, oN, oE, 0) := by kernel_rfl
theorem fS1 : PMarkMakes.mark_Signs.f 10 [0, 3, 2] = some ([0, 1, 1], 1, true) := by kernel_rfl
theorem fS2 : PMarkMakes.mark_Signs.f 10 [1, 2] = some ([], 0, false) := by kernel_rfl
theorem fT : PMarkMakes.mark_Times.f 10 [1, 3, 2] = some 2 := by kernel_rfl
theorem fI : PMarkMakes.caesuraref01_Ints.f 10 [0, 1, 1] [0, 1, 1] = some true := by kernel_rfl
theorem fA1 : PMarkMakes.caesuraref15_Accepts.f 60 4 dN dE [2, 0, 3, 0] = some true := by kernel_rfl
theorem fA2 : PMarkMakes.caesuraref15_Accepts.f 60 4 dN dE [0, 1] = some false := by kernel_rfl
theorem fA3 : PMarkMakes.caesuraref15_Accepts.f 60 4 dN dE [3] = some false := by kernel_rfl
theorem fA4 : PMarkMakes.caesuraref15_Accepts.f 60 4 oN oE [0, 3] = some true := by kernel_rfl
theorem fA5 : PMarkMakes.caesuraref15_Accepts.f 60 4 oN oE [1] = some false := by kernel_rfl
/-- What a call has returned, to be read from then on. -/
structure Got (base : Nat) (A : Option Addr) (c : Nat) (n : List (List Int)) (B : Option Addr) (d : Nat) (e : List Bool) (W : World) : Prop where
  n1 : n.length ≤ c
  n2 : Kd.C (Kd.slice 3 (Kd.int .i64)) W A n.length n
  e1 : e.length ≤ d
  e2 : Kd.C Kd.bool W B e.length e
theorem Got.below {base : Nat} {A : Option Addr} {c : Nat} {n : List (List Int)} {B : Option Addr} {d : Nat} {e : List Bool} {W W' : World} (h : Got base A c n B d e W) (hb : Below W.heap.size W W') : Got base A c n B d e W' := ⟨h.n1, Kd.C_below h.n2 hb, h.e1, Kd.C_below h.e2 hb⟩
set_option maxHeartbeats 2000000 in
theorem alive12 (w : World) : Calls Try.prog 12 #[] w fun e w' => e = .returned (.bool true) ∧ Below w.heap.size w w' := by
  have hu25 := Try.underlying25
  go_enter Try.func12, Try.ntmps12
  go_upto_region 3 with (fail)
  obtain ⟨W, hW⟩ : ∃ W, W = (((((((((((w.alloc (.cells #[.int .i64 1, .int .i64 0] 3)).alloc (.cells #[.int .i64 1, .int .i64 0] 3)).alloc (.cells #[.slice (some ⟨w.heap.size, 0, none⟩) 2 2, .slice (some ⟨w.heap.size + 1, 0, none⟩) 2 2] 33)).alloc (.cells #[.bool false, .bool true] 4)).alloc (.cells #[.int .i64 2, .slice (some ⟨w.heap.size + 1 + 1, 0, none⟩) 2 2, .slice (some ⟨w.heap.size + 1 + 1 + 1, 0, none⟩) 2 2] 25)).alloc (.cells #[.int .i64 1, .int .i64 2] 3)).alloc (.cells #[.int .i64 1, .int .i64 1] 3)).alloc (.cells #[.int .i64 2, .int .i64 2] 3)).alloc (.cells #[.slice (some ⟨w.heap.size + 1 + 1 + 1 + 1 + 1, 0, none⟩) 2 2, .slice (some ⟨w.heap.size + 1 + 1 + 1 + 1 + 1 + 1, 0, none⟩) 2 2, .slice (some ⟨w.heap.size + 1 + 1 + 1 + 1 + 1 + 1 + 1, 0, none⟩) 2 2] 33)).alloc (.cells #[.bool false, .bool false, .bool true] 4)).alloc (.cells #[.int .i64 2, .slice (some ⟨w.heap.size + 1 + 1 + 1 + 1 + 1 + 1 + 1 + 1, 0, none⟩) 3 3, .slice (some ⟨w.heap.size + 1 + 1 + 1 + 1 + 1 + 1 + 1 + 1 + 1, 0, none⟩) 3 3] 25)) := ⟨_, rfl⟩
  rw [← hW]
  have hA : W = allocs w [(.cells #[.int .i64 1, .int .i64 0] 3), (.cells #[.int .i64 1, .int .i64 0] 3), (.cells #[.slice (some ⟨w.heap.size, 0, none⟩) 2 2, .slice (some ⟨w.heap.size + 1, 0, none⟩) 2 2] 33), (.cells #[.bool false, .bool true] 4), (.cells #[.int .i64 2, .slice (some ⟨w.heap.size + 1 + 1, 0, none⟩) 2 2, .slice (some ⟨w.heap.size + 1 + 1 + 1, 0, none⟩) 2 2] 25), (.cells #[.int .i64 1, .int .i64 2] 3), (.cells #[.int .i64 1, .int .i64 1] 3), (.cells #[.int .i64 2, .int .i64 2] 3), (.cells #[.slice (some ⟨w.heap.size + 1 + 1 + 1 + 1 + 1, 0, none⟩) 2 2, .slice (some ⟨w.heap.size + 1 + 1 + 1 + 1 + 1 + 1, 0, none⟩) 2 2, .slice (some ⟨w.heap.size + 1 + 1 + 1 + 1 + 1 + 1 + 1, 0, none⟩) 2 2] 33), (.cells #[.bool false, .bool false, .bool true] 4), (.cells #[.int .i64 2, .slice (some ⟨w.heap.size + 1 + 1 + 1 + 1 + 1 + 1 + 1 + 1, 0, none⟩) 3 3, .slice (some ⟨w.heap.size + 1 + 1 + 1 + 1 + 1 + 1 + 1 + 1 + 1, 0, none⟩) 3 3] 25)] := hW
  have G := fun i o h => hA ▸ allocs_get [(.cells #[.int .i64 1, .int .i64 0] 3), (.cells #[.int .i64 1, .int .i64 0] 3), (.cells #[.slice (some ⟨w.heap.size, 0, none⟩) 2 2, .slice (some ⟨w.heap.size + 1, 0, none⟩) 2 2] 33), (.cells #[.bool false, .bool true] 4), (.cells #[.int .i64 2, .slice (some ⟨w.heap.size + 1 + 1, 0, none⟩) 2 2, .slice (some ⟨w.heap.size + 1 + 1 + 1, 0, none⟩) 2 2] 25), (.cells #[.int .i64 1, .int .i64 2] 3), (.cells #[.int .i64 1, .int .i64 1] 3), (.cells #[.int .i64 2, .int .i64 2] 3), (.cells #[.slice (some ⟨w.heap.size + 1 + 1 + 1 + 1 + 1, 0, none⟩) 2 2, .slice (some ⟨w.heap.size + 1 + 1 + 1 + 1 + 1 + 1, 0, none⟩) 2 2, .slice (some ⟨w.heap.size + 1 + 1 + 1 + 1 + 1 + 1 + 1, 0, none⟩) 2 2] 33), (.cells #[.bool false, .bool false, .bool true] 4), (.cells #[.int .i64 2, .slice (some ⟨w.heap.size + 1 + 1 + 1 + 1 + 1 + 1 + 1 + 1, 0, none⟩) 3 3, .slice (some ⟨w.heap.size + 1 + 1 + 1 + 1 + 1 + 1 + 1 + 1 + 1, 0, none⟩) 3 3] 25)] w i o h
  have hbl : Below w.heap.size w W := by rw [hA]; exact allocs_below _ w
  clear hW hA
  have CB1 : Aside0 (Kd.C (Kd.slice 3 (Kd.int .i64)) W (some ⟨w.heap.size + 1 + 1, 0, none⟩) bN.length bN) := ⟨C_box (G 2 _ rfl) (Reps.one ⟨some ⟨w.heap.size, 0, none⟩, 2, rfl, by decide, C_ints (xs := [1, 0]) (G 0 _ rfl) (by decide)⟩ (Reps.one ⟨some ⟨w.heap.size + 1, 0, none⟩, 2, rfl, by decide, C_ints (xs := [1, 0]) (G 1 _ rfl) (by decide)⟩ (Reps.none _ _))) (by decide)⟩
  have CB2 : Aside0 (Kd.C Kd.bool W (some ⟨w.heap.size + 1 + 1 + 1, 0, none⟩) bE.length bE) := ⟨C_bools (G 3 _ rfl) (by decide)⟩
  have CA1 : Aside0 (Kd.C (Kd.slice 3 (Kd.int .i64)) W (some ⟨w.heap.size + 1 + 1 + 1 + 1 + 1 + 1 + 1 + 1, 0, none⟩) aN.length aN) := ⟨C_box (G 8 _ rfl) (Reps.one ⟨some ⟨w.heap.size + 1 + 1 + 1 + 1 + 1, 0, none⟩, 2, rfl, by decide, C_ints (xs := [1, 2]) (G 5 _ rfl) (by decide)⟩ (Reps.one ⟨some ⟨w.heap.size + 1 + 1 + 1 + 1 + 1 + 1, 0, none⟩, 2, rfl, by decide, C_ints (xs := [1, 1]) (G 6 _ rfl) (by decide)⟩ (Reps.one ⟨some ⟨w.heap.size + 1 + 1 + 1 + 1 + 1 + 1 + 1, 0, none⟩, 2, rfl, by decide, C_ints (xs := [2, 2]) (G 7 _ rfl) (by decide)⟩ (Reps.none _ _)))) (by decide)⟩
  have CA2 : Aside0 (Kd.C Kd.bool W (some ⟨w.heap.size + 1 + 1 + 1 + 1 + 1 + 1 + 1 + 1 + 1, 0, none⟩) aE.length aE) := ⟨C_bools (G 9 _ rfl) (by decide)⟩
  have X1 := Aside0.mk (G 4 _ rfl)
  have X2 := Aside0.mk (G 10 _ rfl)
  have BL := Aside0.mk hbl
  clear G hbl
  have k0 := (blk_cell X1.out 0).trans rfl
  have k1 := (blk_cell X1.out 1).trans rfl
  have k2 := (blk_cell X1.out 2).trans rfl
  have k3 := (blk_cell X2.out 0).trans rfl
  have k4 := (blk_cell X2.out 1).trans rfl
  have k5 := (blk_cell X2.out 2).trans rfl
  go_wp2_with fail
  refine (mark_of 2 _ 2 bN _ 2 bE 2 _ 3 aN _ 3 aE 20 W CB1.out (by decide) CB2.out (by decide) CA1.out (by decide) CA2.out (by decide) 4 dN dE 0 fOf1).mono ?_
  rintro e W2 ⟨v1, v2, rfl, hs, hr, hb⟩
  obtain ⟨D1, d1, rfl⟩ := Kd.S_slice hs
  obtain ⟨D2, d2, rfl⟩ := Kd.R_slice hr
  have GD : Aside0 (Got 0 D1 d1 dN D2 d2 dE W2) := ⟨⟨(Kd.S_reads' hs).2.1, (Kd.S_reads' hs).2.2, (Kd.R_reads' hr).2.1, (Kd.R_reads' hr).2.2⟩⟩
  have Y1 := Aside0.mk (blk_below X1.out hb)
  have Y2 := Aside0.mk (blk_below X2.out hb)
  have BL2 := Aside0.mk (BL.out.trans (hb.mono BL.out.size))
  have CB1' := Aside0.mk (Kd.C_below CB1.out hb)
  have CB2' := Aside0.mk (Kd.C_below CB2.out hb)
  have CA1' := Aside0.mk (Kd.C_below CA1.out hb)
  have CA2' := Aside0.mk (Kd.C_below CA2.out hb)
  clear hs hr hb k0 k1 k2 k3 k4 k5 X1 X2 BL CB1 CB2 CA1 CA2
  go_upto_region 4 with (fail)
  have CB1p := CB1'
  have CB2p := CB2'
  have CA1p := CA1'
  have CA2p := CA2'
  clear CB1' CB2' CA1' CA2'
  obtain ⟨W3, h_⟩ : ∃ W_, W_ = W2.alloc (.cells #[.int .i64 4, .slice D1 dN.length d1, .slice D2 dE.length d2] 25) := ⟨_, rfl⟩
  have hb_ : Below W2.heap.size W2 W3 := by rw [h_]; exact below_alloc (Below.refl _ _) _
  have hx_ : W3.heap[W2.heap.size]? = some (.cells #[.int .i64 4, .slice D1 dN.length d1, .slice D2 dE.length d2] 25 (0, 0)) := by rw [h_]; exact blk_new _ _
  rw [← h_]
  clear h_
  have n_BL2 := Aside0.mk (BL2.out.trans (Below.mono hb_ BL2.out.size))
  have n_GD := Aside0.mk (Got.below GD.out hb_)
  have n_Y1 := Aside0.mk (blk_below Y1.out hb_)
  have n_Y2 := Aside0.mk (blk_below Y2.out hb_)
  have n_CB1p := Aside0.mk (Kd.C_below CB1p.out hb_)
  have n_CB2p := Aside0.mk (Kd.C_below CB2p.out hb_)
  have n_CA1p := Aside0.mk (Kd.C_below CA1p.out hb_)
  have n_CA2p := Aside0.mk (Kd.C_below CA2p.out hb_)
  clear BL2
  have BL2 := n_BL2
  clear n_BL2
  clear GD
  have GD := n_GD
  clear n_GD
  clear Y1
  have Y1 := n_Y1
  clear n_Y1
  clear Y2
  have Y2 := n_Y2
  clear n_Y2
  clear CB1p
  have CB1p := n_CB1p
  clear n_CB1p
  clear CB2p
  have CB2p := n_CB2p
  clear n_CB2p
  clear CA1p
  have CA1p := n_CA1p
  clear n_CA1p
  clear CA2p
  have CA2p := n_CA2p
  clear n_CA2p
  clear hb_
  obtain ⟨gd, e_⟩ : ∃ g_, g_ = W2.heap.size := ⟨_, rfl⟩
  rw [← e_] at hx_ ⊢
  clear e_
  have XD := Aside0.mk hx_
  have p0 := (blk_cell Y1.out 0).trans rfl
  have p1 := (blk_cell Y1.out 1).trans rfl
  have p2 := (blk_cell Y1.out 2).trans rfl
  have q0 := (blk_cell Y2.out 0).trans rfl
  have q1 := (blk_cell Y2.out 1).trans rfl
  have q2 := (blk_cell Y2.out 2).trans rfl
  go_wp2_with fail
  refine (mark_of 2 _ 2 bN _ 2 bE 2 _ 3 aN _ 3 aE 2 W3 CB1p.out (by decide) CB2p.out (by decide) CA1p.out (by decide) CA2p.out (by decide) 0 [] [] 13 fOf2).mono ?_
  rintro e W4 ⟨v1, v2, rfl, hs, hr, hb⟩
  obtain ⟨Z1, z1, rfl⟩ := Kd.S_slice hs
  obtain ⟨Z2, z2, rfl⟩ := Kd.R_slice hr
  have GZ : Aside0 (Got 0 Z1 z1 ([] : List (List Int)) Z2 z2 ([] : List Bool) W4) := ⟨⟨(Kd.S_reads' hs).2.1, (Kd.S_reads' hs).2.2, (Kd.R_reads' hr).2.1, (Kd.R_reads' hr).2.2⟩⟩
  have n_BL2 := Aside0.mk (BL2.out.trans (Below.mono hb BL2.out.size))
  have n_GD := Aside0.mk (Got.below GD.out hb)
  have n_Y1 := Aside0.mk (blk_below Y1.out hb)
  have n_Y2 := Aside0.mk (blk_below Y2.out hb)
  have n_CB1p := Aside0.mk (Kd.C_below CB1p.out hb)
  have n_CB2p := Aside0.mk (Kd.C_below CB2p.out hb)
  have n_CA1p := Aside0.mk (Kd.C_below CA1p.out hb)
  have n_CA2p := Aside0.mk (Kd.C_below CA2p.out hb)
  have n_XD := Aside0.mk (blk_below XD.out hb)
  clear BL2
  have BL2 := n_BL2
  clear n_BL2
  clear GD
  have GD := n_GD
  clear n_GD
  clear Y1
  have Y1 := n_Y1
  clear n_Y1
  clear Y2
  have Y2 := n_Y2
  clear n_Y2
  clear CB1p
  have CB1p := n_CB1p
  clear n_CB1p
  clear CB2p
  have CB2p := n_CB2p
  clear n_CB2p
  clear CA1p
  have CA1p := n_CA1p
  clear n_CA1p
  clear CA2p
  have CA2p := n_CA2p
  clear n_CA2p
  clear XD
  have XD := n_XD
  clear n_XD
  clear hs hr hb
  clear p0 p1 p2
  clear q0 q1 q2
  clear Y1 Y2 CB1p CB2p CA1p CA2p GZ
  go_upto_region 5 with (fail)
  obtain ⟨W5, h_⟩ : ∃ W_, W_ = W4.alloc (.cells #[.int .i64 0, .slice Z1 0 z1, .slice Z2 0 z2] 25) := ⟨_, rfl⟩
  have hb_ : Below W4.heap.size W4 W5 := by rw [h_]; exact below_alloc (Below.refl _ _) _
  have hx_ : W5.heap[W4.heap.size]? = some (.cells #[.int .i64 0, .slice Z1 0 z1, .slice Z2 0 z2] 25 (0, 0)) := by rw [h_]; exact blk_new _ _
  rw [← h_]
  clear h_
  have n_BL2 := Aside0.mk (BL2.out.trans (Below.mono hb_ BL2.out.size))
  have n_GD := Aside0.mk (Got.below GD.out hb_)
  have n_XD := Aside0.mk (blk_below XD.out hb_)
  clear BL2
  have BL2 := n_BL2
  clear n_BL2
  clear GD
  have GD := n_GD
  clear n_GD
  clear XD
  have XD := n_XD
  clear n_XD
  clear hb_
  clear hx_
  go_wp2_with fail
  refine (mark_one 2 W5 4 oN oE 0 fOne).mono ?_
  rintro e W6 ⟨v1, v2, rfl, hs, hr, hb⟩
  obtain ⟨O1, o1, rfl⟩ := Kd.S_slice hs
  obtain ⟨O2, o2, rfl⟩ := Kd.R_slice hr
  have GO : Aside0 (Got 0 O1 o1 oN O2 o2 oE W6) := ⟨⟨(Kd.S_reads' hs).2.1, (Kd.S_reads' hs).2.2, (Kd.R_reads' hr).2.1, (Kd.R_reads' hr).2.2⟩⟩
  have n_BL2 := Aside0.mk (BL2.out.trans (Below.mono hb BL2.out.size))
  have n_GD := Aside0.mk (Got.below GD.out hb)
  have n_XD := Aside0.mk (blk_below XD.out hb)
  clear BL2
  have BL2 := n_BL2
  clear n_BL2
  clear GD
  have GD := n_GD
  clear n_GD
  clear XD
  have XD := n_XD
  clear n_XD
  clear hs hr hb
  go_upto_region 6 with (fail)
  obtain ⟨W7, h_⟩ : ∃ W_, W_ = W6.alloc (.cells #[.int .i64 4, .slice O1 oN.length o1, .slice O2 oE.length o2] 25) := ⟨_, rfl⟩
  have hb_ : Below W6.heap.size W6 W7 := by rw [h_]; exact below_alloc (Below.refl _ _) _
  have hx_ : W7.heap[W6.heap.size]? = some (.cells #[.int .i64 4, .slice O1 oN.length o1, .slice O2 oE.length o2] 25 (0, 0)) := by rw [h_]; exact blk_new _ _
  rw [← h_]
  clear h_
  have n_BL2 := Aside0.mk (BL2.out.trans (Below.mono hb_ BL2.out.size))
  have n_GD := Aside0.mk (Got.below GD.out hb_)
  have n_XD := Aside0.mk (blk_below XD.out hb_)
  have n_GO := Aside0.mk (Got.below GO.out hb_)
  clear BL2
  have BL2 := n_BL2
  clear n_BL2
  clear GD
  have GD := n_GD
  clear n_GD
  clear XD
  have XD := n_XD
  clear n_XD
  clear GO
  have GO := n_GO
  clear n_GO
  clear hb_
  obtain ⟨go, e_⟩ : ∃ g_, g_ = W6.heap.size := ⟨_, rfl⟩
  rw [← e_] at hx_ ⊢
  clear e_
  have XO := Aside0.mk hx_
  have xd0 := (blk_cell XD.out 0).trans rfl
  have xd1 := (blk_cell XD.out 1).trans rfl
  have xd2 := (blk_cell XD.out 2).trans rfl
  have xo0 := (blk_cell XO.out 0).trans rfl
  have xo1 := (blk_cell XO.out 1).trans rfl
  have xo2 := (blk_cell XO.out 2).trans rfl
  go_wp2_with fail
  obtain ⟨W8, h_⟩ : ∃ W_, W_ = W7.alloc (.cells #[.int .i64 0, .int .i64 3, .int .i64 2] 3) := ⟨_, rfl⟩
  have hb_ : Below W7.heap.size W7 W8 := by rw [h_]; exact below_alloc (Below.refl _ _) _
  have hx_ : W8.heap[W7.heap.size]? = some (.cells #[.int .i64 0, .int .i64 3, .int .i64 2] 3 (0, 0)) := by rw [h_]; exact blk_new _ _
  rw [← h_]
  clear h_
  have n_BL2 := Aside0.mk (BL2.out.trans (Below.mono hb_ BL2.out.size))
  have n_GD := Aside0.mk (Got.below GD.out hb_)
  have n_XD := Aside0.mk (blk_below XD.out hb_)
  have n_GO := Aside0.mk (Got.below GO.out hb_)
  have n_XO := Aside0.mk (blk_below XO.out hb_)
  clear BL2
  have BL2 := n_BL2
  clear n_BL2
  clear GD
  have GD := n_GD
  clear n_GD
  clear XD
  have XD := n_XD
  clear n_XD
  clear GO
  have GO := n_GO
  clear n_GO
  clear XO
  have XO := n_XO
  clear n_XO
  clear hb_
  obtain ⟨gl1, e_⟩ : ∃ g_, g_ = W7.heap.size := ⟨_, rfl⟩
  rw [← e_] at hx_ ⊢
  clear e_
  have LX1 := Aside0.mk hx_
  clear hx_
  clear xd0 xd1 xd2
  have xd0 := (blk_cell XD.out 0).trans rfl
  have xd1 := (blk_cell XD.out 1).trans rfl
  have xd2 := (blk_cell XD.out 2).trans rfl
  clear xo0 xo1 xo2
  have xo0 := (blk_cell XO.out 0).trans rfl
  have xo1 := (blk_cell XO.out 1).trans rfl
  have xo2 := (blk_cell XO.out 2).trans rfl
  refine (PMarkMakes.mark_Signs.calls 10 (some ⟨gl1, 0, none⟩) 3 [0, 3, 2] [0, 1, 1] 1 true W8 (C_ints (xs := [0, 3, 2]) LX1.out (by decide)) (by decide) fS1).mono ?_
  rintro e W9 ⟨v1, rfl, hr, hb⟩
  obtain ⟨S1, s1, rfl⟩ := Kd.R_slice hr
  have n_BL2 := Aside0.mk (BL2.out.trans (Below.mono hb BL2.out.size))
  have n_GD := Aside0.mk (Got.below GD.out hb)
  have n_XD := Aside0.mk (blk_below XD.out hb)
  have n_GO := Aside0.mk (Got.below GO.out hb)
  have n_XO := Aside0.mk (blk_below XO.out hb)
  have n_LX1 := Aside0.mk (blk_below LX1.out hb)
  clear BL2
  have BL2 := n_BL2
  clear n_BL2
  clear GD
  have GD := n_GD
  clear n_GD
  clear XD
  have XD := n_XD
  clear n_XD
  clear GO
  have GO := n_GO
  clear n_GO
  clear XO
  have XO := n_XO
  clear n_XO
  clear LX1
  have LX1 := n_LX1
  clear n_LX1
  have RS := Aside0.mk (Kd.R_reads' hr)
  clear hr hb
  clear xd0 xd1 xd2
  have xd0 := (blk_cell XD.out 0).trans rfl
  have xd1 := (blk_cell XD.out 1).trans rfl
  have xd2 := (blk_cell XD.out 2).trans rfl
  clear xo0 xo1 xo2
  have xo0 := (blk_cell XO.out 0).trans rfl
  have xo1 := (blk_cell XO.out 1).trans rfl
  have xo2 := (blk_cell XO.out 2).trans rfl
  have RC := Aside0.mk RS.out.2.2
  clear LX1
  go_wp2_with fail
  obtain ⟨W10, h_⟩ : ∃ W_, W_ = W9.alloc (.cells #[.int .i64 1, .int .i64 2] 3) := ⟨_, rfl⟩
  have hb_ : Below W9.heap.size W9 W10 := by rw [h_]; exact below_alloc (Below.refl _ _) _
  have hx_ : W10.heap[W9.heap.size]? = some (.cells #[.int .i64 1, .int .i64 2] 3 (0, 0)) := by rw [h_]; exact blk_new _ _
  rw [← h_]
  clear h_
  have n_BL2 := Aside0.mk (BL2.out.trans (Below.mono hb_ BL2.out.size))
  have n_GD := Aside0.mk (Got.below GD.out hb_)
  have n_XD := Aside0.mk (blk_below XD.out hb_)
  have n_GO := Aside0.mk (Got.below GO.out hb_)
  have n_XO := Aside0.mk (blk_below XO.out hb_)
  have n_RC := Aside0.mk (Kd.C_below RC.out hb_)
  clear BL2
  have BL2 := n_BL2
  clear n_BL2
  clear GD
  have GD := n_GD
  clear n_GD
  clear XD
  have XD := n_XD
  clear n_XD
  clear GO
  have GO := n_GO
  clear n_GO
  clear XO
  have XO := n_XO
  clear n_XO
  clear RC
  have RC := n_RC
  clear n_RC
  clear hb_
  obtain ⟨gl2, e_⟩ : ∃ g_, g_ = W9.heap.size := ⟨_, rfl⟩
  rw [← e_] at hx_ ⊢
  clear e_
  have LX2 := Aside0.mk hx_
  clear hx_
  clear xd0 xd1 xd2
  have xd0 := (blk_cell XD.out 0).trans rfl
  have xd1 := (blk_cell XD.out 1).trans rfl
  have xd2 := (blk_cell XD.out 2).trans rfl
  clear xo0 xo1 xo2
  have xo0 := (blk_cell XO.out 0).trans rfl
  have xo1 := (blk_cell XO.out 1).trans rfl
  have xo2 := (blk_cell XO.out 2).trans rfl
  refine (PMarkMakes.mark_Signs.calls 10 (some ⟨gl2, 0, none⟩) 2 [1, 2] [] 0 false W10 (C_ints (xs := [1, 2]) LX2.out (by decide)) (by decide) fS2).mono ?_
  rintro e W11 ⟨v1, rfl, hr, hb⟩
  obtain ⟨T1, t1, rfl⟩ := Kd.R_slice hr
  have n_BL2 := Aside0.mk (BL2.out.trans (Below.mono hb BL2.out.size))
  have n_GD := Aside0.mk (Got.below GD.out hb)
  have n_XD := Aside0.mk (blk_below XD.out hb)
  have n_GO := Aside0.mk (Got.below GO.out hb)
  have n_XO := Aside0.mk (blk_below XO.out hb)
  have n_RC := Aside0.mk (Kd.C_below RC.out hb)
  have n_LX2 := Aside0.mk (blk_below LX2.out hb)
  clear BL2
  have BL2 := n_BL2
  clear n_BL2
  clear GD
  have GD := n_GD
  clear n_GD
  clear XD
  have XD := n_XD
  clear n_XD
  clear GO
  have GO := n_GO
  clear n_GO
  clear XO
  have XO := n_XO
  clear n_XO
  clear RC
  have RC := n_RC
  clear n_RC
  clear LX2
  have LX2 := n_LX2
  clear n_LX2
  have RZ := Aside0.mk (Kd.R_reads' hr)
  clear hr hb
  clear xd0 xd1 xd2
  have xd0 := (blk_cell XD.out 0).trans rfl
  have xd1 := (blk_cell XD.out 1).trans rfl
  have xd2 := (blk_cell XD.out 2).trans rfl
  clear xo0 xo1 xo2
  have xo0 := (blk_cell XO.out 0).trans rfl
  have xo1 := (blk_cell XO.out 1).trans rfl
  have xo2 := (blk_cell XO.out 2).trans rfl
  clear RZ
  clear LX2
  go_wp2_with fail
  obtain ⟨W12, h_⟩ : ∃ W_, W_ = W11.alloc (.cells #[.int .i64 2, .int .i64 0, .int .i64 3, .int .i64 0] 3) := ⟨_, rfl⟩
  have hb_ : Below W11.heap.size W11 W12 := by rw [h_]; exact below_alloc (Below.refl _ _) _
  have hx_ : W12.heap[W11.heap.size]? = some (.cells #[.int .i64 2, .int .i64 0, .int .i64 3, .int .i64 0] 3 (0, 0)) := by rw [h_]; exact blk_new _ _
  rw [← h_]
  clear h_
  have n_BL2 := Aside0.mk (BL2.out.trans (Below.mono hb_ BL2.out.size))
  have n_GD := Aside0.mk (Got.below GD.out hb_)
  have n_XD := Aside0.mk (blk_below XD.out hb_)
  have n_GO := Aside0.mk (Got.below GO.out hb_)
  have n_XO := Aside0.mk (blk_below XO.out hb_)
  have n_RC := Aside0.mk (Kd.C_below RC.out hb_)
  clear BL2
  have BL2 := n_BL2
  clear n_BL2
  clear GD
  have GD := n_GD
  clear n_GD
  clear XD
  have XD := n_XD
  clear n_XD
  clear GO
  have GO := n_GO
  clear n_GO
  clear XO
  have XO := n_XO
  clear n_XO
  clear RC
  have RC := n_RC
  clear n_RC
  clear hb_
  obtain ⟨gl3, e_⟩ : ∃ g_, g_ = W11.heap.size := ⟨_, rfl⟩
  rw [← e_] at hx_ ⊢
  clear e_
  have LX3 := Aside0.mk hx_
  clear hx_
  clear xd0 xd1 xd2
  have xd0 := (blk_cell XD.out 0).trans rfl
  have xd1 := (blk_cell XD.out 1).trans rfl
  have xd2 := (blk_cell XD.out 2).trans rfl
  clear xo0 xo1 xo2
  have xo0 := (blk_cell XO.out 0).trans rfl
  have xo1 := (blk_cell XO.out 1).trans rfl
  have xo2 := (blk_cell XO.out 2).trans rfl
  refine (PMarkMakes.caesuraref15_Accepts.calls 60 4 D1 d1 dN D2 d2 dE (some ⟨gl3, 0, none⟩) 4 [2, 0, 3, 0] true W12 GD.out.n2 GD.out.n1 GD.out.e2 GD.out.e1 (C_ints (xs := [2, 0, 3, 0]) LX3.out (by decide)) (by decide) fA1).mono ?_
  rintro e W13 ⟨rfl, hb⟩
  have n_BL2 := Aside0.mk (BL2.out.trans (Below.mono hb BL2.out.size))
  have n_GD := Aside0.mk (Got.below GD.out hb)
  have n_XD := Aside0.mk (blk_below XD.out hb)
  have n_GO := Aside0.mk (Got.below GO.out hb)
  have n_XO := Aside0.mk (blk_below XO.out hb)
  have n_RC := Aside0.mk (Kd.C_below RC.out hb)
  have n_LX3 := Aside0.mk (blk_below LX3.out hb)
  clear BL2
  have BL2 := n_BL2
  clear n_BL2
  clear GD
  have GD := n_GD
  clear n_GD
  clear XD
  have XD := n_XD
  clear n_XD
  clear GO
  have GO := n_GO
  clear n_GO
  clear XO
  have XO := n_XO
  clear n_XO
  clear RC
  have RC := n_RC
  clear n_RC
  clear LX3
  have LX3 := n_LX3
  clear n_LX3
  clear hb
  clear xd0 xd1 xd2
  have xd0 := (blk_cell XD.out 0).trans rfl
  have xd1 := (blk_cell XD.out 1).trans rfl
  have xd2 := (blk_cell XD.out 2).trans rfl
  clear xo0 xo1 xo2
  have xo0 := (blk_cell XO.out 0).trans rfl
  have xo1 := (blk_cell XO.out 1).trans rfl
  have xo2 := (blk_cell XO.out 2).trans rfl
  clear LX3
  go_wp2_with fail
  obtain ⟨W14, h_⟩ : ∃ W_, W_ = W13.alloc (.cells #[.int .i64 0, .int .i64 1] 3) := ⟨_, rfl⟩
  have hb_ : Below W13.heap.size W13 W14 := by rw [h_]; exact below_alloc (Below.refl _ _) _
  have hx_ : W14.heap[W13.heap.size]? = some (.cells #[.int .i64 0, .int .i64 1] 3 (0, 0)) := by rw [h_]; exact blk_new _ _
  rw [← h_]
  clear h_
  have n_BL2 := Aside0.mk (BL2.out.trans (Below.mono hb_ BL2.out.size))
  have n_GD := Aside0.mk (Got.below GD.out hb_)
  have n_XD := Aside0.mk (blk_below XD.out hb_)
  have n_GO := Aside0.mk (Got.below GO.out hb_)
  have n_XO := Aside0.mk (blk_below XO.out hb_)
  have n_RC := Aside0.mk (Kd.C_below RC.out hb_)
  clear BL2
  have BL2 := n_BL2
  clear n_BL2
  clear GD
  have GD := n_GD
  clear n_GD
  clear XD
  have XD := n_XD
  clear n_XD
  clear GO
  have GO := n_GO
  clear n_GO
  clear XO
  have XO := n_XO
  clear n_XO
  clear RC
  have RC := n_RC
  clear n_RC
  clear hb_
  obtain ⟨gl4, e_⟩ : ∃ g_, g_ = W13.heap.size := ⟨_, rfl⟩
  rw [← e_] at hx_ ⊢
  clear e_
  have LX4 := Aside0.mk hx_
  clear hx_
  clear xd0 xd1 xd2
  have xd0 := (blk_cell XD.out 0).trans rfl
  have xd1 := (blk_cell XD.out 1).trans rfl
  have xd2 := (blk_cell XD.out 2).trans rfl
  clear xo0 xo1 xo2
  have xo0 := (blk_cell XO.out 0).trans rfl
  have xo1 := (blk_cell XO.out 1).trans rfl
  have xo2 := (blk_cell XO.out 2).trans rfl
  refine (PMarkMakes.caesuraref15_Accepts.calls 60 4 D1 d1 dN D2 d2 dE (some ⟨gl4, 0, none⟩) 2 [0, 1] false W14 GD.out.n2 GD.out.n1 GD.out.e2 GD.out.e1 (C_ints (xs := [0, 1]) LX4.out (by decide)) (by decide) fA2).mono ?_
  rintro e W15 ⟨rfl, hb⟩
  have n_BL2 := Aside0.mk (BL2.out.trans (Below.mono hb BL2.out.size))
  have n_GD := Aside0.mk (Got.below GD.out hb)
  have n_XD := Aside0.mk (blk_below XD.out hb)
  have n_GO := Aside0.mk (Got.below GO.out hb)
  have n_XO := Aside0.mk (blk_below XO.out hb)
  have n_RC := Aside0.mk (Kd.C_below RC.out hb)
  have n_LX4 := Aside0.mk (blk_below LX4.out hb)
  clear BL2
  have BL2 := n_BL2
  clear n_BL2
  clear GD
  have GD := n_GD
  clear n_GD
  clear XD
  have XD := n_XD
  clear n_XD
  clear GO
  have GO := n_GO
  clear n_GO
  clear XO
  have XO := n_XO
  clear n_XO
  clear RC
  have RC := n_RC
  clear n_RC
  clear LX4
  have LX4 := n_LX4
  clear n_LX4
  clear hb
  clear xd0 xd1 xd2
  have xd0 := (blk_cell XD.out 0).trans rfl
  have xd1 := (blk_cell XD.out 1).trans rfl
  have xd2 := (blk_cell XD.out 2).trans rfl
  clear xo0 xo1 xo2
  have xo0 := (blk_cell XO.out 0).trans rfl
  have xo1 := (blk_cell XO.out 1).trans rfl
  have xo2 := (blk_cell XO.out 2).trans rfl
  clear LX4
  go_wp2_with fail
  obtain ⟨W16, h_⟩ : ∃ W_, W_ = W15.alloc (.cells #[.int .i64 3] 3) := ⟨_, rfl⟩
  have hb_ : Below W15.heap.size W15 W16 := by rw [h_]; exact below_alloc (Below.refl _ _) _
  have hx_ : W16.heap[W15.heap.size]? = some (.cells #[.int .i64 3] 3 (0, 0)) := by rw [h_]; exact blk_new _ _
  rw [← h_]
  clear h_
  have n_BL2 := Aside0.mk (BL2.out.trans (Below.mono hb_ BL2.out.size))
  have n_GD := Aside0.mk (Got.below GD.out hb_)
  have n_XD := Aside0.mk (blk_below XD.out hb_)
  have n_GO := Aside0.mk (Got.below GO.out hb_)
  have n_XO := Aside0.mk (blk_below XO.out hb_)
  have n_RC := Aside0.mk (Kd.C_below RC.out hb_)
  clear BL2
  have BL2 := n_BL2
  clear n_BL2
  clear GD
  have GD := n_GD
  clear n_GD
  clear XD
  have XD := n_XD
  clear n_XD
  clear GO
  have GO := n_GO
  clear n_GO
  clear XO
  have XO := n_XO
  clear n_XO
  clear RC
  have RC := n_RC
  clear n_RC
  clear hb_
  obtain ⟨gl5, e_⟩ : ∃ g_, g_ = W15.heap.size := ⟨_, rfl⟩
  rw [← e_] at hx_ ⊢
  clear e_
  have LX5 := Aside0.mk hx_
  clear hx_
  clear xd0 xd1 xd2
  have xd0 := (blk_cell XD.out 0).trans rfl
  have xd1 := (blk_cell XD.out 1).trans rfl
  have xd2 := (blk_cell XD.out 2).trans rfl
  clear xo0 xo1 xo2
  have xo0 := (blk_cell XO.out 0).trans rfl
  have xo1 := (blk_cell XO.out 1).trans rfl
  have xo2 := (blk_cell XO.out 2).trans rfl
  refine (PMarkMakes.caesuraref15_Accepts.calls 60 4 D1 d1 dN D2 d2 dE (some ⟨gl5, 0, none⟩) 1 [3] false W16 GD.out.n2 GD.out.n1 GD.out.e2 GD.out.e1 (C_ints (xs := [3]) LX5.out (by decide)) (by decide) fA3).mono ?_
  rintro e W17 ⟨rfl, hb⟩
  have n_BL2 := Aside0.mk (BL2.out.trans (Below.mono hb BL2.out.size))
  have n_GD := Aside0.mk (Got.below GD.out hb)
  have n_XD := Aside0.mk (blk_below XD.out hb)
  have n_GO := Aside0.mk (Got.below GO.out hb)
  have n_XO := Aside0.mk (blk_below XO.out hb)
  have n_RC := Aside0.mk (Kd.C_below RC.out hb)
  have n_LX5 := Aside0.mk (blk_below LX5.out hb)
  clear BL2
  have BL2 := n_BL2
  clear n_BL2
  clear GD
  have GD := n_GD
  clear n_GD
  clear XD
  have XD := n_XD
  clear n_XD
  clear GO
  have GO := n_GO
  clear n_GO
  clear XO
  have XO := n_XO
  clear n_XO
  clear RC
  have RC := n_RC
  clear n_RC
  clear LX5
  have LX5 := n_LX5
  clear n_LX5
  clear hb
  clear xd0 xd1 xd2
  have xd0 := (blk_cell XD.out 0).trans rfl
  have xd1 := (blk_cell XD.out 1).trans rfl
  have xd2 := (blk_cell XD.out 2).trans rfl
  clear xo0 xo1 xo2
  have xo0 := (blk_cell XO.out 0).trans rfl
  have xo1 := (blk_cell XO.out 1).trans rfl
  have xo2 := (blk_cell XO.out 2).trans rfl
  clear LX5
  have hol : oN.length = 4 := rfl
  go_wp2_with fail
  obtain ⟨W18, h_⟩ : ∃ W_, W_ = W17.alloc (.cells #[.int .i64 0, .int .i64 3] 3) := ⟨_, rfl⟩
  have hb_ : Below W17.heap.size W17 W18 := by rw [h_]; exact below_alloc (Below.refl _ _) _
  have hx_ : W18.heap[W17.heap.size]? = some (.cells #[.int .i64 0, .int .i64 3] 3 (0, 0)) := by rw [h_]; exact blk_new _ _
  rw [← h_]
  clear h_
  have n_BL2 := Aside0.mk (BL2.out.trans (Below.mono hb_ BL2.out.size))
  have n_GD := Aside0.mk (Got.below GD.out hb_)
  have n_XD := Aside0.mk (blk_below XD.out hb_)
  have n_GO := Aside0.mk (Got.below GO.out hb_)
  have n_XO := Aside0.mk (blk_below XO.out hb_)
  have n_RC := Aside0.mk (Kd.C_below RC.out hb_)
  clear BL2
  have BL2 := n_BL2
  clear n_BL2
  clear GD
  have GD := n_GD
  clear n_GD
  clear XD
  have XD := n_XD
  clear n_XD
  clear GO
  have GO := n_GO
  clear n_GO
  clear XO
  have XO := n_XO
  clear n_XO
  clear RC
  have RC := n_RC
  clear n_RC
  clear hb_
  obtain ⟨gl6, e_⟩ : ∃ g_, g_ = W17.heap.size := ⟨_, rfl⟩
  rw [← e_] at hx_ ⊢
  clear e_
  have LX6 := Aside0.mk hx_
  clear hx_
  clear xd0 xd1 xd2
  have xd0 := (blk_cell XD.out 0).trans rfl
  have xd1 := (blk_cell XD.out 1).trans rfl
  have xd2 := (blk_cell XD.out 2).trans rfl
  clear xo0 xo1 xo2
  have xo0 := (blk_cell XO.out 0).trans rfl
  have xo1 := (blk_cell XO.out 1).trans rfl
  have xo2 := (blk_cell XO.out 2).trans rfl
  refine (PMarkMakes.caesuraref15_Accepts.calls 60 4 O1 o1 oN O2 o2 oE (some ⟨gl6, 0, none⟩) 2 [0, 3] true W18 GO.out.n2 GO.out.n1 GO.out.e2 GO.out.e1 (C_ints (xs := [0, 3]) LX6.out (by decide)) (by decide) fA4).mono ?_
  rintro e W19 ⟨rfl, hb⟩
  have n_BL2 := Aside0.mk (BL2.out.trans (Below.mono hb BL2.out.size))
  have n_GD := Aside0.mk (Got.below GD.out hb)
  have n_XD := Aside0.mk (blk_below XD.out hb)
  have n_GO := Aside0.mk (Got.below GO.out hb)
  have n_XO := Aside0.mk (blk_below XO.out hb)
  have n_RC := Aside0.mk (Kd.C_below RC.out hb)
  have n_LX6 := Aside0.mk (blk_below LX6.out hb)
  clear BL2
  have BL2 := n_BL2
  clear n_BL2
  clear GD
  have GD := n_GD
  clear n_GD
  clear XD
  have XD := n_XD
  clear n_XD
  clear GO
  have GO := n_GO
  clear n_GO
  clear XO
  have XO := n_XO
  clear n_XO
  clear RC
  have RC := n_RC
  clear n_RC
  clear LX6
  have LX6 := n_LX6
  clear n_LX6
  clear hb
  clear xd0 xd1 xd2
  have xd0 := (blk_cell XD.out 0).trans rfl
  have xd1 := (blk_cell XD.out 1).trans rfl
  have xd2 := (blk_cell XD.out 2).trans rfl
  clear xo0 xo1 xo2
  have xo0 := (blk_cell XO.out 0).trans rfl
  have xo1 := (blk_cell XO.out 1).trans rfl
  have xo2 := (blk_cell XO.out 2).trans rfl
  clear LX6
  go_wp2_with fail
  obtain ⟨W20, h_⟩ : ∃ W_, W_ = W19.alloc (.cells #[.int .i64 1] 3) := ⟨_, rfl⟩
  have hb_ : Below W19.heap.size W19 W20 := by rw [h_]; exact below_alloc (Below.refl _ _) _
  have hx_ : W20.heap[W19.heap.size]? = some (.cells #[.int .i64 1] 3 (0, 0)) := by rw [h_]; exact blk_new _ _
  rw [← h_]
  clear h_
  have n_BL2 := Aside0.mk (BL2.out.trans (Below.mono hb_ BL2.out.size))
  have n_GD := Aside0.mk (Got.below GD.out hb_)
  have n_XD := Aside0.mk (blk_below XD.out hb_)
  have n_GO := Aside0.mk (Got.below GO.out hb_)
  have n_XO := Aside0.mk (blk_below XO.out hb_)
  have n_RC := Aside0.mk (Kd.C_below RC.out hb_)
  clear BL2
  have BL2 := n_BL2
  clear n_BL2
  clear GD
  have GD := n_GD
  clear n_GD
  clear XD
  have XD := n_XD
  clear n_XD
  clear GO
  have GO := n_GO
  clear n_GO
  clear XO
  have XO := n_XO
  clear n_XO
  clear RC
  have RC := n_RC
  clear n_RC
  clear hb_
  obtain ⟨gl7, e_⟩ : ∃ g_, g_ = W19.heap.size := ⟨_, rfl⟩
  rw [← e_] at hx_ ⊢
  clear e_
  have LX7 := Aside0.mk hx_
  clear hx_
  clear xd0 xd1 xd2
  have xd0 := (blk_cell XD.out 0).trans rfl
  have xd1 := (blk_cell XD.out 1).trans rfl
  have xd2 := (blk_cell XD.out 2).trans rfl
  clear xo0 xo1 xo2
  have xo0 := (blk_cell XO.out 0).trans rfl
  have xo1 := (blk_cell XO.out 1).trans rfl
  have xo2 := (blk_cell XO.out 2).trans rfl
  refine (PMarkMakes.caesuraref15_Accepts.calls 60 4 O1 o1 oN O2 o2 oE (some ⟨gl7, 0, none⟩) 1 [1] false W20 GO.out.n2 GO.out.n1 GO.out.e2 GO.out.e1 (C_ints (xs := [1]) LX7.out (by decide)) (by decide) fA5).mono ?_
  rintro e W21 ⟨rfl, hb⟩
  have n_BL2 := Aside0.mk (BL2.out.trans (Below.mono hb BL2.out.size))
  have n_GD := Aside0.mk (Got.below GD.out hb)
  have n_XD := Aside0.mk (blk_below XD.out hb)
  have n_GO := Aside0.mk (Got.below GO.out hb)
  have n_XO := Aside0.mk (blk_below XO.out hb)
  have n_RC := Aside0.mk (Kd.C_below RC.out hb)
  have n_LX7 := Aside0.mk (blk_below LX7.out hb)
  clear BL2
  have BL2 := n_BL2
  clear n_BL2
  clear GD
  have GD := n_GD
  clear n_GD
  clear XD
  have XD := n_XD
  clear n_XD
  clear GO
  have GO := n_GO
  clear n_GO
  clear XO
  have XO := n_XO
  clear n_XO
  clear RC
  have RC := n_RC
  clear n_RC
  clear LX7
  have LX7 := n_LX7
  clear n_LX7
  clear hb
  clear xd0 xd1 xd2
  have xd0 := (blk_cell XD.out 0).trans rfl
  have xd1 := (blk_cell XD.out 1).trans rfl
  have xd2 := (blk_cell XD.out 2).trans rfl
  clear xo0 xo1 xo2
  have xo0 := (blk_cell XO.out 0).trans rfl
  have xo1 := (blk_cell XO.out 1).trans rfl
  have xo2 := (blk_cell XO.out 2).trans rfl
  clear LX7
  go_wp2_with fail
  obtain ⟨W22, h_⟩ : ∃ W_, W_ = W21.alloc (.cells #[.int .i64 0, .int .i64 1, .int .i64 1] 3) := ⟨_, rfl⟩
  have hb_ : Below W21.heap.size W21 W22 := by rw [h_]; exact below_alloc (Below.refl _ _) _
  have hx_ : W22.heap[W21.heap.size]? = some (.cells #[.int .i64 0, .int .i64 1, .int .i64 1] 3 (0, 0)) := by rw [h_]; exact blk_new _ _
  rw [← h_]
  clear h_
  have n_BL2 := Aside0.mk (BL2.out.trans (Below.mono hb_ BL2.out.size))
  have n_GD := Aside0.mk (Got.below GD.out hb_)
  have n_XD := Aside0.mk (blk_below XD.out hb_)
  have n_GO := Aside0.mk (Got.below GO.out hb_)
  have n_XO := Aside0.mk (blk_below XO.out hb_)
  have n_RC := Aside0.mk (Kd.C_below RC.out hb_)
  clear BL2
  have BL2 := n_BL2
  clear n_BL2
  clear GD
  have GD := n_GD
  clear n_GD
  clear XD
  have XD := n_XD
  clear n_XD
  clear GO
  have GO := n_GO
  clear n_GO
  clear XO
  have XO := n_XO
  clear n_XO
  clear RC
  have RC := n_RC
  clear n_RC
  clear hb_
  obtain ⟨gl8, e_⟩ : ∃ g_, g_ = W21.heap.size := ⟨_, rfl⟩
  rw [← e_] at hx_ ⊢
  clear e_
  have LX8 := Aside0.mk hx_
  clear hx_
  clear xd0 xd1 xd2
  have xd0 := (blk_cell XD.out 0).trans rfl
  have xd1 := (blk_cell XD.out 1).trans rfl
  have xd2 := (blk_cell XD.out 2).trans rfl
  clear xo0 xo1 xo2
  have xo0 := (blk_cell XO.out 0).trans rfl
  have xo1 := (blk_cell XO.out 1).trans rfl
  have xo2 := (blk_cell XO.out 2).trans rfl
  refine (PMarkMakes.caesuraref01_Ints.calls 10 S1 s1 [0, 1, 1] (some ⟨gl8, 0, none⟩) 3 [0, 1, 1] true W22 RC.out RS.out.2.1 (C_ints (xs := [0, 1, 1]) LX8.out (by decide)) (by decide) fI).mono ?_
  rintro e W23 ⟨rfl, hb⟩
  replace hb := hb.below
  have n_BL2 := Aside0.mk (BL2.out.trans (Below.mono hb BL2.out.size))
  have n_GD := Aside0.mk (Got.below GD.out hb)
  have n_XD := Aside0.mk (blk_below XD.out hb)
  have n_GO := Aside0.mk (Got.below GO.out hb)
  have n_XO := Aside0.mk (blk_below XO.out hb)
  have n_RC := Aside0.mk (Kd.C_below RC.out hb)
  have n_LX8 := Aside0.mk (blk_below LX8.out hb)
  clear BL2
  have BL2 := n_BL2
  clear n_BL2
  clear GD
  have GD := n_GD
  clear n_GD
  clear XD
  have XD := n_XD
  clear n_XD
  clear GO
  have GO := n_GO
  clear n_GO
  clear XO
  have XO := n_XO
  clear n_XO
  clear RC
  have RC := n_RC
  clear n_RC
  clear LX8
  have LX8 := n_LX8
  clear n_LX8
  clear hb
  clear xd0 xd1 xd2
  have xd0 := (blk_cell XD.out 0).trans rfl
  have xd1 := (blk_cell XD.out 1).trans rfl
  have xd2 := (blk_cell XD.out 2).trans rfl
  clear xo0 xo1 xo2
  have xo0 := (blk_cell XO.out 0).trans rfl
  have xo1 := (blk_cell XO.out 1).trans rfl
  have xo2 := (blk_cell XO.out 2).trans rfl
  clear LX8
  go_wp2_with fail
  obtain ⟨W24, h_⟩ : ∃ W_, W_ = W23.alloc (.cells #[.int .i64 1, .int .i64 3, .int .i64 2] 3) := ⟨_, rfl⟩
  have hb_ : Below W23.heap.size W23 W24 := by rw [h_]; exact below_alloc (Below.refl _ _) _
  have hx_ : W24.heap[W23.heap.size]? = some (.cells #[.int .i64 1, .int .i64 3, .int .i64 2] 3 (0, 0)) := by rw [h_]; exact blk_new _ _
  rw [← h_]
  clear h_
  have n_BL2 := Aside0.mk (BL2.out.trans (Below.mono hb_ BL2.out.size))
  have n_GD := Aside0.mk (Got.below GD.out hb_)
  have n_XD := Aside0.mk (blk_below XD.out hb_)
  have n_GO := Aside0.mk (Got.below GO.out hb_)
  have n_XO := Aside0.mk (blk_below XO.out hb_)
  have n_RC := Aside0.mk (Kd.C_below RC.out hb_)
  clear BL2
  have BL2 := n_BL2
  clear n_BL2
  clear GD
  have GD := n_GD
  clear n_GD
  clear XD
  have XD := n_XD
  clear n_XD
  clear GO
  have GO := n_GO
  clear n_GO
  clear XO
  have XO := n_XO
  clear n_XO
  clear RC
  have RC := n_RC
  clear n_RC
  clear hb_
  obtain ⟨gl9, e_⟩ : ∃ g_, g_ = W23.heap.size := ⟨_, rfl⟩
  rw [← e_] at hx_ ⊢
  clear e_
  have LX9 := Aside0.mk hx_
  clear hx_
  clear xd0 xd1 xd2
  have xd0 := (blk_cell XD.out 0).trans rfl
  have xd1 := (blk_cell XD.out 1).trans rfl
  have xd2 := (blk_cell XD.out 2).trans rfl
  clear xo0 xo1 xo2
  have xo0 := (blk_cell XO.out 0).trans rfl
  have xo1 := (blk_cell XO.out 1).trans rfl
  have xo2 := (blk_cell XO.out 2).trans rfl
  refine (PMarkMakes.mark_Times.calls 10 (some ⟨gl9, 0, none⟩) 3 [1, 3, 2] 2 W24 (C_ints (xs := [1, 3, 2]) LX9.out (by decide)) (by decide) fT).mono ?_
  rintro e W25 ⟨rfl, hb⟩
  replace hb := hb.below
  have n_BL2 := Aside0.mk (BL2.out.trans (Below.mono hb BL2.out.size))
  have n_GD := Aside0.mk (Got.below GD.out hb)
  have n_XD := Aside0.mk (blk_below XD.out hb)
  have n_GO := Aside0.mk (Got.below GO.out hb)
  have n_XO := Aside0.mk (blk_below XO.out hb)
  have n_RC := Aside0.mk (Kd.C_below RC.out hb)
  have n_LX9 := Aside0.mk (blk_below LX9.out hb)
  clear BL2
  have BL2 := n_BL2
  clear n_BL2
  clear GD
  have GD := n_GD
  clear n_GD
  clear XD
  have XD := n_XD
  clear n_XD
  clear GO
  have GO := n_GO
  clear n_GO
  clear XO
  have XO := n_XO
  clear n_XO
  clear RC
  have RC := n_RC
  clear n_RC
  clear LX9
  have LX9 := n_LX9
  clear n_LX9
  clear hb
  clear xd0 xd1 xd2
  have xd0 := (blk_cell XD.out 0).trans rfl
  have xd1 := (blk_cell XD.out 1).trans rfl
  have xd2 := (blk_cell XD.out 2).trans rfl
  clear xo0 xo1 xo2
  have xo0 := (blk_cell XO.out 0).trans rfl
  have xo1 := (blk_cell XO.out 1).trans rfl
  have xo2 := (blk_cell XO.out 2).trans rfl
  go_wp2_with fail
  go_ret
  exact ⟨rfl, BL2.out⟩
end Go.Proofs.Ytpedenbcfbflbaa.X
