/- CalcSets: the law answers true, whatever it is asked. -/
import Derived.Test.YtpedenbcfbflbaaXCalcPure
import Derived.Test.YtpedenbcfbflbaaQx1
namespace Go.Proofs.Ytpedenbcfbflbaa.X
open Go.RowKit Go.Proofs.YtpedenbcfbflbaaW.PrintWords Go.Proofs.YtpedenbcfbflbaaW.PrintLast Go.Proofs.YtpedenbcfbflbaaW.PrintMore Go.Maps Num Go.Proofs.Ytpedenbcfbflbaa.PMarkMakes
set_option linter.unusedVariables false
set_option linter.unusedSimpArgs false

theorem two_boxes' (w : World) (a b : Array Value) : ∃ W, W = (w.alloc (.cells a 25)).alloc (.cells b 25) ∧ W.heap[w.heap.size]? = some (.cells a 25 (0, 0)) ∧ W.heap[w.heap.size + 1]? = some (.cells b 25 (0, 0)) ∧ Below w.heap.size w W := by
  refine ⟨_, rfl, blk_alloc (blk_new _ _) _, ?_, below_alloc (below_alloc (Below.refl _ _) _) _⟩
  have := blk_new (w.alloc (.cells a 25)) (.cells b 25)
  simpa using this
/-- All that CalcSets makes, beside the walk. -/
structure SetsF (s : Int) (n1 : List (List Int)) (e1 : List Bool) (n2 : List (List Int)) (e2 : List Bool) (l : List Int) (rows : List (List Int)) (eo ea el ex en : List Bool) (x y Ex Ea : Bool) (k : Nat) : Prop where
  h1 : rightB s n1 e1 = true
  h2 : rightB s n2 e2 = true
  po : prodF (fun a b => a || b) s n1 e1 s n2 e2 3000 = (s, rows, eo, 0)
  pa : prodF (fun a b => a && b) s n1 e1 s n2 e2 3000 = (s, rows, ea, 0)
  pl : prodF (fun a b => a && !b) s n1 e1 s n2 e2 3000 = (s, rows, el, 0)
  px : prodF (fun a b => a != b) s n1 e1 s n2 e2 3000 = (s, rows, ex, 0)
  nx : notF s n1 e1 = (s, n1, en, 0)
  cx : caesuraref15_Accepts.f k s n1 e1 l = some x
  cy : caesuraref15_Accepts.f k s n2 e2 l = some y
  co : caesuraref15_Accepts.f k s rows eo l = some (x || y)
  ca : caesuraref15_Accepts.f k s rows ea l = some (x && y)
  cl : caesuraref15_Accepts.f k s rows el l = some (x && !y)
  ce : caesuraref15_Accepts.f k s rows ex l = some (x != y)
  cn : caesuraref15_Accepts.f k s n1 en l = some (!x)
  fx : if rightB s rows ex then (Ex = true ↔ NoneAcc s rows ex) else Ex = false
  fa : if rightB s n1 e1 then (Ea = true ↔ NoneAcc s n1 e1) else Ea = false
  o1 : Ex = true → x = y
  o2 : Ea = true → x = false
theorem sets_some {s : Int} {n1 : List (List Int)} {e1 : List Bool} {n2 : List (List Int)} {e2 : List Bool} (h1 : rightB s n1 e1 = true) (h2 : rightB s n2 e2 = true) (hm : n1.length * n2.length ≤ 3000) (l : List Int) (hl : l.length ≤ 30) (hi : inB s l = true) : ∃ rows eo ea el ex en x y Ex Ea k, SetsF s n1 e1 n2 e2 l rows eo ea el ex en x y Ex Ea k := by
  obtain ⟨ps, rows, P⟩ := pairs_some (most := 3000) h1 h2 (by omega) (by decide)
  have hx := right_map h1 (!·)
  obtain ⟨ro, ao⟩ := P.acc h1 (e2 := e2) (by decide) (by decide) (fun a b => a || b)
  obtain ⟨ra, aa⟩ := P.acc h1 (e2 := e2) (by decide) (by decide) (fun a b => a && b)
  obtain ⟨rl, al⟩ := P.acc h1 (e2 := e2) (by decide) (by decide) (fun a b => a && !b)
  obtain ⟨rx, ax⟩ := P.acc h1 (e2 := e2) (by decide) (by decide) (fun a b => a != b)
  have hb := run_bound h1 l 0 hi (by omega) (by have := rightB_spec h1; omega)
  have he : (runF n1 0 l).toNat < e1.length := by have := (rightB_spec h1).2.2.2.2.1; omega
  have q1 := accepts_ev s n1 e1 l (by omega)
  have q2 := accepts_ev s n2 e2 l (by omega)
  have q3 := accepts_ev s rows (endsP (fun a b => a || b) e1 e2 ps) l (by omega)
  have q4 := accepts_ev s rows (endsP (fun a b => a && b) e1 e2 ps) l (by omega)
  have q5 := accepts_ev s rows (endsP (fun a b => a && !b) e1 e2 ps) l (by omega)
  have q6 := accepts_ev s rows (endsP (fun a b => a != b) e1 e2 ps) l (by omega)
  have q7 := accepts_ev s n1 (e1.map (!·)) l (by omega)
  rw [acc_of ro hi, ao l hi] at q3
  rw [acc_of ra hi, aa l hi] at q4
  rw [acc_of rl hi, al l hi] at q5
  rw [acc_of rx hi, ax l hi] at q6
  rw [acc_of hx hi, getD_map_not e1 _ he] at q7
  rw [acc_of h1 hi] at q1
  rw [acc_of h2 hi] at q2
  obtain ⟨x, hX⟩ : ∃ x, x = e1.getD (runF n1 0 l).toNat false := ⟨_, rfl⟩
  obtain ⟨y, hY⟩ : ∃ y, y = e2.getD (runF n2 0 l).toNat false := ⟨_, rfl⟩
  rw [← hX] at q1 q3 q4 q5 q6 q7
  rw [← hY] at q2 q3 q4 q5 q6
  obtain ⟨K1, z1⟩ := q1
  obtain ⟨K2, z2⟩ := q2
  obtain ⟨K3, z3⟩ := q3
  obtain ⟨K4, z4⟩ := q4
  obtain ⟨K5, z5⟩ := q5
  obtain ⟨K6, z6⟩ := q6
  obtain ⟨K7, z7⟩ := q7
  obtain ⟨k, g1, g2, g3, g4, g5, g6, g7⟩ : ∃ k, K1 ≤ k ∧ K2 ≤ k ∧ K3 ≤ k ∧ K4 ≤ k ∧ K5 ≤ k ∧ K6 ≤ k ∧ K7 ≤ k := ⟨K1 + K2 + K3 + K4 + K5 + K6 + K7, by omega, by omega, by omega, by omega, by omega, by omega, by omega⟩
  refine ⟨rows, endsP (fun a b => a || b) e1 e2 ps, endsP (fun a b => a && b) e1 e2 ps, endsP (fun a b => a && !b) e1 e2 ps, endsP (fun a b => a != b) e1 e2 ps, e1.map (!·), x, y, emptyF s rows (endsP (fun a b => a != b) e1 e2 ps), emptyF s n1 e1, k, h1, h2, P.prod h1 h2 (by decide) (by decide) _, P.prod h1 h2 (by decide) (by decide) _, P.prod h1 h2 (by decide) (by decide) _, P.prod h1 h2 (by decide) (by decide) _, notF_not h1, z1 k g1, z2 k g2, z3 k g3, z4 k g4, z5 k g5, z6 k g6, z7 k g7, emptyF_res _ _ _, emptyF_res _ _ _, fun h => ?_, fun h => ?_⟩
  · have := (emptyF_iff rx).1 h l hi
    rw [ax l hi, ← hX, ← hY] at this
    simpa using this
  · have := (emptyF_iff h1).1 h l hi
    rw [← hX] at this
    exact this
/-- The world of CalcSets' loop. -/
structure SetsW (w : World) (s : Int) (A0 : Option Addr) (c0 : Nat) (n0 : List (List Int)) (B0 : Option Addr) (b0 : Nat) (e0 : List Bool) (A1 : Option Addr) (c1 : Nat) (n1 : List (List Int)) (B1 : Option Addr) (b1 : Nat) (e1 : List Bool) (A2 : Option Addr) (l : List Int) (W : World) : Prop where
  g0 : Got 0 A0 c0 n0 B0 b0 e0 W
  g1 : Got 0 A1 c1 n1 B1 b1 e1 W
  xa : W.heap[w.heap.size]? = some (.cells #[.int .i64 s, .slice A0 n0.length c0, .slice B0 e0.length b0] 25 (0, 0))
  xb : W.heap[w.heap.size + 1]? = some (.cells #[.int .i64 s, .slice A1 n1.length c1, .slice B1 e1.length b1] 25 (0, 0))
  bl : Below w.heap.size w W
  cl : Kd.C (Kd.int .i64) W A2 l.length l
theorem SetsW.below {w : World} {s : Int} {A0 : Option Addr} {c0 : Nat} {n0 : List (List Int)} {B0 : Option Addr} {b0 : Nat} {e0 : List Bool} {A1 : Option Addr} {c1 : Nat} {n1 : List (List Int)} {B1 : Option Addr} {b1 : Nat} {e1 : List Bool} {A2 : Option Addr} {l : List Int} {W W' : World} (h : SetsW w s A0 c0 n0 B0 b0 e0 A1 c1 n1 B1 b1 e1 A2 l W) (hb : Below W.heap.size W W') : SetsW w s A0 c0 n0 B0 b0 e0 A1 c1 n1 B1 b1 e1 A2 l W' :=
  ⟨h.g0.below hb, h.g1.below hb, blk_below h.xa hb, blk_below h.xb hb, h.bl.trans (hb.mono h.bl.size), Kd.C_below h.cl hb⟩
set_option maxHeartbeats 8000000 in
set_option maxRecDepth 100000 in
theorem CalcSets_main (s0 : Int) (A0 : Option Addr) (c0 : Nat) (n0 : List (List Int)) (B0 : Option Addr) (b0 : Nat) (e0 : List Bool) (A1 : Option Addr) (c1 : Nat) (n1 : List (List Int)) (B1 : Option Addr) (b1 : Nat) (e1 : List Bool) (A2 : Option Addr) (c2 : Nat) (l2 : List Int) (w : World)
    (g0 : Got 0 A0 c0 n0 B0 b0 e0 w) (g1 : Got 0 A1 c1 n1 B1 b1 e1 w) (g2 : l2.length ≤ c2 ∧ Kd.C (Kd.int .i64) w A2 l2.length l2) (kg : Nat) (hkg : Q.caesuralaw16_great.f kg s0 n0 e0 s0 n1 e1 = some false) (hl : l2.length ≤ 30) (hmul : n0.length * n1.length ≤ 2000)
    (h1 : rightB s0 n0 e0 = true) (h2 : rightB s0 n1 e1 = true) (F : inB s0 l2 = true → ∃ rows eo ea el ex en x y Ex Ea k, SetsF s0 n0 e0 n1 e1 l2 rows eo ea el ex en x y Ex Ea k) :
    Calls Try.prog 10 #[.agg #[.int .i64 s0, .slice A0 n0.length c0, .slice B0 e0.length b0], .agg #[.int .i64 s0, .slice A1 n1.length c1, .slice B1 e1.length b1], .slice A2 l2.length c2] w fun e w' => e = .returned (.bool true) ∧ Below w.heap.size w w' := by
  have hu25 := Try.underlying25
  have FH := Aside0.mk F
  have HGR := Aside0.mk hkg
  have HC2 := Aside0.mk g2.1
  have HR1 : Aside0 (L.rightx.f s0 n0 e0 = some true) := ⟨by unfold L.rightx.f; rw [h1]⟩
  have HR2 : Aside0 (L.rightx.f s0 n1 e1 = some true) := ⟨by unfold L.rightx.f; rw [h2]⟩
  have hne : (s0 != s0) = false := by simp
  have hlb : decide ((30 : Int) < (l2.length : Int)) = false := decide_eq_false (by omega)
  have z1 := (rightB_spec h1).2.2.2.1
  have z2 := (rightB_spec h2).2.2.2.1
  have hmi : ((n0.length : Int) * (n1.length : Int)) = ((n0.length * n1.length : Nat) : Int) := by rw [Int.natCast_mul]
  have hm1 : IntKind.i64.wrap ((n0.length : Int) * (n1.length : Int)) = (n0.length : Int) * (n1.length : Int) := by rw [hmi, IntKind.wrap_i64]; omega
  have hm2 : decide ((2000 : Int) < (n0.length : Int) * (n1.length : Int)) = false := by rw [hmi]; exact decide_eq_false (by omega)
  clear F hkg h1 h2 hmi
  go_enter Try.func10, Try.ntmps10
  go_upto_region 1 with (fail)
  obtain ⟨W, hW, x1, x2, hbl⟩ := two_boxes' w #[.int .i64 s0, .slice A0 n0.length c0, .slice B0 e0.length b0] #[.int .i64 s0, .slice A1 n1.length c1, .slice B1 e1.length b1]
  rw [← hW]
  have G0 := Aside0.mk (g0.below hbl)
  have G1 := Aside0.mk (g1.below hbl)
  have XA := Aside0.mk x1
  have XB := Aside0.mk x2
  have BL := Aside0.mk hbl
  have CL := Aside0.mk (Kd.C_below g2.2 hbl)
  clear hW x1 x2 hbl g0 g1 g2
  go_wp2_with fail
  refine (alive27 W).mono ?_
  rintro e_ V1 ⟨rfl, hb⟩
  have n_G0 := Aside0.mk (Got.below G0.out hb)
  have n_G1 := Aside0.mk (Got.below G1.out hb)
  have n_XA := Aside0.mk (blk_below XA.out hb)
  have n_XB := Aside0.mk (blk_below XB.out hb)
  have n_BL := Aside0.mk (BL.out.trans (Below.mono hb BL.out.size))
  have n_CL := Aside0.mk (Kd.C_below CL.out hb)
  clear G0 G1 XA XB BL CL
  have G0 := n_G0
  have G1 := n_G1
  have XA := n_XA
  have XB := n_XB
  have BL := n_BL
  have CL := n_CL
  clear n_G0 n_G1 n_XA n_XB n_BL n_CL
  clear hb
  have v0_0 := (blk_cell XA.out 0).trans rfl
  have v0_1 := (blk_cell XA.out 1).trans rfl
  have v0_2 := (blk_cell XA.out 2).trans rfl
  have v1_0 := (blk_cell XB.out 0).trans rfl
  have v1_1 := (blk_cell XB.out 1).trans rfl
  have v1_2 := (blk_cell XB.out 2).trans rfl
  go_wp2_with fail
  refine (Q.caesuralaw16_great.calls kg s0 A0 c0 n0 B0 b0 e0 s0 A1 c1 n1 B1 b1 e1 false V1 G0.out.n2 G0.out.n1 G0.out.e2 G0.out.e1 G1.out.n2 G1.out.n1 G1.out.e2 G1.out.e1 HGR.out).mono ?_
  rintro e_ V2 ⟨rfl, hb⟩
  have n_G0 := Aside0.mk (Got.below G0.out hb)
  have n_G1 := Aside0.mk (Got.below G1.out hb)
  have n_XA := Aside0.mk (blk_below XA.out hb)
  have n_XB := Aside0.mk (blk_below XB.out hb)
  have n_BL := Aside0.mk (BL.out.trans (Below.mono hb BL.out.size))
  have n_CL := Aside0.mk (Kd.C_below CL.out hb)
  clear G0 G1 XA XB BL CL
  have G0 := n_G0
  have G1 := n_G1
  have XA := n_XA
  have XB := n_XB
  have BL := n_BL
  have CL := n_CL
  clear n_G0 n_G1 n_XA n_XB n_BL n_CL
  clear hb
  clear v0_0 v0_1 v0_2
  clear v1_0 v1_1 v1_2
  have v0_0 := (blk_cell XA.out 0).trans rfl
  have v0_1 := (blk_cell XA.out 1).trans rfl
  have v0_2 := (blk_cell XA.out 2).trans rfl
  go_wp2_with fail
  refine (L.rightx.calls s0 A0 c0 n0 B0 b0 e0 true V2 G0.out.n2 G0.out.n1 G0.out.e2 G0.out.e1 HR1.out).mono ?_
  rintro e_ V3 ⟨rfl, hb⟩
  have n_G0 := Aside0.mk (Got.below G0.out hb)
  have n_G1 := Aside0.mk (Got.below G1.out hb)
  have n_XA := Aside0.mk (blk_below XA.out hb)
  have n_XB := Aside0.mk (blk_below XB.out hb)
  have n_BL := Aside0.mk (BL.out.trans (Below.mono hb BL.out.size))
  have n_CL := Aside0.mk (Kd.C_below CL.out hb)
  clear G0 G1 XA XB BL CL
  have G0 := n_G0
  have G1 := n_G1
  have XA := n_XA
  have XB := n_XB
  have BL := n_BL
  have CL := n_CL
  clear n_G0 n_G1 n_XA n_XB n_BL n_CL
  clear hb
  clear v0_0 v0_1 v0_2
  have v0_0 := (blk_cell XB.out 0).trans rfl
  have v0_1 := (blk_cell XB.out 1).trans rfl
  have v0_2 := (blk_cell XB.out 2).trans rfl
  go_wp2_with fail
  refine (L.rightx.calls s0 A1 c1 n1 B1 b1 e1 true V3 G1.out.n2 G1.out.n1 G1.out.e2 G1.out.e1 HR2.out).mono ?_
  rintro e_ V4 ⟨rfl, hb⟩
  have n_G0 := Aside0.mk (Got.below G0.out hb)
  have n_G1 := Aside0.mk (Got.below G1.out hb)
  have n_XA := Aside0.mk (blk_below XA.out hb)
  have n_XB := Aside0.mk (blk_below XB.out hb)
  have n_BL := Aside0.mk (BL.out.trans (Below.mono hb BL.out.size))
  have n_CL := Aside0.mk (Kd.C_below CL.out hb)
  clear G0 G1 XA XB BL CL
  have G0 := n_G0
  have G1 := n_G1
  have XA := n_XA
  have XB := n_XB
  have BL := n_BL
  have CL := n_CL
  clear n_G0 n_G1 n_XA n_XB n_BL n_CL
  clear hb
  clear v0_0 v0_1 v0_2
  have SW := Aside0.mk (SetsW.mk G0.out G1.out XA.out XB.out BL.out CL.out)
  have v0_0 := (blk_cell XA.out 0).trans rfl
  have v0_1 := (blk_cell XA.out 1).trans rfl
  have v0_2 := (blk_cell XA.out 2).trans rfl
  have v1_0 := (blk_cell XB.out 0).trans rfl
  have v1_1 := (blk_cell XB.out 1).trans rfl
  have v1_2 := (blk_cell XB.out 2).trans rfl
  go_wp2_with fail
  clear v0_0 v0_1 v0_2
  clear v1_0 v1_1 v1_2
  clear G0 G1 XA XB BL CL
  go_loopg [7] l2.length (fun kq v7 W => ∃ i : Nat, v7 = .int .i64 i ∧ i + kq = l2.length ∧ Aside0 (SetsW w s0 A0 c0 n0 B0 b0 e0 A1 c1 n1 B1 b1 e1 A2 l2 W) ∧ Aside0 (∀ j, j < i → 0 ≤ rd l2 (j : Int) ∧ rd l2 (j : Int) < s0))
  case atStart => exact ⟨0, rfl, by omega, SW, ⟨fun j hj => by omega⟩⟩
  case round =>
    clear SW
    obtain ⟨i, rfl, hik, SW, HJ⟩ := hrel
    by_cases hil : i < l2.length
    · have hlt : decide ((i : Int) < (l2.length : Int)) = true := decide_eq_true (by omega)
      obtain ⟨ad, e_, hci⟩ := Kd.at_int SW.out.cl (i : Int) (by omega) (by omega)
      subst e_
      rw [Int.toNat_natCast] at hci
      have hx0 := (blk_cell SW.out.xa 0).trans rfl
      obtain ⟨v, hv⟩ : ∃ v, v = rd l2 (i : Int) := ⟨_, rfl⟩
      rw [← hv] at hci
      have HV := Aside0.mk hv
      have EB := Aside0.mk SW.out.bl
      clear hv
      obtain ⟨gk, rfl⟩ : ∃ q, gk = q + 1 := ⟨gk - 1, by omega⟩
      by_cases h0 : v < 0
      · have d0 : decide (v < 0) = true := decide_eq_true h0
        clear h0
        go_wp2_with fail
        go_quiet (fail)
        go_wp2_with fail
        go_ret
        exact ⟨rfl, pw_below_drewN EB.out _⟩
      · have d0 : decide (v < 0) = false := decide_eq_false h0
        by_cases hs : s0 ≤ v
        · have d1 : decide (s0 ≤ v) = true := decide_eq_true hs
          clear h0 hs
          go_wp2_with fail
          go_quiet (fail)
          go_wp2_with fail
          go_ret
          exact ⟨rfl, pw_below_drewN EB.out _⟩
        · have d1 : decide (s0 ≤ v) = false := decide_eq_false hs
          have HJ2 : Aside0 (∀ j, j < i + 1 → 0 ≤ rd l2 (j : Int) ∧ rd l2 (j : Int) < s0) := ⟨fun j hj => by
            rcases Nat.lt_or_ge j i with h | h
            · exact HJ.out j h
            · obtain rfl : j = i := by omega
              rw [← HV.out]
              omega⟩
          clear h0 hs
          go_wp2_with fail
          go_quiet (fail)
          go_wp2_with fail
          go_roundg gk
          case measure => omega
          case rel => exact ⟨i + 1, by go_num, by omega, ⟨SW.out.below (pw_below_drewN (Below.refl _ _) _)⟩, HJ2⟩
    · obtain rfl : i = l2.length := by omega
      have hlt : decide ((l2.length : Int) < (l2.length : Int)) = false := decide_eq_false (by omega)
      obtain ⟨rows, eo, ea, el, ex, en, x, y, Ex, Ea, k, F⟩ := FH.out (inB_iff.2 fun v hv => by
        obtain ⟨j, hj, rfl⟩ := List.getElem_of_mem hv
        have h := HJ.out j hj
        rwa [rd_at' hj] at h)
      have FF := Aside0.mk F
      have o1 := F.o1
      have o2 := F.o2
      have G0 := Aside0.mk SW.out.g0
      have G1 := Aside0.mk SW.out.g1
      have XA := Aside0.mk SW.out.xa
      have XB := Aside0.mk SW.out.xb
      have BL := Aside0.mk SW.out.bl
      have CL := Aside0.mk SW.out.cl
      clear F SW HJ FH hik
      have v0_0 := (blk_cell XA.out 0).trans rfl
      have v0_1 := (blk_cell XA.out 1).trans rfl
      have v0_2 := (blk_cell XA.out 2).trans rfl
      have v1_0 := (blk_cell XB.out 0).trans rfl
      have v1_1 := (blk_cell XB.out 1).trans rfl
      have v1_2 := (blk_cell XB.out 2).trans rfl
      go_wp2_with fail
      refine (prod29 s0 A0 c0 n0 B0 b0 e0 s0 A1 c1 n1 B1 b1 e1 3000 s0 rows eo 0 wr G0.out.n2 G0.out.n1 G0.out.e2 G0.out.e1 G1.out.n2 G1.out.n1 G1.out.e2 G1.out.e1 FF.out.po).mono ?_
      rintro e_ V5 ⟨v1, v2, rfl, hs, hr, hb⟩
      obtain ⟨Po, po, rfl⟩ := Kd.S_slice hs
      obtain ⟨Qo, qo, rfl⟩ := Kd.R_slice hr
      have Go : Aside0 (Got 0 Po po rows Qo qo eo V5) := ⟨⟨(Kd.S_reads' hs).2.1, (Kd.S_reads' hs).2.2, (Kd.R_reads' hr).2.1, (Kd.R_reads' hr).2.2⟩⟩
      have n_G0 := Aside0.mk (Got.below G0.out hb)
      have n_G1 := Aside0.mk (Got.below G1.out hb)
      have n_XA := Aside0.mk (blk_below XA.out hb)
      have n_XB := Aside0.mk (blk_below XB.out hb)
      have n_BL := Aside0.mk (BL.out.trans (Below.mono hb BL.out.size))
      have n_CL := Aside0.mk (Kd.C_below CL.out hb)
      clear G0 G1 XA XB BL CL
      have G0 := n_G0
      have G1 := n_G1
      have XA := n_XA
      have XB := n_XB
      have BL := n_BL
      have CL := n_CL
      clear n_G0 n_G1 n_XA n_XB n_BL n_CL
      clear hs hr hb
      clear v0_0 v0_1 v0_2
      clear v1_0 v1_1 v1_2
      go_upto_region 11 with (fail)
      obtain ⟨V6, h_⟩ : ∃ W_, W_ = V5.alloc (.cells #[.int .i64 s0, .slice Po rows.length po, .slice Qo eo.length qo] 25) := ⟨_, rfl⟩
      have hb_ : Below V5.heap.size V5 V6 := by rw [h_]; exact below_alloc (Below.refl _ _) _
      have hx_ : V6.heap[V5.heap.size]? = some (.cells #[.int .i64 s0, .slice Po rows.length po, .slice Qo eo.length qo] 25 (0, 0)) := by rw [h_]; exact blk_new _ _
      rw [← h_]
      clear h_
      have n_G0 := Aside0.mk (Got.below G0.out hb_)
      have n_G1 := Aside0.mk (Got.below G1.out hb_)
      have n_XA := Aside0.mk (blk_below XA.out hb_)
      have n_XB := Aside0.mk (blk_below XB.out hb_)
      have n_BL := Aside0.mk (BL.out.trans (Below.mono hb_ BL.out.size))
      have n_CL := Aside0.mk (Kd.C_below CL.out hb_)
      have n_Go := Aside0.mk (Got.below Go.out hb_)
      clear G0 G1 XA XB BL CL Go
      have G0 := n_G0
      have G1 := n_G1
      have XA := n_XA
      have XB := n_XB
      have BL := n_BL
      have CL := n_CL
      have Go := n_Go
      clear n_G0 n_G1 n_XA n_XB n_BL n_CL n_Go
      clear hb_
      obtain ⟨go, e_⟩ : ∃ g_, g_ = V5.heap.size := ⟨_, rfl⟩
      rw [← e_] at hx_ ⊢
      clear e_
      have Bo := Aside0.mk hx_
      clear hx_
      have v0_0 := (blk_cell XA.out 0).trans rfl
      have v0_1 := (blk_cell XA.out 1).trans rfl
      have v0_2 := (blk_cell XA.out 2).trans rfl
      have v1_0 := (blk_cell XB.out 0).trans rfl
      have v1_1 := (blk_cell XB.out 1).trans rfl
      have v1_2 := (blk_cell XB.out 2).trans rfl
      go_wp2_with fail
      refine (prod31 s0 A0 c0 n0 B0 b0 e0 s0 A1 c1 n1 B1 b1 e1 3000 s0 rows ea 0 V6 G0.out.n2 G0.out.n1 G0.out.e2 G0.out.e1 G1.out.n2 G1.out.n1 G1.out.e2 G1.out.e1 FF.out.pa).mono ?_
      rintro e_ V7 ⟨v1, v2, rfl, hs, hr, hb⟩
      obtain ⟨Pa, pa, rfl⟩ := Kd.S_slice hs
      obtain ⟨Qa, qa, rfl⟩ := Kd.R_slice hr
      have Ga : Aside0 (Got 0 Pa pa rows Qa qa ea V7) := ⟨⟨(Kd.S_reads' hs).2.1, (Kd.S_reads' hs).2.2, (Kd.R_reads' hr).2.1, (Kd.R_reads' hr).2.2⟩⟩
      have n_G0 := Aside0.mk (Got.below G0.out hb)
      have n_G1 := Aside0.mk (Got.below G1.out hb)
      have n_XA := Aside0.mk (blk_below XA.out hb)
      have n_XB := Aside0.mk (blk_below XB.out hb)
      have n_BL := Aside0.mk (BL.out.trans (Below.mono hb BL.out.size))
      have n_CL := Aside0.mk (Kd.C_below CL.out hb)
      have n_Go := Aside0.mk (Got.below Go.out hb)
      have n_Bo := Aside0.mk (blk_below Bo.out hb)
      clear G0 G1 XA XB BL CL Go Bo
      have G0 := n_G0
      have G1 := n_G1
      have XA := n_XA
      have XB := n_XB
      have BL := n_BL
      have CL := n_CL
      have Go := n_Go
      have Bo := n_Bo
      clear n_G0 n_G1 n_XA n_XB n_BL n_CL n_Go n_Bo
      clear hs hr hb
      clear v0_0 v0_1 v0_2
      clear v1_0 v1_1 v1_2
      go_upto_region 12 with (fail)
      obtain ⟨V8, h_⟩ : ∃ W_, W_ = V7.alloc (.cells #[.int .i64 s0, .slice Pa rows.length pa, .slice Qa ea.length qa] 25) := ⟨_, rfl⟩
      have hb_ : Below V7.heap.size V7 V8 := by rw [h_]; exact below_alloc (Below.refl _ _) _
      have hx_ : V8.heap[V7.heap.size]? = some (.cells #[.int .i64 s0, .slice Pa rows.length pa, .slice Qa ea.length qa] 25 (0, 0)) := by rw [h_]; exact blk_new _ _
      rw [← h_]
      clear h_
      have n_G0 := Aside0.mk (Got.below G0.out hb_)
      have n_G1 := Aside0.mk (Got.below G1.out hb_)
      have n_XA := Aside0.mk (blk_below XA.out hb_)
      have n_XB := Aside0.mk (blk_below XB.out hb_)
      have n_BL := Aside0.mk (BL.out.trans (Below.mono hb_ BL.out.size))
      have n_CL := Aside0.mk (Kd.C_below CL.out hb_)
      have n_Go := Aside0.mk (Got.below Go.out hb_)
      have n_Bo := Aside0.mk (blk_below Bo.out hb_)
      have n_Ga := Aside0.mk (Got.below Ga.out hb_)
      clear G0 G1 XA XB BL CL Go Bo Ga
      have G0 := n_G0
      have G1 := n_G1
      have XA := n_XA
      have XB := n_XB
      have BL := n_BL
      have CL := n_CL
      have Go := n_Go
      have Bo := n_Bo
      have Ga := n_Ga
      clear n_G0 n_G1 n_XA n_XB n_BL n_CL n_Go n_Bo n_Ga
      clear hb_
      obtain ⟨ga, e_⟩ : ∃ g_, g_ = V7.heap.size := ⟨_, rfl⟩
      rw [← e_] at hx_ ⊢
      clear e_
      have Ba := Aside0.mk hx_
      clear hx_
      have v0_0 := (blk_cell XA.out 0).trans rfl
      have v0_1 := (blk_cell XA.out 1).trans rfl
      have v0_2 := (blk_cell XA.out 2).trans rfl
      have v1_0 := (blk_cell XB.out 0).trans rfl
      have v1_1 := (blk_cell XB.out 1).trans rfl
      have v1_2 := (blk_cell XB.out 2).trans rfl
      go_wp2_with fail
      refine (prod33 s0 A0 c0 n0 B0 b0 e0 s0 A1 c1 n1 B1 b1 e1 3000 s0 rows el 0 V8 G0.out.n2 G0.out.n1 G0.out.e2 G0.out.e1 G1.out.n2 G1.out.n1 G1.out.e2 G1.out.e1 FF.out.pl).mono ?_
      rintro e_ V9 ⟨v1, v2, rfl, hs, hr, hb⟩
      obtain ⟨Pl, pl, rfl⟩ := Kd.S_slice hs
      obtain ⟨Ql, ql, rfl⟩ := Kd.R_slice hr
      have Gl : Aside0 (Got 0 Pl pl rows Ql ql el V9) := ⟨⟨(Kd.S_reads' hs).2.1, (Kd.S_reads' hs).2.2, (Kd.R_reads' hr).2.1, (Kd.R_reads' hr).2.2⟩⟩
      have n_G0 := Aside0.mk (Got.below G0.out hb)
      have n_G1 := Aside0.mk (Got.below G1.out hb)
      have n_XA := Aside0.mk (blk_below XA.out hb)
      have n_XB := Aside0.mk (blk_below XB.out hb)
      have n_BL := Aside0.mk (BL.out.trans (Below.mono hb BL.out.size))
      have n_CL := Aside0.mk (Kd.C_below CL.out hb)
      have n_Go := Aside0.mk (Got.below Go.out hb)
      have n_Bo := Aside0.mk (blk_below Bo.out hb)
      have n_Ga := Aside0.mk (Got.below Ga.out hb)
      have n_Ba := Aside0.mk (blk_below Ba.out hb)
      clear G0 G1 XA XB BL CL Go Bo Ga Ba
      have G0 := n_G0
      have G1 := n_G1
      have XA := n_XA
      have XB := n_XB
      have BL := n_BL
      have CL := n_CL
      have Go := n_Go
      have Bo := n_Bo
      have Ga := n_Ga
      have Ba := n_Ba
      clear n_G0 n_G1 n_XA n_XB n_BL n_CL n_Go n_Bo n_Ga n_Ba
      clear hs hr hb
      clear v0_0 v0_1 v0_2
      clear v1_0 v1_1 v1_2
      go_upto_region 13 with (fail)
      obtain ⟨V10, h_⟩ : ∃ W_, W_ = V9.alloc (.cells #[.int .i64 s0, .slice Pl rows.length pl, .slice Ql el.length ql] 25) := ⟨_, rfl⟩
      have hb_ : Below V9.heap.size V9 V10 := by rw [h_]; exact below_alloc (Below.refl _ _) _
      have hx_ : V10.heap[V9.heap.size]? = some (.cells #[.int .i64 s0, .slice Pl rows.length pl, .slice Ql el.length ql] 25 (0, 0)) := by rw [h_]; exact blk_new _ _
      rw [← h_]
      clear h_
      have n_G0 := Aside0.mk (Got.below G0.out hb_)
      have n_G1 := Aside0.mk (Got.below G1.out hb_)
      have n_XA := Aside0.mk (blk_below XA.out hb_)
      have n_XB := Aside0.mk (blk_below XB.out hb_)
      have n_BL := Aside0.mk (BL.out.trans (Below.mono hb_ BL.out.size))
      have n_CL := Aside0.mk (Kd.C_below CL.out hb_)
      have n_Go := Aside0.mk (Got.below Go.out hb_)
      have n_Bo := Aside0.mk (blk_below Bo.out hb_)
      have n_Ga := Aside0.mk (Got.below Ga.out hb_)
      have n_Ba := Aside0.mk (blk_below Ba.out hb_)
      have n_Gl := Aside0.mk (Got.below Gl.out hb_)
      clear G0 G1 XA XB BL CL Go Bo Ga Ba Gl
      have G0 := n_G0
      have G1 := n_G1
      have XA := n_XA
      have XB := n_XB
      have BL := n_BL
      have CL := n_CL
      have Go := n_Go
      have Bo := n_Bo
      have Ga := n_Ga
      have Ba := n_Ba
      have Gl := n_Gl
      clear n_G0 n_G1 n_XA n_XB n_BL n_CL n_Go n_Bo n_Ga n_Ba n_Gl
      clear hb_
      obtain ⟨gl, e_⟩ : ∃ g_, g_ = V9.heap.size := ⟨_, rfl⟩
      rw [← e_] at hx_ ⊢
      clear e_
      have Bl := Aside0.mk hx_
      clear hx_
      have v0_0 := (blk_cell XA.out 0).trans rfl
      have v0_1 := (blk_cell XA.out 1).trans rfl
      have v0_2 := (blk_cell XA.out 2).trans rfl
      have v1_0 := (blk_cell XB.out 0).trans rfl
      have v1_1 := (blk_cell XB.out 1).trans rfl
      have v1_2 := (blk_cell XB.out 2).trans rfl
      go_wp2_with fail
      refine (prod35 s0 A0 c0 n0 B0 b0 e0 s0 A1 c1 n1 B1 b1 e1 3000 s0 rows ex 0 V10 G0.out.n2 G0.out.n1 G0.out.e2 G0.out.e1 G1.out.n2 G1.out.n1 G1.out.e2 G1.out.e1 FF.out.px).mono ?_
      rintro e_ V11 ⟨v1, v2, rfl, hs, hr, hb⟩
      obtain ⟨Px, px, rfl⟩ := Kd.S_slice hs
      obtain ⟨Qx, qx, rfl⟩ := Kd.R_slice hr
      have Gx : Aside0 (Got 0 Px px rows Qx qx ex V11) := ⟨⟨(Kd.S_reads' hs).2.1, (Kd.S_reads' hs).2.2, (Kd.R_reads' hr).2.1, (Kd.R_reads' hr).2.2⟩⟩
      have n_G0 := Aside0.mk (Got.below G0.out hb)
      have n_G1 := Aside0.mk (Got.below G1.out hb)
      have n_XA := Aside0.mk (blk_below XA.out hb)
      have n_XB := Aside0.mk (blk_below XB.out hb)
      have n_BL := Aside0.mk (BL.out.trans (Below.mono hb BL.out.size))
      have n_CL := Aside0.mk (Kd.C_below CL.out hb)
      have n_Go := Aside0.mk (Got.below Go.out hb)
      have n_Bo := Aside0.mk (blk_below Bo.out hb)
      have n_Ga := Aside0.mk (Got.below Ga.out hb)
      have n_Ba := Aside0.mk (blk_below Ba.out hb)
      have n_Gl := Aside0.mk (Got.below Gl.out hb)
      have n_Bl := Aside0.mk (blk_below Bl.out hb)
      clear G0 G1 XA XB BL CL Go Bo Ga Ba Gl Bl
      have G0 := n_G0
      have G1 := n_G1
      have XA := n_XA
      have XB := n_XB
      have BL := n_BL
      have CL := n_CL
      have Go := n_Go
      have Bo := n_Bo
      have Ga := n_Ga
      have Ba := n_Ba
      have Gl := n_Gl
      have Bl := n_Bl
      clear n_G0 n_G1 n_XA n_XB n_BL n_CL n_Go n_Bo n_Ga n_Ba n_Gl n_Bl
      clear hs hr hb
      clear v0_0 v0_1 v0_2
      clear v1_0 v1_1 v1_2
      go_upto_region 14 with (fail)
      obtain ⟨V12, h_⟩ : ∃ W_, W_ = V11.alloc (.cells #[.int .i64 s0, .slice Px rows.length px, .slice Qx ex.length qx] 25) := ⟨_, rfl⟩
      have hb_ : Below V11.heap.size V11 V12 := by rw [h_]; exact below_alloc (Below.refl _ _) _
      have hx_ : V12.heap[V11.heap.size]? = some (.cells #[.int .i64 s0, .slice Px rows.length px, .slice Qx ex.length qx] 25 (0, 0)) := by rw [h_]; exact blk_new _ _
      rw [← h_]
      clear h_
      have n_G0 := Aside0.mk (Got.below G0.out hb_)
      have n_G1 := Aside0.mk (Got.below G1.out hb_)
      have n_XA := Aside0.mk (blk_below XA.out hb_)
      have n_XB := Aside0.mk (blk_below XB.out hb_)
      have n_BL := Aside0.mk (BL.out.trans (Below.mono hb_ BL.out.size))
      have n_CL := Aside0.mk (Kd.C_below CL.out hb_)
      have n_Go := Aside0.mk (Got.below Go.out hb_)
      have n_Bo := Aside0.mk (blk_below Bo.out hb_)
      have n_Ga := Aside0.mk (Got.below Ga.out hb_)
      have n_Ba := Aside0.mk (blk_below Ba.out hb_)
      have n_Gl := Aside0.mk (Got.below Gl.out hb_)
      have n_Bl := Aside0.mk (blk_below Bl.out hb_)
      have n_Gx := Aside0.mk (Got.below Gx.out hb_)
      clear G0 G1 XA XB BL CL Go Bo Ga Ba Gl Bl Gx
      have G0 := n_G0
      have G1 := n_G1
      have XA := n_XA
      have XB := n_XB
      have BL := n_BL
      have CL := n_CL
      have Go := n_Go
      have Bo := n_Bo
      have Ga := n_Ga
      have Ba := n_Ba
      have Gl := n_Gl
      have Bl := n_Bl
      have Gx := n_Gx
      clear n_G0 n_G1 n_XA n_XB n_BL n_CL n_Go n_Bo n_Ga n_Ba n_Gl n_Bl n_Gx
      clear hb_
      obtain ⟨gx, e_⟩ : ∃ g_, g_ = V11.heap.size := ⟨_, rfl⟩
      rw [← e_] at hx_ ⊢
      clear e_
      have Bx := Aside0.mk hx_
      clear hx_
      have v0_0 := (blk_cell XA.out 0).trans rfl
      have v0_1 := (blk_cell XA.out 1).trans rfl
      have v0_2 := (blk_cell XA.out 2).trans rfl
      go_wp2_with fail
      refine (calc_not_got s0 A0 c0 n0 B0 b0 e0 V12 G0.out s0 n0 en 0 FF.out.nx).mono ?_
      rintro e_ V13 ⟨Pn, pn, Qn, qn, rfl, hg, hb⟩
      have n_G0 := Aside0.mk (Got.below G0.out hb)
      have n_G1 := Aside0.mk (Got.below G1.out hb)
      have n_XA := Aside0.mk (blk_below XA.out hb)
      have n_XB := Aside0.mk (blk_below XB.out hb)
      have n_BL := Aside0.mk (BL.out.trans (Below.mono hb BL.out.size))
      have n_CL := Aside0.mk (Kd.C_below CL.out hb)
      have n_Go := Aside0.mk (Got.below Go.out hb)
      have n_Bo := Aside0.mk (blk_below Bo.out hb)
      have n_Ga := Aside0.mk (Got.below Ga.out hb)
      have n_Ba := Aside0.mk (blk_below Ba.out hb)
      have n_Gl := Aside0.mk (Got.below Gl.out hb)
      have n_Bl := Aside0.mk (blk_below Bl.out hb)
      have n_Gx := Aside0.mk (Got.below Gx.out hb)
      have n_Bx := Aside0.mk (blk_below Bx.out hb)
      clear G0 G1 XA XB BL CL Go Bo Ga Ba Gl Bl Gx Bx
      have G0 := n_G0
      have G1 := n_G1
      have XA := n_XA
      have XB := n_XB
      have BL := n_BL
      have CL := n_CL
      have Go := n_Go
      have Bo := n_Bo
      have Ga := n_Ga
      have Ba := n_Ba
      have Gl := n_Gl
      have Bl := n_Bl
      have Gx := n_Gx
      have Bx := n_Bx
      clear n_G0 n_G1 n_XA n_XB n_BL n_CL n_Go n_Bo n_Ga n_Ba n_Gl n_Bl n_Gx n_Bx
      have Gn := Aside0.mk hg
      clear hg hb
      clear v0_0 v0_1 v0_2
      go_upto_region 15 with (fail)
      obtain ⟨V14, h_⟩ : ∃ W_, W_ = V13.alloc (.cells #[.int .i64 s0, .slice Pn n0.length pn, .slice Qn en.length qn] 25) := ⟨_, rfl⟩
      have hb_ : Below V13.heap.size V13 V14 := by rw [h_]; exact below_alloc (Below.refl _ _) _
      have hx_ : V14.heap[V13.heap.size]? = some (.cells #[.int .i64 s0, .slice Pn n0.length pn, .slice Qn en.length qn] 25 (0, 0)) := by rw [h_]; exact blk_new _ _
      rw [← h_]
      clear h_
      have n_G0 := Aside0.mk (Got.below G0.out hb_)
      have n_G1 := Aside0.mk (Got.below G1.out hb_)
      have n_XA := Aside0.mk (blk_below XA.out hb_)
      have n_XB := Aside0.mk (blk_below XB.out hb_)
      have n_BL := Aside0.mk (BL.out.trans (Below.mono hb_ BL.out.size))
      have n_CL := Aside0.mk (Kd.C_below CL.out hb_)
      have n_Go := Aside0.mk (Got.below Go.out hb_)
      have n_Bo := Aside0.mk (blk_below Bo.out hb_)
      have n_Ga := Aside0.mk (Got.below Ga.out hb_)
      have n_Ba := Aside0.mk (blk_below Ba.out hb_)
      have n_Gl := Aside0.mk (Got.below Gl.out hb_)
      have n_Bl := Aside0.mk (blk_below Bl.out hb_)
      have n_Gx := Aside0.mk (Got.below Gx.out hb_)
      have n_Bx := Aside0.mk (blk_below Bx.out hb_)
      have n_Gn := Aside0.mk (Got.below Gn.out hb_)
      clear G0 G1 XA XB BL CL Go Bo Ga Ba Gl Bl Gx Bx Gn
      have G0 := n_G0
      have G1 := n_G1
      have XA := n_XA
      have XB := n_XB
      have BL := n_BL
      have CL := n_CL
      have Go := n_Go
      have Bo := n_Bo
      have Ga := n_Ga
      have Ba := n_Ba
      have Gl := n_Gl
      have Bl := n_Bl
      have Gx := n_Gx
      have Bx := n_Bx
      have Gn := n_Gn
      clear n_G0 n_G1 n_XA n_XB n_BL n_CL n_Go n_Bo n_Ga n_Ba n_Gl n_Bl n_Gx n_Bx n_Gn
      clear hb_
      obtain ⟨gn, e_⟩ : ∃ g_, g_ = V13.heap.size := ⟨_, rfl⟩
      rw [← e_] at hx_ ⊢
      clear e_
      have Bn := Aside0.mk hx_
      clear hx_
      have hb_ : Below V14.heap.size V14 V14.drew := below_drew (Below.refl _ _)
      have n_G0 := Aside0.mk (Got.below G0.out hb_)
      have n_G1 := Aside0.mk (Got.below G1.out hb_)
      have n_XA := Aside0.mk (blk_below XA.out hb_)
      have n_XB := Aside0.mk (blk_below XB.out hb_)
      have n_BL := Aside0.mk (BL.out.trans (Below.mono hb_ BL.out.size))
      have n_CL := Aside0.mk (Kd.C_below CL.out hb_)
      have n_Go := Aside0.mk (Got.below Go.out hb_)
      have n_Bo := Aside0.mk (blk_below Bo.out hb_)
      have n_Ga := Aside0.mk (Got.below Ga.out hb_)
      have n_Ba := Aside0.mk (blk_below Ba.out hb_)
      have n_Gl := Aside0.mk (Got.below Gl.out hb_)
      have n_Bl := Aside0.mk (blk_below Bl.out hb_)
      have n_Gx := Aside0.mk (Got.below Gx.out hb_)
      have n_Bx := Aside0.mk (blk_below Bx.out hb_)
      have n_Gn := Aside0.mk (Got.below Gn.out hb_)
      have n_Bn := Aside0.mk (blk_below Bn.out hb_)
      clear G0 G1 XA XB BL CL Go Bo Ga Ba Gl Bl Gx Bx Gn Bn
      have G0 := n_G0
      have G1 := n_G1
      have XA := n_XA
      have XB := n_XB
      have BL := n_BL
      have CL := n_CL
      have Go := n_Go
      have Bo := n_Bo
      have Ga := n_Ga
      have Ba := n_Ba
      have Gl := n_Gl
      have Bl := n_Bl
      have Gx := n_Gx
      have Bx := n_Bx
      have Gn := n_Gn
      have Bn := n_Bn
      clear n_G0 n_G1 n_XA n_XB n_BL n_CL n_Go n_Bo n_Ga n_Ba n_Gl n_Bl n_Gx n_Bx n_Gn n_Bn
      clear hb_
      refine start_ (n := 8) (S := fun w' => w'.cell? ⟨w.heap.size, 0, none⟩ = some (.int .i64 s0) ∧ w'.cell? ⟨w.heap.size, 1, none⟩ = some (.slice A0 n0.length c0) ∧ w'.cell? ⟨w.heap.size, 2, none⟩ = some (.slice B0 e0.length b0) ∧ w'.cell? ⟨(w.heap.size + 1), 0, none⟩ = some (.int .i64 s0) ∧ w'.cell? ⟨(w.heap.size + 1), 1, none⟩ = some (.slice A1 n1.length c1) ∧ w'.cell? ⟨(w.heap.size + 1), 2, none⟩ = some (.slice B1 e1.length b1)) (ds := []) #[false, false, false, false, false, false, false, false] (by kernel_rfl) rfl rfl ⟨((blk_cell XA.out 0).trans rfl), ((blk_cell XA.out 1).trans rfl), ((blk_cell XA.out 2).trans rfl), ((blk_cell XB.out 0).trans rfl), ((blk_cell XB.out 1).trans rfl), ((blk_cell XB.out 2).trans rfl)⟩ (fun hHeld => ?_)
      generalize V14.drew = V15 at G0 G1 XA XB BL CL Go Bo Ga Ba Gl Bl Gx Bx Gn Bn hHeld ⊢
      refine pure_ (i := 1) (N := some 107) (v := ?_) (a' := ?_) #[false, true, false, false, false, false, false, false] rfl rfl (by kernel_rfl) (fun _ _ _ h => h) (Or.inl ⟨by rfl, ?_⟩) ?_ ?_
      rotate_left
      · intro w'
        go_simp
        with_reducible rfl
      rotate_left
      · simp only [Act.put, List.setIfInBounds_toArray, List.set_cons_zero, List.set_cons_succ, i64_w, i32_w]
        rfl
      refine pure_ (i := 4) (N := some 110) (v := ?_) (a' := ?_) #[false, true, false, false, true, false, false, false] rfl rfl (by kernel_rfl) (fun _ _ _ h => h) (Or.inl ⟨by rfl, ?_⟩) ?_ ?_
      rotate_left
      · intro w'
        go_simp
        with_reducible rfl
      rotate_left
      · simp only [Act.put, List.setIfInBounds_toArray, List.set_cons_zero, List.set_cons_succ, i64_w, i32_w]
        rfl
      refine take_ (i := 0) (N := some 106) (v := ?_) (a' := ?_) #[true, true, false, false, true, false, false, false] rfl rfl (by kernel_rfl) (fun _ _ _ h => h) (Or.inl ⟨by rfl, ?_⟩) hHeld ?_ ?_
      rotate_left
      · rintro w' ⟨s0, s1, s2, s3, s4, s5⟩
        go_simp
        with_reducible rfl
      rotate_left
      · simp only [Act.put, List.setIfInBounds_toArray, List.set_cons_zero, List.set_cons_succ, i64_w, i32_w]
        rfl
      refine take_ (i := 3) (N := some 109) (v := ?_) (a' := ?_) #[true, true, false, true, true, false, false, false] rfl rfl (by kernel_rfl) (fun _ _ _ h => h) (Or.inl ⟨by rfl, ?_⟩) hHeld ?_ ?_
      rotate_left
      · rintro w' ⟨s0, s1, s2, s3, s4, s5⟩
        go_simp
        with_reducible rfl
      rotate_left
      · simp only [Act.put, List.setIfInBounds_toArray, List.set_cons_zero, List.set_cons_succ, i64_w, i32_w]
        rfl
      refine one_ (i := 2) (N := some 108) #[true, true, true, true, true, false, false, false] rfl rfl (by kernel_rfl) (by decide) (fun K hK => ?_)
      refine goes_ Try.func25 (by kernel_rfl) rfl #[.agg #[.int .i64 s0, .slice A0 n0.length c0, .slice B0 e0.length b0], .slice A2 l2.length c2] (by rfl) rfl rfl (by simp only [List.map_toArray, List.map_cons, List.map_nil]; rfl) ?_
      with_reducible refine (caesuraref15_Accepts.calls k s0 A0 c0 n0 B0 b0 e0 A2 c2 l2 x V15 G0.out.n2 G0.out.n1 G0.out.e2 G0.out.e1 CL.out HC2.out FF.out.cx).mono ?_
      rintro e_ V16 ⟨rfl, hb⟩
      refine ⟨_, rfl, ?_⟩
      have n_G0 := Aside0.mk (Got.below G0.out hb)
      have n_G1 := Aside0.mk (Got.below G1.out hb)
      have n_XA := Aside0.mk (blk_below XA.out hb)
      have n_XB := Aside0.mk (blk_below XB.out hb)
      have n_BL := Aside0.mk (BL.out.trans (Below.mono hb BL.out.size))
      have n_CL := Aside0.mk (Kd.C_below CL.out hb)
      have n_Go := Aside0.mk (Got.below Go.out hb)
      have n_Bo := Aside0.mk (blk_below Bo.out hb)
      have n_Ga := Aside0.mk (Got.below Ga.out hb)
      have n_Ba := Aside0.mk (blk_below Ba.out hb)
      have n_Gl := Aside0.mk (Got.below Gl.out hb)
      have n_Bl := Aside0.mk (blk_below Bl.out hb)
      have n_Gx := Aside0.mk (Got.below Gx.out hb)
      have n_Bx := Aside0.mk (blk_below Bx.out hb)
      have n_Gn := Aside0.mk (Got.below Gn.out hb)
      have n_Bn := Aside0.mk (blk_below Bn.out hb)
      clear G0 G1 XA XB BL CL Go Bo Ga Ba Gl Bl Gx Bx Gn Bn
      have G0 := n_G0
      have G1 := n_G1
      have XA := n_XA
      have XB := n_XB
      have BL := n_BL
      have CL := n_CL
      have Go := n_Go
      have Bo := n_Bo
      have Ga := n_Ga
      have Ba := n_Ba
      have Gl := n_Gl
      have Bl := n_Bl
      have Gx := n_Gx
      have Bx := n_Bx
      have Gn := n_Gn
      have Bn := n_Bn
      clear n_G0 n_G1 n_XA n_XB n_BL n_CL n_Go n_Bo n_Ga n_Ba n_Gl n_Bl n_Gx n_Bx n_Gn n_Bn
      clear hb
      refine hK.out _ _ ⟨((blk_cell XA.out 0).trans rfl), ((blk_cell XA.out 1).trans rfl), ((blk_cell XA.out 2).trans rfl), ((blk_cell XB.out 0).trans rfl), ((blk_cell XB.out 1).trans rfl), ((blk_cell XB.out 2).trans rfl)⟩ (fun hHeld => ?_)
      clear hK K
      refine norm_ (a' := ?_) ?_ ?_
      rotate_left
      · show Act.put _ (some 108) _ = _
        simp only [Act.put, List.setIfInBounds_toArray, List.set_cons_zero, List.set_cons_succ, i64_w, i32_w]
        rfl
      refine one_ (i := 5) (N := some 111) #[true, true, true, true, true, true, false, false] rfl rfl (by kernel_rfl) (by decide) (fun K hK => ?_)
      refine goes_ Try.func25 (by kernel_rfl) rfl #[.agg #[.int .i64 s0, .slice A1 n1.length c1, .slice B1 e1.length b1], .slice A2 l2.length c2] (by rfl) rfl rfl (by simp only [List.map_toArray, List.map_cons, List.map_nil]; rfl) ?_
      with_reducible refine (caesuraref15_Accepts.calls k s0 A1 c1 n1 B1 b1 e1 A2 c2 l2 y V16 G1.out.n2 G1.out.n1 G1.out.e2 G1.out.e1 CL.out HC2.out FF.out.cy).mono ?_
      rintro e_ V17 ⟨rfl, hb⟩
      refine ⟨_, rfl, ?_⟩
      have n_G0 := Aside0.mk (Got.below G0.out hb)
      have n_G1 := Aside0.mk (Got.below G1.out hb)
      have n_XA := Aside0.mk (blk_below XA.out hb)
      have n_XB := Aside0.mk (blk_below XB.out hb)
      have n_BL := Aside0.mk (BL.out.trans (Below.mono hb BL.out.size))
      have n_CL := Aside0.mk (Kd.C_below CL.out hb)
      have n_Go := Aside0.mk (Got.below Go.out hb)
      have n_Bo := Aside0.mk (blk_below Bo.out hb)
      have n_Ga := Aside0.mk (Got.below Ga.out hb)
      have n_Ba := Aside0.mk (blk_below Ba.out hb)
      have n_Gl := Aside0.mk (Got.below Gl.out hb)
      have n_Bl := Aside0.mk (blk_below Bl.out hb)
      have n_Gx := Aside0.mk (Got.below Gx.out hb)
      have n_Bx := Aside0.mk (blk_below Bx.out hb)
      have n_Gn := Aside0.mk (Got.below Gn.out hb)
      have n_Bn := Aside0.mk (blk_below Bn.out hb)
      clear G0 G1 XA XB BL CL Go Bo Ga Ba Gl Bl Gx Bx Gn Bn
      have G0 := n_G0
      have G1 := n_G1
      have XA := n_XA
      have XB := n_XB
      have BL := n_BL
      have CL := n_CL
      have Go := n_Go
      have Bo := n_Bo
      have Ga := n_Ga
      have Ba := n_Ba
      have Gl := n_Gl
      have Bl := n_Bl
      have Gx := n_Gx
      have Bx := n_Bx
      have Gn := n_Gn
      have Bn := n_Bn
      clear n_G0 n_G1 n_XA n_XB n_BL n_CL n_Go n_Bo n_Ga n_Ba n_Gl n_Bl n_Gx n_Bx n_Gn n_Bn
      clear hb
      refine hK.out _ _ ⟨((blk_cell XA.out 0).trans rfl), ((blk_cell XA.out 1).trans rfl), ((blk_cell XA.out 2).trans rfl), ((blk_cell XB.out 0).trans rfl), ((blk_cell XB.out 1).trans rfl), ((blk_cell XB.out 2).trans rfl)⟩ (fun hHeld => ?_)
      clear hK K
      refine norm_ (a' := ?_) ?_ ?_
      rotate_left
      · show Act.put _ (some 111) _ = _
        simp only [Act.put, List.setIfInBounds_toArray, List.set_cons_zero, List.set_cons_succ, i64_w, i32_w]
        rfl
      refine pure_ (i := 6) (N := some 18) (v := ?_) (a' := ?_) #[true, true, true, true, true, true, true, false] rfl rfl (by kernel_rfl) (fun _ _ _ h => h) (Or.inl ⟨by rfl, ?_⟩) ?_ ?_
      rotate_left
      · intro w'
        go_simp
        with_reducible rfl
      rotate_left
      · simp only [Act.put, List.setIfInBounds_toArray, List.set_cons_zero, List.set_cons_succ, i64_w, i32_w]
        rfl
      refine pure_ (i := 7) (N := some 19) (v := ?_) (a' := ?_) #[true, true, true, true, true, true, true, true] rfl rfl (by kernel_rfl) (fun _ _ _ h => h) (Or.inl ⟨by rfl, ?_⟩) ?_ ?_
      rotate_left
      · intro w'
        go_simp
        with_reducible rfl
      rotate_left
      · simp only [Act.put, List.setIfInBounds_toArray, List.set_cons_zero, List.set_cons_succ, i64_w, i32_w]
        rfl
      refine done_ (by kernel_rfl) ?_
      go_upto_region 16 with (fail)
      go_cut [125] from 112 to 125 (fun s125 wx => s125 = .bool false ∧ Aside0 (Below V17.heap.size V17 wx))
      case first =>
        have BV := Aside0.mk (Below.refl V17.heap.size V17)
        have v0_0 := (blk_cell Bx.out 0).trans rfl
        have v0_1 := (blk_cell Bx.out 1).trans rfl
        have v0_2 := (blk_cell Bx.out 2).trans rfl
        go_wp2_with fail
        refine (calc_empty s0 Px px rows Qx qx ex V17 Gx.out.n2 Gx.out.n1 Gx.out.e2 Gx.out.e1 Ex FF.out.fx).mono ?_
        rintro e_ V18 ⟨rfl, hb⟩
        have n_G0 := Aside0.mk (Got.below G0.out hb)
        have n_G1 := Aside0.mk (Got.below G1.out hb)
        have n_XA := Aside0.mk (blk_below XA.out hb)
        have n_XB := Aside0.mk (blk_below XB.out hb)
        have n_BL := Aside0.mk (BL.out.trans (Below.mono hb BL.out.size))
        have n_CL := Aside0.mk (Kd.C_below CL.out hb)
        have n_Go := Aside0.mk (Got.below Go.out hb)
        have n_Bo := Aside0.mk (blk_below Bo.out hb)
        have n_Ga := Aside0.mk (Got.below Ga.out hb)
        have n_Ba := Aside0.mk (blk_below Ba.out hb)
        have n_Gl := Aside0.mk (Got.below Gl.out hb)
        have n_Bl := Aside0.mk (blk_below Bl.out hb)
        have n_Gx := Aside0.mk (Got.below Gx.out hb)
        have n_Bx := Aside0.mk (blk_below Bx.out hb)
        have n_Gn := Aside0.mk (Got.below Gn.out hb)
        have n_Bn := Aside0.mk (blk_below Bn.out hb)
        have n_BV := Aside0.mk (BV.out.trans (Below.mono hb BV.out.size))
        clear G0 G1 XA XB BL CL Go Bo Ga Ba Gl Bl Gx Bx Gn Bn BV
        have G0 := n_G0
        have G1 := n_G1
        have XA := n_XA
        have XB := n_XB
        have BL := n_BL
        have CL := n_CL
        have Go := n_Go
        have Bo := n_Bo
        have Ga := n_Ga
        have Ba := n_Ba
        have Gl := n_Gl
        have Bl := n_Bl
        have Gx := n_Gx
        have Bx := n_Bx
        have Gn := n_Gn
        have Bn := n_Bn
        have BV := n_BV
        clear n_G0 n_G1 n_XA n_XB n_BL n_CL n_Go n_Bo n_Ga n_Ba n_Gl n_Bl n_Gx n_Bx n_Gn n_Bn n_BV
        clear hb
        clear v0_0 v0_1 v0_2
        cases Ex with
        | false =>
          have v0_0 := (blk_cell XA.out 0).trans rfl
          have v0_1 := (blk_cell XA.out 1).trans rfl
          have v0_2 := (blk_cell XA.out 2).trans rfl
          go_wp2_with fail
          refine (calc_empty s0 A0 c0 n0 B0 b0 e0 V18 G0.out.n2 G0.out.n1 G0.out.e2 G0.out.e1 Ea FF.out.fa).mono ?_
          rintro e_ V19 ⟨rfl, hb⟩
          have n_G0 := Aside0.mk (Got.below G0.out hb)
          have n_G1 := Aside0.mk (Got.below G1.out hb)
          have n_XA := Aside0.mk (blk_below XA.out hb)
          have n_XB := Aside0.mk (blk_below XB.out hb)
          have n_BL := Aside0.mk (BL.out.trans (Below.mono hb BL.out.size))
          have n_CL := Aside0.mk (Kd.C_below CL.out hb)
          have n_Go := Aside0.mk (Got.below Go.out hb)
          have n_Bo := Aside0.mk (blk_below Bo.out hb)
          have n_Ga := Aside0.mk (Got.below Ga.out hb)
          have n_Ba := Aside0.mk (blk_below Ba.out hb)
          have n_Gl := Aside0.mk (Got.below Gl.out hb)
          have n_Bl := Aside0.mk (blk_below Bl.out hb)
          have n_Gx := Aside0.mk (Got.below Gx.out hb)
          have n_Bx := Aside0.mk (blk_below Bx.out hb)
          have n_Gn := Aside0.mk (Got.below Gn.out hb)
          have n_Bn := Aside0.mk (blk_below Bn.out hb)
          have n_BV := Aside0.mk (BV.out.trans (Below.mono hb BV.out.size))
          clear G0 G1 XA XB BL CL Go Bo Ga Ba Gl Bl Gx Bx Gn Bn BV
          have G0 := n_G0
          have G1 := n_G1
          have XA := n_XA
          have XB := n_XB
          have BL := n_BL
          have CL := n_CL
          have Go := n_Go
          have Bo := n_Bo
          have Ga := n_Ga
          have Ba := n_Ba
          have Gl := n_Gl
          have Bl := n_Bl
          have Gx := n_Gx
          have Bx := n_Bx
          have Gn := n_Gn
          have Bn := n_Bn
          have BV := n_BV
          clear n_G0 n_G1 n_XA n_XB n_BL n_CL n_Go n_Bo n_Ga n_Ba n_Gl n_Bl n_Gx n_Bx n_Gn n_Bn n_BV
          clear hb
          clear v0_0 v0_1 v0_2
          cases Ea with
          | false =>
            go_wp2_with fail
            go_meet
            exact ⟨rfl, BV⟩
          | true =>
            have hx := o2 rfl
            subst hx
            go_wp2_with fail
            go_meet
            exact ⟨rfl, BV⟩
        | true =>
          have hx := o1 rfl
          subst hx
          have hxx : (x != x) = false := by simp
          have v0_0 := (blk_cell XA.out 0).trans rfl
          have v0_1 := (blk_cell XA.out 1).trans rfl
          have v0_2 := (blk_cell XA.out 2).trans rfl
          go_wp2_with fail
          refine (calc_empty s0 A0 c0 n0 B0 b0 e0 V18 G0.out.n2 G0.out.n1 G0.out.e2 G0.out.e1 Ea FF.out.fa).mono ?_
          rintro e_ V20 ⟨rfl, hb⟩
          have n_G0 := Aside0.mk (Got.below G0.out hb)
          have n_G1 := Aside0.mk (Got.below G1.out hb)
          have n_XA := Aside0.mk (blk_below XA.out hb)
          have n_XB := Aside0.mk (blk_below XB.out hb)
          have n_BL := Aside0.mk (BL.out.trans (Below.mono hb BL.out.size))
          have n_CL := Aside0.mk (Kd.C_below CL.out hb)
          have n_Go := Aside0.mk (Got.below Go.out hb)
          have n_Bo := Aside0.mk (blk_below Bo.out hb)
          have n_Ga := Aside0.mk (Got.below Ga.out hb)
          have n_Ba := Aside0.mk (blk_below Ba.out hb)
          have n_Gl := Aside0.mk (Got.below Gl.out hb)
          have n_Bl := Aside0.mk (blk_below Bl.out hb)
          have n_Gx := Aside0.mk (Got.below Gx.out hb)
          have n_Bx := Aside0.mk (blk_below Bx.out hb)
          have n_Gn := Aside0.mk (Got.below Gn.out hb)
          have n_Bn := Aside0.mk (blk_below Bn.out hb)
          have n_BV := Aside0.mk (BV.out.trans (Below.mono hb BV.out.size))
          clear G0 G1 XA XB BL CL Go Bo Ga Ba Gl Bl Gx Bx Gn Bn BV
          have G0 := n_G0
          have G1 := n_G1
          have XA := n_XA
          have XB := n_XB
          have BL := n_BL
          have CL := n_CL
          have Go := n_Go
          have Bo := n_Bo
          have Ga := n_Ga
          have Ba := n_Ba
          have Gl := n_Gl
          have Bl := n_Bl
          have Gx := n_Gx
          have Bx := n_Bx
          have Gn := n_Gn
          have Bn := n_Bn
          have BV := n_BV
          clear n_G0 n_G1 n_XA n_XB n_BL n_CL n_Go n_Bo n_Ga n_Ba n_Gl n_Bl n_Gx n_Bx n_Gn n_Bn n_BV
          clear hb
          clear v0_0 v0_1 v0_2
          cases Ea with
          | false =>
            go_wp2_with fail
            go_meet
            exact ⟨rfl, BV⟩
          | true =>
            have hx := o2 rfl
            subst hx
            go_wp2_with fail
            go_meet
            exact ⟨rfl, BV⟩
      case rest =>
        obtain ⟨rfl, HB_⟩ := hcut
        have hb := HB_.out
        have n_G0 := Aside0.mk (Got.below G0.out hb)
        have n_G1 := Aside0.mk (Got.below G1.out hb)
        have n_XA := Aside0.mk (blk_below XA.out hb)
        have n_XB := Aside0.mk (blk_below XB.out hb)
        have n_BL := Aside0.mk (BL.out.trans (Below.mono hb BL.out.size))
        have n_CL := Aside0.mk (Kd.C_below CL.out hb)
        have n_Go := Aside0.mk (Got.below Go.out hb)
        have n_Bo := Aside0.mk (blk_below Bo.out hb)
        have n_Ga := Aside0.mk (Got.below Ga.out hb)
        have n_Ba := Aside0.mk (blk_below Ba.out hb)
        have n_Gl := Aside0.mk (Got.below Gl.out hb)
        have n_Bl := Aside0.mk (blk_below Bl.out hb)
        have n_Gx := Aside0.mk (Got.below Gx.out hb)
        have n_Bx := Aside0.mk (blk_below Bx.out hb)
        have n_Gn := Aside0.mk (Got.below Gn.out hb)
        have n_Bn := Aside0.mk (blk_below Bn.out hb)
        clear G0 G1 XA XB BL CL Go Bo Ga Ba Gl Bl Gx Bx Gn Bn
        have G0 := n_G0
        have G1 := n_G1
        have XA := n_XA
        have XB := n_XB
        have BL := n_BL
        have CL := n_CL
        have Go := n_Go
        have Bo := n_Bo
        have Ga := n_Ga
        have Ba := n_Ba
        have Gl := n_Gl
        have Bl := n_Bl
        have Gx := n_Gx
        have Bx := n_Bx
        have Gn := n_Gn
        have Bn := n_Bn
        clear n_G0 n_G1 n_XA n_XB n_BL n_CL n_Go n_Bo n_Ga n_Ba n_Gl n_Bl n_Gx n_Bx n_Gn n_Bn
        clear hb HB_ o1 o2
        cases x with
        | false =>
          cases y with
          | false =>
            have v0_0 := (blk_cell Bo.out 0).trans rfl
            have v0_1 := (blk_cell Bo.out 1).trans rfl
            have v0_2 := (blk_cell Bo.out 2).trans rfl
            go_wp2_with fail
            refine (caesuraref15_Accepts.calls k s0 Po po rows Qo qo eo A2 c2 l2 false wc Go.out.n2 Go.out.n1 Go.out.e2 Go.out.e1 CL.out HC2.out FF.out.co).mono ?_
            rintro e_ V21 ⟨rfl, hb⟩
            have n_G0 := Aside0.mk (Got.below G0.out hb)
            have n_G1 := Aside0.mk (Got.below G1.out hb)
            have n_XA := Aside0.mk (blk_below XA.out hb)
            have n_XB := Aside0.mk (blk_below XB.out hb)
            have n_BL := Aside0.mk (BL.out.trans (Below.mono hb BL.out.size))
            have n_CL := Aside0.mk (Kd.C_below CL.out hb)
            have n_Go := Aside0.mk (Got.below Go.out hb)
            have n_Bo := Aside0.mk (blk_below Bo.out hb)
            have n_Ga := Aside0.mk (Got.below Ga.out hb)
            have n_Ba := Aside0.mk (blk_below Ba.out hb)
            have n_Gl := Aside0.mk (Got.below Gl.out hb)
            have n_Bl := Aside0.mk (blk_below Bl.out hb)
            have n_Gx := Aside0.mk (Got.below Gx.out hb)
            have n_Bx := Aside0.mk (blk_below Bx.out hb)
            have n_Gn := Aside0.mk (Got.below Gn.out hb)
            have n_Bn := Aside0.mk (blk_below Bn.out hb)
            clear G0 G1 XA XB BL CL Go Bo Ga Ba Gl Bl Gx Bx Gn Bn
            have G0 := n_G0
            have G1 := n_G1
            have XA := n_XA
            have XB := n_XB
            have BL := n_BL
            have CL := n_CL
            have Go := n_Go
            have Bo := n_Bo
            have Ga := n_Ga
            have Ba := n_Ba
            have Gl := n_Gl
            have Bl := n_Bl
            have Gx := n_Gx
            have Bx := n_Bx
            have Gn := n_Gn
            have Bn := n_Bn
            clear n_G0 n_G1 n_XA n_XB n_BL n_CL n_Go n_Bo n_Ga n_Ba n_Gl n_Bl n_Gx n_Bx n_Gn n_Bn
            clear hb
            clear v0_0 v0_1 v0_2
            have v0_0 := (blk_cell Ba.out 0).trans rfl
            have v0_1 := (blk_cell Ba.out 1).trans rfl
            have v0_2 := (blk_cell Ba.out 2).trans rfl
            go_wp2_with fail
            refine (caesuraref15_Accepts.calls k s0 Pa pa rows Qa qa ea A2 c2 l2 false V21 Ga.out.n2 Ga.out.n1 Ga.out.e2 Ga.out.e1 CL.out HC2.out FF.out.ca).mono ?_
            rintro e_ V22 ⟨rfl, hb⟩
            have n_G0 := Aside0.mk (Got.below G0.out hb)
            have n_G1 := Aside0.mk (Got.below G1.out hb)
            have n_XA := Aside0.mk (blk_below XA.out hb)
            have n_XB := Aside0.mk (blk_below XB.out hb)
            have n_BL := Aside0.mk (BL.out.trans (Below.mono hb BL.out.size))
            have n_CL := Aside0.mk (Kd.C_below CL.out hb)
            have n_Go := Aside0.mk (Got.below Go.out hb)
            have n_Bo := Aside0.mk (blk_below Bo.out hb)
            have n_Ga := Aside0.mk (Got.below Ga.out hb)
            have n_Ba := Aside0.mk (blk_below Ba.out hb)
            have n_Gl := Aside0.mk (Got.below Gl.out hb)
            have n_Bl := Aside0.mk (blk_below Bl.out hb)
            have n_Gx := Aside0.mk (Got.below Gx.out hb)
            have n_Bx := Aside0.mk (blk_below Bx.out hb)
            have n_Gn := Aside0.mk (Got.below Gn.out hb)
            have n_Bn := Aside0.mk (blk_below Bn.out hb)
            clear G0 G1 XA XB BL CL Go Bo Ga Ba Gl Bl Gx Bx Gn Bn
            have G0 := n_G0
            have G1 := n_G1
            have XA := n_XA
            have XB := n_XB
            have BL := n_BL
            have CL := n_CL
            have Go := n_Go
            have Bo := n_Bo
            have Ga := n_Ga
            have Ba := n_Ba
            have Gl := n_Gl
            have Bl := n_Bl
            have Gx := n_Gx
            have Bx := n_Bx
            have Gn := n_Gn
            have Bn := n_Bn
            clear n_G0 n_G1 n_XA n_XB n_BL n_CL n_Go n_Bo n_Ga n_Ba n_Gl n_Bl n_Gx n_Bx n_Gn n_Bn
            clear hb
            clear v0_0 v0_1 v0_2
            have v0_0 := (blk_cell Bl.out 0).trans rfl
            have v0_1 := (blk_cell Bl.out 1).trans rfl
            have v0_2 := (blk_cell Bl.out 2).trans rfl
            go_wp2_with fail
            refine (caesuraref15_Accepts.calls k s0 Pl pl rows Ql ql el A2 c2 l2 false V22 Gl.out.n2 Gl.out.n1 Gl.out.e2 Gl.out.e1 CL.out HC2.out FF.out.cl).mono ?_
            rintro e_ V23 ⟨rfl, hb⟩
            have n_G0 := Aside0.mk (Got.below G0.out hb)
            have n_G1 := Aside0.mk (Got.below G1.out hb)
            have n_XA := Aside0.mk (blk_below XA.out hb)
            have n_XB := Aside0.mk (blk_below XB.out hb)
            have n_BL := Aside0.mk (BL.out.trans (Below.mono hb BL.out.size))
            have n_CL := Aside0.mk (Kd.C_below CL.out hb)
            have n_Go := Aside0.mk (Got.below Go.out hb)
            have n_Bo := Aside0.mk (blk_below Bo.out hb)
            have n_Ga := Aside0.mk (Got.below Ga.out hb)
            have n_Ba := Aside0.mk (blk_below Ba.out hb)
            have n_Gl := Aside0.mk (Got.below Gl.out hb)
            have n_Bl := Aside0.mk (blk_below Bl.out hb)
            have n_Gx := Aside0.mk (Got.below Gx.out hb)
            have n_Bx := Aside0.mk (blk_below Bx.out hb)
            have n_Gn := Aside0.mk (Got.below Gn.out hb)
            have n_Bn := Aside0.mk (blk_below Bn.out hb)
            clear G0 G1 XA XB BL CL Go Bo Ga Ba Gl Bl Gx Bx Gn Bn
            have G0 := n_G0
            have G1 := n_G1
            have XA := n_XA
            have XB := n_XB
            have BL := n_BL
            have CL := n_CL
            have Go := n_Go
            have Bo := n_Bo
            have Ga := n_Ga
            have Ba := n_Ba
            have Gl := n_Gl
            have Bl := n_Bl
            have Gx := n_Gx
            have Bx := n_Bx
            have Gn := n_Gn
            have Bn := n_Bn
            clear n_G0 n_G1 n_XA n_XB n_BL n_CL n_Go n_Bo n_Ga n_Ba n_Gl n_Bl n_Gx n_Bx n_Gn n_Bn
            clear hb
            clear v0_0 v0_1 v0_2
            have v0_0 := (blk_cell Bx.out 0).trans rfl
            have v0_1 := (blk_cell Bx.out 1).trans rfl
            have v0_2 := (blk_cell Bx.out 2).trans rfl
            go_wp2_with fail
            refine (caesuraref15_Accepts.calls k s0 Px px rows Qx qx ex A2 c2 l2 false V23 Gx.out.n2 Gx.out.n1 Gx.out.e2 Gx.out.e1 CL.out HC2.out FF.out.ce).mono ?_
            rintro e_ V24 ⟨rfl, hb⟩
            have n_G0 := Aside0.mk (Got.below G0.out hb)
            have n_G1 := Aside0.mk (Got.below G1.out hb)
            have n_XA := Aside0.mk (blk_below XA.out hb)
            have n_XB := Aside0.mk (blk_below XB.out hb)
            have n_BL := Aside0.mk (BL.out.trans (Below.mono hb BL.out.size))
            have n_CL := Aside0.mk (Kd.C_below CL.out hb)
            have n_Go := Aside0.mk (Got.below Go.out hb)
            have n_Bo := Aside0.mk (blk_below Bo.out hb)
            have n_Ga := Aside0.mk (Got.below Ga.out hb)
            have n_Ba := Aside0.mk (blk_below Ba.out hb)
            have n_Gl := Aside0.mk (Got.below Gl.out hb)
            have n_Bl := Aside0.mk (blk_below Bl.out hb)
            have n_Gx := Aside0.mk (Got.below Gx.out hb)
            have n_Bx := Aside0.mk (blk_below Bx.out hb)
            have n_Gn := Aside0.mk (Got.below Gn.out hb)
            have n_Bn := Aside0.mk (blk_below Bn.out hb)
            clear G0 G1 XA XB BL CL Go Bo Ga Ba Gl Bl Gx Bx Gn Bn
            have G0 := n_G0
            have G1 := n_G1
            have XA := n_XA
            have XB := n_XB
            have BL := n_BL
            have CL := n_CL
            have Go := n_Go
            have Bo := n_Bo
            have Ga := n_Ga
            have Ba := n_Ba
            have Gl := n_Gl
            have Bl := n_Bl
            have Gx := n_Gx
            have Bx := n_Bx
            have Gn := n_Gn
            have Bn := n_Bn
            clear n_G0 n_G1 n_XA n_XB n_BL n_CL n_Go n_Bo n_Ga n_Ba n_Gl n_Bl n_Gx n_Bx n_Gn n_Bn
            clear hb
            clear v0_0 v0_1 v0_2
            have v0_0 := (blk_cell Bn.out 0).trans rfl
            have v0_1 := (blk_cell Bn.out 1).trans rfl
            have v0_2 := (blk_cell Bn.out 2).trans rfl
            go_wp2_with fail
            refine (caesuraref15_Accepts.calls k s0 Pn pn n0 Qn qn en A2 c2 l2 true V24 Gn.out.n2 Gn.out.n1 Gn.out.e2 Gn.out.e1 CL.out HC2.out FF.out.cn).mono ?_
            rintro e_ V25 ⟨rfl, hb⟩
            have n_G0 := Aside0.mk (Got.below G0.out hb)
            have n_G1 := Aside0.mk (Got.below G1.out hb)
            have n_XA := Aside0.mk (blk_below XA.out hb)
            have n_XB := Aside0.mk (blk_below XB.out hb)
            have n_BL := Aside0.mk (BL.out.trans (Below.mono hb BL.out.size))
            have n_CL := Aside0.mk (Kd.C_below CL.out hb)
            have n_Go := Aside0.mk (Got.below Go.out hb)
            have n_Bo := Aside0.mk (blk_below Bo.out hb)
            have n_Ga := Aside0.mk (Got.below Ga.out hb)
            have n_Ba := Aside0.mk (blk_below Ba.out hb)
            have n_Gl := Aside0.mk (Got.below Gl.out hb)
            have n_Bl := Aside0.mk (blk_below Bl.out hb)
            have n_Gx := Aside0.mk (Got.below Gx.out hb)
            have n_Bx := Aside0.mk (blk_below Bx.out hb)
            have n_Gn := Aside0.mk (Got.below Gn.out hb)
            have n_Bn := Aside0.mk (blk_below Bn.out hb)
            clear G0 G1 XA XB BL CL Go Bo Ga Ba Gl Bl Gx Bx Gn Bn
            have G0 := n_G0
            have G1 := n_G1
            have XA := n_XA
            have XB := n_XB
            have BL := n_BL
            have CL := n_CL
            have Go := n_Go
            have Bo := n_Bo
            have Ga := n_Ga
            have Ba := n_Ba
            have Gl := n_Gl
            have Bl := n_Bl
            have Gx := n_Gx
            have Bx := n_Bx
            have Gn := n_Gn
            have Bn := n_Bn
            clear n_G0 n_G1 n_XA n_XB n_BL n_CL n_Go n_Bo n_Ga n_Ba n_Gl n_Bl n_Gx n_Bx n_Gn n_Bn
            clear hb
            clear v0_0 v0_1 v0_2
            go_wp2_with fail
            go_ret
            exact ⟨rfl, BL.out⟩
          | true =>
            have v0_0 := (blk_cell Bo.out 0).trans rfl
            have v0_1 := (blk_cell Bo.out 1).trans rfl
            have v0_2 := (blk_cell Bo.out 2).trans rfl
            go_wp2_with fail
            refine (caesuraref15_Accepts.calls k s0 Po po rows Qo qo eo A2 c2 l2 true wc Go.out.n2 Go.out.n1 Go.out.e2 Go.out.e1 CL.out HC2.out FF.out.co).mono ?_
            rintro e_ V26 ⟨rfl, hb⟩
            have n_G0 := Aside0.mk (Got.below G0.out hb)
            have n_G1 := Aside0.mk (Got.below G1.out hb)
            have n_XA := Aside0.mk (blk_below XA.out hb)
            have n_XB := Aside0.mk (blk_below XB.out hb)
            have n_BL := Aside0.mk (BL.out.trans (Below.mono hb BL.out.size))
            have n_CL := Aside0.mk (Kd.C_below CL.out hb)
            have n_Go := Aside0.mk (Got.below Go.out hb)
            have n_Bo := Aside0.mk (blk_below Bo.out hb)
            have n_Ga := Aside0.mk (Got.below Ga.out hb)
            have n_Ba := Aside0.mk (blk_below Ba.out hb)
            have n_Gl := Aside0.mk (Got.below Gl.out hb)
            have n_Bl := Aside0.mk (blk_below Bl.out hb)
            have n_Gx := Aside0.mk (Got.below Gx.out hb)
            have n_Bx := Aside0.mk (blk_below Bx.out hb)
            have n_Gn := Aside0.mk (Got.below Gn.out hb)
            have n_Bn := Aside0.mk (blk_below Bn.out hb)
            clear G0 G1 XA XB BL CL Go Bo Ga Ba Gl Bl Gx Bx Gn Bn
            have G0 := n_G0
            have G1 := n_G1
            have XA := n_XA
            have XB := n_XB
            have BL := n_BL
            have CL := n_CL
            have Go := n_Go
            have Bo := n_Bo
            have Ga := n_Ga
            have Ba := n_Ba
            have Gl := n_Gl
            have Bl := n_Bl
            have Gx := n_Gx
            have Bx := n_Bx
            have Gn := n_Gn
            have Bn := n_Bn
            clear n_G0 n_G1 n_XA n_XB n_BL n_CL n_Go n_Bo n_Ga n_Ba n_Gl n_Bl n_Gx n_Bx n_Gn n_Bn
            clear hb
            clear v0_0 v0_1 v0_2
            have v0_0 := (blk_cell Ba.out 0).trans rfl
            have v0_1 := (blk_cell Ba.out 1).trans rfl
            have v0_2 := (blk_cell Ba.out 2).trans rfl
            go_wp2_with fail
            refine (caesuraref15_Accepts.calls k s0 Pa pa rows Qa qa ea A2 c2 l2 false V26 Ga.out.n2 Ga.out.n1 Ga.out.e2 Ga.out.e1 CL.out HC2.out FF.out.ca).mono ?_
            rintro e_ V27 ⟨rfl, hb⟩
            have n_G0 := Aside0.mk (Got.below G0.out hb)
            have n_G1 := Aside0.mk (Got.below G1.out hb)
            have n_XA := Aside0.mk (blk_below XA.out hb)
            have n_XB := Aside0.mk (blk_below XB.out hb)
            have n_BL := Aside0.mk (BL.out.trans (Below.mono hb BL.out.size))
            have n_CL := Aside0.mk (Kd.C_below CL.out hb)
            have n_Go := Aside0.mk (Got.below Go.out hb)
            have n_Bo := Aside0.mk (blk_below Bo.out hb)
            have n_Ga := Aside0.mk (Got.below Ga.out hb)
            have n_Ba := Aside0.mk (blk_below Ba.out hb)
            have n_Gl := Aside0.mk (Got.below Gl.out hb)
            have n_Bl := Aside0.mk (blk_below Bl.out hb)
            have n_Gx := Aside0.mk (Got.below Gx.out hb)
            have n_Bx := Aside0.mk (blk_below Bx.out hb)
            have n_Gn := Aside0.mk (Got.below Gn.out hb)
            have n_Bn := Aside0.mk (blk_below Bn.out hb)
            clear G0 G1 XA XB BL CL Go Bo Ga Ba Gl Bl Gx Bx Gn Bn
            have G0 := n_G0
            have G1 := n_G1
            have XA := n_XA
            have XB := n_XB
            have BL := n_BL
            have CL := n_CL
            have Go := n_Go
            have Bo := n_Bo
            have Ga := n_Ga
            have Ba := n_Ba
            have Gl := n_Gl
            have Bl := n_Bl
            have Gx := n_Gx
            have Bx := n_Bx
            have Gn := n_Gn
            have Bn := n_Bn
            clear n_G0 n_G1 n_XA n_XB n_BL n_CL n_Go n_Bo n_Ga n_Ba n_Gl n_Bl n_Gx n_Bx n_Gn n_Bn
            clear hb
            clear v0_0 v0_1 v0_2
            have v0_0 := (blk_cell Bl.out 0).trans rfl
            have v0_1 := (blk_cell Bl.out 1).trans rfl
            have v0_2 := (blk_cell Bl.out 2).trans rfl
            go_wp2_with fail
            refine (caesuraref15_Accepts.calls k s0 Pl pl rows Ql ql el A2 c2 l2 false V27 Gl.out.n2 Gl.out.n1 Gl.out.e2 Gl.out.e1 CL.out HC2.out FF.out.cl).mono ?_
            rintro e_ V28 ⟨rfl, hb⟩
            have n_G0 := Aside0.mk (Got.below G0.out hb)
            have n_G1 := Aside0.mk (Got.below G1.out hb)
            have n_XA := Aside0.mk (blk_below XA.out hb)
            have n_XB := Aside0.mk (blk_below XB.out hb)
            have n_BL := Aside0.mk (BL.out.trans (Below.mono hb BL.out.size))
            have n_CL := Aside0.mk (Kd.C_below CL.out hb)
            have n_Go := Aside0.mk (Got.below Go.out hb)
            have n_Bo := Aside0.mk (blk_below Bo.out hb)
            have n_Ga := Aside0.mk (Got.below Ga.out hb)
            have n_Ba := Aside0.mk (blk_below Ba.out hb)
            have n_Gl := Aside0.mk (Got.below Gl.out hb)
            have n_Bl := Aside0.mk (blk_below Bl.out hb)
            have n_Gx := Aside0.mk (Got.below Gx.out hb)
            have n_Bx := Aside0.mk (blk_below Bx.out hb)
            have n_Gn := Aside0.mk (Got.below Gn.out hb)
            have n_Bn := Aside0.mk (blk_below Bn.out hb)
            clear G0 G1 XA XB BL CL Go Bo Ga Ba Gl Bl Gx Bx Gn Bn
            have G0 := n_G0
            have G1 := n_G1
            have XA := n_XA
            have XB := n_XB
            have BL := n_BL
            have CL := n_CL
            have Go := n_Go
            have Bo := n_Bo
            have Ga := n_Ga
            have Ba := n_Ba
            have Gl := n_Gl
            have Bl := n_Bl
            have Gx := n_Gx
            have Bx := n_Bx
            have Gn := n_Gn
            have Bn := n_Bn
            clear n_G0 n_G1 n_XA n_XB n_BL n_CL n_Go n_Bo n_Ga n_Ba n_Gl n_Bl n_Gx n_Bx n_Gn n_Bn
            clear hb
            clear v0_0 v0_1 v0_2
            have v0_0 := (blk_cell Bx.out 0).trans rfl
            have v0_1 := (blk_cell Bx.out 1).trans rfl
            have v0_2 := (blk_cell Bx.out 2).trans rfl
            go_wp2_with fail
            refine (caesuraref15_Accepts.calls k s0 Px px rows Qx qx ex A2 c2 l2 true V28 Gx.out.n2 Gx.out.n1 Gx.out.e2 Gx.out.e1 CL.out HC2.out FF.out.ce).mono ?_
            rintro e_ V29 ⟨rfl, hb⟩
            have n_G0 := Aside0.mk (Got.below G0.out hb)
            have n_G1 := Aside0.mk (Got.below G1.out hb)
            have n_XA := Aside0.mk (blk_below XA.out hb)
            have n_XB := Aside0.mk (blk_below XB.out hb)
            have n_BL := Aside0.mk (BL.out.trans (Below.mono hb BL.out.size))
            have n_CL := Aside0.mk (Kd.C_below CL.out hb)
            have n_Go := Aside0.mk (Got.below Go.out hb)
            have n_Bo := Aside0.mk (blk_below Bo.out hb)
            have n_Ga := Aside0.mk (Got.below Ga.out hb)
            have n_Ba := Aside0.mk (blk_below Ba.out hb)
            have n_Gl := Aside0.mk (Got.below Gl.out hb)
            have n_Bl := Aside0.mk (blk_below Bl.out hb)
            have n_Gx := Aside0.mk (Got.below Gx.out hb)
            have n_Bx := Aside0.mk (blk_below Bx.out hb)
            have n_Gn := Aside0.mk (Got.below Gn.out hb)
            have n_Bn := Aside0.mk (blk_below Bn.out hb)
            clear G0 G1 XA XB BL CL Go Bo Ga Ba Gl Bl Gx Bx Gn Bn
            have G0 := n_G0
            have G1 := n_G1
            have XA := n_XA
            have XB := n_XB
            have BL := n_BL
            have CL := n_CL
            have Go := n_Go
            have Bo := n_Bo
            have Ga := n_Ga
            have Ba := n_Ba
            have Gl := n_Gl
            have Bl := n_Bl
            have Gx := n_Gx
            have Bx := n_Bx
            have Gn := n_Gn
            have Bn := n_Bn
            clear n_G0 n_G1 n_XA n_XB n_BL n_CL n_Go n_Bo n_Ga n_Ba n_Gl n_Bl n_Gx n_Bx n_Gn n_Bn
            clear hb
            clear v0_0 v0_1 v0_2
            have v0_0 := (blk_cell Bn.out 0).trans rfl
            have v0_1 := (blk_cell Bn.out 1).trans rfl
            have v0_2 := (blk_cell Bn.out 2).trans rfl
            go_wp2_with fail
            refine (caesuraref15_Accepts.calls k s0 Pn pn n0 Qn qn en A2 c2 l2 true V29 Gn.out.n2 Gn.out.n1 Gn.out.e2 Gn.out.e1 CL.out HC2.out FF.out.cn).mono ?_
            rintro e_ V30 ⟨rfl, hb⟩
            have n_G0 := Aside0.mk (Got.below G0.out hb)
            have n_G1 := Aside0.mk (Got.below G1.out hb)
            have n_XA := Aside0.mk (blk_below XA.out hb)
            have n_XB := Aside0.mk (blk_below XB.out hb)
            have n_BL := Aside0.mk (BL.out.trans (Below.mono hb BL.out.size))
            have n_CL := Aside0.mk (Kd.C_below CL.out hb)
            have n_Go := Aside0.mk (Got.below Go.out hb)
            have n_Bo := Aside0.mk (blk_below Bo.out hb)
            have n_Ga := Aside0.mk (Got.below Ga.out hb)
            have n_Ba := Aside0.mk (blk_below Ba.out hb)
            have n_Gl := Aside0.mk (Got.below Gl.out hb)
            have n_Bl := Aside0.mk (blk_below Bl.out hb)
            have n_Gx := Aside0.mk (Got.below Gx.out hb)
            have n_Bx := Aside0.mk (blk_below Bx.out hb)
            have n_Gn := Aside0.mk (Got.below Gn.out hb)
            have n_Bn := Aside0.mk (blk_below Bn.out hb)
            clear G0 G1 XA XB BL CL Go Bo Ga Ba Gl Bl Gx Bx Gn Bn
            have G0 := n_G0
            have G1 := n_G1
            have XA := n_XA
            have XB := n_XB
            have BL := n_BL
            have CL := n_CL
            have Go := n_Go
            have Bo := n_Bo
            have Ga := n_Ga
            have Ba := n_Ba
            have Gl := n_Gl
            have Bl := n_Bl
            have Gx := n_Gx
            have Bx := n_Bx
            have Gn := n_Gn
            have Bn := n_Bn
            clear n_G0 n_G1 n_XA n_XB n_BL n_CL n_Go n_Bo n_Ga n_Ba n_Gl n_Bl n_Gx n_Bx n_Gn n_Bn
            clear hb
            clear v0_0 v0_1 v0_2
            go_wp2_with fail
            go_ret
            exact ⟨rfl, BL.out⟩
        | true =>
          cases y with
          | false =>
            have v0_0 := (blk_cell Bo.out 0).trans rfl
            have v0_1 := (blk_cell Bo.out 1).trans rfl
            have v0_2 := (blk_cell Bo.out 2).trans rfl
            go_wp2_with fail
            refine (caesuraref15_Accepts.calls k s0 Po po rows Qo qo eo A2 c2 l2 true wc Go.out.n2 Go.out.n1 Go.out.e2 Go.out.e1 CL.out HC2.out FF.out.co).mono ?_
            rintro e_ V31 ⟨rfl, hb⟩
            have n_G0 := Aside0.mk (Got.below G0.out hb)
            have n_G1 := Aside0.mk (Got.below G1.out hb)
            have n_XA := Aside0.mk (blk_below XA.out hb)
            have n_XB := Aside0.mk (blk_below XB.out hb)
            have n_BL := Aside0.mk (BL.out.trans (Below.mono hb BL.out.size))
            have n_CL := Aside0.mk (Kd.C_below CL.out hb)
            have n_Go := Aside0.mk (Got.below Go.out hb)
            have n_Bo := Aside0.mk (blk_below Bo.out hb)
            have n_Ga := Aside0.mk (Got.below Ga.out hb)
            have n_Ba := Aside0.mk (blk_below Ba.out hb)
            have n_Gl := Aside0.mk (Got.below Gl.out hb)
            have n_Bl := Aside0.mk (blk_below Bl.out hb)
            have n_Gx := Aside0.mk (Got.below Gx.out hb)
            have n_Bx := Aside0.mk (blk_below Bx.out hb)
            have n_Gn := Aside0.mk (Got.below Gn.out hb)
            have n_Bn := Aside0.mk (blk_below Bn.out hb)
            clear G0 G1 XA XB BL CL Go Bo Ga Ba Gl Bl Gx Bx Gn Bn
            have G0 := n_G0
            have G1 := n_G1
            have XA := n_XA
            have XB := n_XB
            have BL := n_BL
            have CL := n_CL
            have Go := n_Go
            have Bo := n_Bo
            have Ga := n_Ga
            have Ba := n_Ba
            have Gl := n_Gl
            have Bl := n_Bl
            have Gx := n_Gx
            have Bx := n_Bx
            have Gn := n_Gn
            have Bn := n_Bn
            clear n_G0 n_G1 n_XA n_XB n_BL n_CL n_Go n_Bo n_Ga n_Ba n_Gl n_Bl n_Gx n_Bx n_Gn n_Bn
            clear hb
            clear v0_0 v0_1 v0_2
            have v0_0 := (blk_cell Ba.out 0).trans rfl
            have v0_1 := (blk_cell Ba.out 1).trans rfl
            have v0_2 := (blk_cell Ba.out 2).trans rfl
            go_wp2_with fail
            refine (caesuraref15_Accepts.calls k s0 Pa pa rows Qa qa ea A2 c2 l2 false V31 Ga.out.n2 Ga.out.n1 Ga.out.e2 Ga.out.e1 CL.out HC2.out FF.out.ca).mono ?_
            rintro e_ V32 ⟨rfl, hb⟩
            have n_G0 := Aside0.mk (Got.below G0.out hb)
            have n_G1 := Aside0.mk (Got.below G1.out hb)
            have n_XA := Aside0.mk (blk_below XA.out hb)
            have n_XB := Aside0.mk (blk_below XB.out hb)
            have n_BL := Aside0.mk (BL.out.trans (Below.mono hb BL.out.size))
            have n_CL := Aside0.mk (Kd.C_below CL.out hb)
            have n_Go := Aside0.mk (Got.below Go.out hb)
            have n_Bo := Aside0.mk (blk_below Bo.out hb)
            have n_Ga := Aside0.mk (Got.below Ga.out hb)
            have n_Ba := Aside0.mk (blk_below Ba.out hb)
            have n_Gl := Aside0.mk (Got.below Gl.out hb)
            have n_Bl := Aside0.mk (blk_below Bl.out hb)
            have n_Gx := Aside0.mk (Got.below Gx.out hb)
            have n_Bx := Aside0.mk (blk_below Bx.out hb)
            have n_Gn := Aside0.mk (Got.below Gn.out hb)
            have n_Bn := Aside0.mk (blk_below Bn.out hb)
            clear G0 G1 XA XB BL CL Go Bo Ga Ba Gl Bl Gx Bx Gn Bn
            have G0 := n_G0
            have G1 := n_G1
            have XA := n_XA
            have XB := n_XB
            have BL := n_BL
            have CL := n_CL
            have Go := n_Go
            have Bo := n_Bo
            have Ga := n_Ga
            have Ba := n_Ba
            have Gl := n_Gl
            have Bl := n_Bl
            have Gx := n_Gx
            have Bx := n_Bx
            have Gn := n_Gn
            have Bn := n_Bn
            clear n_G0 n_G1 n_XA n_XB n_BL n_CL n_Go n_Bo n_Ga n_Ba n_Gl n_Bl n_Gx n_Bx n_Gn n_Bn
            clear hb
            clear v0_0 v0_1 v0_2
            have v0_0 := (blk_cell Bl.out 0).trans rfl
            have v0_1 := (blk_cell Bl.out 1).trans rfl
            have v0_2 := (blk_cell Bl.out 2).trans rfl
            go_wp2_with fail
            refine (caesuraref15_Accepts.calls k s0 Pl pl rows Ql ql el A2 c2 l2 true V32 Gl.out.n2 Gl.out.n1 Gl.out.e2 Gl.out.e1 CL.out HC2.out FF.out.cl).mono ?_
            rintro e_ V33 ⟨rfl, hb⟩
            have n_G0 := Aside0.mk (Got.below G0.out hb)
            have n_G1 := Aside0.mk (Got.below G1.out hb)
            have n_XA := Aside0.mk (blk_below XA.out hb)
            have n_XB := Aside0.mk (blk_below XB.out hb)
            have n_BL := Aside0.mk (BL.out.trans (Below.mono hb BL.out.size))
            have n_CL := Aside0.mk (Kd.C_below CL.out hb)
            have n_Go := Aside0.mk (Got.below Go.out hb)
            have n_Bo := Aside0.mk (blk_below Bo.out hb)
            have n_Ga := Aside0.mk (Got.below Ga.out hb)
            have n_Ba := Aside0.mk (blk_below Ba.out hb)
            have n_Gl := Aside0.mk (Got.below Gl.out hb)
            have n_Bl := Aside0.mk (blk_below Bl.out hb)
            have n_Gx := Aside0.mk (Got.below Gx.out hb)
            have n_Bx := Aside0.mk (blk_below Bx.out hb)
            have n_Gn := Aside0.mk (Got.below Gn.out hb)
            have n_Bn := Aside0.mk (blk_below Bn.out hb)
            clear G0 G1 XA XB BL CL Go Bo Ga Ba Gl Bl Gx Bx Gn Bn
            have G0 := n_G0
            have G1 := n_G1
            have XA := n_XA
            have XB := n_XB
            have BL := n_BL
            have CL := n_CL
            have Go := n_Go
            have Bo := n_Bo
            have Ga := n_Ga
            have Ba := n_Ba
            have Gl := n_Gl
            have Bl := n_Bl
            have Gx := n_Gx
            have Bx := n_Bx
            have Gn := n_Gn
            have Bn := n_Bn
            clear n_G0 n_G1 n_XA n_XB n_BL n_CL n_Go n_Bo n_Ga n_Ba n_Gl n_Bl n_Gx n_Bx n_Gn n_Bn
            clear hb
            clear v0_0 v0_1 v0_2
            have v0_0 := (blk_cell Bx.out 0).trans rfl
            have v0_1 := (blk_cell Bx.out 1).trans rfl
            have v0_2 := (blk_cell Bx.out 2).trans rfl
            go_wp2_with fail
            refine (caesuraref15_Accepts.calls k s0 Px px rows Qx qx ex A2 c2 l2 true V33 Gx.out.n2 Gx.out.n1 Gx.out.e2 Gx.out.e1 CL.out HC2.out FF.out.ce).mono ?_
            rintro e_ V34 ⟨rfl, hb⟩
            have n_G0 := Aside0.mk (Got.below G0.out hb)
            have n_G1 := Aside0.mk (Got.below G1.out hb)
            have n_XA := Aside0.mk (blk_below XA.out hb)
            have n_XB := Aside0.mk (blk_below XB.out hb)
            have n_BL := Aside0.mk (BL.out.trans (Below.mono hb BL.out.size))
            have n_CL := Aside0.mk (Kd.C_below CL.out hb)
            have n_Go := Aside0.mk (Got.below Go.out hb)
            have n_Bo := Aside0.mk (blk_below Bo.out hb)
            have n_Ga := Aside0.mk (Got.below Ga.out hb)
            have n_Ba := Aside0.mk (blk_below Ba.out hb)
            have n_Gl := Aside0.mk (Got.below Gl.out hb)
            have n_Bl := Aside0.mk (blk_below Bl.out hb)
            have n_Gx := Aside0.mk (Got.below Gx.out hb)
            have n_Bx := Aside0.mk (blk_below Bx.out hb)
            have n_Gn := Aside0.mk (Got.below Gn.out hb)
            have n_Bn := Aside0.mk (blk_below Bn.out hb)
            clear G0 G1 XA XB BL CL Go Bo Ga Ba Gl Bl Gx Bx Gn Bn
            have G0 := n_G0
            have G1 := n_G1
            have XA := n_XA
            have XB := n_XB
            have BL := n_BL
            have CL := n_CL
            have Go := n_Go
            have Bo := n_Bo
            have Ga := n_Ga
            have Ba := n_Ba
            have Gl := n_Gl
            have Bl := n_Bl
            have Gx := n_Gx
            have Bx := n_Bx
            have Gn := n_Gn
            have Bn := n_Bn
            clear n_G0 n_G1 n_XA n_XB n_BL n_CL n_Go n_Bo n_Ga n_Ba n_Gl n_Bl n_Gx n_Bx n_Gn n_Bn
            clear hb
            clear v0_0 v0_1 v0_2
            have v0_0 := (blk_cell Bn.out 0).trans rfl
            have v0_1 := (blk_cell Bn.out 1).trans rfl
            have v0_2 := (blk_cell Bn.out 2).trans rfl
            go_wp2_with fail
            refine (caesuraref15_Accepts.calls k s0 Pn pn n0 Qn qn en A2 c2 l2 false V34 Gn.out.n2 Gn.out.n1 Gn.out.e2 Gn.out.e1 CL.out HC2.out FF.out.cn).mono ?_
            rintro e_ V35 ⟨rfl, hb⟩
            have n_G0 := Aside0.mk (Got.below G0.out hb)
            have n_G1 := Aside0.mk (Got.below G1.out hb)
            have n_XA := Aside0.mk (blk_below XA.out hb)
            have n_XB := Aside0.mk (blk_below XB.out hb)
            have n_BL := Aside0.mk (BL.out.trans (Below.mono hb BL.out.size))
            have n_CL := Aside0.mk (Kd.C_below CL.out hb)
            have n_Go := Aside0.mk (Got.below Go.out hb)
            have n_Bo := Aside0.mk (blk_below Bo.out hb)
            have n_Ga := Aside0.mk (Got.below Ga.out hb)
            have n_Ba := Aside0.mk (blk_below Ba.out hb)
            have n_Gl := Aside0.mk (Got.below Gl.out hb)
            have n_Bl := Aside0.mk (blk_below Bl.out hb)
            have n_Gx := Aside0.mk (Got.below Gx.out hb)
            have n_Bx := Aside0.mk (blk_below Bx.out hb)
            have n_Gn := Aside0.mk (Got.below Gn.out hb)
            have n_Bn := Aside0.mk (blk_below Bn.out hb)
            clear G0 G1 XA XB BL CL Go Bo Ga Ba Gl Bl Gx Bx Gn Bn
            have G0 := n_G0
            have G1 := n_G1
            have XA := n_XA
            have XB := n_XB
            have BL := n_BL
            have CL := n_CL
            have Go := n_Go
            have Bo := n_Bo
            have Ga := n_Ga
            have Ba := n_Ba
            have Gl := n_Gl
            have Bl := n_Bl
            have Gx := n_Gx
            have Bx := n_Bx
            have Gn := n_Gn
            have Bn := n_Bn
            clear n_G0 n_G1 n_XA n_XB n_BL n_CL n_Go n_Bo n_Ga n_Ba n_Gl n_Bl n_Gx n_Bx n_Gn n_Bn
            clear hb
            clear v0_0 v0_1 v0_2
            go_wp2_with fail
            go_ret
            exact ⟨rfl, BL.out⟩
          | true =>
            have v0_0 := (blk_cell Bo.out 0).trans rfl
            have v0_1 := (blk_cell Bo.out 1).trans rfl
            have v0_2 := (blk_cell Bo.out 2).trans rfl
            go_wp2_with fail
            refine (caesuraref15_Accepts.calls k s0 Po po rows Qo qo eo A2 c2 l2 true wc Go.out.n2 Go.out.n1 Go.out.e2 Go.out.e1 CL.out HC2.out FF.out.co).mono ?_
            rintro e_ V36 ⟨rfl, hb⟩
            have n_G0 := Aside0.mk (Got.below G0.out hb)
            have n_G1 := Aside0.mk (Got.below G1.out hb)
            have n_XA := Aside0.mk (blk_below XA.out hb)
            have n_XB := Aside0.mk (blk_below XB.out hb)
            have n_BL := Aside0.mk (BL.out.trans (Below.mono hb BL.out.size))
            have n_CL := Aside0.mk (Kd.C_below CL.out hb)
            have n_Go := Aside0.mk (Got.below Go.out hb)
            have n_Bo := Aside0.mk (blk_below Bo.out hb)
            have n_Ga := Aside0.mk (Got.below Ga.out hb)
            have n_Ba := Aside0.mk (blk_below Ba.out hb)
            have n_Gl := Aside0.mk (Got.below Gl.out hb)
            have n_Bl := Aside0.mk (blk_below Bl.out hb)
            have n_Gx := Aside0.mk (Got.below Gx.out hb)
            have n_Bx := Aside0.mk (blk_below Bx.out hb)
            have n_Gn := Aside0.mk (Got.below Gn.out hb)
            have n_Bn := Aside0.mk (blk_below Bn.out hb)
            clear G0 G1 XA XB BL CL Go Bo Ga Ba Gl Bl Gx Bx Gn Bn
            have G0 := n_G0
            have G1 := n_G1
            have XA := n_XA
            have XB := n_XB
            have BL := n_BL
            have CL := n_CL
            have Go := n_Go
            have Bo := n_Bo
            have Ga := n_Ga
            have Ba := n_Ba
            have Gl := n_Gl
            have Bl := n_Bl
            have Gx := n_Gx
            have Bx := n_Bx
            have Gn := n_Gn
            have Bn := n_Bn
            clear n_G0 n_G1 n_XA n_XB n_BL n_CL n_Go n_Bo n_Ga n_Ba n_Gl n_Bl n_Gx n_Bx n_Gn n_Bn
            clear hb
            clear v0_0 v0_1 v0_2
            have v0_0 := (blk_cell Ba.out 0).trans rfl
            have v0_1 := (blk_cell Ba.out 1).trans rfl
            have v0_2 := (blk_cell Ba.out 2).trans rfl
            go_wp2_with fail
            refine (caesuraref15_Accepts.calls k s0 Pa pa rows Qa qa ea A2 c2 l2 true V36 Ga.out.n2 Ga.out.n1 Ga.out.e2 Ga.out.e1 CL.out HC2.out FF.out.ca).mono ?_
            rintro e_ V37 ⟨rfl, hb⟩
            have n_G0 := Aside0.mk (Got.below G0.out hb)
            have n_G1 := Aside0.mk (Got.below G1.out hb)
            have n_XA := Aside0.mk (blk_below XA.out hb)
            have n_XB := Aside0.mk (blk_below XB.out hb)
            have n_BL := Aside0.mk (BL.out.trans (Below.mono hb BL.out.size))
            have n_CL := Aside0.mk (Kd.C_below CL.out hb)
            have n_Go := Aside0.mk (Got.below Go.out hb)
            have n_Bo := Aside0.mk (blk_below Bo.out hb)
            have n_Ga := Aside0.mk (Got.below Ga.out hb)
            have n_Ba := Aside0.mk (blk_below Ba.out hb)
            have n_Gl := Aside0.mk (Got.below Gl.out hb)
            have n_Bl := Aside0.mk (blk_below Bl.out hb)
            have n_Gx := Aside0.mk (Got.below Gx.out hb)
            have n_Bx := Aside0.mk (blk_below Bx.out hb)
            have n_Gn := Aside0.mk (Got.below Gn.out hb)
            have n_Bn := Aside0.mk (blk_below Bn.out hb)
            clear G0 G1 XA XB BL CL Go Bo Ga Ba Gl Bl Gx Bx Gn Bn
            have G0 := n_G0
            have G1 := n_G1
            have XA := n_XA
            have XB := n_XB
            have BL := n_BL
            have CL := n_CL
            have Go := n_Go
            have Bo := n_Bo
            have Ga := n_Ga
            have Ba := n_Ba
            have Gl := n_Gl
            have Bl := n_Bl
            have Gx := n_Gx
            have Bx := n_Bx
            have Gn := n_Gn
            have Bn := n_Bn
            clear n_G0 n_G1 n_XA n_XB n_BL n_CL n_Go n_Bo n_Ga n_Ba n_Gl n_Bl n_Gx n_Bx n_Gn n_Bn
            clear hb
            clear v0_0 v0_1 v0_2
            have v0_0 := (blk_cell Bl.out 0).trans rfl
            have v0_1 := (blk_cell Bl.out 1).trans rfl
            have v0_2 := (blk_cell Bl.out 2).trans rfl
            go_wp2_with fail
            refine (caesuraref15_Accepts.calls k s0 Pl pl rows Ql ql el A2 c2 l2 false V37 Gl.out.n2 Gl.out.n1 Gl.out.e2 Gl.out.e1 CL.out HC2.out FF.out.cl).mono ?_
            rintro e_ V38 ⟨rfl, hb⟩
            have n_G0 := Aside0.mk (Got.below G0.out hb)
            have n_G1 := Aside0.mk (Got.below G1.out hb)
            have n_XA := Aside0.mk (blk_below XA.out hb)
            have n_XB := Aside0.mk (blk_below XB.out hb)
            have n_BL := Aside0.mk (BL.out.trans (Below.mono hb BL.out.size))
            have n_CL := Aside0.mk (Kd.C_below CL.out hb)
            have n_Go := Aside0.mk (Got.below Go.out hb)
            have n_Bo := Aside0.mk (blk_below Bo.out hb)
            have n_Ga := Aside0.mk (Got.below Ga.out hb)
            have n_Ba := Aside0.mk (blk_below Ba.out hb)
            have n_Gl := Aside0.mk (Got.below Gl.out hb)
            have n_Bl := Aside0.mk (blk_below Bl.out hb)
            have n_Gx := Aside0.mk (Got.below Gx.out hb)
            have n_Bx := Aside0.mk (blk_below Bx.out hb)
            have n_Gn := Aside0.mk (Got.below Gn.out hb)
            have n_Bn := Aside0.mk (blk_below Bn.out hb)
            clear G0 G1 XA XB BL CL Go Bo Ga Ba Gl Bl Gx Bx Gn Bn
            have G0 := n_G0
            have G1 := n_G1
            have XA := n_XA
            have XB := n_XB
            have BL := n_BL
            have CL := n_CL
            have Go := n_Go
            have Bo := n_Bo
            have Ga := n_Ga
            have Ba := n_Ba
            have Gl := n_Gl
            have Bl := n_Bl
            have Gx := n_Gx
            have Bx := n_Bx
            have Gn := n_Gn
            have Bn := n_Bn
            clear n_G0 n_G1 n_XA n_XB n_BL n_CL n_Go n_Bo n_Ga n_Ba n_Gl n_Bl n_Gx n_Bx n_Gn n_Bn
            clear hb
            clear v0_0 v0_1 v0_2
            have v0_0 := (blk_cell Bx.out 0).trans rfl
            have v0_1 := (blk_cell Bx.out 1).trans rfl
            have v0_2 := (blk_cell Bx.out 2).trans rfl
            go_wp2_with fail
            refine (caesuraref15_Accepts.calls k s0 Px px rows Qx qx ex A2 c2 l2 false V38 Gx.out.n2 Gx.out.n1 Gx.out.e2 Gx.out.e1 CL.out HC2.out FF.out.ce).mono ?_
            rintro e_ V39 ⟨rfl, hb⟩
            have n_G0 := Aside0.mk (Got.below G0.out hb)
            have n_G1 := Aside0.mk (Got.below G1.out hb)
            have n_XA := Aside0.mk (blk_below XA.out hb)
            have n_XB := Aside0.mk (blk_below XB.out hb)
            have n_BL := Aside0.mk (BL.out.trans (Below.mono hb BL.out.size))
            have n_CL := Aside0.mk (Kd.C_below CL.out hb)
            have n_Go := Aside0.mk (Got.below Go.out hb)
            have n_Bo := Aside0.mk (blk_below Bo.out hb)
            have n_Ga := Aside0.mk (Got.below Ga.out hb)
            have n_Ba := Aside0.mk (blk_below Ba.out hb)
            have n_Gl := Aside0.mk (Got.below Gl.out hb)
            have n_Bl := Aside0.mk (blk_below Bl.out hb)
            have n_Gx := Aside0.mk (Got.below Gx.out hb)
            have n_Bx := Aside0.mk (blk_below Bx.out hb)
            have n_Gn := Aside0.mk (Got.below Gn.out hb)
            have n_Bn := Aside0.mk (blk_below Bn.out hb)
            clear G0 G1 XA XB BL CL Go Bo Ga Ba Gl Bl Gx Bx Gn Bn
            have G0 := n_G0
            have G1 := n_G1
            have XA := n_XA
            have XB := n_XB
            have BL := n_BL
            have CL := n_CL
            have Go := n_Go
            have Bo := n_Bo
            have Ga := n_Ga
            have Ba := n_Ba
            have Gl := n_Gl
            have Bl := n_Bl
            have Gx := n_Gx
            have Bx := n_Bx
            have Gn := n_Gn
            have Bn := n_Bn
            clear n_G0 n_G1 n_XA n_XB n_BL n_CL n_Go n_Bo n_Ga n_Ba n_Gl n_Bl n_Gx n_Bx n_Gn n_Bn
            clear hb
            clear v0_0 v0_1 v0_2
            have v0_0 := (blk_cell Bn.out 0).trans rfl
            have v0_1 := (blk_cell Bn.out 1).trans rfl
            have v0_2 := (blk_cell Bn.out 2).trans rfl
            go_wp2_with fail
            refine (caesuraref15_Accepts.calls k s0 Pn pn n0 Qn qn en A2 c2 l2 false V39 Gn.out.n2 Gn.out.n1 Gn.out.e2 Gn.out.e1 CL.out HC2.out FF.out.cn).mono ?_
            rintro e_ V40 ⟨rfl, hb⟩
            have n_G0 := Aside0.mk (Got.below G0.out hb)
            have n_G1 := Aside0.mk (Got.below G1.out hb)
            have n_XA := Aside0.mk (blk_below XA.out hb)
            have n_XB := Aside0.mk (blk_below XB.out hb)
            have n_BL := Aside0.mk (BL.out.trans (Below.mono hb BL.out.size))
            have n_CL := Aside0.mk (Kd.C_below CL.out hb)
            have n_Go := Aside0.mk (Got.below Go.out hb)
            have n_Bo := Aside0.mk (blk_below Bo.out hb)
            have n_Ga := Aside0.mk (Got.below Ga.out hb)
            have n_Ba := Aside0.mk (blk_below Ba.out hb)
            have n_Gl := Aside0.mk (Got.below Gl.out hb)
            have n_Bl := Aside0.mk (blk_below Bl.out hb)
            have n_Gx := Aside0.mk (Got.below Gx.out hb)
            have n_Bx := Aside0.mk (blk_below Bx.out hb)
            have n_Gn := Aside0.mk (Got.below Gn.out hb)
            have n_Bn := Aside0.mk (blk_below Bn.out hb)
            clear G0 G1 XA XB BL CL Go Bo Ga Ba Gl Bl Gx Bx Gn Bn
            have G0 := n_G0
            have G1 := n_G1
            have XA := n_XA
            have XB := n_XB
            have BL := n_BL
            have CL := n_CL
            have Go := n_Go
            have Bo := n_Bo
            have Ga := n_Ga
            have Ba := n_Ba
            have Gl := n_Gl
            have Bl := n_Bl
            have Gx := n_Gx
            have Bx := n_Bx
            have Gn := n_Gn
            have Bn := n_Bn
            clear n_G0 n_G1 n_XA n_XB n_BL n_CL n_Go n_Bo n_Ga n_Ba n_Gl n_Bl n_Gx n_Bx n_Gn n_Bn
            clear hb
            clear v0_0 v0_1 v0_2
            go_wp2_with fail
            go_ret
            exact ⟨rfl, BL.out⟩
set_option maxHeartbeats 8000000 in
set_option maxRecDepth 100000 in
theorem CalcSets_early (s0 : Int) (A0 : Option Addr) (c0 : Nat) (n0 : List (List Int)) (B0 : Option Addr) (b0 : Nat) (e0 : List Bool) (s1 : Int) (A1 : Option Addr) (c1 : Nat) (n1 : List (List Int)) (B1 : Option Addr) (b1 : Nat) (e1 : List Bool) (A2 : Option Addr) (c2 : Nat) (l2 : List Int) (w : World)
    (g0 : Got 0 A0 c0 n0 B0 b0 e0 w) (g1 : Got 0 A1 c1 n1 B1 b1 e1 w) (kg : Nat) (r1 r3 r4 : Bool) (hkg : Q.caesuralaw16_great.f kg s0 n0 e0 s1 n1 e1 = some r1) (hr3 : rightB s0 n0 e0 = r3) (hr4 : rightB s1 n1 e1 = r4) (h : r1 = true ∨ (30 : Int) < (l2.length : Int) ∨ r3 = false ∨ r4 = false ∨ (s0 != s1) = true ∨ 2000 < n0.length * n1.length) :
    Calls Try.prog 10 #[.agg #[.int .i64 s0, .slice A0 n0.length c0, .slice B0 e0.length b0], .agg #[.int .i64 s1, .slice A1 n1.length c1, .slice B1 e1.length b1], .slice A2 l2.length c2] w fun e w' => e = .returned (.bool true) ∧ Below w.heap.size w w' := by
  have hu25 := Try.underlying25
  have HH := Aside0.mk h
  have HGR := Aside0.mk hkg
  have HQ3 := Aside0.mk hr3
  have HQ4 := Aside0.mk hr4
  have HR1 : Aside0 (L.rightx.f s0 n0 e0 = some r3) := ⟨by unfold L.rightx.f; rw [hr3]⟩
  have HR2 : Aside0 (L.rightx.f s1 n1 e1 = some r4) := ⟨by unfold L.rightx.f; rw [hr4]⟩
  clear h hkg hr3 hr4
  go_enter Try.func10, Try.ntmps10
  go_upto_region 1 with (fail)
  obtain ⟨W, hW, x1, x2, hbl⟩ := two_boxes' w #[.int .i64 s0, .slice A0 n0.length c0, .slice B0 e0.length b0] #[.int .i64 s1, .slice A1 n1.length c1, .slice B1 e1.length b1]
  rw [← hW]
  have G0 := Aside0.mk (g0.below hbl)
  have G1 := Aside0.mk (g1.below hbl)
  have XA := Aside0.mk x1
  have XB := Aside0.mk x2
  have BL := Aside0.mk hbl
  clear hW x1 x2 hbl g0 g1
  go_wp2_with fail
  refine (alive27 W).mono ?_
  rintro e_ V1 ⟨rfl, hb⟩
  have G0 := Aside0.mk (G0.out.below hb)
  have G1 := Aside0.mk (G1.out.below hb)
  have XA := Aside0.mk (blk_below XA.out hb)
  have XB := Aside0.mk (blk_below XB.out hb)
  have BL := Aside0.mk (BL.out.trans (hb.mono BL.out.size))
  clear hb
  have v0 := (blk_cell XA.out 0).trans rfl
  have v1 := (blk_cell XA.out 1).trans rfl
  have v2 := (blk_cell XA.out 2).trans rfl
  have u0 := (blk_cell XB.out 0).trans rfl
  have u1 := (blk_cell XB.out 1).trans rfl
  have u2 := (blk_cell XB.out 2).trans rfl
  go_wp2_with fail
  refine (Q.caesuralaw16_great.calls kg s0 A0 c0 n0 B0 b0 e0 s1 A1 c1 n1 B1 b1 e1 r1 V1 G0.out.n2 G0.out.n1 G0.out.e2 G0.out.e1 G1.out.n2 G1.out.n1 G1.out.e2 G1.out.e1 HGR.out).mono ?_
  rintro e_ V2 ⟨rfl, hb⟩
  have G0 := Aside0.mk (G0.out.below hb)
  have G1 := Aside0.mk (G1.out.below hb)
  have XA := Aside0.mk (blk_below XA.out hb)
  have XB := Aside0.mk (blk_below XB.out hb)
  have BL := Aside0.mk (BL.out.trans (hb.mono BL.out.size))
  clear hb v0 v1 v2 u0 u1 u2
  cases r1 with
  | true =>
    go_wp2_with fail
    go_ret
    exact ⟨rfl, BL.out⟩
  | false =>
    by_cases hl : (30 : Int) < (l2.length : Int)
    · have hlb : decide ((30 : Int) < (l2.length : Int)) = true := decide_eq_true hl
      clear hl
      go_wp2_with fail
      go_ret
      exact ⟨rfl, BL.out⟩
    · have hlb : decide ((30 : Int) < (l2.length : Int)) = false := decide_eq_false hl
      have HL := Aside0.mk hl
      clear hl
      have v0 := (blk_cell XA.out 0).trans rfl
      have v1 := (blk_cell XA.out 1).trans rfl
      have v2 := (blk_cell XA.out 2).trans rfl
      go_wp2_with fail
      refine (L.rightx.calls s0 A0 c0 n0 B0 b0 e0 r3 V2 G0.out.n2 G0.out.n1 G0.out.e2 G0.out.e1 HR1.out).mono ?_
      rintro e_ V4 ⟨rfl, hb⟩
      have G0 := Aside0.mk (G0.out.below hb)
      have G1 := Aside0.mk (G1.out.below hb)
      have XA := Aside0.mk (blk_below XA.out hb)
      have XB := Aside0.mk (blk_below XB.out hb)
      have BL := Aside0.mk (BL.out.trans (hb.mono BL.out.size))
      clear hb v0 v1 v2
      cases r3 with
      | false =>
        go_wp2_with fail
        go_ret
        exact ⟨rfl, BL.out⟩
      | true =>
        have v0 := (blk_cell XB.out 0).trans rfl
        have v1 := (blk_cell XB.out 1).trans rfl
        have v2 := (blk_cell XB.out 2).trans rfl
        go_wp2_with fail
        refine (L.rightx.calls s1 A1 c1 n1 B1 b1 e1 r4 V4 G1.out.n2 G1.out.n1 G1.out.e2 G1.out.e1 HR2.out).mono ?_
        rintro e_ V5 ⟨rfl, hb⟩
        have G0 := Aside0.mk (G0.out.below hb)
        have G1 := Aside0.mk (G1.out.below hb)
        have XA := Aside0.mk (blk_below XA.out hb)
        have XB := Aside0.mk (blk_below XB.out hb)
        have BL := Aside0.mk (BL.out.trans (hb.mono BL.out.size))
        clear hb v0 v1 v2
        cases r4 with
        | false =>
          go_wp2_with fail
          go_ret
          exact ⟨rfl, BL.out⟩
        | true =>
          have z1 := (rightB_spec HQ3.out).2.2.2.1
          have z2 := (rightB_spec HQ4.out).2.2.2.1
          have hmi : ((n0.length : Int) * (n1.length : Int)) = ((n0.length * n1.length : Nat) : Int) := by rw [Int.natCast_mul]
          have hmx : n0.length * n1.length ≤ 3000 * 3000 := Nat.mul_le_mul z1 z2
          have hm1 : IntKind.i64.wrap ((n0.length : Int) * (n1.length : Int)) = (n0.length : Int) * (n1.length : Int) := by rw [hmi, IntKind.wrap_i64]; omega
          have v0 := (blk_cell XA.out 0).trans rfl
          have v1 := (blk_cell XA.out 1).trans rfl
          have v2 := (blk_cell XA.out 2).trans rfl
          have u0 := (blk_cell XB.out 0).trans rfl
          have u1 := (blk_cell XB.out 1).trans rfl
          have u2 := (blk_cell XB.out 2).trans rfl
          cases hne : (s0 != s1) with
          | true =>
            clear hmi hmx hm1 z1 z2
            go_wp2_with fail
            go_ret
            exact ⟨rfl, BL.out⟩
          | false =>
            have hm2 : decide ((2000 : Int) < (n0.length : Int) * (n1.length : Int)) = true := by
              rcases HH.out with h | h | h | h | h | h
              · cases h
              · exact absurd h (by have h2 := HL.out; omega)
              · cases h
              · cases h
              · rw [hne] at h; cases h
              · rw [hmi]; exact decide_eq_true (by omega)
            clear hmi hmx z1 z2
            go_wp2_with fail
            go_ret
            exact ⟨rfl, BL.out⟩
theorem CalcSets_walk (s0 : Int) (A0 : Option Addr) (c0 : Nat) (n0 : List (List Int)) (B0 : Option Addr) (b0 : Nat) (e0 : List Bool) (s1 : Int) (A1 : Option Addr) (c1 : Nat) (n1 : List (List Int)) (B1 : Option Addr) (b1 : Nat) (e1 : List Bool) (A2 : Option Addr) (c2 : Nat) (l2 : List Int) (w : World)
    (g0 : Got 0 A0 c0 n0 B0 b0 e0 w) (g1 : Got 0 A1 c1 n1 B1 b1 e1 w) (m2 : ∀ z ∈ l2, (Lit.int .i64 z).wf = true) (g2 : l2.length ≤ c2 ∧ Kd.C (Kd.int .i64) w A2 l2.length l2) :
    Calls Try.prog 10 #[.agg #[.int .i64 s0, .slice A0 n0.length c0, .slice B0 e0.length b0], .agg #[.int .i64 s1, .slice A1 n1.length c1, .slice B1 e1.length b1], .slice A2 l2.length c2] w fun e w' => e = .returned (.bool true) ∧ Below w.heap.size w w' := by
  obtain ⟨r1, hg1⟩ : ∃ r, Ev (fun k => Q.caesuralaw16_great.f k s0 n0 e0 s1 n1 e1) r := by
    obtain ⟨q1, hq1⟩ := great_ev s0 n0 e0 250 (Kd.C_max g0.n2)
    obtain ⟨q2, hq2⟩ := great_ev s1 n1 e1 250 (Kd.C_max g1.n2)
    unfold Q.caesuralaw16_great.f
    cases q1 with
    | true => exact ⟨true, Ev.bind hq1 (by simp only [if_true]; exact Ev.now _)⟩
    | false => exact ⟨q2, Ev.bind hq1 (by simp only [Bool.false_eq_true, if_false]; exact Ev.bind hq2 (Ev.now _))⟩
  obtain ⟨kg, hkg⟩ := hg1.rounds
  by_cases h : r1 = true ∨ (30 : Int) < (l2.length : Int) ∨ rightB s0 n0 e0 = false ∨ rightB s1 n1 e1 = false ∨ (s0 != s1) = true ∨ 2000 < n0.length * n1.length
  · exact CalcSets_early s0 A0 c0 n0 B0 b0 e0 s1 A1 c1 n1 B1 b1 e1 A2 c2 l2 w g0 g1 kg r1 _ _ hkg rfl rfl h
  · simp only [not_or, Bool.not_eq_true, Bool.not_eq_false, bne_eq_false_iff_eq] at h
    obtain ⟨rfl, hl, h3, h4, rfl, hm⟩ := h
    exact CalcSets_main s0 A0 c0 n0 B0 b0 e0 A1 c1 n1 B1 b1 e1 A2 c2 l2 w g0 g1 g2 kg hkg (by omega) (by omega) h3 h4 (fun hi => sets_some h3 h4 (by omega) l2 (by omega) hi)

end Go.Proofs.Ytpedenbcfbflbaa.X
