-- Printed by a program of this session (over the kit's print).
import Derived.Test.YtippkbgeeeimjaaATx0
namespace Go.Proofs.Ytippkbgeeeimjaa.AT
noncomputable section
open Go.RowKit Go.Proofs.YtippkbgeeeimjaaW.PrintWords Go.Proofs.YtippkbgeeeimjaaW.PrintLast Go.Proofs.YtippkbgeeeimjaaW.PrintMore Go.Proofs.Ytippkbgeeeimjaa.A Go.Proofs.Ytippkbgeeeimjaa.L Go.Proofs.Ytippkbgeeeimjaa.B Go.Proofs.Ytippkbgeeeimjaa.D
attribute [local go_sem] max2_int min2_int max_two min_two max_three min_three max_four min_four   -- for this text's walks alone
set_option linter.unusedVariables false
set_option linter.unusedSimpArgs false

/-! ### caesuralaw02_AtomTurned: function 9 -/
mutual
def caesuralaw02_AtomTurned.j0 : Nat → List (List (S34)) → Int → Bool → Option (Bool)
  | 0, _, _, _ => none
  | k + 1, x0, x1, x25 => if x25 = true then (some true) else ((atom_Of.f x0).bind fun bt103 => (caesuralaw02_AtomTurned.l0 k x0 x1 bt103.1 bt103.2 ([] : List (List (S34))) (wrap64 ((x0.length : Int) - 1))))
def caesuralaw02_AtomTurned.l0 : Nat → List (List (S34)) → Int → List (List (S34)) → Int → List (List (S34)) → Int → Option (Bool)
  | 0, _, _, _, _, _, _ => none
  | k + 1, x0, x1, x5, x6, x7, x8 => if x8 ≥ 0 then (if 0 ≤ x8 then (if x8 < (x0.length : Int) then (if x7.length < 5864062014805 then (caesuralaw02_AtomTurned.l0 k x0 x1 x5 x6 (x7 ++ [rd_L2 x0 x8]) (wrap64 (x8 - 1))) else (none)) else (none)) else (none)) else (if (x0.length : Int) = 0 then (none) else (if 0 ≤ (Int.tmod (wrap64 (x1)) (x0.length : Int)) then (if (Int.tmod (wrap64 (x1)) (x0.length : Int)) < (x0.length : Int) then (if x7.length < 5864062014805 then ((some (x7 ++ [rd_L2 x0 (Int.tmod (wrap64 (x1)) (x0.length : Int))] : List (List (S34)))).bind fun y112 => ((caesuraref01_Not.f (rd_L2 x0 (Int.tmod (wrap64 (x1)) (x0.length : Int)))).bind fun t115 => (if y112.length < 5864062014805 then ((atom_Of.f (y112 ++ [t115])).bind fun bt121 => (if x6 = bt121.2 then ((caesuraref02_Same.f k x5 bt121.1).bind fun t125 => (some t125)) else (some false))) else (none)))) else (none)) else (none)) else (none)))
end
def caesuralaw02_AtomTurned.f (k : Nat) (l0 : List (List (S34))) (a1 : Int) : Option (Bool) := (caesuralaw02_alive.f).bind fun t101 => (if t101 = true then ((caesuraref02_Great.f k l0 150).bind fun t102 => (if t102 = true then (caesuralaw02_AtomTurned.j0 k l0 a1 true) else (if (l0.length : Int) = 0 then (caesuralaw02_AtomTurned.j0 k l0 a1 true) else (caesuralaw02_AtomTurned.j0 k l0 a1 (decide ((l0.length : Int) > 25)))))) else (some false))
theorem caesuralaw02_AtomTurned.mono_l : ∀ k, (∀ y0 y1 y2, LeO (caesuralaw02_AtomTurned.j0 k y0 y1 y2) (caesuralaw02_AtomTurned.j0 (k + 1) y0 y1 y2)) ∧ (∀ y0 y1 y2 y3 y4 y5, LeO (caesuralaw02_AtomTurned.l0 k y0 y1 y2 y3 y4 y5) (caesuralaw02_AtomTurned.l0 (k + 1) y0 y1 y2 y3 y4 y5))
  | 0 => ⟨fun _ _ _ r h => by simp [caesuralaw02_AtomTurned.j0] at h, fun _ _ _ _ _ _ r h => by simp [caesuralaw02_AtomTurned.l0] at h⟩
  | k + 1 => by
    obtain ⟨ih0, ih1⟩ := caesuralaw02_AtomTurned.mono_l k
    refine ⟨?_, ?_⟩
    · intro y0 y1 y2
      unfold caesuralaw02_AtomTurned.j0
      repeat' first
      | (with_reducible exact ih0 _ _ _)
      | (with_reducible exact ih1 _ _ _ _ _ _)
      | (with_reducible exact caesuraref02_Great.mono _ _ _)
      | (with_reducible exact caesuraref02_Same.mono _ _ _)
      | (with_reducible exact LeO.refl _)
      | (with_reducible exact LeO.none _)
      | (with_reducible refine LeO.ite ?_ ?_)
      | (with_reducible refine LeO.bind ?_ (fun _ => ?_))
      | exact ih0 _ _ _
      | exact ih1 _ _ _ _ _ _
      | exact caesuraref02_Great.mono _ _ _
      | exact caesuraref02_Same.mono _ _ _
      | exact LeO.none _
      | refine LeO.ite ?_ ?_
      | refine LeO.bind ?_ (fun _ => ?_)
    · intro y0 y1 y2 y3 y4 y5
      unfold caesuralaw02_AtomTurned.l0
      repeat' first
      | (with_reducible exact ih0 _ _ _)
      | (with_reducible exact ih1 _ _ _ _ _ _)
      | (with_reducible exact caesuraref02_Great.mono _ _ _)
      | (with_reducible exact caesuraref02_Same.mono _ _ _)
      | (with_reducible exact LeO.refl _)
      | (with_reducible exact LeO.none _)
      | (with_reducible refine LeO.ite ?_ ?_)
      | (with_reducible refine LeO.bind ?_ (fun _ => ?_))
      | exact ih0 _ _ _
      | exact ih1 _ _ _ _ _ _
      | exact caesuraref02_Great.mono _ _ _
      | exact caesuraref02_Same.mono _ _ _
      | exact LeO.none _
      | refine LeO.ite ?_ ?_
      | refine LeO.bind ?_ (fun _ => ?_)
theorem caesuralaw02_AtomTurned.mono : ∀ a0 a1 k, LeO (caesuralaw02_AtomTurned.f k a0 a1) (caesuralaw02_AtomTurned.f (k + 1) a0 a1) := by
  intro a0 a1 k
  obtain ⟨ih0, ih1⟩ := caesuralaw02_AtomTurned.mono_l k
  unfold caesuralaw02_AtomTurned.f
  repeat' first
      | (with_reducible exact ih0 _ _ _)
      | (with_reducible exact ih1 _ _ _ _ _ _)
      | (with_reducible exact caesuraref02_Great.mono _ _ _)
      | (with_reducible exact caesuraref02_Same.mono _ _ _)
      | (with_reducible exact LeO.refl _)
      | (with_reducible exact LeO.none _)
      | (with_reducible refine LeO.ite ?_ ?_)
      | (with_reducible refine LeO.bind ?_ (fun _ => ?_))
      | exact ih0 _ _ _
      | exact ih1 _ _ _ _ _ _
      | exact caesuraref02_Great.mono _ _ _
      | exact caesuraref02_Same.mono _ _ _
      | exact LeO.none _
      | refine LeO.ite ?_ ?_
      | refine LeO.bind ?_ (fun _ => ?_)
set_option maxHeartbeats 8000000 in
set_option maxRecDepth 100000 in
theorem caesuralaw02_AtomTurned.calls (k : Nat) (P0_ : Nat → Prop) (A0 : Option Addr) (c0 : Nat) (l0 : List (List (S34))) (a1 : Int) (r : Bool) (w : World) (hs0 : Kd.V (Kd.slice 34 k34) 22 w w.heap.size (fun k_ => P0_ k_) (.slice A0 l0.length c0) l0) (h : caesuralaw02_AtomTurned.f k l0 a1 = some r) (hrt_ : Aside0 (r = true)) :
    Calls Try.prog 9 #[.slice A0 l0.length c0, .int .u8 a1] w fun e w' => e = .returned (.bool r) ∧ Below w.heap.size w w' := by
  have HO0 := Aside0.mk (show Kd.V (Kd.slice 34 k34) 22 w w.heap.size (fun k_ => (P0_ k_ ∨ w.heap.size ≤ k_)) (.slice A0 l0.length c0) l0 from Kd.V_mono hs0 (fun k_ hk => .inl hk))
  have HB := Aside0.mk (Below.refl w.heap.size w)
  have H : ((caesuralaw02_alive.f).bind fun t101 => (if t101 = true then ((caesuraref02_Great.f k l0 150).bind fun t102 => (if t102 = true then (caesuralaw02_AtomTurned.j0 k l0 a1 true) else (if (l0.length : Int) = 0 then (caesuralaw02_AtomTurned.j0 k l0 a1 true) else (caesuralaw02_AtomTurned.j0 k l0 a1 (decide ((l0.length : Int) > 25)))))) else (some false))) = some r := h
  clear h
  replace H := Option.bind_eq_some_iff.mp H
  obtain ⟨t101, A30, H⟩ := H
  replace H : (if t101 = true then ((caesuraref02_Great.f k l0 150).bind fun t102 => (if t102 = true then (caesuralaw02_AtomTurned.j0 k l0 a1 true) else (if (l0.length : Int) = 0 then (caesuralaw02_AtomTurned.j0 k l0 a1 true) else (caesuralaw02_AtomTurned.j0 k l0 a1 (decide ((l0.length : Int) > 25)))))) else (some false)) = some r := H
  have A3 := Aside0.mk A30
  clear A30
  by_cases c4 : t101 = true
  · subst c4
    have H1 : ((caesuraref02_Great.f k l0 150).bind fun t102 => (if t102 = true then (caesuralaw02_AtomTurned.j0 k l0 a1 true) else (if (l0.length : Int) = 0 then (caesuralaw02_AtomTurned.j0 k l0 a1 true) else (caesuralaw02_AtomTurned.j0 k l0 a1 (decide ((l0.length : Int) > 25)))))) = some r := by rw [if_pos rfl] at H; exact H
    clear H
    have H := H1
    clear H1
    have HC5 := Aside0.mk H
    clear H
    go_enter Try.func9, Try.ntmps9
    go_upto_region 3 with (first | ((with_reducible refine gate_callee (f := 34) rfl ?_); refine goesL_ (some 12) rfl rfl Try.func34 (by kernel_rfl) rfl #[] rfl (by (try simp only [List.map_toArray, List.map_cons, List.map_nil]); first | done | rfl | (simp only [List.length_drop, List.length_take]; rfl)) ?_; (with_reducible refine (caesuralaw02_alive.calls  true _ A3.out).mono ?_); rintro e w6 ⟨rfl, hb⟩; refine ⟨_, rfl, ?_⟩; have n0_ := Aside0.mk (Kd.V_below (by (with_reducible repeat (first | apply Kd.V_alloc | apply Kd.V_drewN | apply Kd.V_drew)); exact HO0.out) hb); have n1_ := Aside0.mk (below_step (by repeat (first | (with_reducible first | exact HB.out | apply below_alloc | apply pw_below_drewN | apply below_drew1) | exact HB.out)) hb); clear HO0; clear HB; have HO0 := n0_; have HB := n1_; clear n0_ n1_; (try clear hb); (try clear hb2); (try clear hk); (try clear hi)))
    (try simp only [Act.put, List.setIfInBounds_toArray, List.set_cons_zero, List.set_cons_succ])
    go_cut [25] (fun v25 wc => ∃ (kq : Nat) (x25_4 : Bool), v25 = .bool x25_4 ∧ Aside0 (caesuralaw02_AtomTurned.j0 kq l0 a1 x25_4 = some r) ∧ Aside0 (kq ≤ k) ∧ Aside0 (Kd.V (Kd.slice 34 k34) 22 wc w.heap.size (fun k_ => (P0_ k_ ∨ w.heap.size ≤ k_)) (.slice A0 l0.length c0) l0) ∧ Aside0 (Below w.heap.size w wc))
    case first =>
      have H := HC5.out
      clear HC5
      replace H := Option.bind_eq_some_iff.mp H
      obtain ⟨t102, A70, H⟩ := H
      replace H : (if t102 = true then (caesuralaw02_AtomTurned.j0 k l0 a1 true) else (if (l0.length : Int) = 0 then (caesuralaw02_AtomTurned.j0 k l0 a1 true) else (caesuralaw02_AtomTurned.j0 k l0 a1 (decide ((l0.length : Int) > 25))))) = some r := H
      have A7 := Aside0.mk A70
      clear A70
      by_cases c8 : t102 = true
      · subst c8
        have H1 : (caesuralaw02_AtomTurned.j0 k l0 a1 true) = some r := by rw [if_pos rfl] at H; exact H
        clear H
        have H := H1
        clear H1
        have H' := Aside0.mk H
        clear H
        go_wp2_with (first | ((with_reducible refine gate_callee (f := 35) rfl ?_); refine goesL_ (some 15) rfl rfl Try.func35 (by kernel_rfl) rfl #[.slice A0 l0.length c0, .int .i64 150] rfl (by (try simp only [List.map_toArray, List.map_cons, List.map_nil]); first | done | rfl | (simp only [List.length_drop, List.length_take]; rfl)) ?_; (with_reducible refine (caesuraref02_Great.calls k _ _ l0 150 true _ ?side1 ?side2 A7.out).mono ?_); (case side1 => repeat (first | exact (Kd.V_reads' HO0.out).2.2 | (with_reducible refine Kd.C_alloc ?_ _) | (with_reducible refine Kd.C_drewN ?_ _) | (with_reducible refine Kd.C_drew ?_))); (case side2 => exact (Kd.V_reads' HO0.out).2.1); rintro e w' ⟨rfl, ⟨nd, rfl⟩⟩; refine ⟨_, rfl, ?_⟩))
        go_meet
        case rel => exact ⟨_, (true), (by first | rfl | (simp; done) | (simp [*]; done)), H', ⟨by first | omega | exact Nat.le_refl _⟩, ⟨by (with_reducible repeat (first | apply Kd.V_alloc | apply Kd.V_drewN | apply Kd.V_drew)); exact HO0.out⟩, ⟨by repeat (first | (with_reducible first | exact HB.out | apply below_alloc | apply pw_below_drewN | apply below_drew1) | exact HB.out)⟩⟩
      · replace c8 := Bool.eq_false_iff.mpr c8
        subst c8
        have H1 : (if (l0.length : Int) = 0 then (caesuralaw02_AtomTurned.j0 k l0 a1 true) else (caesuralaw02_AtomTurned.j0 k l0 a1 (decide ((l0.length : Int) > 25)))) = some r := by rw [if_neg (show ¬ (false = true) by decide)] at H; exact H
        clear H
        have H := H1
        clear H1
        by_cases c9 : (l0.length : Int) = 0
        · rw [if_pos c9] at H
          have c9b0 : ((l0.length : Int) == 0) = true := beq_iff_eq.mpr c9
          have c9b1 : ((l0.length : Int) != 0) = false := bne_eq_false_iff_eq.mpr c9
          clear c9
          (first | rw [c9b0] | (simp only [i64_w, i32_w]; rw [c9b0]) | skip)
          have H' := Aside0.mk H
          clear H
          go_wp2_with (first | ((with_reducible refine gate_callee (f := 35) rfl ?_); refine goesL_ (some 15) rfl rfl Try.func35 (by kernel_rfl) rfl #[.slice A0 l0.length c0, .int .i64 150] rfl (by (try simp only [List.map_toArray, List.map_cons, List.map_nil]); first | done | rfl | (simp only [List.length_drop, List.length_take]; rfl)) ?_; (with_reducible refine (caesuraref02_Great.calls k _ _ l0 150 false _ ?side1 ?side2 A7.out).mono ?_); (case side1 => repeat (first | exact (Kd.V_reads' HO0.out).2.2 | (with_reducible refine Kd.C_alloc ?_ _) | (with_reducible refine Kd.C_drewN ?_ _) | (with_reducible refine Kd.C_drew ?_))); (case side2 => exact (Kd.V_reads' HO0.out).2.1); rintro e w' ⟨rfl, ⟨nd, rfl⟩⟩; refine ⟨_, rfl, ?_⟩))
          go_meet
          case rel => exact ⟨_, (true), (by first | rfl | (simp; done) | (simp [*]; done)), H', ⟨by first | omega | exact Nat.le_refl _⟩, ⟨by (with_reducible repeat (first | apply Kd.V_alloc | apply Kd.V_drewN | apply Kd.V_drew)); exact HO0.out⟩, ⟨by repeat (first | (with_reducible first | exact HB.out | apply below_alloc | apply pw_below_drewN | apply below_drew1) | exact HB.out)⟩⟩
        · rw [if_neg c9] at H
          have c9b0 : ((l0.length : Int) == 0) = false := beq_eq_false_iff_ne.mpr c9
          have c9b1 : ((l0.length : Int) != 0) = true := bne_iff_ne.mpr c9
          have c9b2 : ¬ (l0 = []) := fun h_ => c9 (by rw [h_]; rfl)
          (first | rw [c9b0] | (simp only [i64_w, i32_w]; rw [c9b0]) | skip)
          have H' := Aside0.mk H
          clear H
          go_wp2_with (first | ((with_reducible refine gate_callee (f := 35) rfl ?_); refine goesL_ (some 15) rfl rfl Try.func35 (by kernel_rfl) rfl #[.slice A0 l0.length c0, .int .i64 150] rfl (by (try simp only [List.map_toArray, List.map_cons, List.map_nil]); first | done | rfl | (simp only [List.length_drop, List.length_take]; rfl)) ?_; (with_reducible refine (caesuraref02_Great.calls k _ _ l0 150 false _ ?side1 ?side2 A7.out).mono ?_); (case side1 => repeat (first | exact (Kd.V_reads' HO0.out).2.2 | (with_reducible refine Kd.C_alloc ?_ _) | (with_reducible refine Kd.C_drewN ?_ _) | (with_reducible refine Kd.C_drew ?_))); (case side2 => exact (Kd.V_reads' HO0.out).2.1); rintro e w' ⟨rfl, ⟨nd, rfl⟩⟩; refine ⟨_, rfl, ?_⟩))
          go_meet
          case rel => exact ⟨_, (decide ((l0.length : Int) > 25)), (by first | rfl | (simp; done) | (simp [*]; done)), H', ⟨by first | omega | exact Nat.le_refl _⟩, ⟨by (with_reducible repeat (first | apply Kd.V_alloc | apply Kd.V_drewN | apply Kd.V_drew)); exact HO0.out⟩, ⟨by repeat (first | (with_reducible first | exact HB.out | apply below_alloc | apply pw_below_drewN | apply below_drew1) | exact HB.out)⟩⟩
    case rest =>
      clear HC5
      try clear p2
      try clear c3
      try clear c4
      try clear c8
      try clear c9
      try clear c9b0
      try clear c9b1
      try clear c9b2
      obtain ⟨kq, x25_4, rfl, HA, HJ4, HO_0, HB⟩ := hcut
      cases kq with
      | zero => exact absurd HA.out (by simp [caesuralaw02_AtomTurned.j0])
      | succ kj4 =>
        have H := HA.out
        clear HA
        simp only [caesuralaw02_AtomTurned.j0] at H
        by_cases c10 : x25_4 = true
        · subst c10
          have H1 : (some true) = some r := by rw [if_pos rfl] at H; exact H
          clear H
          have H := H1
          clear H1
          obtain rfl := Option.some.inj H
          go_wp2
          go_ret
          exact ⟨by first | rfl | (simp [errW_none, errW_some] <;> rfl) | (simp [*, errW_none, errW_some] <;> rfl), by repeat (first | (with_reducible first | exact HB.out | apply below_alloc | apply pw_below_drewN | apply below_drew1) | exact HB.out)⟩
        · replace c10 := Bool.eq_false_iff.mpr c10
          subst c10
          have H1 : ((atom_Of.f l0).bind fun bt103 => (caesuralaw02_AtomTurned.l0 kj4 l0 a1 bt103.1 bt103.2 ([] : List (List (S34))) (wrap64 ((l0.length : Int) - 1)))) = some r := by rw [if_neg (show ¬ (false = true) by decide)] at H; exact H
          clear H
          have H := H1
          clear H1
          replace H := Option.bind_eq_some_iff.mp H
          obtain ⟨⟨t103, t106⟩, A110, H⟩ := H
          replace H : (caesuralaw02_AtomTurned.l0 kj4 l0 a1 t103 t106 ([] : List (List (S34))) (wrap64 ((l0.length : Int) - 1))) = some r := H
          have A11 := Aside0.mk A110
          clear A110
          have H' := Aside0.mk H
          clear H
          go_wp2_with (first | ((with_reducible refine gate_callee (f := 36) rfl ?_); refine goesL_ (some 28) rfl rfl Try.func36 (by kernel_rfl) rfl #[.slice A0 l0.length c0] rfl (by (try simp only [List.map_toArray, List.map_cons, List.map_nil]); first | done | rfl | (simp only [List.length_drop, List.length_take]; rfl)) ?_; (with_reducible refine (atom_Of.calls _ _ l0 t103 t106 _ ?side1 ?side2 A11.out).mono ?_); (case side1 => repeat (first | exact (Kd.V_reads' HO_0.out).2.2 | (with_reducible refine Kd.C_alloc ?_ _) | (with_reducible refine Kd.C_drewN ?_ _) | (with_reducible refine Kd.C_drew ?_))); (case side2 => exact (Kd.V_reads' HO_0.out).2.1); rintro e w12 ⟨v104, rfl, ho0, hb⟩; refine ⟨_, rfl, ?_⟩; have n0_ := Aside0.mk (Kd.V_elder' (by (with_reducible repeat (first | apply Kd.V_alloc | apply Kd.V_drewN | apply Kd.V_drew)); exact HO_0.out) (Kd.N_base ho0) hb); have n1_ := Aside0.mk (Kd.N_lower (Kd.N_mono (ok' := fun k_ => (P0_ k_ ∨ w.heap.size ≤ k_)) ho0 (fun k_ hk_ => (.inr (Nat.le_trans (below_size (by repeat (first | (with_reducible first | exact HB.out | apply below_alloc | apply pw_below_drewN | apply below_drew1) | exact HB.out))) hk_)))) (below_size (by repeat (first | (with_reducible first | exact HB.out | apply below_alloc | apply pw_below_drewN | apply below_drew1) | exact HB.out)))); have n2_ := Aside0.mk (below_step (by repeat (first | (with_reducible first | exact HB.out | apply below_alloc | apply pw_below_drewN | apply below_drew1) | exact HB.out)) hb); clear HO_0; clear HB; have HO_0 := n0_; have HO105 := n1_; have HB := n2_; clear n0_ n1_ n2_; (try clear hb); (try clear hb2); (try clear hk); (try clear hi); (try clear ho0)))
          go_loopg [7, 8] kj4 (fun kq v7 v8 w' => ∃ (x7_2 : List (List (S34))) (x8_2 : Int), v8 = .int .i64 x8_2 ∧ Aside0 (caesuralaw02_AtomTurned.l0 kq l0 a1 t103 t106 x7_2 x8_2 = some r) ∧ Aside0 (kq ≤ kj4) ∧ Aside0 (Kd.V (Kd.slice 34 k34) 22 w' w.heap.size (fun k_ => (P0_ k_ ∨ w.heap.size ≤ k_) ∧ some k_ ≠ (v104 : Value).ownBlock ∧ some k_ ≠ (v7 : Value).ownBlock) (.slice A0 l0.length c0) l0) ∧ Aside0 (Kd.N (Kd.slice 34 k34) 22 w' w.heap.size (fun k_ => (P0_ k_ ∨ w.heap.size ≤ k_) ∧ some k_ ≠ (v7 : Value).ownBlock) v104 t103) ∧ Aside0 (Kd.N (Kd.slice 34 k34) 22 w' w.heap.size (fun k_ => (P0_ k_ ∨ w.heap.size ≤ k_) ∧ some k_ ≠ (v104 : Value).ownBlock) v7 x7_2) ∧ Aside0 (Below w.heap.size w w'))
          case atStart => exact ⟨(([] : List (List (S34)))), (wrap64 ((l0.length : Int) - 1)), (by first | rfl | (simp; done) | (simp [*]; done)), H', ⟨Nat.le_refl _⟩, ⟨by (with_reducible repeat (first | apply Kd.V_alloc | apply Kd.V_drewN | apply Kd.V_drew)); exact Kd.V_mono HO_0.out (fun _ hk => ⟨hk.1, ⟨hk.2, (by simp [Value.ownBlock])⟩⟩)⟩, ⟨by (with_reducible repeat (first | apply Kd.N_alloc | apply Kd.N_drewN | apply Kd.N_drew)); exact Kd.N_mono HO105.out (fun _ hk => ⟨hk, (by simp [Value.ownBlock])⟩)⟩, ⟨by first | exact Kd.S_nil _ _ _ _ _ | exact Kd.N_nil _ _ _ _ _ | exact Kd.V_nil _ _ _ _ _ | exact Kd.Q_nil _ _ _ _ _ | exact Kd.R_nil _ _ _ _ _⟩, ⟨by repeat (first | (with_reducible first | exact HB.out | apply below_alloc | apply pw_below_drewN | apply below_drew1) | exact HB.out)⟩⟩
          case round =>
            clear H'
            try clear c1
            try clear p2
            try clear c3
            try clear c4
            try clear p6
            try clear c8
            try clear c9
            try clear c9b0
            try clear c9b1
            try clear c9b2
            try clear c10
            try clear p2
            obtain ⟨x7_2, x8_2, rfl, HA, HK2, HO_0, HO_5, HO_7, HB⟩ := hrel
            cases gk with
            | zero => exact absurd HA.out (by simp [caesuralaw02_AtomTurned.l0])
            | succ k2 =>
              have H := HA.out
              clear HA
              simp only [caesuralaw02_AtomTurned.l0] at H
              by_cases c13 : x8_2 ≥ 0
              · rw [if_pos c13] at H
                have c13b0 : decide (0 ≤ x8_2) = true := decide_eq_true c13
                clear c13
                by_cases c14 : 0 ≤ x8_2
                · rw [if_pos c14] at H
                  have c14b0 : decide (0 ≤ x8_2) = true := decide_eq_true c14
                  clear c14
                  by_cases c15 : x8_2 < (l0.length : Int)
                  · rw [if_pos c15] at H
                    have c15b0 : decide (x8_2 < (l0.length : Int)) = true := decide_eq_true c15
                    clear c15
                    by_cases c16 : x7_2.length < 5864062014805
                    · rw [if_pos c16] at H
                      have LMc16 := Aside0.mk c16
                      clear c16
                      obtain ⟨y108, hy108⟩ : ∃ y_ : List (List (S34)), y_ = (x7_2 ++ [rd_L2 l0 x8_2]) := ⟨_, rfl⟩
                      replace H : (caesuralaw02_AtomTurned.l0 k2 l0 a1 t103 t106 y108 (wrap64 (x8_2 - 1))) = some r := by first | (rw [hy108]; with_reducible exact H) | (have H2_ := (Option.bind_some _ _).symm.trans H; rw [hy108]; with_reducible exact H2_) | (have H2_ := (Option.bind_some _ _).symm.trans H; with_reducible exact H2_) | with_reducible exact H | (rw [hy108]; exact H) | exact H
                      have Ny108 := Aside0.mk hy108
                      clear hy108
                      have H' := Aside0.mk H
                      clear H
                      have p107 : 0 ≤ (x8_2 : Int) := of_decide_eq_true (by first | (with_reducible assumption) | assumption)
                      have q107 : x8_2 < (l0.length : Int) := of_decide_eq_true (by first | (with_reducible assumption) | assumption)
                      obtain ⟨ad107, A107_0, c107_0, e107, hx107_0, hl107_0, hi107_0⟩ := at_L2 (Kd.V_reads' HO_0.out).2.2 x8_2 p107 q107
                      cases e107
                      obtain ⟨ce107, hce107, hMe107, hcc107⟩ := Kd.V_get HO_0.out [] x8_2 p107 (by first | exact q107 | exact of_decide_eq_true (by first | (with_reducible assumption) | assumption) | (have e_ := (Kd.V_reads' HO_0.out).1; omega))
                      obtain ⟨ua107_0, uc107_0, rfl, ul107_0, ge107_0⟩ := Kd.FK_slice_open hMe107
                      have hv107_0 := hcc107 0 _ rfl
                      rw [Nat.add_zero, show ((Kd.slice 34 k34)).sz = 1 from rfl, Nat.mul_one] at hv107_0
                      replace hv107_0 := Option.some.inj (hv107_0.symm.trans hx107_0)
                      injection hv107_0 with hva_ hvn_ hvc_
                      rw [hva_] at ge107_0
                      rw [hvc_] at ul107_0
                      have HL107_0 := Aside0.mk (show Kd.V k34 34 _ w.heap.size _ _ (rd_L2 l0 x8_2) from Kd.V_mk ul107_0 ge107_0)
                      clear hva_ hvn_ hvc_ ge107_0 ul107_0
                      clear hcc107 hce107
                      have HR107_0 := Aside0.mk hi107_0
                      have HC107_0 := Aside0.mk hl107_0
                      clear hi107_0 hl107_0
                      replace p107 := eq_true p107
                      replace q107 := eq_true q107
                      go_wp2_with (first | ((with_reducible refine gate_builtin (b := .append) (xs := #[.tmp 38, .tmp 43]) rfl ?_); (try (refine gate_guard (by rfl) ?_; dsimp only)); at_builtin; refine Kd.N_append (Kd.slice 34 k34) (w0 := w) w.heap.size rfl (.tmp 38) (.tmp 43) 35 22 (.slice none 0 0) 24 rfl Try.underlying35 info22 rfl (by decide) (by omega) u7 x7_2 (rd_L2 l0 x8_2) [.slice A107_0 (rd_L2 l0 x8_2).length c107_0] (fun k_ => (P0_ k_ ∨ w.heap.size ≤ k_) ∧ some k_ ≠ (v104 : Value).ownBlock) (fun k_ => ((fun k_ => (P0_ k_ ∨ w.heap.size ≤ k_) ∧ some k_ ≠ (v104 : Value).ownBlock)) k_ ∧ some k_ ≠ (u7 : Value).ownBlock) rfl rfl ?aP (fun _ hk => hk) ?aF ?aO ?aB ?aS ?aL ?_; (case aP => exact (Kd.FK_slice_mk (Kd.V_reads' (Kd.V_mono (ok' := (fun k_ => ((fun k_ => (P0_ k_ ∨ w.heap.size ≤ k_) ∧ some k_ ≠ (v104 : Value).ownBlock)) k_ ∧ some k_ ≠ (u7 : Value).ownBlock)) (HL107_0.out) (fun k_ hk => ⟨⟨hk.1, hk.2.1⟩, hk.2.2⟩))).2.1 (Kd.V_F (Kd.V_mono (ok' := (fun k_ => ((fun k_ => (P0_ k_ ∨ w.heap.size ≤ k_) ∧ some k_ ≠ (v104 : Value).ownBlock)) k_ ∧ some k_ ≠ (u7 : Value).ownBlock)) (HL107_0.out) (fun k_ hk => ⟨⟨hk.1, hk.2.1⟩, hk.2.2⟩))))); (case aB => exact (by repeat (first | (with_reducible first | exact HB.out | apply below_alloc | apply pw_below_drewN | apply below_drew1) | exact HB.out))); (case aF => exact (fun k_ hk => ⟨(.inr (Nat.le_trans (below_size (by repeat (first | (with_reducible first | exact HB.out | apply below_alloc | apply pw_below_drewN | apply below_drew1) | exact HB.out))) hk)), Kd.fresh' (Kd.N_lt (by (with_reducible repeat (first | apply Kd.N_alloc | apply Kd.N_drewN | apply Kd.N_drew)); exact HO_5.out)) k_ hk⟩)); (case aO => exact (by (with_reducible repeat (first | apply Kd.N_alloc | apply Kd.N_drewN | apply Kd.N_drew)); exact HO_7.out)); (case aS => exact (below_size (by repeat (first | (with_reducible first | exact HB.out | apply below_alloc | apply pw_below_drewN | apply below_drew1) | exact HB.out)))); (case aL => have := LMc16.out; omega); intro v109 w17 ho hb hg hat; rw [← Ny108.out] at ho; have n0_ := Aside0.mk (Kd.V_afterv (ok := (fun k_ => (P0_ k_ ∨ w.heap.size ≤ k_) ∧ some k_ ≠ (v104 : Value).ownBlock)) (by (with_reducible repeat (first | apply Kd.V_alloc | apply Kd.V_drewN | apply Kd.V_drew)); exact Kd.V_mono HO_0.out (fun _ hk => ⟨⟨hk.1, hk.2.1⟩, hk.2.2⟩)) hg hat); have n1_ := Aside0.mk (Kd.N_afterv (ok := (fun k_ => (P0_ k_ ∨ w.heap.size ≤ k_))) (by (with_reducible repeat (first | apply Kd.N_alloc | apply Kd.N_drewN | apply Kd.N_drew)); exact HO_5.out) hg hat); have n2_ := Aside0.mk (Kd.V_afterv (ok := (fun k_ => (P0_ k_ ∨ w.heap.size ≤ k_) ∧ some k_ ≠ (v104 : Value).ownBlock)) (by (with_reducible repeat (first | apply Kd.V_alloc | apply Kd.V_drewN | apply Kd.V_drew)); exact Kd.V_mono HL107_0.out (fun _ hk => ⟨⟨hk.1, hk.2.1⟩, hk.2.2⟩)) hg hat); have n3_ := Aside0.mk (hb); have n4_ := Aside0.mk (ho); clear HO_0; clear HO_5; clear HL107_0; clear HB; clear HO_7; have HO_0 := n0_; have HO_5 := n1_; have HL107_0 := n2_; have HB := n3_; have HO110 := n4_; clear n0_ n1_ n2_ n3_ n4_; clear ho hb hg hat))
                      go_roundg k2
                      case measure => have := HJ4.out; have := HK2.out; omega
                      case rel => exact ⟨(y108), (wrap64 (x8_2 - 1)), (by first | rfl | (simp; done) | (simp [*]; done)), H', ⟨by have := HJ4.out; have := HK2.out; omega⟩, ⟨by (with_reducible repeat (first | apply Kd.V_alloc | apply Kd.V_drewN | apply Kd.V_drew)); exact Kd.V_mono HO_0.out (fun _ hk => ⟨hk.1.1, ⟨hk.1.2, hk.2⟩⟩)⟩, ⟨by (with_reducible repeat (first | apply Kd.N_alloc | apply Kd.N_drewN | apply Kd.N_drew)); exact HO_5.out⟩, ⟨by (with_reducible repeat (first | apply Kd.N_alloc | apply Kd.N_drewN | apply Kd.N_drew)); exact HO110.out⟩, ⟨by repeat (first | (with_reducible first | exact HB.out | apply below_alloc | apply pw_below_drewN | apply below_drew1) | exact HB.out)⟩⟩
                    · rw [if_neg c16] at H
                      exact absurd H (by simp)
                  · rw [if_neg c15] at H
                    exact absurd H (by simp)
                · rw [if_neg c14] at H
                  exact absurd H (by simp)
              · rw [if_neg c13] at H
                have c13b0 : decide (0 ≤ x8_2) = false := decide_eq_false c13
                clear c13
                by_cases c18 : (l0.length : Int) = 0
                · rw [if_pos c18] at H
                  exact absurd H (by simp)
                · rw [if_neg c18] at H
                  have c18b0 : ((l0.length : Int) == 0) = false := beq_eq_false_iff_ne.mpr c18
                  have c18b1 : ((l0.length : Int) != 0) = true := bne_iff_ne.mpr c18
                  have c18b2 : ¬ (l0 = []) := fun h_ => c18 (by rw [h_]; rfl)
                  obtain ⟨ji19, hji19⟩ : ∃ j_ : Int, (Int.tmod (wrap64 (a1)) (l0.length : Int)) = j_ := ⟨_, rfl⟩
                  replace H : (if 0 ≤ (ji19) then (if (ji19) < (l0.length : Int) then (if x7_2.length < 5864062014805 then ((some (x7_2 ++ [rd_L2 l0 (ji19)] : List (List (S34)))).bind fun y112 => ((caesuraref01_Not.f (rd_L2 l0 (ji19))).bind fun t115 => (if y112.length < 5864062014805 then ((atom_Of.f (y112 ++ [t115])).bind fun bt121 => (if t106 = bt121.2 then ((caesuraref02_Same.f k2 t103 bt121.1).bind fun t125 => (some t125)) else (some false))) else (none)))) else (none)) else (none)) else (none)) = some r := by first | (rw [hji19] at H; exact H) | (simp only [hji19] at H ⊢; exact H)
                  by_cases c20 : 0 ≤ (ji19)
                  · rw [if_pos c20] at H
                    have c20b0 : decide (0 ≤ (ji19)) = true := decide_eq_true c20
                    clear c20
                    by_cases c21 : (ji19) < (l0.length : Int)
                    · rw [if_pos c21] at H
                      have c21b0 : decide ((ji19) < (l0.length : Int)) = true := decide_eq_true c21
                      clear c21
                      by_cases c22 : x7_2.length < 5864062014805
                      · rw [if_pos c22] at H
                        have LMc22 := Aside0.mk c22
                        clear c22
                        obtain ⟨y112, hy112⟩ : ∃ y_ : List (List (S34)), y_ = (x7_2 ++ [rd_L2 l0 (ji19)]) := ⟨_, rfl⟩
                        replace H : ((caesuraref01_Not.f (rd_L2 l0 (ji19))).bind fun t115 => (if y112.length < 5864062014805 then ((atom_Of.f (y112 ++ [t115])).bind fun bt121 => (if t106 = bt121.2 then ((caesuraref02_Same.f k2 t103 bt121.1).bind fun t125 => (some t125)) else (some false))) else (none))) = some r := by first | (rw [hy112]; with_reducible exact H) | (have H2_ := (Option.bind_some _ _).symm.trans H; rw [hy112]; with_reducible exact H2_) | (have H2_ := (Option.bind_some _ _).symm.trans H; with_reducible exact H2_) | with_reducible exact H | (rw [hy112]; exact H) | exact H
                        have Ny112 := Aside0.mk hy112
                        clear hy112
                        replace H := Option.bind_eq_some_iff.mp H
                        obtain ⟨t115, A230, H⟩ := H
                        replace H : (if y112.length < 5864062014805 then ((atom_Of.f (y112 ++ [t115])).bind fun bt121 => (if t106 = bt121.2 then ((caesuraref02_Same.f k2 t103 bt121.1).bind fun t125 => (some t125)) else (some false))) else (none)) = some r := H
                        have A23 := Aside0.mk A230
                        clear A230
                        by_cases c24 : y112.length < 5864062014805
                        · rw [if_pos c24] at H
                          have LMc24 := Aside0.mk c24
                          clear c24
                          obtain ⟨y118, hy118⟩ : ∃ y_ : List (List (S34)), y_ = (y112 ++ [t115]) := ⟨_, rfl⟩
                          replace H : ((atom_Of.f y118).bind fun bt121 => (if t106 = bt121.2 then ((caesuraref02_Same.f k2 t103 bt121.1).bind fun t125 => (some t125)) else (some false))) = some r := by first | (rw [hy118]; with_reducible exact H) | (have H2_ := (Option.bind_some _ _).symm.trans H; rw [hy118]; with_reducible exact H2_) | (have H2_ := (Option.bind_some _ _).symm.trans H; with_reducible exact H2_) | with_reducible exact H | (rw [hy118]; exact H) | exact H
                          have Ny118 := Aside0.mk hy118
                          clear hy118
                          replace H := Option.bind_eq_some_iff.mp H
                          obtain ⟨⟨t121, t124⟩, A250, H⟩ := H
                          replace H : (if t106 = t124 then ((caesuraref02_Same.f k2 t103 t121).bind fun t125 => (some t125)) else (some false)) = some r := H
                          have A25 := Aside0.mk A250
                          clear A250
                          by_cases c26 : t106 = t124
                          · rw [if_pos c26] at H
                            have c26b0 : (t106 == t124) = true := beq_iff_eq.mpr c26
                            have c26b1 : (t106 != t124) = false := bne_eq_false_iff_eq.mpr c26
                            clear c26
                            replace H := Option.bind_eq_some_iff.mp H
                            obtain ⟨t125, A270, H⟩ := H
                            replace H : (some t125) = some r := H
                            have A27 := Aside0.mk A270
                            clear A270
                            obtain rfl := Option.some.inj H
                            have p111 : 0 ≤ ((ji19) : Int) := of_decide_eq_true (by first | (with_reducible assumption) | assumption)
                            have q111 : (ji19) < (l0.length : Int) := of_decide_eq_true (by first | (with_reducible assumption) | assumption)
                            obtain ⟨ad111, A111_0, c111_0, e111, hx111_0, hl111_0, hi111_0⟩ := at_L2 (Kd.V_reads' HO_0.out).2.2 (ji19) p111 q111
                            cases e111
                            obtain ⟨ce111, hce111, hMe111, hcc111⟩ := Kd.V_get HO_0.out [] (ji19) p111 (by first | exact q111 | exact of_decide_eq_true (by first | (with_reducible assumption) | assumption) | (have e_ := (Kd.V_reads' HO_0.out).1; omega))
                            obtain ⟨ua111_0, uc111_0, rfl, ul111_0, ge111_0⟩ := Kd.FK_slice_open hMe111
                            have hv111_0 := hcc111 0 _ rfl
                            rw [Nat.add_zero, show ((Kd.slice 34 k34)).sz = 1 from rfl, Nat.mul_one] at hv111_0
                            replace hv111_0 := Option.some.inj (hv111_0.symm.trans hx111_0)
                            injection hv111_0 with hva_ hvn_ hvc_
                            rw [hva_] at ge111_0
                            rw [hvc_] at ul111_0
                            have HL111_0 := Aside0.mk (show Kd.V k34 34 _ w.heap.size _ _ (rd_L2 l0 (ji19)) from Kd.V_mk ul111_0 ge111_0)
                            clear hva_ hvn_ hvc_ ge111_0 ul111_0
                            clear hcc111 hce111
                            have HR111_0 := Aside0.mk hi111_0
                            have HC111_0 := Aside0.mk hl111_0
                            clear hi111_0 hl111_0
                            replace p111 := eq_true p111
                            replace q111 := eq_true q111
                            go_wp2_with (first | ((with_reducible refine gate_builtin (b := .append) (xs := #[.tmp 54, .tmp 56]) rfl ?_); (try (refine gate_guard (by rfl) ?_; dsimp only)); at_builtin; refine Kd.N_append (Kd.slice 34 k34) (w0 := w) w.heap.size rfl (.tmp 54) (.tmp 56) 35 22 (.slice none 0 0) 24 rfl Try.underlying35 info22 rfl (by decide) (by omega) u7 x7_2 (rd_L2 l0 (ji19)) [.slice A111_0 (rd_L2 l0 (ji19)).length c111_0] (fun k_ => (P0_ k_ ∨ w.heap.size ≤ k_) ∧ some k_ ≠ (v104 : Value).ownBlock) (fun k_ => ((fun k_ => (P0_ k_ ∨ w.heap.size ≤ k_) ∧ some k_ ≠ (v104 : Value).ownBlock)) k_ ∧ some k_ ≠ (u7 : Value).ownBlock) rfl rfl ?aP (fun _ hk => hk) ?aF ?aO ?aB ?aS ?aL ?_; (case aP => exact (Kd.FK_slice_mk (Kd.V_reads' (Kd.V_mono (ok' := (fun k_ => ((fun k_ => (P0_ k_ ∨ w.heap.size ≤ k_) ∧ some k_ ≠ (v104 : Value).ownBlock)) k_ ∧ some k_ ≠ (u7 : Value).ownBlock)) (HL111_0.out) (fun k_ hk => ⟨⟨hk.1, hk.2.1⟩, hk.2.2⟩))).2.1 (Kd.V_F (Kd.V_mono (ok' := (fun k_ => ((fun k_ => (P0_ k_ ∨ w.heap.size ≤ k_) ∧ some k_ ≠ (v104 : Value).ownBlock)) k_ ∧ some k_ ≠ (u7 : Value).ownBlock)) (HL111_0.out) (fun k_ hk => ⟨⟨hk.1, hk.2.1⟩, hk.2.2⟩))))); (case aB => exact (by repeat (first | (with_reducible first | exact HB.out | apply below_alloc | apply pw_below_drewN | apply below_drew1) | exact HB.out))); (case aF => exact (fun k_ hk => ⟨(.inr (Nat.le_trans (below_size (by repeat (first | (with_reducible first | exact HB.out | apply below_alloc | apply pw_below_drewN | apply below_drew1) | exact HB.out))) hk)), Kd.fresh' (Kd.N_lt (by (with_reducible repeat (first | apply Kd.N_alloc | apply Kd.N_drewN | apply Kd.N_drew)); exact HO_5.out)) k_ hk⟩)); (case aO => exact (by (with_reducible repeat (first | apply Kd.N_alloc | apply Kd.N_drewN | apply Kd.N_drew)); exact HO_7.out)); (case aS => exact (below_size (by repeat (first | (with_reducible first | exact HB.out | apply below_alloc | apply pw_below_drewN | apply below_drew1) | exact HB.out)))); (case aL => have := LMc22.out; omega); intro v113 w28 ho hb hg hat; rw [← Ny112.out] at ho; have n0_ := Aside0.mk (Kd.V_afterv (ok := (fun k_ => (P0_ k_ ∨ w.heap.size ≤ k_) ∧ some k_ ≠ (v104 : Value).ownBlock)) (by (with_reducible repeat (first | apply Kd.V_alloc | apply Kd.V_drewN | apply Kd.V_drew)); exact Kd.V_mono HO_0.out (fun _ hk => ⟨⟨hk.1, hk.2.1⟩, hk.2.2⟩)) hg hat); have n1_ := Aside0.mk (Kd.N_afterv (ok := (fun k_ => (P0_ k_ ∨ w.heap.size ≤ k_))) (by (with_reducible repeat (first | apply Kd.N_alloc | apply Kd.N_drewN | apply Kd.N_drew)); exact HO_5.out) hg hat); have n2_ := Aside0.mk (Kd.V_afterv (ok := (fun k_ => (P0_ k_ ∨ w.heap.size ≤ k_) ∧ some k_ ≠ (v104 : Value).ownBlock)) (by (with_reducible repeat (first | apply Kd.V_alloc | apply Kd.V_drewN | apply Kd.V_drew)); exact Kd.V_mono HL111_0.out (fun _ hk => ⟨⟨hk.1, hk.2.1⟩, hk.2.2⟩)) hg hat); have n3_ := Aside0.mk (hb); have n4_ := Aside0.mk (ho); clear HO_0; clear HO_5; clear HL111_0; clear HB; clear HO_7; have HO_0 := n0_; have HO_5 := n1_; have HL111_0 := n2_; have HB := n3_; have HO114 := n4_; clear n0_ n1_ n2_ n3_ n4_; clear ho hb hg hat) | ((with_reducible refine gate_callee (f := 21) rfl ?_); refine goesL_ (some 59) rfl rfl Try.func21 (by kernel_rfl) rfl #[.slice A111_0 (rd_L2 l0 (ji19)).length c111_0] rfl (by (try simp only [List.map_toArray, List.map_cons, List.map_nil]); first | done | (simp only [hji19]; rfl) | rfl | (simp only [List.length_drop, List.length_take]; rfl)) ?_; (with_reducible refine (caesuraref01_Not.calls _ _ (rd_L2 l0 (ji19)) t115 _ ?side1 ?side2 A23.out).mono ?_); (case side1 => repeat (first | exact ((Kd.V_reads' (by (with_reducible repeat (first | apply Kd.V_alloc | apply Kd.V_drewN | apply Kd.V_drew)); exact HL111_0.out)).2.2) | (with_reducible refine Kd.C_alloc ?_ _) | (with_reducible refine Kd.C_drewN ?_ _) | (with_reducible refine Kd.C_drew ?_))); (case side2 => exact HC111_0.out); rintro e w29 ⟨v116, rfl, ho0, hb⟩; refine ⟨_, rfl, ?_⟩; have n0_ := Aside0.mk (Kd.V_elder' (by (with_reducible repeat (first | apply Kd.V_alloc | apply Kd.V_drewN | apply Kd.V_drew)); exact HO_0.out) (Kd.R_base ho0) hb); have n1_ := Aside0.mk (Kd.N_elder' (by (with_reducible repeat (first | apply Kd.N_alloc | apply Kd.N_drewN | apply Kd.N_drew)); exact HO_5.out) (Kd.R_base ho0) hb); have n2_ := Aside0.mk (Kd.V_elder' (by (with_reducible repeat (first | apply Kd.V_alloc | apply Kd.V_drewN | apply Kd.V_drew)); exact HL111_0.out) (Kd.R_base ho0) hb); have n3_ := Aside0.mk (Kd.N_elder' (by (with_reducible repeat (first | apply Kd.N_alloc | apply Kd.N_drewN | apply Kd.N_drew)); exact HO114.out) (Kd.R_base ho0) hb); have n4_ := Aside0.mk (Kd.R_lower (Kd.R_newM (M := fun k_ => (w.heap.size ≤ k_)) ho0 (below_size (by repeat (first | (with_reducible first | exact HB.out | apply below_alloc | apply pw_below_drewN | apply below_drew1) | exact HB.out))) (fun k_ h_ => h_)) (below_size (by repeat (first | (with_reducible first | exact HB.out | apply below_alloc | apply pw_below_drewN | apply below_drew1) | exact HB.out)))); have n5_ := Aside0.mk (below_step (by repeat (first | (with_reducible first | exact HB.out | apply below_alloc | apply pw_below_drewN | apply below_drew1) | exact HB.out)) hb); clear HO_0; clear HO_5; clear HL111_0; clear HO114; clear HB; have HO_0 := n0_; have HO_5 := n1_; have HL111_0 := n2_; have HO114 := n3_; have HO117 := n4_; have HB := n5_; clear n0_ n1_ n2_ n3_ n4_ n5_; (try clear hb); (try clear hb2); (try clear hk); (try clear hi); (try clear ho0); obtain ⟨Ao31, co31, eo31⟩ := Kd.R_slice HO117.out; subst eo31) | ((with_reducible refine gate_builtin (b := .append) (xs := #[.tmp 57, .tmp 60]) rfl ?_); (try (refine gate_guard (by rfl) ?_; dsimp only)); at_builtin; refine Kd.N_append (Kd.slice 34 k34) (w0 := w) w.heap.size rfl (.tmp 57) (.tmp 60) 35 22 (.slice none 0 0) 24 rfl Try.underlying35 info22 rfl (by decide) (by omega) v113 y112 t115 [.slice Ao31 t115.length co31] (fun k_ => (P0_ k_ ∨ w.heap.size ≤ k_) ∧ some k_ ≠ (v104 : Value).ownBlock) (fun k_ => ((fun k_ => (P0_ k_ ∨ w.heap.size ≤ k_) ∧ some k_ ≠ (v104 : Value).ownBlock)) k_ ∧ some k_ ≠ (v113 : Value).ownBlock) rfl rfl ?aP (fun _ hk => hk) ?aF ?aO ?aB ?aS ?aL ?_; (case aP => exact (Kd.FK_slice_mk (Kd.R_reads' (Kd.R_mono (ok' := (fun k_ => ((fun k_ => (P0_ k_ ∨ w.heap.size ≤ k_) ∧ some k_ ≠ (v104 : Value).ownBlock)) k_ ∧ some k_ ≠ (v113 : Value).ownBlock)) (Kd.R_apart' (Kd.R_apart' (HO117.out) (Kd.N_typed HO_5.out) (by decide)) (Kd.N_typed HO114.out) (by decide)) (fun k_ hk => ⟨⟨(.inr (hk.1.1.1)), hk.1.2⟩, hk.2⟩))).2.1 (Kd.R_F (Kd.R_mono (ok' := (fun k_ => ((fun k_ => (P0_ k_ ∨ w.heap.size ≤ k_) ∧ some k_ ≠ (v104 : Value).ownBlock)) k_ ∧ some k_ ≠ (v113 : Value).ownBlock)) (Kd.R_apart' (Kd.R_apart' (HO117.out) (Kd.N_typed HO_5.out) (by decide)) (Kd.N_typed HO114.out) (by decide)) (fun k_ hk => ⟨⟨(.inr (hk.1.1.1)), hk.1.2⟩, hk.2⟩))))); (case aB => exact (by repeat (first | (with_reducible first | exact HB.out | apply below_alloc | apply pw_below_drewN | apply below_drew1) | exact HB.out))); (case aF => exact (fun k_ hk => ⟨(.inr (Nat.le_trans (below_size (by repeat (first | (with_reducible first | exact HB.out | apply below_alloc | apply pw_below_drewN | apply below_drew1) | exact HB.out))) hk)), Kd.fresh' (Kd.N_lt (by (with_reducible repeat (first | apply Kd.N_alloc | apply Kd.N_drewN | apply Kd.N_drew)); exact HO_5.out)) k_ hk⟩)); (case aO => exact (by (with_reducible repeat (first | apply Kd.N_alloc | apply Kd.N_drewN | apply Kd.N_drew)); exact Kd.N_mono HO114.out (fun _ hk => ⟨hk.1.1, hk.1.2⟩))); (case aS => exact (below_size (by repeat (first | (with_reducible first | exact HB.out | apply below_alloc | apply pw_below_drewN | apply below_drew1) | exact HB.out)))); (case aL => have := LMc24.out; omega); intro v119 w30 ho hb hg hat; rw [← Ny118.out] at ho; have n0_ := Aside0.mk (Kd.V_afterv (ok := (fun k_ => (P0_ k_ ∨ w.heap.size ≤ k_) ∧ some k_ ≠ (v104 : Value).ownBlock ∧ some k_ ≠ (.slice Ao31 t115.length co31 : Value).ownBlock)) (by (with_reducible repeat (first | apply Kd.V_alloc | apply Kd.V_drewN | apply Kd.V_drew)); exact Kd.V_mono HO_0.out (fun _ hk => ⟨⟨hk.1.1.1, ⟨hk.1.1.2, hk.2⟩⟩, hk.1.2⟩)) hg hat); have n1_ := Aside0.mk (Kd.N_afterv (ok := (fun k_ => (P0_ k_ ∨ w.heap.size ≤ k_) ∧ some k_ ≠ (.slice Ao31 t115.length co31 : Value).ownBlock)) (by (with_reducible repeat (first | apply Kd.N_alloc | apply Kd.N_drewN | apply Kd.N_drew)); exact Kd.N_mono HO_5.out (fun _ hk => ⟨⟨hk.1.1, hk.2⟩, hk.1.2⟩)) hg hat); have n2_ := Aside0.mk (Kd.V_afterv (ok := (fun k_ => (P0_ k_ ∨ w.heap.size ≤ k_) ∧ some k_ ≠ (v104 : Value).ownBlock ∧ some k_ ≠ (.slice Ao31 t115.length co31 : Value).ownBlock)) (by (with_reducible repeat (first | apply Kd.V_alloc | apply Kd.V_drewN | apply Kd.V_drew)); exact Kd.V_mono HL111_0.out (fun _ hk => ⟨⟨hk.1.1.1, ⟨hk.1.1.2, hk.2⟩⟩, hk.1.2⟩)) hg hat); have n3_ := Aside0.mk (hb); have n4_ := Aside0.mk (ho); clear HO_0; clear HO_5; clear HL111_0; clear HB; clear HO114; clear HO117; have HO_0 := n0_; have HO_5 := n1_; have HL111_0 := n2_; have HB := n3_; have HO120 := n4_; clear n0_ n1_ n2_ n3_ n4_; clear ho hb hg hat; obtain ⟨Ao32, co32, eo32⟩ := Kd.N_slice HO120.out; subst eo32) | ((with_reducible refine gate_callee (f := 36) rfl ?_); refine goesL_ (some 62) rfl rfl Try.func36 (by kernel_rfl) rfl #[.slice Ao32 y118.length co32] rfl (by (try simp only [List.map_toArray, List.map_cons, List.map_nil]); first | done | rfl | (simp only [List.length_drop, List.length_take]; rfl)) ?_; (with_reducible refine (atom_Of.calls _ _ y118 t121 t124 _ ?side1 ?side2 A25.out).mono ?_); (case side1 => repeat (first | exact (Kd.N_reads' HO120.out).2.2 | (with_reducible refine Kd.C_alloc ?_ _) | (with_reducible refine Kd.C_drewN ?_ _) | (with_reducible refine Kd.C_drew ?_))); (case side2 => exact (Kd.N_reads' HO120.out).2.1); rintro e w33 ⟨v122, rfl, ho0, hb⟩; refine ⟨_, rfl, ?_⟩; have n0_ := Aside0.mk (Kd.V_elder' (by (with_reducible repeat (first | apply Kd.V_alloc | apply Kd.V_drewN | apply Kd.V_drew)); exact HO_0.out) (Kd.N_base ho0) hb); have n1_ := Aside0.mk (Kd.N_elder' (by (with_reducible repeat (first | apply Kd.N_alloc | apply Kd.N_drewN | apply Kd.N_drew)); exact HO_5.out) (Kd.N_base ho0) hb); have n2_ := Aside0.mk (Kd.V_elder' (by (with_reducible repeat (first | apply Kd.V_alloc | apply Kd.V_drewN | apply Kd.V_drew)); exact HL111_0.out) (Kd.N_base ho0) hb); have n3_ := Aside0.mk (Kd.N_elder' (by (with_reducible repeat (first | apply Kd.N_alloc | apply Kd.N_drewN | apply Kd.N_drew)); exact HO120.out) (Kd.N_base ho0) hb); have n4_ := Aside0.mk (Kd.N_lower (Kd.N_mono (ok' := fun k_ => (P0_ k_ ∨ w.heap.size ≤ k_) ∧ some k_ ≠ (v104 : Value).ownBlock ∧ some k_ ≠ (.slice Ao32 y118.length co32 : Value).ownBlock) ho0 (fun k_ hk_ => ⟨(.inr (Nat.le_trans (below_size (by repeat (first | (with_reducible first | exact HB.out | apply below_alloc | apply pw_below_drewN | apply below_drew1) | exact HB.out))) hk_)), (Kd.fresh' (Kd.N_lt (by (with_reducible repeat (first | apply Kd.N_alloc | apply Kd.N_drewN | apply Kd.N_drew)); exact HO_5.out)) k_ hk_), (Kd.fresh' (Kd.N_lt (by (with_reducible repeat (first | apply Kd.N_alloc | apply Kd.N_drewN | apply Kd.N_drew)); exact HO120.out)) k_ hk_)⟩)) (below_size (by repeat (first | (with_reducible first | exact HB.out | apply below_alloc | apply pw_below_drewN | apply below_drew1) | exact HB.out)))); have n5_ := Aside0.mk (below_step (by repeat (first | (with_reducible first | exact HB.out | apply below_alloc | apply pw_below_drewN | apply below_drew1) | exact HB.out)) hb); clear HO_0; clear HO_5; clear HL111_0; clear HO120; clear HB; have HO_0 := n0_; have HO_5 := n1_; have HL111_0 := n2_; have HO120 := n3_; have HO123 := n4_; have HB := n5_; clear n0_ n1_ n2_ n3_ n4_ n5_; (try clear hb); (try clear hb2); (try clear hk); (try clear hi); (try clear ho0); obtain ⟨Ao34, co34, eo34⟩ := Kd.N_slice HO_5.out; subst eo34; obtain ⟨Ao35, co35, eo35⟩ := Kd.N_slice HO123.out; subst eo35) | (go_at_call 40; (with_reducible refine (caesuraref02_Same.calls k2 _ _ t103 _ _ t121 t125 _ ?side1 ?side2 ?side3 ?side4 A27.out).mono ?_); (case side1 => repeat (first | exact (Kd.N_reads' HO_5.out).2.2 | (with_reducible refine Kd.C_alloc ?_ _) | (with_reducible refine Kd.C_drewN ?_ _) | (with_reducible refine Kd.C_drew ?_))); (case side2 => exact (Kd.N_reads' HO_5.out).2.1); (case side3 => repeat (first | exact (Kd.N_reads' HO123.out).2.2 | (with_reducible refine Kd.C_alloc ?_ _) | (with_reducible refine Kd.C_drewN ?_ _) | (with_reducible refine Kd.C_drew ?_))); (case side4 => exact (Kd.N_reads' HO123.out).2.1); rintro e w' ⟨rfl, ⟨nd, rfl⟩⟩))
                            go_ret
                            exact ⟨by first | rfl | (simp [errW_none, errW_some] <;> rfl) | (simp only [← hji19]; first | rfl | (simp [errW_none, errW_some] <;> rfl)) | (simp [*, errW_none, errW_some] <;> rfl), by repeat (first | (with_reducible first | exact HB.out | apply below_alloc | apply pw_below_drewN | apply below_drew1) | exact HB.out)⟩
                          · rw [if_neg c26] at H
                            have c26b0 : (t106 == t124) = false := beq_eq_false_iff_ne.mpr c26
                            have c26b1 : (t106 != t124) = true := bne_iff_ne.mpr c26
                            exact absurd ((Option.some.inj H).trans hrt_.out) (by decide)
                        · rw [if_neg c24] at H
                          exact absurd H (by simp)
                      · rw [if_neg c22] at H
                        exact absurd H (by simp)
                    · rw [if_neg c21] at H
                      exact absurd H (by simp)
                  · rw [if_neg c20] at H
                    exact absurd H (by simp)
  · replace c4 := Bool.eq_false_iff.mpr c4
    subst c4
    have H1 : (some false) = some r := by rw [if_neg (show ¬ (false = true) by decide)] at H; exact H
    clear H
    have H := H1
    clear H1
    exact absurd ((Option.some.inj H).trans hrt_.out) (by decide)

end
end Go.Proofs.Ytippkbgeeeimjaa.AT
