-- Printed by a program of this session (over the kit's print).
import Derived.Test.YtippkbgeeeimjaaAWx0
namespace Go.Proofs.Ytippkbgeeeimjaa.AW
noncomputable section
open Go.RowKit Go.Proofs.YtippkbgeeeimjaaW.PrintWords Go.Proofs.YtippkbgeeeimjaaW.PrintLast Go.Proofs.YtippkbgeeeimjaaW.PrintMore Go.Proofs.Ytippkbgeeeimjaa.A Go.Proofs.Ytippkbgeeeimjaa.L Go.Proofs.Ytippkbgeeeimjaa.B Go.Proofs.Ytippkbgeeeimjaa.D
attribute [local go_sem] max2_int min2_int max_two min_two max_three min_three max_four min_four   -- for this text's walks alone
set_option linter.unusedVariables false
set_option linter.unusedSimpArgs false

/-! ### caesuralaw02_AtomWithin: function 10 -/
mutual
def caesuralaw02_AtomWithin.j0 : Nat → List (List (S34)) → Int → Bool → Option (Bool)
  | 0, _, _, _ => none
  | k + 1, x0, x1, x23 => if x23 = true then (some true) else ((atom_Of.f x0).bind fun bt103 => (if bt103.2 = 0 then (if (x0.length : Int) = 0 then (none) else (if 0 ≤ (Int.tmod (wrap64 (x1)) (x0.length : Int)) then (if (Int.tmod (wrap64 (x1)) (x0.length : Int)) < (x0.length : Int) then ((atom_Within.f k bt103.1 (rd_L2 x0 (Int.tmod (wrap64 (x1)) (x0.length : Int)))).bind fun t108 => ((caesuraref01_Not.f (rd_L2 x0 (Int.tmod (wrap64 (x1)) (x0.length : Int)))).bind fun t111 => ((atom_Within.f k bt103.1 t111).bind fun t114 => (if 0 ≤ (bt103.1.length : Int) then (if ((bt103.1.length : Int) : Int).toNat ≤ 281474976710656 then ((some (([] : List Int) : List Int)).bind fun y120 => (if y120.length + t108.length < 17592186044416 then ((some (y120 ++ t108 : List Int)).bind fun y123 => (if y123.length + t114.length < 17592186044416 then (caesuralaw02_AtomWithin.l0 k bt103.1 (List.replicate ((bt103.1.length : Int) : Int).toNat false) (y123 ++ t114) 0) else (none))) else (none))) else (none)) else (none))))) else (none)) else (none))) else (some true)))
def caesuralaw02_AtomWithin.l0 : Nat → List (List (S34)) → List Bool → List Int → Int → Option (Bool)
  | 0, _, _, _, _ => none
  | k + 1, x5, x10, x11, x12 => if x12 < (x11.length : Int) then (if 0 ≤ x12 then (if (rd x11 x12) < 0 then (some false) else (if (rd x11 x12) ≥ (x5.length : Int) then (some false) else (if 0 ≤ (rd x11 x12) then (if (rd x11 x12) < (x10.length : Int) then (if rdOf false x10 (rd x11 x12) = true then (some false) else (caesuralaw02_AtomWithin.l0 k x5 (x10.set ((rd x11 x12) : Int).toNat true) x11 (wrap64 (x12 + 1)))) else (none)) else (none)))) else (none)) else ((atom_Firsts.f k x5).bind fun t135 => (caesuralaw02_AtomWithin.l1 k x5 x11 t135 0))
def caesuralaw02_AtomWithin.l1 : Nat → List (List (S34)) → List Int → List Int → Int → Option (Bool)
  | 0, _, _, _, _ => none
  | k + 1, x5, x11, x13, x14 => if x14 < (x13.length : Int) then (if 0 ≤ x14 then ((atom_Class.f x5 (rd x13 x14)).bind fun t139 => (if t139 = x14 then (caesuralaw02_AtomWithin.l1 k x5 x11 x13 (wrap64 (x14 + 1))) else (some false))) else (none)) else (some ((x11.length : Int) == (x5.length : Int)))
end
def caesuralaw02_AtomWithin.f (k : Nat) (l0 : List (List (S34))) (a1 : Int) : Option (Bool) := (caesuralaw02_alive.f).bind fun t101 => (if t101 = true then ((caesuraref02_Great.f k l0 200).bind fun t102 => (if t102 = true then (caesuralaw02_AtomWithin.j0 k l0 a1 true) else (caesuralaw02_AtomWithin.j0 k l0 a1 ((l0.length : Int) == 0)))) else (some false))
theorem caesuralaw02_AtomWithin.mono_l : ∀ k, (∀ y0 y1 y2, LeO (caesuralaw02_AtomWithin.j0 k y0 y1 y2) (caesuralaw02_AtomWithin.j0 (k + 1) y0 y1 y2)) ∧ (∀ y0 y1 y2 y3, LeO (caesuralaw02_AtomWithin.l0 k y0 y1 y2 y3) (caesuralaw02_AtomWithin.l0 (k + 1) y0 y1 y2 y3)) ∧ (∀ y0 y1 y2 y3, LeO (caesuralaw02_AtomWithin.l1 k y0 y1 y2 y3) (caesuralaw02_AtomWithin.l1 (k + 1) y0 y1 y2 y3))
  | 0 => ⟨fun _ _ _ r h => by simp [caesuralaw02_AtomWithin.j0] at h, fun _ _ _ _ r h => by simp [caesuralaw02_AtomWithin.l0] at h, fun _ _ _ _ r h => by simp [caesuralaw02_AtomWithin.l1] at h⟩
  | k + 1 => by
    obtain ⟨ih0, ih1, ih2⟩ := caesuralaw02_AtomWithin.mono_l k
    refine ⟨?_, ?_, ?_⟩
    · intro y0 y1 y2
      unfold caesuralaw02_AtomWithin.j0
      repeat' first
      | (with_reducible exact ih0 _ _ _)
      | (with_reducible exact ih1 _ _ _ _)
      | (with_reducible exact ih2 _ _ _ _)
      | (with_reducible exact atom_Firsts.mono _ _)
      | (with_reducible exact atom_Within.mono _ _ _)
      | (with_reducible exact caesuraref02_Great.mono _ _ _)
      | (with_reducible exact LeO.refl _)
      | (with_reducible exact LeO.none _)
      | (with_reducible refine LeO.ite ?_ ?_)
      | (with_reducible refine LeO.bind ?_ (fun _ => ?_))
      | exact ih0 _ _ _
      | exact ih1 _ _ _ _
      | exact ih2 _ _ _ _
      | exact atom_Firsts.mono _ _
      | exact atom_Within.mono _ _ _
      | exact caesuraref02_Great.mono _ _ _
      | exact LeO.none _
      | refine LeO.ite ?_ ?_
      | refine LeO.bind ?_ (fun _ => ?_)
    · intro y0 y1 y2 y3
      unfold caesuralaw02_AtomWithin.l0
      repeat' first
      | (with_reducible exact ih0 _ _ _)
      | (with_reducible exact ih1 _ _ _ _)
      | (with_reducible exact ih2 _ _ _ _)
      | (with_reducible exact atom_Firsts.mono _ _)
      | (with_reducible exact atom_Within.mono _ _ _)
      | (with_reducible exact caesuraref02_Great.mono _ _ _)
      | (with_reducible exact LeO.refl _)
      | (with_reducible exact LeO.none _)
      | (with_reducible refine LeO.ite ?_ ?_)
      | (with_reducible refine LeO.bind ?_ (fun _ => ?_))
      | exact ih0 _ _ _
      | exact ih1 _ _ _ _
      | exact ih2 _ _ _ _
      | exact atom_Firsts.mono _ _
      | exact atom_Within.mono _ _ _
      | exact caesuraref02_Great.mono _ _ _
      | exact LeO.none _
      | refine LeO.ite ?_ ?_
      | refine LeO.bind ?_ (fun _ => ?_)
    · intro y0 y1 y2 y3
      unfold caesuralaw02_AtomWithin.l1
      repeat' first
      | (with_reducible exact ih0 _ _ _)
      | (with_reducible exact ih1 _ _ _ _)
      | (with_reducible exact ih2 _ _ _ _)
      | (with_reducible exact atom_Firsts.mono _ _)
      | (with_reducible exact atom_Within.mono _ _ _)
      | (with_reducible exact caesuraref02_Great.mono _ _ _)
      | (with_reducible exact LeO.refl _)
      | (with_reducible exact LeO.none _)
      | (with_reducible refine LeO.ite ?_ ?_)
      | (with_reducible refine LeO.bind ?_ (fun _ => ?_))
      | exact ih0 _ _ _
      | exact ih1 _ _ _ _
      | exact ih2 _ _ _ _
      | exact atom_Firsts.mono _ _
      | exact atom_Within.mono _ _ _
      | exact caesuraref02_Great.mono _ _ _
      | exact LeO.none _
      | refine LeO.ite ?_ ?_
      | refine LeO.bind ?_ (fun _ => ?_)
theorem caesuralaw02_AtomWithin.mono : ∀ a0 a1 k, LeO (caesuralaw02_AtomWithin.f k a0 a1) (caesuralaw02_AtomWithin.f (k + 1) a0 a1) := by
  intro a0 a1 k
  obtain ⟨ih0, ih1, ih2⟩ := caesuralaw02_AtomWithin.mono_l k
  unfold caesuralaw02_AtomWithin.f
  repeat' first
      | (with_reducible exact ih0 _ _ _)
      | (with_reducible exact ih1 _ _ _ _)
      | (with_reducible exact ih2 _ _ _ _)
      | (with_reducible exact atom_Firsts.mono _ _)
      | (with_reducible exact atom_Within.mono _ _ _)
      | (with_reducible exact caesuraref02_Great.mono _ _ _)
      | (with_reducible exact LeO.refl _)
      | (with_reducible exact LeO.none _)
      | (with_reducible refine LeO.ite ?_ ?_)
      | (with_reducible refine LeO.bind ?_ (fun _ => ?_))
      | exact ih0 _ _ _
      | exact ih1 _ _ _ _
      | exact ih2 _ _ _ _
      | exact atom_Firsts.mono _ _
      | exact atom_Within.mono _ _ _
      | exact caesuraref02_Great.mono _ _ _
      | exact LeO.none _
      | refine LeO.ite ?_ ?_
      | refine LeO.bind ?_ (fun _ => ?_)
set_option maxHeartbeats 8000000 in
set_option maxRecDepth 100000 in
theorem caesuralaw02_AtomWithin.calls (k : Nat) (A0 : Option Addr) (c0 : Nat) (l0 : List (List (S34))) (a1 : Int) (r : Bool) (w : World) (hr0 : Kd.C (Kd.slice 34 k34) w A0 l0.length l0) (hc0 : l0.length ≤ c0) (h : caesuralaw02_AtomWithin.f k l0 a1 = some r) (hrt_ : Aside0 (r = true)) :
    Calls Try.prog 10 #[.slice A0 l0.length c0, .int .u8 a1] w fun e w' => e = .returned (.bool r) ∧ Below w.heap.size w w' := by
  have HR0 := Aside0.mk hr0
  have HC0 := Aside0.mk hc0
  clear hr0 hc0
  have HB := Aside0.mk (Below.refl w.heap.size w)
  have H : ((caesuralaw02_alive.f).bind fun t101 => (if t101 = true then ((caesuraref02_Great.f k l0 200).bind fun t102 => (if t102 = true then (caesuralaw02_AtomWithin.j0 k l0 a1 true) else (caesuralaw02_AtomWithin.j0 k l0 a1 ((l0.length : Int) == 0)))) else (some false))) = some r := h
  clear h
  replace H := Option.bind_eq_some_iff.mp H
  obtain ⟨t101, A30, H⟩ := H
  replace H : (if t101 = true then ((caesuraref02_Great.f k l0 200).bind fun t102 => (if t102 = true then (caesuralaw02_AtomWithin.j0 k l0 a1 true) else (caesuralaw02_AtomWithin.j0 k l0 a1 ((l0.length : Int) == 0)))) else (some false)) = some r := H
  have A3 := Aside0.mk A30
  clear A30
  by_cases c4 : t101 = true
  · subst c4
    have H1 : ((caesuraref02_Great.f k l0 200).bind fun t102 => (if t102 = true then (caesuralaw02_AtomWithin.j0 k l0 a1 true) else (caesuralaw02_AtomWithin.j0 k l0 a1 ((l0.length : Int) == 0)))) = some r := by rw [if_pos rfl] at H; exact H
    clear H
    have H := H1
    clear H1
    have HC5 := Aside0.mk H
    clear H
    go_enter Try.func10, Try.ntmps10
    go_upto_region 3 with (first | ((with_reducible refine gate_callee (f := 34) rfl ?_); refine goesL_ (some 15) rfl rfl Try.func34 (by kernel_rfl) rfl #[] rfl (by (try simp only [List.map_toArray, List.map_cons, List.map_nil]); first | done | rfl | (simp only [List.length_drop, List.length_take]; rfl)) ?_; (with_reducible refine (caesuralaw02_alive.calls  true _ A3.out).mono ?_); rintro e w6 ⟨rfl, hb⟩; refine ⟨_, rfl, ?_⟩; have n0_ := Aside0.mk (below_step (by repeat (first | (with_reducible first | exact HB.out | apply below_alloc | apply pw_below_drewN | apply below_drew1) | exact HB.out)) hb); clear HB; have HB := n0_; clear n0_; (try clear hb); (try clear hb2); (try clear hk); (try clear hi)))
    (try simp only [Act.put, List.setIfInBounds_toArray, List.set_cons_zero, List.set_cons_succ])
    go_cut [23] (fun v23 wc => ∃ (kq : Nat) (x23_4 : Bool), v23 = .bool x23_4 ∧ Aside0 (caesuralaw02_AtomWithin.j0 kq l0 a1 x23_4 = some r) ∧ Aside0 (kq ≤ k) ∧ Aside0 (Below w.heap.size w wc))
    case first =>
      have H := HC5.out
      clear HC5
      replace H := Option.bind_eq_some_iff.mp H
      obtain ⟨t102, A70, H⟩ := H
      replace H : (if t102 = true then (caesuralaw02_AtomWithin.j0 k l0 a1 true) else (caesuralaw02_AtomWithin.j0 k l0 a1 ((l0.length : Int) == 0))) = some r := H
      have A7 := Aside0.mk A70
      clear A70
      by_cases c8 : t102 = true
      · subst c8
        have H1 : (caesuralaw02_AtomWithin.j0 k l0 a1 true) = some r := by rw [if_pos rfl] at H; exact H
        clear H
        have H := H1
        clear H1
        have H' := Aside0.mk H
        clear H
        go_wp2_with (first | ((with_reducible refine gate_callee (f := 35) rfl ?_); refine goesL_ (some 18) rfl rfl Try.func35 (by kernel_rfl) rfl #[.slice A0 l0.length c0, .int .i64 200] rfl (by (try simp only [List.map_toArray, List.map_cons, List.map_nil]); first | done | rfl | (simp only [List.length_drop, List.length_take]; rfl)) ?_; (with_reducible refine (caesuraref02_Great.calls k _ _ l0 200 true _ ?side1 ?side2 A7.out).mono ?_); (case side1 => repeat (first | exact (Kd.C_below HR0.out HB.out) | (with_reducible refine Kd.C_alloc ?_ _) | (with_reducible refine Kd.C_drewN ?_ _) | (with_reducible refine Kd.C_drew ?_))); (case side2 => exact HC0.out); rintro e w' ⟨rfl, ⟨nd, rfl⟩⟩; refine ⟨_, rfl, ?_⟩))
        go_meet
        case rel => exact ⟨_, (true), (by first | rfl | (simp; done) | (simp [*]; done)), H', ⟨by first | omega | exact Nat.le_refl _⟩, ⟨by repeat (first | (with_reducible first | exact HB.out | apply below_alloc | apply pw_below_drewN | apply below_drew1) | exact HB.out)⟩⟩
      · replace c8 := Bool.eq_false_iff.mpr c8
        subst c8
        have H1 : (caesuralaw02_AtomWithin.j0 k l0 a1 ((l0.length : Int) == 0)) = some r := by rw [if_neg (show ¬ (false = true) by decide)] at H; exact H
        clear H
        have H := H1
        clear H1
        have H' := Aside0.mk H
        clear H
        go_wp2_with (first | ((with_reducible refine gate_callee (f := 35) rfl ?_); refine goesL_ (some 18) rfl rfl Try.func35 (by kernel_rfl) rfl #[.slice A0 l0.length c0, .int .i64 200] rfl (by (try simp only [List.map_toArray, List.map_cons, List.map_nil]); first | done | rfl | (simp only [List.length_drop, List.length_take]; rfl)) ?_; (with_reducible refine (caesuraref02_Great.calls k _ _ l0 200 false _ ?side1 ?side2 A7.out).mono ?_); (case side1 => repeat (first | exact (Kd.C_below HR0.out HB.out) | (with_reducible refine Kd.C_alloc ?_ _) | (with_reducible refine Kd.C_drewN ?_ _) | (with_reducible refine Kd.C_drew ?_))); (case side2 => exact HC0.out); rintro e w' ⟨rfl, ⟨nd, rfl⟩⟩; refine ⟨_, rfl, ?_⟩))
        go_meet
        case rel => exact ⟨_, (((l0.length : Int) == 0)), (by first | rfl | (simp; done) | (simp [*]; done)), H', ⟨by first | omega | exact Nat.le_refl _⟩, ⟨by repeat (first | (with_reducible first | exact HB.out | apply below_alloc | apply pw_below_drewN | apply below_drew1) | exact HB.out)⟩⟩
    case rest =>
      clear HC5
      try clear c1
      try clear p2
      try clear c3
      try clear c4
      try clear c8
      obtain ⟨kq, x23_4, rfl, HA, HJ4, HB⟩ := hcut
      cases kq with
      | zero => exact absurd HA.out (by simp [caesuralaw02_AtomWithin.j0])
      | succ kj4 =>
        have H := HA.out
        clear HA
        simp only [caesuralaw02_AtomWithin.j0] at H
        by_cases c9 : x23_4 = true
        · subst c9
          have H1 : (some true) = some r := by rw [if_pos rfl] at H; exact H
          clear H
          have H := H1
          clear H1
          obtain rfl := Option.some.inj H
          go_wp2
          go_ret
          exact ⟨by first | rfl | (simp [errW_none, errW_some] <;> rfl) | (simp [*, errW_none, errW_some] <;> rfl), by repeat (first | (with_reducible first | exact HB.out | apply below_alloc | apply pw_below_drewN | apply below_drew1) | exact HB.out)⟩
        · replace c9 := Bool.eq_false_iff.mpr c9
          subst c9
          have H1 : ((atom_Of.f l0).bind fun bt103 => (if bt103.2 = 0 then (if (l0.length : Int) = 0 then (none) else (if 0 ≤ (Int.tmod (wrap64 (a1)) (l0.length : Int)) then (if (Int.tmod (wrap64 (a1)) (l0.length : Int)) < (l0.length : Int) then ((atom_Within.f kj4 bt103.1 (rd_L2 l0 (Int.tmod (wrap64 (a1)) (l0.length : Int)))).bind fun t108 => ((caesuraref01_Not.f (rd_L2 l0 (Int.tmod (wrap64 (a1)) (l0.length : Int)))).bind fun t111 => ((atom_Within.f kj4 bt103.1 t111).bind fun t114 => (if 0 ≤ (bt103.1.length : Int) then (if ((bt103.1.length : Int) : Int).toNat ≤ 281474976710656 then ((some (([] : List Int) : List Int)).bind fun y120 => (if y120.length + t108.length < 17592186044416 then ((some (y120 ++ t108 : List Int)).bind fun y123 => (if y123.length + t114.length < 17592186044416 then (caesuralaw02_AtomWithin.l0 kj4 bt103.1 (List.replicate ((bt103.1.length : Int) : Int).toNat false) (y123 ++ t114) 0) else (none))) else (none))) else (none)) else (none))))) else (none)) else (none))) else (some true))) = some r := by rw [if_neg (show ¬ (false = true) by decide)] at H; exact H
          clear H
          have H := H1
          clear H1
          replace H := Option.bind_eq_some_iff.mp H
          obtain ⟨⟨t103, t106⟩, A100, H⟩ := H
          replace H : (if t106 = 0 then (if (l0.length : Int) = 0 then (none) else (if 0 ≤ (Int.tmod (wrap64 (a1)) (l0.length : Int)) then (if (Int.tmod (wrap64 (a1)) (l0.length : Int)) < (l0.length : Int) then ((atom_Within.f kj4 t103 (rd_L2 l0 (Int.tmod (wrap64 (a1)) (l0.length : Int)))).bind fun t108 => ((caesuraref01_Not.f (rd_L2 l0 (Int.tmod (wrap64 (a1)) (l0.length : Int)))).bind fun t111 => ((atom_Within.f kj4 t103 t111).bind fun t114 => (if 0 ≤ (t103.length : Int) then (if ((t103.length : Int) : Int).toNat ≤ 281474976710656 then ((some (([] : List Int) : List Int)).bind fun y120 => (if y120.length + t108.length < 17592186044416 then ((some (y120 ++ t108 : List Int)).bind fun y123 => (if y123.length + t114.length < 17592186044416 then (caesuralaw02_AtomWithin.l0 kj4 t103 (List.replicate ((t103.length : Int) : Int).toNat false) (y123 ++ t114) 0) else (none))) else (none))) else (none)) else (none))))) else (none)) else (none))) else (some true)) = some r := H
          have A10 := Aside0.mk A100
          clear A100
          by_cases c11 : t106 = 0
          · rw [if_pos c11] at H
            have c11b0 : (t106 == 0) = true := beq_iff_eq.mpr c11
            have c11b1 : (t106 != 0) = false := bne_eq_false_iff_eq.mpr c11
            clear c11
            by_cases c12 : (l0.length : Int) = 0
            · rw [if_pos c12] at H
              exact absurd H (by simp)
            · rw [if_neg c12] at H
              have c12b0 : ((l0.length : Int) == 0) = false := beq_eq_false_iff_ne.mpr c12
              have c12b1 : ((l0.length : Int) != 0) = true := bne_iff_ne.mpr c12
              have c12b2 : ¬ (l0 = []) := fun h_ => c12 (by rw [h_]; rfl)
              obtain ⟨ji13, hji13⟩ : ∃ j_ : Int, (Int.tmod (wrap64 (a1)) (l0.length : Int)) = j_ := ⟨_, rfl⟩
              replace H : (if 0 ≤ (ji13) then (if (ji13) < (l0.length : Int) then ((atom_Within.f kj4 t103 (rd_L2 l0 (ji13))).bind fun t108 => ((caesuraref01_Not.f (rd_L2 l0 (ji13))).bind fun t111 => ((atom_Within.f kj4 t103 t111).bind fun t114 => (if 0 ≤ (t103.length : Int) then (if ((t103.length : Int) : Int).toNat ≤ 281474976710656 then ((some (([] : List Int) : List Int)).bind fun y120 => (if y120.length + t108.length < 17592186044416 then ((some (y120 ++ t108 : List Int)).bind fun y123 => (if y123.length + t114.length < 17592186044416 then (caesuralaw02_AtomWithin.l0 kj4 t103 (List.replicate ((t103.length : Int) : Int).toNat false) (y123 ++ t114) 0) else (none))) else (none))) else (none)) else (none))))) else (none)) else (none)) = some r := by first | (rw [hji13] at H; exact H) | (simp only [hji13] at H ⊢; exact H)
              (try rw [hji13] at A10)
              by_cases c14 : 0 ≤ (ji13)
              · rw [if_pos c14] at H
                have c14b0 : decide (0 ≤ (ji13)) = true := decide_eq_true c14
                clear c14
                by_cases c15 : (ji13) < (l0.length : Int)
                · rw [if_pos c15] at H
                  have c15b0 : decide ((ji13) < (l0.length : Int)) = true := decide_eq_true c15
                  clear c15
                  replace H := Option.bind_eq_some_iff.mp H
                  obtain ⟨t108, A160, H⟩ := H
                  replace H : ((caesuraref01_Not.f (rd_L2 l0 (ji13))).bind fun t111 => ((atom_Within.f kj4 t103 t111).bind fun t114 => (if 0 ≤ (t103.length : Int) then (if ((t103.length : Int) : Int).toNat ≤ 281474976710656 then ((some (([] : List Int) : List Int)).bind fun y120 => (if y120.length + t108.length < 17592186044416 then ((some (y120 ++ t108 : List Int)).bind fun y123 => (if y123.length + t114.length < 17592186044416 then (caesuralaw02_AtomWithin.l0 kj4 t103 (List.replicate ((t103.length : Int) : Int).toNat false) (y123 ++ t114) 0) else (none))) else (none))) else (none)) else (none)))) = some r := H
                  have A16 := Aside0.mk A160
                  clear A160
                  replace H := Option.bind_eq_some_iff.mp H
                  obtain ⟨t111, A170, H⟩ := H
                  replace H : ((atom_Within.f kj4 t103 t111).bind fun t114 => (if 0 ≤ (t103.length : Int) then (if ((t103.length : Int) : Int).toNat ≤ 281474976710656 then ((some (([] : List Int) : List Int)).bind fun y120 => (if y120.length + t108.length < 17592186044416 then ((some (y120 ++ t108 : List Int)).bind fun y123 => (if y123.length + t114.length < 17592186044416 then (caesuralaw02_AtomWithin.l0 kj4 t103 (List.replicate ((t103.length : Int) : Int).toNat false) (y123 ++ t114) 0) else (none))) else (none))) else (none)) else (none))) = some r := H
                  have A17 := Aside0.mk A170
                  clear A170
                  replace H := Option.bind_eq_some_iff.mp H
                  obtain ⟨t114, A180, H⟩ := H
                  replace H : (if 0 ≤ (t103.length : Int) then (if ((t103.length : Int) : Int).toNat ≤ 281474976710656 then ((some (([] : List Int) : List Int)).bind fun y120 => (if y120.length + t108.length < 17592186044416 then ((some (y120 ++ t108 : List Int)).bind fun y123 => (if y123.length + t114.length < 17592186044416 then (caesuralaw02_AtomWithin.l0 kj4 t103 (List.replicate ((t103.length : Int) : Int).toNat false) (y123 ++ t114) 0) else (none))) else (none))) else (none)) else (none)) = some r := H
                  have A18 := Aside0.mk A180
                  clear A180
                  by_cases c19 : 0 ≤ (t103.length : Int)
                  · rw [if_pos c19] at H
                    have c19b0 := eq_true c19
                    have c19b1 : decide (0 ≤ (t103.length : Int)) = true := decide_eq_true c19
                    clear c19
                    by_cases c20 : ((t103.length : Int) : Int).toNat ≤ 281474976710656
                    · rw [if_pos c20] at H
                      have c20b0 := eq_true c20
                      have c20b1 : decide (((t103.length : Int) : Int).toNat ≤ 281474976710656) = true := decide_eq_true c20
                      clear c20
                      obtain ⟨y117, hy117⟩ : ∃ y_ : List Bool, y_ = (List.replicate ((t103.length : Int) : Int).toNat false) := ⟨_, rfl⟩
                      replace H : ((some (([] : List Int) : List Int)).bind fun y120 => (if y120.length + t108.length < 17592186044416 then ((some (y120 ++ t108 : List Int)).bind fun y123 => (if y123.length + t114.length < 17592186044416 then (caesuralaw02_AtomWithin.l0 kj4 t103 y117 (y123 ++ t114) 0) else (none))) else (none))) = some r := by first | (rw [hy117]; with_reducible exact H) | (have H2_ := (Option.bind_some _ _).symm.trans H; rw [hy117]; with_reducible exact H2_) | (have H2_ := (Option.bind_some _ _).symm.trans H; with_reducible exact H2_) | with_reducible exact H | (rw [hy117]; exact H) | exact H
                      have Ny117 := Aside0.mk hy117
                      clear hy117
                      obtain ⟨y120, hy120⟩ : ∃ y_ : List Int, y_ = (([] : List Int)) := ⟨_, rfl⟩
                      replace H : (if y120.length + t108.length < 17592186044416 then ((some (y120 ++ t108 : List Int)).bind fun y123 => (if y123.length + t114.length < 17592186044416 then (caesuralaw02_AtomWithin.l0 kj4 t103 y117 (y123 ++ t114) 0) else (none))) else (none)) = some r := by first | (rw [hy120]; with_reducible exact H) | (have H2_ := (Option.bind_some _ _).symm.trans H; rw [hy120]; with_reducible exact H2_) | (have H2_ := (Option.bind_some _ _).symm.trans H; with_reducible exact H2_) | with_reducible exact H | (rw [hy120]; exact H) | exact H
                      have Ny120 := Aside0.mk hy120
                      clear hy120
                      by_cases c21 : y120.length + t108.length < 17592186044416
                      · rw [if_pos c21] at H
                        have LMc21 := Aside0.mk c21
                        clear c21
                        obtain ⟨y123, hy123⟩ : ∃ y_ : List Int, y_ = (y120 ++ t108) := ⟨_, rfl⟩
                        replace H : (if y123.length + t114.length < 17592186044416 then (caesuralaw02_AtomWithin.l0 kj4 t103 y117 (y123 ++ t114) 0) else (none)) = some r := by first | (rw [hy123]; with_reducible exact H) | (have H2_ := (Option.bind_some _ _).symm.trans H; rw [hy123]; with_reducible exact H2_) | (have H2_ := (Option.bind_some _ _).symm.trans H; with_reducible exact H2_) | with_reducible exact H | (rw [hy123]; exact H) | exact H
                        have Ny123 := Aside0.mk hy123
                        clear hy123
                        by_cases c22 : y123.length + t114.length < 17592186044416
                        · rw [if_pos c22] at H
                          have LMc22 := Aside0.mk c22
                          clear c22
                          obtain ⟨y126, hy126⟩ : ∃ y_ : List Int, y_ = (y123 ++ t114) := ⟨_, rfl⟩
                          replace H : (caesuralaw02_AtomWithin.l0 kj4 t103 y117 y126 0) = some r := by first | (rw [hy126]; with_reducible exact H) | (have H2_ := (Option.bind_some _ _).symm.trans H; rw [hy126]; with_reducible exact H2_) | (have H2_ := (Option.bind_some _ _).symm.trans H; with_reducible exact H2_) | with_reducible exact H | (rw [hy126]; exact H) | exact H
                          have Ny126 := Aside0.mk hy126
                          clear hy126
                          have H' := Aside0.mk H
                          clear H
                          go_wp2_with (first | ((with_reducible refine gate_callee (f := 36) rfl ?_); refine goesL_ (some 26) rfl rfl Try.func36 (by kernel_rfl) rfl #[.slice A0 l0.length c0] rfl (by (try simp only [List.map_toArray, List.map_cons, List.map_nil]); first | done | rfl | (simp only [List.length_drop, List.length_take]; rfl)) ?_; (with_reducible refine (atom_Of.calls _ _ l0 t103 t106 _ ?side1 ?side2 A10.out).mono ?_); (case side1 => repeat (first | exact (Kd.C_below HR0.out HB.out) | (with_reducible refine Kd.C_alloc ?_ _) | (with_reducible refine Kd.C_drewN ?_ _) | (with_reducible refine Kd.C_drew ?_))); (case side2 => exact HC0.out); rintro e w23 ⟨v104, rfl, ho0, hb⟩; refine ⟨_, rfl, ?_⟩; have n0_ := Aside0.mk (Kd.N_lower (Kd.N_mono (ok' := fun k_ => True) ho0 (fun k_ hk_ => trivial)) (below_size (by repeat (first | (with_reducible first | exact HB.out | apply below_alloc | apply pw_below_drewN | apply below_drew1) | exact HB.out)))); have n1_ := Aside0.mk (below_step (by repeat (first | (with_reducible first | exact HB.out | apply below_alloc | apply pw_below_drewN | apply below_drew1) | exact HB.out)) hb); clear HB; have HO105 := n0_; have HB := n1_; clear n0_ n1_; (try clear hb); (try clear hb2); (try clear hk); (try clear hi); (try clear ho0); have p107 : 0 ≤ ((ji13) : Int) := of_decide_eq_true (by first | (with_reducible assumption) | assumption); have q107 : (ji13) < (l0.length : Int) := of_decide_eq_true (by first | (with_reducible assumption) | assumption); obtain ⟨ad107, A107_0, c107_0, e107, hx107_0, hl107_0, hi107_0⟩ := at_L2 HR0.out (ji13) p107 q107; cases e107; replace hx107_0 := (HB.out.cell (World.block_lt_of_cell? w _ hx107_0)).trans hx107_0; have HR107_0 := Aside0.mk hi107_0; have HC107_0 := Aside0.mk hl107_0; clear hi107_0 hl107_0; replace p107 := eq_true p107; replace q107 := eq_true q107; obtain ⟨Ao24, co24, eo24⟩ := Kd.N_slice HO105.out; subst eo24) | ((with_reducible refine gate_callee (f := 39) rfl ?_); refine goesL_ (some 41) rfl rfl Try.func39 (by kernel_rfl) rfl #[.slice Ao24 t103.length co24, .slice A107_0 (rd_L2 l0 (ji13)).length c107_0] rfl (by (try simp only [List.map_toArray, List.map_cons, List.map_nil]); first | done | (simp only [hji13]; rfl) | rfl | (simp only [List.length_drop, List.length_take]; rfl)) ?_; (with_reducible refine (atom_Within.calls kj4 _ _ t103 _ _ (rd_L2 l0 (ji13)) t108 _ ?side1 ?side2 ?side3 ?side4 A16.out).mono ?_); (case side1 => repeat (first | exact (Kd.N_reads' HO105.out).2.2 | (with_reducible refine Kd.C_alloc ?_ _) | (with_reducible refine Kd.C_drewN ?_ _) | (with_reducible refine Kd.C_drew ?_))); (case side2 => exact (Kd.N_reads' HO105.out).2.1); (case side3 => repeat (first | exact (Kd.C_below HR107_0.out HB.out) | (with_reducible refine Kd.C_alloc ?_ _) | (with_reducible refine Kd.C_drewN ?_ _) | (with_reducible refine Kd.C_drew ?_))); (case side4 => exact HC107_0.out); rintro e w25 ⟨v109, rfl, ho0, hb⟩; refine ⟨_, rfl, ?_⟩; have n0_ := Aside0.mk (Kd.N_elder' (by (with_reducible repeat (first | apply Kd.N_alloc | apply Kd.N_drewN | apply Kd.N_drew)); exact HO105.out) (Kd.R_base ho0) hb); have n1_ := Aside0.mk (Kd.R_lower ho0 (below_size (by repeat (first | (with_reducible first | exact HB.out | apply below_alloc | apply pw_below_drewN | apply below_drew1) | exact HB.out)))); have n2_ := Aside0.mk (below_step (by repeat (first | (with_reducible first | exact HB.out | apply below_alloc | apply pw_below_drewN | apply below_drew1) | exact HB.out)) hb); clear HO105; clear HB; have HO105 := n0_; have HO110 := n1_; have HB := n2_; clear n0_ n1_ n2_; (try clear hb); (try clear hb2); (try clear hk); (try clear hi); (try clear ho0)) | ((with_reducible refine gate_callee (f := 21) rfl ?_); refine goesL_ (some 44) rfl rfl Try.func21 (by kernel_rfl) rfl #[.slice A107_0 (rd_L2 l0 (ji13)).length c107_0] rfl (by (try simp only [List.map_toArray, List.map_cons, List.map_nil]); first | done | (simp only [hji13]; rfl) | rfl | (simp only [List.length_drop, List.length_take]; rfl)) ?_; (with_reducible refine (caesuraref01_Not.calls _ _ (rd_L2 l0 (ji13)) t111 _ ?side1 ?side2 A17.out).mono ?_); (case side1 => repeat (first | exact (Kd.C_below HR107_0.out HB.out) | (with_reducible refine Kd.C_alloc ?_ _) | (with_reducible refine Kd.C_drewN ?_ _) | (with_reducible refine Kd.C_drew ?_))); (case side2 => exact HC107_0.out); rintro e w26 ⟨v112, rfl, ho0, hb⟩; refine ⟨_, rfl, ?_⟩; have n0_ := Aside0.mk (Kd.N_elder' (by (with_reducible repeat (first | apply Kd.N_alloc | apply Kd.N_drewN | apply Kd.N_drew)); exact HO105.out) (Kd.R_base ho0) hb); have n1_ := Aside0.mk (Kd.R_below (by (with_reducible repeat (first | apply Kd.R_alloc | apply Kd.R_drewN | apply Kd.R_drew)); exact HO110.out) hb); have n2_ := Aside0.mk (Kd.R_lower ho0 (below_size (by repeat (first | (with_reducible first | exact HB.out | apply below_alloc | apply pw_below_drewN | apply below_drew1) | exact HB.out)))); have n3_ := Aside0.mk (below_step (by repeat (first | (with_reducible first | exact HB.out | apply below_alloc | apply pw_below_drewN | apply below_drew1) | exact HB.out)) hb); clear HO105; clear HO110; clear HB; have HO105 := n0_; have HO110 := n1_; have HO113 := n2_; have HB := n3_; clear n0_ n1_ n2_ n3_; (try clear hb); (try clear hb2); (try clear hk); (try clear hi); (try clear ho0); obtain ⟨Ao27, co27, eo27⟩ := Kd.R_slice HO113.out; subst eo27) | ((with_reducible refine gate_callee (f := 39) rfl ?_); refine goesL_ (some 45) rfl rfl Try.func39 (by kernel_rfl) rfl #[.slice Ao24 t103.length co24, .slice Ao27 t111.length co27] rfl (by (try simp only [List.map_toArray, List.map_cons, List.map_nil]); first | done | rfl | (simp only [List.length_drop, List.length_take]; rfl)) ?_; (with_reducible refine (atom_Within.calls kj4 _ _ t103 _ _ t111 t114 _ ?side1 ?side2 ?side3 ?side4 A18.out).mono ?_); (case side1 => repeat (first | exact (Kd.N_reads' HO105.out).2.2 | (with_reducible refine Kd.C_alloc ?_ _) | (with_reducible refine Kd.C_drewN ?_ _) | (with_reducible refine Kd.C_drew ?_))); (case side2 => exact (Kd.N_reads' HO105.out).2.1); (case side3 => repeat (first | exact (Kd.R_reads' HO113.out).2.2 | (with_reducible refine Kd.C_alloc ?_ _) | (with_reducible refine Kd.C_drewN ?_ _) | (with_reducible refine Kd.C_drew ?_))); (case side4 => exact (Kd.R_reads' HO113.out).2.1); rintro e w28 ⟨v115, rfl, ho0, hb⟩; refine ⟨_, rfl, ?_⟩; have n0_ := Aside0.mk (Kd.N_elder' (by (with_reducible repeat (first | apply Kd.N_alloc | apply Kd.N_drewN | apply Kd.N_drew)); exact HO105.out) (Kd.R_base ho0) hb); have n1_ := Aside0.mk (Kd.R_elder' (by (with_reducible repeat (first | apply Kd.R_alloc | apply Kd.R_drewN | apply Kd.R_drew)); exact HO110.out) (Kd.R_base ho0) hb); have n2_ := Aside0.mk (Kd.R_below (by (with_reducible repeat (first | apply Kd.R_alloc | apply Kd.R_drewN | apply Kd.R_drew)); exact HO113.out) hb); have n3_ := Aside0.mk (Kd.R_lower (Kd.R_new' ho0 (Kd.R_lt (by (with_reducible repeat (first | apply Kd.R_alloc | apply Kd.R_drewN | apply Kd.R_drew)); exact HO110.out))) (below_size (by repeat (first | (with_reducible first | exact HB.out | apply below_alloc | apply pw_below_drewN | apply below_drew1) | exact HB.out)))); have n4_ := Aside0.mk (below_step (by repeat (first | (with_reducible first | exact HB.out | apply below_alloc | apply pw_below_drewN | apply below_drew1) | exact HB.out)) hb); clear HO105; clear HO110; clear HO113; clear HB; have HO105 := n0_; have HO110 := n1_; have HO113 := n2_; have HO116 := n3_; have HB := n4_; clear n0_ n1_ n2_ n3_ n4_; (try clear hb); (try clear hb2); (try clear hk); (try clear hi); (try clear ho0)) | ((with_reducible refine gate_dst (N := 48) rfl ?_); (try (refine gate_guard (by rfl) ?_; dsimp only)); refine Kd.R_make Kd.bool _ 4 rfl (N := 48) rfl 48 _ _ rfl (t103.length : Int) rfl rfl Try.underlying48 (.bool false) 1 info4 rfl (by decide) (by omega) false (ok := fun _ => True) (okp := fun _ => True) rfl (fun _ hk => hk) trivial (of_decide_eq_true (by first | (with_reducible assumption) | assumption)) (Nat.le_trans (Nat.mul_le_mul_right _ (of_decide_eq_true (by first | (with_reducible assumption) | assumption) : (t103.length : Int).toNat ≤ 281474976710656)) (by omega)) (Below.refl _ _) (Nat.le_refl _) ?_; intro v118 w29 ho30 hb hg_ hnew_; clear hg_ hnew_; (first | rw [← Ny117.out] at ho30 | (simp only [Int.reduceToNat] at ho30; rw [← Ny117.out] at ho30)); have n0_ := Aside0.mk (Kd.N_elder' (by (with_reducible repeat (first | apply Kd.N_alloc | apply Kd.N_drewN | apply Kd.N_drew)); exact HO105.out) (Kd.R_base ho30) hb); have n1_ := Aside0.mk (Kd.R_below (by (with_reducible repeat (first | apply Kd.R_alloc | apply Kd.R_drewN | apply Kd.R_drew)); exact HO110.out) hb); have n2_ := Aside0.mk (Kd.R_below (by (with_reducible repeat (first | apply Kd.R_alloc | apply Kd.R_drewN | apply Kd.R_drew)); exact HO113.out) hb); have n3_ := Aside0.mk (Kd.R_below (by (with_reducible repeat (first | apply Kd.R_alloc | apply Kd.R_drewN | apply Kd.R_drew)); exact HO116.out) hb); have n4_ := Aside0.mk (Kd.R_lower ho30 (below_size (by repeat (first | (with_reducible first | exact HB.out | apply below_alloc | apply pw_below_drewN | apply below_drew1) | exact HB.out)))); have n5_ := Aside0.mk (below_step (by repeat (first | (with_reducible first | exact HB.out | apply below_alloc | apply pw_below_drewN | apply below_drew1) | exact HB.out)) hb); clear HO105; clear HO110; clear HO113; clear HO116; clear HB; have HO105 := n0_; have HO110 := n1_; have HO113 := n2_; have HO116 := n3_; have HO119 := n4_; have HB := n5_; clear n0_ n1_ n2_ n3_ n4_ n5_; clear hb ho30) | ((with_reducible refine gate_dst (N := 49) rfl ?_); (try (refine gate_guard (by rfl) ?_; dsimp only)); refine Kd.R_lit (Kd.int .i64) _ 3 ?hg (N := 49) ?hd (xs := ([] : List Int)) (inner := []) (ok := fun _ => True) (okp := fun _ => True) ?hr ?hp (fun _ hk => hk) trivial (Below.refl _ _) (Nat.le_refl _) (by simp) ?_; (case hd => rfl); (case hg => rfl); (case hr => first | (go_simp; done) | (go_simp; rfl)); (case hp => exact (Reps.none _ _)); intro v121 w31 ho32 hb hg_ hnew_; clear hg_ hnew_; (first | rw [← Ny120.out] at ho32 | (simp only [Int.reduceToNat] at ho32; rw [← Ny120.out] at ho32)); have n0_ := Aside0.mk (Kd.N_elder' (by (with_reducible repeat (first | apply Kd.N_alloc | apply Kd.N_drewN | apply Kd.N_drew)); exact HO105.out) (Kd.R_base ho32) hb); have n1_ := Aside0.mk (Kd.R_elder' (by (with_reducible repeat (first | apply Kd.R_alloc | apply Kd.R_drewN | apply Kd.R_drew)); exact HO110.out) (Kd.R_base ho32) hb); have n2_ := Aside0.mk (Kd.R_below (by (with_reducible repeat (first | apply Kd.R_alloc | apply Kd.R_drewN | apply Kd.R_drew)); exact HO113.out) hb); have n3_ := Aside0.mk (Kd.R_elder' (by (with_reducible repeat (first | apply Kd.R_alloc | apply Kd.R_drewN | apply Kd.R_drew)); exact HO116.out) (Kd.R_base ho32) hb); have n4_ := Aside0.mk (Kd.R_below (by (with_reducible repeat (first | apply Kd.R_alloc | apply Kd.R_drewN | apply Kd.R_drew)); exact HO119.out) hb); have n5_ := Aside0.mk (Kd.R_lower (Kd.R_new' (Kd.R_new' ho32 (Kd.R_lt (by (with_reducible repeat (first | apply Kd.R_alloc | apply Kd.R_drewN | apply Kd.R_drew)); exact HO110.out))) (Kd.R_lt (by (with_reducible repeat (first | apply Kd.R_alloc | apply Kd.R_drewN | apply Kd.R_drew)); exact HO116.out))) (below_size (by repeat (first | (with_reducible first | exact HB.out | apply below_alloc | apply pw_below_drewN | apply below_drew1) | exact HB.out)))); have n6_ := Aside0.mk (below_step (by repeat (first | (with_reducible first | exact HB.out | apply below_alloc | apply pw_below_drewN | apply below_drew1) | exact HB.out)) hb); clear HO105; clear HO110; clear HO113; clear HO116; clear HO119; clear HB; have HO105 := n0_; have HO110 := n1_; have HO113 := n2_; have HO116 := n3_; have HO119 := n4_; have HO122 := n5_; have HB := n6_; clear n0_ n1_ n2_ n3_ n4_ n5_ n6_; clear hb ho32; obtain ⟨Ao34, co34, eo34⟩ := Kd.R_slice HO110.out; subst eo34) | ((with_reducible refine gate_builtin (b := .append) (xs := #[.tmp 49, .tmp 50]) rfl ?_); (try (refine gate_guard (by rfl) ?_; dsimp only)); at_builtin; refine Kd.R_append_rows (Kd.int .i64) (w0 := w) w.heap.size rfl (.tmp 49) (.tmp 50) 42 3 (.int .i64 0) 8 rfl Try.underlying42 info3 rfl (by decide) (by omega) v121 y120 t108 _ _ _ (fun k_ => some k_ ≠ (.slice Ao34 t108.length co34 : Value).ownBlock ∧ some k_ ≠ (v115 : Value).ownBlock) (fun _ => False) rfl rfl ?aO ?aR (fun _ _ h => h) (fun _ h => h.elim) ?aF ?aB ?aS ?aL ?_; (case aR => repeat (first | exact (Kd.R_reads' HO110.out).2.2 | (with_reducible refine Kd.C_alloc ?_ _) | (with_reducible refine Kd.C_drewN ?_ _) | (with_reducible refine Kd.C_drew ?_))); (case aB => exact (by repeat (first | (with_reducible first | exact HB.out | apply below_alloc | apply pw_below_drewN | apply below_drew1) | exact HB.out))); (case aF => exact (fun k_ hk => ⟨Kd.fresh' (Kd.R_lt (by (with_reducible repeat (first | apply Kd.R_alloc | apply Kd.R_drewN | apply Kd.R_drew)); exact HO110.out)) k_ hk, Kd.fresh' (Kd.R_lt (by (with_reducible repeat (first | apply Kd.R_alloc | apply Kd.R_drewN | apply Kd.R_drew)); exact HO116.out)) k_ hk⟩)); (case aO => exact (by (with_reducible repeat (first | apply Kd.R_alloc | apply Kd.R_drewN | apply Kd.R_drew)); exact Kd.R_mono HO122.out (fun _ hk => ⟨hk.1.2, hk.2⟩))); (case aS => exact (below_size (by repeat (first | (with_reducible first | exact HB.out | apply below_alloc | apply pw_below_drewN | apply below_drew1) | exact HB.out)))); (case aL => have := LMc21.out; omega); intro v124 w33 ho hb hg hat; rw [← Ny123.out] at ho; have n0_ := Aside0.mk (Kd.N_afterv (ok := (fun k_ => some k_ ≠ (.slice Ao34 t108.length co34 : Value).ownBlock ∧ some k_ ≠ (.slice Ao27 t111.length co27 : Value).ownBlock ∧ some k_ ≠ (v115 : Value).ownBlock ∧ some k_ ≠ (v118 : Value).ownBlock)) (by (with_reducible repeat (first | apply Kd.N_alloc | apply Kd.N_drewN | apply Kd.N_drew)); exact Kd.N_mono HO105.out (fun _ hk => ⟨⟨hk.1.1.1.1.2, ⟨hk.1.1.1.2, ⟨hk.1.1.2, hk.1.2⟩⟩⟩, hk.2⟩)) hg hat); have n1_ := Aside0.mk (Kd.R_after (ok := (fun k_ => some k_ ≠ (v115 : Value).ownBlock)) (by (with_reducible repeat (first | apply Kd.R_alloc | apply Kd.R_drewN | apply Kd.R_drew)); exact Kd.R_mono HO110.out (fun _ hk => ⟨hk.1.2, hk.2⟩)) hg hat); have n2_ := Aside0.mk (Kd.R_over' (by (with_reducible repeat (first | apply Kd.R_alloc | apply Kd.R_drewN | apply Kd.R_drew)); exact HO113.out) (Kd.R_typed (by (with_reducible repeat (first | apply Kd.R_alloc | apply Kd.R_drewN | apply Kd.R_drew)); exact HO122.out)) (by decide) hg); have n3_ := Aside0.mk (Kd.R_after (ok := (fun k_ => some k_ ≠ (.slice Ao34 t108.length co34 : Value).ownBlock)) (by (with_reducible repeat (first | apply Kd.R_alloc | apply Kd.R_drewN | apply Kd.R_drew)); exact Kd.R_mono HO116.out (fun _ hk => ⟨hk.1.2, hk.2⟩)) hg hat); have n4_ := Aside0.mk (Kd.R_over' (by (with_reducible repeat (first | apply Kd.R_alloc | apply Kd.R_drewN | apply Kd.R_drew)); exact HO119.out) (Kd.R_typed (by (with_reducible repeat (first | apply Kd.R_alloc | apply Kd.R_drewN | apply Kd.R_drew)); exact HO122.out)) (by decide) hg); have n5_ := Aside0.mk (hb); have n6_ := Aside0.mk (ho); clear HO105; clear HO110; clear HO113; clear HO116; clear HO119; clear HB; clear HO122; have HO105 := n0_; have HO110 := n1_; have HO113 := n2_; have HO116 := n3_; have HO119 := n4_; have HB := n5_; have HO125 := n6_; clear n0_ n1_ n2_ n3_ n4_ n5_ n6_; clear ho hb hg hat; obtain ⟨Ao36, co36, eo36⟩ := Kd.R_slice HO116.out; subst eo36) | ((with_reducible refine gate_builtin (b := .append) (xs := #[.tmp 51, .tmp 52]) rfl ?_); (try (refine gate_guard (by rfl) ?_; dsimp only)); at_builtin; refine Kd.R_append_rows (Kd.int .i64) (w0 := w) w.heap.size rfl (.tmp 51) (.tmp 52) 42 3 (.int .i64 0) 8 rfl Try.underlying42 info3 rfl (by decide) (by omega) v124 y123 t114 _ _ _ (fun k_ => some k_ ≠ (.slice Ao34 t108.length co34 : Value).ownBlock ∧ some k_ ≠ (.slice Ao36 t114.length co36 : Value).ownBlock) (fun _ => False) rfl rfl ?aO ?aR (fun _ _ h => h) (fun _ h => h.elim) ?aF ?aB ?aS ?aL ?_; (case aR => repeat (first | exact (Kd.R_reads' HO116.out).2.2 | (with_reducible refine Kd.C_alloc ?_ _) | (with_reducible refine Kd.C_drewN ?_ _) | (with_reducible refine Kd.C_drew ?_))); (case aB => exact (by repeat (first | (with_reducible first | exact HB.out | apply below_alloc | apply pw_below_drewN | apply below_drew1) | exact HB.out))); (case aF => exact (fun k_ hk => ⟨Kd.fresh' (Kd.R_lt (by (with_reducible repeat (first | apply Kd.R_alloc | apply Kd.R_drewN | apply Kd.R_drew)); exact HO110.out)) k_ hk, Kd.fresh' (Kd.R_lt (by (with_reducible repeat (first | apply Kd.R_alloc | apply Kd.R_drewN | apply Kd.R_drew)); exact HO116.out)) k_ hk⟩)); (case aO => exact (by (with_reducible repeat (first | apply Kd.R_alloc | apply Kd.R_drewN | apply Kd.R_drew)); exact HO125.out)); (case aS => exact (below_size (by repeat (first | (with_reducible first | exact HB.out | apply below_alloc | apply pw_below_drewN | apply below_drew1) | exact HB.out)))); (case aL => have := LMc22.out; omega); intro v127 w35 ho hb hg hat; rw [← Ny126.out] at ho; have n0_ := Aside0.mk (Kd.N_afterv (ok := (fun k_ => some k_ ≠ (.slice Ao34 t108.length co34 : Value).ownBlock ∧ some k_ ≠ (.slice Ao27 t111.length co27 : Value).ownBlock ∧ some k_ ≠ (.slice Ao36 t114.length co36 : Value).ownBlock ∧ some k_ ≠ (v118 : Value).ownBlock)) (by (with_reducible repeat (first | apply Kd.N_alloc | apply Kd.N_drewN | apply Kd.N_drew)); exact HO105.out) hg hat); have n1_ := Aside0.mk (Kd.R_after (ok := (fun k_ => some k_ ≠ (.slice Ao36 t114.length co36 : Value).ownBlock)) (by (with_reducible repeat (first | apply Kd.R_alloc | apply Kd.R_drewN | apply Kd.R_drew)); exact HO110.out) hg hat); have n2_ := Aside0.mk (Kd.R_over' (by (with_reducible repeat (first | apply Kd.R_alloc | apply Kd.R_drewN | apply Kd.R_drew)); exact HO113.out) (Kd.R_typed (by (with_reducible repeat (first | apply Kd.R_alloc | apply Kd.R_drewN | apply Kd.R_drew)); exact HO125.out)) (by decide) hg); have n3_ := Aside0.mk (Kd.R_after (ok := (fun k_ => some k_ ≠ (.slice Ao34 t108.length co34 : Value).ownBlock)) (by (with_reducible repeat (first | apply Kd.R_alloc | apply Kd.R_drewN | apply Kd.R_drew)); exact HO116.out) hg hat); have n4_ := Aside0.mk (Kd.R_over' (by (with_reducible repeat (first | apply Kd.R_alloc | apply Kd.R_drewN | apply Kd.R_drew)); exact HO119.out) (Kd.R_typed (by (with_reducible repeat (first | apply Kd.R_alloc | apply Kd.R_drewN | apply Kd.R_drew)); exact HO125.out)) (by decide) hg); have n5_ := Aside0.mk (hb); have n6_ := Aside0.mk (ho); clear HO105; clear HO110; clear HO113; clear HO116; clear HO119; clear HB; clear HO125; have HO105 := n0_; have HO110 := n1_; have HO113 := n2_; have HO116 := n3_; have HO119 := n4_; have HB := n5_; have HO128 := n6_; clear n0_ n1_ n2_ n3_ n4_ n5_ n6_; clear ho hb hg hat))
                          go_loopg [12] kj4 (fun kq v12 w' => ∃ (x10_2 : List Bool) (x12_2 : Int), v12 = .int .i64 x12_2 ∧ Aside0 (caesuralaw02_AtomWithin.l0 kq t103 x10_2 y126 x12_2 = some r) ∧ Aside0 (kq ≤ kj4) ∧ Aside0 (Kd.N (Kd.slice 34 k34) 22 w' w.heap.size (fun k_ => some k_ ≠ (v118 : Value).ownBlock ∧ some k_ ≠ (v127 : Value).ownBlock) (.slice Ao24 t103.length co24) t103) ∧ Aside0 (Kd.R Kd.bool 4 w' w.heap.size (fun _ => True) v118 x10_2) ∧ Aside0 (Kd.R (Kd.int .i64) 3 w' w.heap.size (fun _ => True) v127 y126) ∧ Aside0 (Below w.heap.size w w'))
                          case atStart => exact ⟨(y117), (0), (by first | rfl | (simp; done) | (simp [*]; done)), H', ⟨Nat.le_refl _⟩, ⟨by (with_reducible repeat (first | apply Kd.N_alloc | apply Kd.N_drewN | apply Kd.N_drew)); exact Kd.N_mono HO105.out (fun _ hk => ⟨hk.1.2.2.2, hk.2⟩)⟩, ⟨by (with_reducible repeat (first | apply Kd.R_alloc | apply Kd.R_drewN | apply Kd.R_drew)); exact HO119.out⟩, ⟨by (with_reducible repeat (first | apply Kd.R_alloc | apply Kd.R_drewN | apply Kd.R_drew)); exact Kd.R_mono HO128.out (fun _ hk => trivial)⟩, ⟨by repeat (first | (with_reducible first | exact HB.out | apply below_alloc | apply pw_below_drewN | apply below_drew1) | exact HB.out)⟩⟩
                          case round =>
                            clear H'
                            try clear c1
                            try clear p1
                            try clear q1
                            try clear hx1
                            try clear c2
                            try clear p2
                            try clear c3
                            try clear c4
                            try clear p6
                            try clear c8
                            try clear c9
                            try clear c10
                            try clear p10
                            try clear q10
                            try clear hx10
                            try clear c11
                            try clear c11b0
                            try clear c11b1
                            try clear c12
                            try clear c12b0
                            try clear c12b1
                            try clear c12b2
                            try clear c14
                            try clear c14b0
                            try clear c15
                            try clear c15b0
                            try clear c19
                            try clear c19b0
                            try clear c19b1
                            try clear c20
                            try clear c20b0
                            try clear c20b1
                            try clear c21
                            try clear c22
                            try clear c34
                            try clear c35
                            try clear c36
                            try clear hx107_0
                            try clear p107
                            try clear p2
                            try clear q107
                            obtain ⟨x10_2, x12_2, rfl, HA, HK2, HO_5, HO_10, HO_11, HB⟩ := hrel
                            cases gk with
                            | zero => exact absurd HA.out (by simp [caesuralaw02_AtomWithin.l0])
                            | succ k2 =>
                              have H := HA.out
                              clear HA
                              simp only [caesuralaw02_AtomWithin.l0] at H
                              by_cases c37 : x12_2 < (y126.length : Int)
                              · rw [if_pos c37] at H
                                have c37b0 : decide (x12_2 < (y126.length : Int)) = true := decide_eq_true c37
                                clear c37
                                by_cases c38 : 0 ≤ x12_2
                                · rw [if_pos c38] at H
                                  have c38b0 : decide (0 ≤ x12_2) = true := decide_eq_true c38
                                  clear c38
                                  by_cases c39 : (rd y126 x12_2) < 0
                                  · rw [if_pos c39] at H
                                    have c39b0 : decide ((rd y126 x12_2) < 0) = true := decide_eq_true c39
                                    clear c39
                                    exact absurd ((Option.some.inj H).trans hrt_.out) (by decide)
                                  · rw [if_neg c39] at H
                                    have c39b0 : decide ((rd y126 x12_2) < 0) = false := decide_eq_false c39
                                    clear c39
                                    by_cases c40 : (rd y126 x12_2) ≥ (t103.length : Int)
                                    · rw [if_pos c40] at H
                                      have c40b0 : decide ((t103.length : Int) ≤ (rd y126 x12_2)) = true := decide_eq_true c40
                                      clear c40
                                      exact absurd ((Option.some.inj H).trans hrt_.out) (by decide)
                                    · rw [if_neg c40] at H
                                      have c40b0 : decide ((t103.length : Int) ≤ (rd y126 x12_2)) = false := decide_eq_false c40
                                      clear c40
                                      by_cases c41 : 0 ≤ (rd y126 x12_2)
                                      · rw [if_pos c41] at H
                                        have c41b0 : decide (0 ≤ (rd y126 x12_2)) = true := decide_eq_true c41
                                        clear c41
                                        by_cases c42 : (rd y126 x12_2) < (x10_2.length : Int)
                                        · rw [if_pos c42] at H
                                          have c42b0 : decide ((rd y126 x12_2) < (x10_2.length : Int)) = true := decide_eq_true c42
                                          clear c42
                                          obtain ⟨bq43, hbq43⟩ : ∃ b_ : Bool, b_ = (rdOf false x10_2 (rd y126 x12_2)) := ⟨_, rfl⟩
                                          replace H : (if bq43 = true then (some false) else (caesuralaw02_AtomWithin.l0 k2 t103 (x10_2.set ((rd y126 x12_2) : Int).toNat true) y126 (wrap64 (x12_2 + 1)))) = some r := by rw [← hbq43] at H; exact H
                                          have Nbq43 := Aside0.mk hbq43
                                          clear hbq43
                                          by_cases c44 : bq43 = true
                                          · subst c44
                                            have H1 : (some false) = some r := by rw [if_pos rfl] at H; exact H
                                            clear H
                                            have H := H1
                                            clear H1
                                            exact absurd ((Option.some.inj H).trans hrt_.out) (by decide)
                                          · replace c44 := Bool.eq_false_iff.mpr c44
                                            subst c44
                                            have H1 : (caesuralaw02_AtomWithin.l0 k2 t103 (x10_2.set ((rd y126 x12_2) : Int).toNat true) y126 (wrap64 (x12_2 + 1))) = some r := by rw [if_neg (show ¬ (false = true) by decide)] at H; exact H
                                            clear H
                                            have H := H1
                                            clear H1
                                            obtain ⟨y134, hy134⟩ : ∃ y_ : List Bool, y_ = (x10_2.set ((rd y126 x12_2) : Int).toNat true) := ⟨_, rfl⟩
                                            replace H : (caesuralaw02_AtomWithin.l0 k2 t103 y134 y126 (wrap64 (x12_2 + 1))) = some r := by first | (rw [hy134]; with_reducible exact H) | (have H2_ := (Option.bind_some _ _).symm.trans H; rw [hy134]; with_reducible exact H2_) | (have H2_ := (Option.bind_some _ _).symm.trans H; with_reducible exact H2_) | with_reducible exact H | (rw [hy134]; exact H) | exact H
                                            have Ny134 := Aside0.mk hy134
                                            clear hy134
                                            have H' := Aside0.mk H
                                            clear H
                                            obtain ⟨Ao46, co46, eo46⟩ := Kd.R_slice HO_11.out
                                            subst eo46
                                            have p129 : 0 ≤ (x12_2 : Int) := of_decide_eq_true (by first | (with_reducible assumption) | assumption)
                                            have q129 : x12_2 < (y126.length : Int) := of_decide_eq_true (by first | (with_reducible assumption) | assumption)
                                            obtain ⟨ad129, e129, hx129_0⟩ := Kd.at_int (Kd.R_reads' HO_11.out).2.2 x12_2 p129 q129
                                            cases e129
                                            replace p129 := eq_true p129
                                            replace q129 := eq_true q129
                                            have p130 : 0 ≤ (x12_2 : Int) := of_decide_eq_true (by first | (with_reducible assumption) | assumption)
                                            have q130 : x12_2 < (y126.length : Int) := of_decide_eq_true (by first | (with_reducible assumption) | assumption)
                                            obtain ⟨ad130, e130, hx130_0⟩ := Kd.at_int (Kd.R_reads' HO_11.out).2.2 x12_2 p130 q130
                                            obtain rfl : ad129 = ad130 := (by injection e130)
                                            replace p130 := eq_true p130
                                            replace q130 := eq_true q130
                                            have p131 : 0 ≤ (x12_2 : Int) := of_decide_eq_true (by first | (with_reducible assumption) | assumption)
                                            have q131 : x12_2 < (y126.length : Int) := of_decide_eq_true (by first | (with_reducible assumption) | assumption)
                                            obtain ⟨ad131, e131, hx131_0⟩ := Kd.at_int (Kd.R_reads' HO_11.out).2.2 x12_2 p131 q131
                                            obtain rfl : ad129 = ad131 := (by injection e131)
                                            replace p131 := eq_true p131
                                            replace q131 := eq_true q131
                                            obtain ⟨Ao47, co47, eo47⟩ := Kd.R_slice HO_10.out
                                            subst eo47
                                            have p132 : 0 ≤ ((rd y126 x12_2) : Int) := of_decide_eq_true (by first | (with_reducible assumption) | assumption)
                                            have q132 : (rd y126 x12_2) < (x10_2.length : Int) := of_decide_eq_true (by first | (with_reducible assumption) | assumption)
                                            obtain ⟨ad132, e132, hx132_0⟩ := Kd.at_bool (Kd.R_reads' HO_10.out).2.2 (rd y126 x12_2) p132 q132
                                            (try rw [← Nbq43.out] at hx132_0)
                                            cases e132
                                            replace p132 := eq_true p132
                                            replace q132 := eq_true q132
                                            have p133 : 0 ≤ (x12_2 : Int) := of_decide_eq_true (by first | (with_reducible assumption) | assumption)
                                            have q133 : x12_2 < (y126.length : Int) := of_decide_eq_true (by first | (with_reducible assumption) | assumption)
                                            obtain ⟨ad133, e133, hx133_0⟩ := Kd.at_int (Kd.R_reads' HO_11.out).2.2 x12_2 p133 q133
                                            obtain rfl : ad129 = ad133 := (by injection e133)
                                            replace p133 := eq_true p133
                                            replace q133 := eq_true q133
                                            have p45 : 0 ≤ ((rd y126 x12_2) : Int) := of_decide_eq_true (by first | (with_reducible assumption) | assumption)
                                            have q45 : ((rd y126 x12_2) : Int) < ((x10_2.length : Int) : Int) := of_decide_eq_true (by first | (with_reducible assumption) | assumption)
                                            obtain ⟨go45, co45, eo45, gb45, gl45, cl45, HG45⟩ := Kd.R_form HO_10.out (by omega)
                                            (first | cases eo45 | (injection eo45 with ea_ en_ ec_; (first | subst ea_ | (injection ea_ with ea_; subst ea_)); subst ec_; clear en_))
                                            have GB45 := Aside0.mk gb45
                                            have GG45 := Aside0.mk HG45
                                            clear gb45 gl45 HG45
                                            (first | simp only [add_plain] at hx132_0 | skip)
                                            obtain ⟨hx45_0, hf45_0⟩ := Kd.R_celln false HO_10.out ((rd y126 x12_2) : Int) p45 q45
                                            replace p45 := eq_true p45
                                            replace q45 := eq_true q45
                                            have HP48 := Kd.R_putg HO_10.out ((rd y126 x12_2) : Int) true
                                            go_wp2_with (first | ((with_reducible refine gate_store (t := 4) (p := 88) rfl ?_); refine store_event (t := 4) (p := 88) (v := ?vo_w49) (w1 := (wr.setCell ⟨go45, ((rd y126 x12_2) : Int).toNat, none⟩ (.bool true))) ?hg ?ho ?hn ?hr ?_; (case ho => rfl); (case hg => rfl); (case hn => rfl); (case hr => first | (go_simp; done) | (go_simp; rfl)); intro w49 hw; have hg : wr.grownBy w49 (some go45) := (by rw [hw]; exact HP48.2); have hp_ : Kd.R Kd.bool 4 w49 w.heap.size (fun _ => True) (.slice (some ⟨go45, 0, none⟩) x10_2.length co47) y134 := (by rw [hw, Ny134.out]; exact HP48.1); clear HP48; have n0_ := Aside0.mk (Kd.N_afterv (v := (.slice (some ⟨go45, 0, none⟩) x10_2.length co47)) (v1 := (.slice (some ⟨go45, 0, none⟩) x10_2.length co47)) (ok := (fun k_ => some k_ ≠ (.slice (some ad129) y126.length co46 : Value).ownBlock)) (by (with_reducible repeat (first | apply Kd.N_alloc | apply Kd.N_drewN | apply Kd.N_drew)); exact Kd.N_mono HO_5.out (fun _ hk => ⟨hk.2, hk.1⟩)) hg (.inl rfl)); have n1_ := Aside0.mk (hp_); have n2_ := Aside0.mk (Kd.R_over' (v := (.slice (some ⟨go45, 0, none⟩) x10_2.length co47)) (by (with_reducible repeat (first | apply Kd.R_alloc | apply Kd.R_drewN | apply Kd.R_drew)); exact HO_11.out) (Kd.R_typed HO_10.out) (by decide) hg); have n3_ := Aside0.mk ((by rw [hw]; exact below_set (HB.out) GB45.out : Below w.heap.size w w49)); clear HO_5; clear HO_10; clear HO_11; clear HB; have HO_5 := n0_; have HO_10 := n1_; have HO_11 := n2_; have HB := n3_; clear n0_ n1_ n2_ n3_; clear hg hw hp_))
                                            go_roundg k2
                                            case measure => have := HJ4.out; have := HK2.out; omega
                                            case rel => exact ⟨(y134), (wrap64 (x12_2 + 1)), (by first | rfl | (simp; done) | (simp [*]; done)), H', ⟨by have := HJ4.out; have := HK2.out; omega⟩, ⟨by (with_reducible repeat (first | apply Kd.N_alloc | apply Kd.N_drewN | apply Kd.N_drew)); exact Kd.N_mono HO_5.out (fun _ hk => ⟨hk.2, hk.1⟩)⟩, ⟨by (with_reducible repeat (first | apply Kd.R_alloc | apply Kd.R_drewN | apply Kd.R_drew)); exact HO_10.out⟩, ⟨by (with_reducible repeat (first | apply Kd.R_alloc | apply Kd.R_drewN | apply Kd.R_drew)); exact HO_11.out⟩, ⟨by repeat (first | (with_reducible first | exact HB.out | apply below_alloc | apply pw_below_drewN | apply below_drew1) | exact HB.out)⟩⟩
                                        · rw [if_neg c42] at H
                                          exact absurd H (by simp)
                                      · rw [if_neg c41] at H
                                        exact absurd H (by simp)
                                · rw [if_neg c38] at H
                                  exact absurd H (by simp)
                              · rw [if_neg c37] at H
                                have c37b0 : decide (x12_2 < (y126.length : Int)) = false := decide_eq_false c37
                                clear c37
                                replace H := Option.bind_eq_some_iff.mp H
                                obtain ⟨t135, A500, H⟩ := H
                                replace H : (caesuralaw02_AtomWithin.l1 k2 t103 y126 t135 0) = some r := H
                                have A50 := Aside0.mk A500
                                clear A500
                                have H' := Aside0.mk H
                                clear H
                                obtain ⟨Ao51, co51, eo51⟩ := Kd.R_slice HO_11.out
                                subst eo51
                                go_wp2_with (first | ((with_reducible refine gate_callee (f := 41) rfl ?_); refine goesL_ (some 90) rfl rfl Try.func41 (by kernel_rfl) rfl #[.slice Ao24 t103.length co24] rfl (by (try simp only [List.map_toArray, List.map_cons, List.map_nil]); first | done | rfl | (simp only [List.length_drop, List.length_take]; rfl)) ?_; (with_reducible refine (atom_Firsts.calls k2 _ _ t103 t135 _ ?side1 ?side2 A50.out).mono ?_); (case side1 => repeat (first | exact (Kd.N_reads' HO_5.out).2.2 | (with_reducible refine Kd.C_alloc ?_ _) | (with_reducible refine Kd.C_drewN ?_ _) | (with_reducible refine Kd.C_drew ?_))); (case side2 => exact (Kd.N_reads' HO_5.out).2.1); rintro e w52 ⟨v136, rfl, ho0, hb⟩; refine ⟨_, rfl, ?_⟩; have n0_ := Aside0.mk (Kd.N_elder' (by (with_reducible repeat (first | apply Kd.N_alloc | apply Kd.N_drewN | apply Kd.N_drew)); exact HO_5.out) (Kd.R_base ho0) hb); have n1_ := Aside0.mk (Kd.R_below (by (with_reducible repeat (first | apply Kd.R_alloc | apply Kd.R_drewN | apply Kd.R_drew)); exact HO_10.out) hb); have n2_ := Aside0.mk (Kd.R_elder' (by (with_reducible repeat (first | apply Kd.R_alloc | apply Kd.R_drewN | apply Kd.R_drew)); exact HO_11.out) (Kd.R_base ho0) hb); have n3_ := Aside0.mk (Kd.R_lower (Kd.R_new' ho0 (Kd.R_lt (by (with_reducible repeat (first | apply Kd.R_alloc | apply Kd.R_drewN | apply Kd.R_drew)); exact HO_11.out))) (below_size (by repeat (first | (with_reducible first | exact HB.out | apply below_alloc | apply pw_below_drewN | apply below_drew1) | exact HB.out)))); have n4_ := Aside0.mk (below_step (by repeat (first | (with_reducible first | exact HB.out | apply below_alloc | apply pw_below_drewN | apply below_drew1) | exact HB.out)) hb); clear HO_5; clear HO_10; clear HO_11; clear HB; have HO_5 := n0_; have HO_10 := n1_; have HO_11 := n2_; have HO137 := n3_; have HB := n4_; clear n0_ n1_ n2_ n3_ n4_; (try clear hb); (try clear hb2); (try clear hk); (try clear hi); (try clear ho0)))
                                go_loopg [14] k2 (fun kq v14 w' => ∃ (x14_3 : Int), v14 = .int .i64 x14_3 ∧ Aside0 (caesuralaw02_AtomWithin.l1 kq t103 y126 t135 x14_3 = some r) ∧ Aside0 (kq ≤ k2) ∧ Aside0 (Kd.N (Kd.slice 34 k34) 22 w' w.heap.size (fun k_ => some k_ ≠ ((.slice Ao51 y126.length co51) : Value).ownBlock ∧ some k_ ≠ (v136 : Value).ownBlock) (.slice Ao24 t103.length co24) t103) ∧ Aside0 (Kd.R (Kd.int .i64) 3 w' w.heap.size (fun k_ => some k_ ≠ (v136 : Value).ownBlock) (.slice Ao51 y126.length co51) y126) ∧ Aside0 (Kd.R (Kd.int .i64) 3 w' w.heap.size (fun k_ => some k_ ≠ ((.slice Ao51 y126.length co51) : Value).ownBlock) v136 t135) ∧ Aside0 (Below w.heap.size w w'))
                                case atStart => exact ⟨(0), (by first | rfl | (simp; done) | (simp [*]; done)), H', ⟨Nat.le_refl _⟩, ⟨by (with_reducible repeat (first | apply Kd.N_alloc | apply Kd.N_drewN | apply Kd.N_drew)); exact Kd.N_mono HO_5.out (fun _ hk => ⟨hk.1.2, hk.2⟩)⟩, ⟨by (with_reducible repeat (first | apply Kd.R_alloc | apply Kd.R_drewN | apply Kd.R_drew)); exact Kd.R_mono HO_11.out (fun _ hk => hk.2)⟩, ⟨by (with_reducible repeat (first | apply Kd.R_alloc | apply Kd.R_drewN | apply Kd.R_drew)); exact Kd.R_mono HO137.out (fun _ hk => hk.2)⟩, ⟨by repeat (first | (with_reducible first | exact HB.out | apply below_alloc | apply pw_below_drewN | apply below_drew1) | exact HB.out)⟩⟩
                                case round =>
                                  clear H'
                                  try clear c1
                                  try clear p1
                                  try clear q1
                                  try clear hx1
                                  try clear c2
                                  try clear p2
                                  try clear c3
                                  try clear c4
                                  try clear p4
                                  try clear q4
                                  try clear hx4
                                  try clear hf4
                                  try clear p6
                                  try clear c8
                                  try clear c9
                                  try clear c10
                                  try clear p10
                                  try clear q10
                                  try clear hx10
                                  try clear c11
                                  try clear c11b0
                                  try clear c11b1
                                  try clear c12
                                  try clear c12b0
                                  try clear c12b1
                                  try clear c12b2
                                  try clear p12
                                  try clear q12
                                  try clear hx12
                                  try clear p13
                                  try clear q13
                                  try clear hx13
                                  try clear c14
                                  try clear c14b0
                                  try clear c15
                                  try clear c15b0
                                  try clear c19
                                  try clear c19b0
                                  try clear c19b1
                                  try clear c20
                                  try clear c20b0
                                  try clear c20b1
                                  try clear c21
                                  try clear c22
                                  try clear c34
                                  try clear c35
                                  try clear c36
                                  try clear c37
                                  try clear c37b0
                                  try clear c38
                                  try clear c38b0
                                  try clear c39
                                  try clear c39b0
                                  try clear c40
                                  try clear c40b0
                                  try clear c41
                                  try clear c41b0
                                  try clear c42
                                  try clear c42b0
                                  try clear q43
                                  try clear c44
                                  try clear p45
                                  try clear q45
                                  try clear hx45
                                  try clear hf45
                                  try clear hx107_0
                                  try clear hx129_0
                                  try clear hx130_0
                                  try clear hx131_0
                                  try clear hx132_0
                                  try clear hx133_0
                                  try clear hx45_0
                                  try clear p1
                                  try clear p10
                                  try clear p107
                                  try clear p129
                                  try clear p130
                                  try clear p131
                                  try clear p132
                                  try clear p133
                                  try clear p2
                                  try clear p45
                                  try clear p6
                                  try clear q1
                                  try clear q10
                                  try clear q107
                                  try clear q129
                                  try clear q130
                                  try clear q131
                                  try clear q132
                                  try clear q133
                                  try clear q45
                                  obtain ⟨x14_3, rfl, HA, HK3, HO_5, HO_11, HO_13, HB⟩ := hrel
                                  cases gk with
                                  | zero => exact absurd HA.out (by simp [caesuralaw02_AtomWithin.l1])
                                  | succ k3 =>
                                    have H := HA.out
                                    clear HA
                                    simp only [caesuralaw02_AtomWithin.l1] at H
                                    by_cases c53 : x14_3 < (t135.length : Int)
                                    · rw [if_pos c53] at H
                                      have c53b0 : decide (x14_3 < (t135.length : Int)) = true := decide_eq_true c53
                                      clear c53
                                      by_cases c54 : 0 ≤ x14_3
                                      · rw [if_pos c54] at H
                                        have c54b0 : decide (0 ≤ x14_3) = true := decide_eq_true c54
                                        clear c54
                                        replace H := Option.bind_eq_some_iff.mp H
                                        obtain ⟨t139, A550, H⟩ := H
                                        replace H : (if t139 = x14_3 then (caesuralaw02_AtomWithin.l1 k3 t103 y126 t135 (wrap64 (x14_3 + 1))) else (some false)) = some r := H
                                        have A55 := Aside0.mk A550
                                        clear A550
                                        by_cases c56 : t139 = x14_3
                                        · rw [if_pos c56] at H
                                          have c56b0 : (t139 == x14_3) = true := beq_iff_eq.mpr c56
                                          have c56b1 : (t139 != x14_3) = false := bne_eq_false_iff_eq.mpr c56
                                          clear c56
                                          have H' := Aside0.mk H
                                          clear H
                                          obtain ⟨Ao57, co57, eo57⟩ := Kd.R_slice HO_13.out
                                          subst eo57
                                          have p138 : 0 ≤ (x14_3 : Int) := of_decide_eq_true (by first | (with_reducible assumption) | assumption)
                                          have q138 : x14_3 < (t135.length : Int) := of_decide_eq_true (by first | (with_reducible assumption) | assumption)
                                          obtain ⟨ad138, e138, hx138_0⟩ := Kd.at_int (Kd.R_reads' HO_13.out).2.2 x14_3 p138 q138
                                          cases e138
                                          replace p138 := eq_true p138
                                          replace q138 := eq_true q138
                                          go_wp2_with (first | ((with_reducible refine gate_callee (f := 38) rfl ?_); refine goesL_ (some 102) rfl rfl Try.func38 (by kernel_rfl) rfl #[.slice Ao24 t103.length co24, .int .i64 (rd t135 x14_3)] rfl (by (try simp only [List.map_toArray, List.map_cons, List.map_nil]); first | done | rfl | (simp only [List.length_drop, List.length_take]; rfl)) ?_; (with_reducible refine (atom_Class.calls _ _ t103 (rd t135 x14_3) t139 _ ?side1 ?side2 A55.out).mono ?_); (case side1 => repeat (first | exact (Kd.N_reads' HO_5.out).2.2 | (with_reducible refine Kd.C_alloc ?_ _) | (with_reducible refine Kd.C_drewN ?_ _) | (with_reducible refine Kd.C_drew ?_))); (case side2 => exact (Kd.N_reads' HO_5.out).2.1); rintro e w58 ⟨rfl, hb⟩; refine ⟨_, rfl, ?_⟩; have n0_ := Aside0.mk (Kd.N_below (by (with_reducible repeat (first | apply Kd.N_alloc | apply Kd.N_drewN | apply Kd.N_drew)); exact HO_5.out) hb); have n1_ := Aside0.mk (Kd.R_below (by (with_reducible repeat (first | apply Kd.R_alloc | apply Kd.R_drewN | apply Kd.R_drew)); exact HO_11.out) hb); have n2_ := Aside0.mk (Kd.R_below (by (with_reducible repeat (first | apply Kd.R_alloc | apply Kd.R_drewN | apply Kd.R_drew)); exact HO_13.out) hb); have n3_ := Aside0.mk (below_step (by repeat (first | (with_reducible first | exact HB.out | apply below_alloc | apply pw_below_drewN | apply below_drew1) | exact HB.out)) hb); clear HO_5; clear HO_11; clear HO_13; clear HB; have HO_5 := n0_; have HO_11 := n1_; have HO_13 := n2_; have HB := n3_; clear n0_ n1_ n2_ n3_; (try clear hb); (try clear hb2); (try clear hk); (try clear hi)))
                                          go_roundg k3
                                          case measure => have := HJ4.out; have := HK2.out; have := HK3.out; omega
                                          case rel => exact ⟨(wrap64 (x14_3 + 1)), (by first | rfl | (simp; done) | (simp [*]; done)), H', ⟨by have := HJ4.out; have := HK2.out; have := HK3.out; omega⟩, ⟨by (with_reducible repeat (first | apply Kd.N_alloc | apply Kd.N_drewN | apply Kd.N_drew)); exact HO_5.out⟩, ⟨by (with_reducible repeat (first | apply Kd.R_alloc | apply Kd.R_drewN | apply Kd.R_drew)); exact HO_11.out⟩, ⟨by (with_reducible repeat (first | apply Kd.R_alloc | apply Kd.R_drewN | apply Kd.R_drew)); exact HO_13.out⟩, ⟨by repeat (first | (with_reducible first | exact HB.out | apply below_alloc | apply pw_below_drewN | apply below_drew1) | exact HB.out)⟩⟩
                                        · rw [if_neg c56] at H
                                          have c56b0 : (t139 == x14_3) = false := beq_eq_false_iff_ne.mpr c56
                                          have c56b1 : (t139 != x14_3) = true := bne_iff_ne.mpr c56
                                          exact absurd ((Option.some.inj H).trans hrt_.out) (by decide)
                                      · rw [if_neg c54] at H
                                        exact absurd H (by simp)
                                    · rw [if_neg c53] at H
                                      have c53b0 : decide (x14_3 < (t135.length : Int)) = false := decide_eq_false c53
                                      clear c53
                                      obtain rfl := Option.some.inj H
                                      obtain ⟨Ao59, co59, eo59⟩ := Kd.R_slice HO_13.out
                                      subst eo59
                                      go_wp2
                                      go_ret
                                      exact ⟨by first | rfl | (simp [errW_none, errW_some] <;> rfl) | (simp only [← hji13]; first | rfl | (simp [errW_none, errW_some] <;> rfl)) | (simp [*, errW_none, errW_some] <;> rfl), by repeat (first | (with_reducible first | exact HB.out | apply below_alloc | apply pw_below_drewN | apply below_drew1) | exact HB.out)⟩
                        · rw [if_neg c22] at H
                          exact absurd H (by simp)
                      · rw [if_neg c21] at H
                        exact absurd H (by simp)
                    · rw [if_neg c20] at H
                      exact absurd H (by simp)
                  · rw [if_neg c19] at H
                    exact absurd H (by simp)
                · rw [if_neg c15] at H
                  exact absurd H (by simp)
              · rw [if_neg c14] at H
                exact absurd H (by simp)
          · rw [if_neg c11] at H
            have c11b0 : (t106 == 0) = false := beq_eq_false_iff_ne.mpr c11
            have c11b1 : (t106 != 0) = true := bne_iff_ne.mpr c11
            obtain rfl := Option.some.inj H
            go_wp2_with (first | ((with_reducible refine gate_callee (f := 36) rfl ?_); refine goesL_ (some 26) rfl rfl Try.func36 (by kernel_rfl) rfl #[.slice A0 l0.length c0] rfl (by (try simp only [List.map_toArray, List.map_cons, List.map_nil]); first | done | rfl | (simp only [List.length_drop, List.length_take]; rfl)) ?_; (with_reducible refine (atom_Of.calls _ _ l0 t103 t106 _ ?side1 ?side2 A10.out).mono ?_); (case side1 => repeat (first | exact (Kd.C_below HR0.out HB.out) | (with_reducible refine Kd.C_alloc ?_ _) | (with_reducible refine Kd.C_drewN ?_ _) | (with_reducible refine Kd.C_drew ?_))); (case side2 => exact HC0.out); rintro e w60 ⟨v104, rfl, ho0, hb⟩; refine ⟨_, rfl, ?_⟩; have n0_ := Aside0.mk (Kd.N_lower (Kd.N_mono (ok' := fun k_ => True) ho0 (fun k_ hk_ => trivial)) (below_size (by repeat (first | (with_reducible first | exact HB.out | apply below_alloc | apply pw_below_drewN | apply below_drew1) | exact HB.out)))); have n1_ := Aside0.mk (below_step (by repeat (first | (with_reducible first | exact HB.out | apply below_alloc | apply pw_below_drewN | apply below_drew1) | exact HB.out)) hb); clear HB; have HO105 := n0_; have HB := n1_; clear n0_ n1_; (try clear hb); (try clear hb2); (try clear hk); (try clear hi); (try clear ho0)))
            go_ret
            exact ⟨by first | rfl | (simp [errW_none, errW_some] <;> rfl) | (simp [*, errW_none, errW_some] <;> rfl), by repeat (first | (with_reducible first | exact HB.out | apply below_alloc | apply pw_below_drewN | apply below_drew1) | exact HB.out)⟩
  · replace c4 := Bool.eq_false_iff.mpr c4
    subst c4
    have H1 : (some false) = some r := by rw [if_neg (show ¬ (false = true) by decide)] at H; exact H
    clear H
    have H := H1
    clear H1
    exact absurd ((Option.some.inj H).trans hrt_.out) (by decide)

end
end Go.Proofs.Ytippkbgeeeimjaa.AW
