-- Printed by a program of this session (over the kit's print).
import Derived.Test.YtippkbgeeeimjaaCSpanFirstsx0
namespace Go.Proofs.Ytippkbgeeeimjaa.CSpanFirsts
open Go.RowKit Go.Proofs.YtippkbgeeeimjaaW.PrintWords Go.Proofs.YtippkbgeeeimjaaW.PrintLast Go.Proofs.YtippkbgeeeimjaaW.PrintMore Go.Proofs.Ytippkbgeeeimjaa.A Go.Proofs.Ytippkbgeeeimjaa.L Go.Proofs.Ytippkbgeeeimjaa.B
attribute [local go_sem] max2_int min2_int max_two min_two max_three min_three max_four min_four   -- for this text's walks alone
set_option linter.unusedVariables false
set_option linter.unusedSimpArgs false

/-! ### caesuralaw01_SpanFirsts: function 6 -/
def caesuralaw01_SpanFirsts.f (k : Nat) (l0 : List (S34)) (a1 : Int) : Option (Bool) := (caesuralaw01_alive.f).bind fun t101 => (if t101 = true then (if (l0.length : Int) > 300 then (some true) else ((span_First.f k l0).bind fun t102 => (if t102 < 0 then (if t102 = (-1) then ((span_Size.f k l0).bind fun t103 => (if t103 = 0 then ((span_Has.f l0 a1).bind fun t104 => (some (!t104))) else (some false))) else (some false)) else ((some (([(⟨t102, t102⟩ : S34)] : List (S34)) : List (S34))).bind fun y105 => ((span_Has.f l0 t102).bind fun t108 => (if t108 = true then (if a1 ≥ t102 then ((span_Less.f l0 y105).bind fun t109 => ((span_Size.f k t109).bind fun t112 => ((span_Size.f k l0).bind fun t113 => (if t112 = (wrap64 (t113 - 1)) then ((span_Size.f k y105).bind fun t114 => (some (t114 == 1))) else (some false))))) else ((span_Has.f l0 a1).bind fun t115 => (if t115 = true then (some false) else ((span_Less.f l0 y105).bind fun t116 => ((span_Size.f k t116).bind fun t119 => ((span_Size.f k l0).bind fun t120 => (if t119 = (wrap64 (t120 - 1)) then ((span_Size.f k y105).bind fun t121 => (some (t121 == 1))) else (some false)))))))) else (some false))))))) else (some false))
theorem caesuralaw01_SpanFirsts.mono : ∀ a0 a1 k, LeO (caesuralaw01_SpanFirsts.f k a0 a1) (caesuralaw01_SpanFirsts.f (k + 1) a0 a1) := by
  intro a0 a1 k
  unfold caesuralaw01_SpanFirsts.f
  repeat' first
      | (with_reducible exact span_First.mono _ _)
      | (with_reducible exact span_Size.mono _ _)
      | (with_reducible exact LeO.refl _)
      | (with_reducible exact LeO.none _)
      | (with_reducible refine LeO.ite ?_ ?_)
      | (with_reducible refine LeO.bind ?_ (fun _ => ?_))
      | exact span_First.mono _ _
      | exact span_Size.mono _ _
      | exact LeO.none _
      | refine LeO.ite ?_ ?_
      | refine LeO.bind ?_ (fun _ => ?_)
set_option maxHeartbeats 8000000 in
set_option maxRecDepth 100000 in
theorem caesuralaw01_SpanFirsts.calls (k : Nat) (A0 : Option Addr) (c0 : Nat) (l0 : List (S34)) (a1 : Int) (r : Bool) (w : World) (hr0 : Kd.C k34 w A0 l0.length l0) (hc0 : l0.length ≤ c0) (h : caesuralaw01_SpanFirsts.f k l0 a1 = some r) (hrt_ : Aside0 (r = true)) :
    Calls Try.prog 6 #[.slice A0 l0.length c0, .int .i64 a1] w fun e w' => e = .returned (.bool r) ∧ Below w.heap.size w w' := by
  have hu34 := Try.underlying34
  have HR0 := Aside0.mk hr0
  have HC0 := Aside0.mk hc0
  clear hr0 hc0
  have HB := Aside0.mk (Below.refl w.heap.size w)
  have H : ((caesuralaw01_alive.f).bind fun t101 => (if t101 = true then (if (l0.length : Int) > 300 then (some true) else ((span_First.f k l0).bind fun t102 => (if t102 < 0 then (if t102 = (-1) then ((span_Size.f k l0).bind fun t103 => (if t103 = 0 then ((span_Has.f l0 a1).bind fun t104 => (some (!t104))) else (some false))) else (some false)) else ((some (([(⟨t102, t102⟩ : S34)] : List (S34)) : List (S34))).bind fun y105 => ((span_Has.f l0 t102).bind fun t108 => (if t108 = true then (if a1 ≥ t102 then ((span_Less.f l0 y105).bind fun t109 => ((span_Size.f k t109).bind fun t112 => ((span_Size.f k l0).bind fun t113 => (if t112 = (wrap64 (t113 - 1)) then ((span_Size.f k y105).bind fun t114 => (some (t114 == 1))) else (some false))))) else ((span_Has.f l0 a1).bind fun t115 => (if t115 = true then (some false) else ((span_Less.f l0 y105).bind fun t116 => ((span_Size.f k t116).bind fun t119 => ((span_Size.f k l0).bind fun t120 => (if t119 = (wrap64 (t120 - 1)) then ((span_Size.f k y105).bind fun t121 => (some (t121 == 1))) else (some false)))))))) else (some false))))))) else (some false))) = some r := h
  clear h
  replace H := Option.bind_eq_some_iff.mp H
  obtain ⟨t101, A30, H⟩ := H
  replace H : (if t101 = true then (if (l0.length : Int) > 300 then (some true) else ((span_First.f k l0).bind fun t102 => (if t102 < 0 then (if t102 = (-1) then ((span_Size.f k l0).bind fun t103 => (if t103 = 0 then ((span_Has.f l0 a1).bind fun t104 => (some (!t104))) else (some false))) else (some false)) else ((some (([(⟨t102, t102⟩ : S34)] : List (S34)) : List (S34))).bind fun y105 => ((span_Has.f l0 t102).bind fun t108 => (if t108 = true then (if a1 ≥ t102 then ((span_Less.f l0 y105).bind fun t109 => ((span_Size.f k t109).bind fun t112 => ((span_Size.f k l0).bind fun t113 => (if t112 = (wrap64 (t113 - 1)) then ((span_Size.f k y105).bind fun t114 => (some (t114 == 1))) else (some false))))) else ((span_Has.f l0 a1).bind fun t115 => (if t115 = true then (some false) else ((span_Less.f l0 y105).bind fun t116 => ((span_Size.f k t116).bind fun t119 => ((span_Size.f k l0).bind fun t120 => (if t119 = (wrap64 (t120 - 1)) then ((span_Size.f k y105).bind fun t121 => (some (t121 == 1))) else (some false)))))))) else (some false))))))) else (some false)) = some r := H
  have A3 := Aside0.mk A30
  clear A30
  by_cases c4 : t101 = true
  · subst c4
    have H1 : (if (l0.length : Int) > 300 then (some true) else ((span_First.f k l0).bind fun t102 => (if t102 < 0 then (if t102 = (-1) then ((span_Size.f k l0).bind fun t103 => (if t103 = 0 then ((span_Has.f l0 a1).bind fun t104 => (some (!t104))) else (some false))) else (some false)) else ((some (([(⟨t102, t102⟩ : S34)] : List (S34)) : List (S34))).bind fun y105 => ((span_Has.f l0 t102).bind fun t108 => (if t108 = true then (if a1 ≥ t102 then ((span_Less.f l0 y105).bind fun t109 => ((span_Size.f k t109).bind fun t112 => ((span_Size.f k l0).bind fun t113 => (if t112 = (wrap64 (t113 - 1)) then ((span_Size.f k y105).bind fun t114 => (some (t114 == 1))) else (some false))))) else ((span_Has.f l0 a1).bind fun t115 => (if t115 = true then (some false) else ((span_Less.f l0 y105).bind fun t116 => ((span_Size.f k t116).bind fun t119 => ((span_Size.f k l0).bind fun t120 => (if t119 = (wrap64 (t120 - 1)) then ((span_Size.f k y105).bind fun t121 => (some (t121 == 1))) else (some false)))))))) else (some false))))))) = some r := by rw [if_pos rfl] at H; exact H
    clear H
    have H := H1
    clear H1
    by_cases c5 : (l0.length : Int) > 300
    · rw [if_pos c5] at H
      have c5b0 : decide (300 < (l0.length : Int)) = true := decide_eq_true c5
      have c5b1 : decide (300 < l0.length) = true := decide_eq_true (by omega)
      clear c5
      obtain rfl := Option.some.inj H
      go_enter Try.func6, Try.ntmps6
      go_wp2_with (first | ((with_reducible refine gate_callee (f := 11) rfl ?_); refine goesL_ (some 7) rfl rfl Try.func11 (by kernel_rfl) rfl #[] rfl (by (try simp only [List.map_toArray, List.map_cons, List.map_nil]); first | done | rfl | (simp only [List.length_drop, List.length_take]; rfl)) ?_; (with_reducible refine (caesuralaw01_alive.calls  true _ A3.out).mono ?_); rintro e w6 ⟨rfl, hb⟩; refine ⟨_, rfl, ?_⟩; have n0_ := Aside0.mk (below_step (by repeat (first | (with_reducible first | exact HB.out | apply below_alloc | apply pw_below_drewN | apply below_drew1) | exact HB.out)) hb); clear HB; have HB := n0_; clear n0_; (try clear hb); (try clear hb2); (try clear hk); (try clear hi)))
      go_ret
      exact ⟨by first | rfl | (simp [errW_none, errW_some] <;> rfl) | (simp [*, errW_none, errW_some] <;> rfl), by repeat (first | (with_reducible first | exact HB.out | apply below_alloc | apply pw_below_drewN | apply below_drew1) | exact HB.out)⟩
    · rw [if_neg c5] at H
      have c5b0 : decide (300 < (l0.length : Int)) = false := decide_eq_false c5
      have c5b1 : decide (300 < l0.length) = false := decide_eq_false (by omega)
      clear c5
      replace H := Option.bind_eq_some_iff.mp H
      obtain ⟨t102, A70, H⟩ := H
      replace H : (if t102 < 0 then (if t102 = (-1) then ((span_Size.f k l0).bind fun t103 => (if t103 = 0 then ((span_Has.f l0 a1).bind fun t104 => (some (!t104))) else (some false))) else (some false)) else ((some (([(⟨t102, t102⟩ : S34)] : List (S34)) : List (S34))).bind fun y105 => ((span_Has.f l0 t102).bind fun t108 => (if t108 = true then (if a1 ≥ t102 then ((span_Less.f l0 y105).bind fun t109 => ((span_Size.f k t109).bind fun t112 => ((span_Size.f k l0).bind fun t113 => (if t112 = (wrap64 (t113 - 1)) then ((span_Size.f k y105).bind fun t114 => (some (t114 == 1))) else (some false))))) else ((span_Has.f l0 a1).bind fun t115 => (if t115 = true then (some false) else ((span_Less.f l0 y105).bind fun t116 => ((span_Size.f k t116).bind fun t119 => ((span_Size.f k l0).bind fun t120 => (if t119 = (wrap64 (t120 - 1)) then ((span_Size.f k y105).bind fun t121 => (some (t121 == 1))) else (some false)))))))) else (some false))))) = some r := H
      have A7 := Aside0.mk A70
      clear A70
      by_cases c8 : t102 < 0
      · rw [if_pos c8] at H
        have c8b0 : decide (t102 < 0) = true := decide_eq_true c8
        clear c8
        by_cases c9 : t102 = (-1)
        · rw [if_pos c9] at H
          have c9b0 : (t102 == (-1)) = true := beq_iff_eq.mpr c9
          have c9b1 : (t102 != (-1)) = false := bne_eq_false_iff_eq.mpr c9
          clear c9
          replace H := Option.bind_eq_some_iff.mp H
          obtain ⟨t103, A100, H⟩ := H
          replace H : (if t103 = 0 then ((span_Has.f l0 a1).bind fun t104 => (some (!t104))) else (some false)) = some r := H
          have A10 := Aside0.mk A100
          clear A100
          by_cases c11 : t103 = 0
          · rw [if_pos c11] at H
            have c11b0 : (t103 == 0) = true := beq_iff_eq.mpr c11
            have c11b1 : (t103 != 0) = false := bne_eq_false_iff_eq.mpr c11
            clear c11
            replace H := Option.bind_eq_some_iff.mp H
            obtain ⟨t104, A120, H⟩ := H
            replace H : (some (!t104)) = some r := H
            have A12 := Aside0.mk A120
            clear A120
            obtain rfl := Option.some.inj H
            go_enter Try.func6, Try.ntmps6
            go_wp2_with (first | ((with_reducible refine gate_callee (f := 11) rfl ?_); refine goesL_ (some 7) rfl rfl Try.func11 (by kernel_rfl) rfl #[] rfl (by (try simp only [List.map_toArray, List.map_cons, List.map_nil]); first | done | rfl | (simp only [List.length_drop, List.length_take]; rfl)) ?_; (with_reducible refine (caesuralaw01_alive.calls  true _ A3.out).mono ?_); rintro e w13 ⟨rfl, hb⟩; refine ⟨_, rfl, ?_⟩; have n0_ := Aside0.mk (below_step (by repeat (first | (with_reducible first | exact HB.out | apply below_alloc | apply pw_below_drewN | apply below_drew1) | exact HB.out)) hb); clear HB; have HB := n0_; clear n0_; (try clear hb); (try clear hb2); (try clear hk); (try clear hi)) | ((with_reducible refine gate_callee (f := 26) rfl ?_); refine goesL_ (some 13) rfl rfl Try.func26 (by kernel_rfl) rfl #[.slice A0 l0.length c0] rfl (by (try simp only [List.map_toArray, List.map_cons, List.map_nil]); first | done | rfl | (simp only [List.length_drop, List.length_take]; rfl)) ?_; (with_reducible refine (span_First.calls k _ _ l0 t102 _ ?side1 ?side2 A7.out).mono ?_); (case side1 => repeat (first | exact (Kd.C_below HR0.out HB.out) | (with_reducible refine Kd.C_alloc ?_ _) | (with_reducible refine Kd.C_drewN ?_ _) | (with_reducible refine Kd.C_drew ?_))); (case side2 => exact HC0.out); rintro e w14 ⟨rfl, hb⟩; refine ⟨_, rfl, ?_⟩; have n0_ := Aside0.mk (below_step (by repeat (first | (with_reducible first | exact HB.out | apply below_alloc | apply pw_below_drewN | apply below_drew1) | exact HB.out)) hb); clear HB; have HB := n0_; clear n0_; (try clear hb); (try clear hb2); (try clear hk); (try clear hi)) | (go_at_call 28; (with_reducible refine (span_Size.calls k _ _ l0 t103 _ ?side1 ?side2 A10.out).mono ?_); (case side1 => repeat (first | exact (Kd.C_below HR0.out HB.out) | (with_reducible refine Kd.C_alloc ?_ _) | (with_reducible refine Kd.C_drewN ?_ _) | (with_reducible refine Kd.C_drew ?_))); (case side2 => exact HC0.out); rintro e w15 ⟨rfl, hb⟩; have n0_ := Aside0.mk (below_step (by repeat (first | (with_reducible first | exact HB.out | apply below_alloc | apply pw_below_drewN | apply below_drew1) | exact HB.out)) hb); clear HB; have HB := n0_; clear n0_; (try clear hb); (try clear hb2); (try clear hk); (try clear hi)) | (go_at_call 24; (with_reducible refine (span_Has.calls _ _ l0 a1 t104 _ ?side1 ?side2 A12.out).mono ?_); (case side1 => repeat (first | exact (Kd.C_below HR0.out HB.out) | (with_reducible refine Kd.C_alloc ?_ _) | (with_reducible refine Kd.C_drewN ?_ _) | (with_reducible refine Kd.C_drew ?_))); (case side2 => exact HC0.out); rintro e w16 ⟨rfl, hb⟩; have n0_ := Aside0.mk (below_step (by repeat (first | (with_reducible first | exact HB.out | apply below_alloc | apply pw_below_drewN | apply below_drew1) | exact HB.out)) hb); clear HB; have HB := n0_; clear n0_; (try clear hb); (try clear hb2); (try clear hk); (try clear hi)))
            go_ret
            exact ⟨by first | rfl | (simp [errW_none, errW_some] <;> rfl) | (simp [*, errW_none, errW_some] <;> rfl), by repeat (first | (with_reducible first | exact HB.out | apply below_alloc | apply pw_below_drewN | apply below_drew1) | exact HB.out)⟩
          · rw [if_neg c11] at H
            have c11b0 : (t103 == 0) = false := beq_eq_false_iff_ne.mpr c11
            have c11b1 : (t103 != 0) = true := bne_iff_ne.mpr c11
            exact absurd ((Option.some.inj H).trans hrt_.out) (by decide)
        · rw [if_neg c9] at H
          have c9b0 : (t102 == (-1)) = false := beq_eq_false_iff_ne.mpr c9
          have c9b1 : (t102 != (-1)) = true := bne_iff_ne.mpr c9
          exact absurd ((Option.some.inj H).trans hrt_.out) (by decide)
      · rw [if_neg c8] at H
        have c8b0 : decide (t102 < 0) = false := decide_eq_false c8
        clear c8
        obtain ⟨y105, hy105⟩ : ∃ y_ : List (S34), y_ = (([(⟨t102, t102⟩ : S34)] : List (S34))) := ⟨_, rfl⟩
        replace H : ((span_Has.f l0 t102).bind fun t108 => (if t108 = true then (if a1 ≥ t102 then ((span_Less.f l0 y105).bind fun t109 => ((span_Size.f k t109).bind fun t112 => ((span_Size.f k l0).bind fun t113 => (if t112 = (wrap64 (t113 - 1)) then ((span_Size.f k y105).bind fun t114 => (some (t114 == 1))) else (some false))))) else ((span_Has.f l0 a1).bind fun t115 => (if t115 = true then (some false) else ((span_Less.f l0 y105).bind fun t116 => ((span_Size.f k t116).bind fun t119 => ((span_Size.f k l0).bind fun t120 => (if t119 = (wrap64 (t120 - 1)) then ((span_Size.f k y105).bind fun t121 => (some (t121 == 1))) else (some false)))))))) else (some false))) = some r := by first | (rw [hy105]; with_reducible exact H) | (have H2_ := (Option.bind_some _ _).symm.trans H; rw [hy105]; with_reducible exact H2_) | (have H2_ := (Option.bind_some _ _).symm.trans H; with_reducible exact H2_) | with_reducible exact H | (rw [hy105]; exact H) | exact H
        have Ny105 := Aside0.mk hy105
        clear hy105
        replace H := Option.bind_eq_some_iff.mp H
        obtain ⟨t108, A170, H⟩ := H
        replace H : (if t108 = true then (if a1 ≥ t102 then ((span_Less.f l0 y105).bind fun t109 => ((span_Size.f k t109).bind fun t112 => ((span_Size.f k l0).bind fun t113 => (if t112 = (wrap64 (t113 - 1)) then ((span_Size.f k y105).bind fun t114 => (some (t114 == 1))) else (some false))))) else ((span_Has.f l0 a1).bind fun t115 => (if t115 = true then (some false) else ((span_Less.f l0 y105).bind fun t116 => ((span_Size.f k t116).bind fun t119 => ((span_Size.f k l0).bind fun t120 => (if t119 = (wrap64 (t120 - 1)) then ((span_Size.f k y105).bind fun t121 => (some (t121 == 1))) else (some false)))))))) else (some false)) = some r := H
        have A17 := Aside0.mk A170
        clear A170
        by_cases c18 : t108 = true
        · subst c18
          have H1 : (if a1 ≥ t102 then ((span_Less.f l0 y105).bind fun t109 => ((span_Size.f k t109).bind fun t112 => ((span_Size.f k l0).bind fun t113 => (if t112 = (wrap64 (t113 - 1)) then ((span_Size.f k y105).bind fun t114 => (some (t114 == 1))) else (some false))))) else ((span_Has.f l0 a1).bind fun t115 => (if t115 = true then (some false) else ((span_Less.f l0 y105).bind fun t116 => ((span_Size.f k t116).bind fun t119 => ((span_Size.f k l0).bind fun t120 => (if t119 = (wrap64 (t120 - 1)) then ((span_Size.f k y105).bind fun t121 => (some (t121 == 1))) else (some false)))))))) = some r := by rw [if_pos rfl] at H; exact H
          clear H
          have H := H1
          clear H1
          by_cases c19 : a1 ≥ t102
          · rw [if_pos c19] at H
            have c19b0 : decide (t102 ≤ a1) = true := decide_eq_true c19
            clear c19
            replace H := Option.bind_eq_some_iff.mp H
            obtain ⟨t109, A200, H⟩ := H
            replace H : ((span_Size.f k t109).bind fun t112 => ((span_Size.f k l0).bind fun t113 => (if t112 = (wrap64 (t113 - 1)) then ((span_Size.f k y105).bind fun t114 => (some (t114 == 1))) else (some false)))) = some r := H
            have A20 := Aside0.mk A200
            clear A200
            replace H := Option.bind_eq_some_iff.mp H
            obtain ⟨t112, A210, H⟩ := H
            replace H : ((span_Size.f k l0).bind fun t113 => (if t112 = (wrap64 (t113 - 1)) then ((span_Size.f k y105).bind fun t114 => (some (t114 == 1))) else (some false))) = some r := H
            have A21 := Aside0.mk A210
            clear A210
            replace H := Option.bind_eq_some_iff.mp H
            obtain ⟨t113, A220, H⟩ := H
            replace H : (if t112 = (wrap64 (t113 - 1)) then ((span_Size.f k y105).bind fun t114 => (some (t114 == 1))) else (some false)) = some r := H
            have A22 := Aside0.mk A220
            clear A220
            by_cases c23 : t112 = (wrap64 (t113 - 1))
            · rw [if_pos c23] at H
              have c23b0 : (t112 == (wrap64 (t113 - 1))) = true := beq_iff_eq.mpr c23
              have c23b1 : (t112 != (wrap64 (t113 - 1))) = false := bne_eq_false_iff_eq.mpr c23
              clear c23
              replace H := Option.bind_eq_some_iff.mp H
              obtain ⟨t114, A240, H⟩ := H
              replace H : (some (t114 == 1)) = some r := H
              have A24 := Aside0.mk A240
              clear A240
              obtain rfl := Option.some.inj H
              go_enter Try.func6, Try.ntmps6
              go_wp2_with (first | ((with_reducible refine gate_callee (f := 11) rfl ?_); refine goesL_ (some 7) rfl rfl Try.func11 (by kernel_rfl) rfl #[] rfl (by (try simp only [List.map_toArray, List.map_cons, List.map_nil]); first | done | rfl | (simp only [List.length_drop, List.length_take]; rfl)) ?_; (with_reducible refine (caesuralaw01_alive.calls  true _ A3.out).mono ?_); rintro e w25 ⟨rfl, hb⟩; refine ⟨_, rfl, ?_⟩; have n0_ := Aside0.mk (below_step (by repeat (first | (with_reducible first | exact HB.out | apply below_alloc | apply pw_below_drewN | apply below_drew1) | exact HB.out)) hb); clear HB; have HB := n0_; clear n0_; (try clear hb); (try clear hb2); (try clear hk); (try clear hi)) | ((with_reducible refine gate_callee (f := 26) rfl ?_); refine goesL_ (some 13) rfl rfl Try.func26 (by kernel_rfl) rfl #[.slice A0 l0.length c0] rfl (by (try simp only [List.map_toArray, List.map_cons, List.map_nil]); first | done | rfl | (simp only [List.length_drop, List.length_take]; rfl)) ?_; (with_reducible refine (span_First.calls k _ _ l0 t102 _ ?side1 ?side2 A7.out).mono ?_); (case side1 => repeat (first | exact (Kd.C_below HR0.out HB.out) | (with_reducible refine Kd.C_alloc ?_ _) | (with_reducible refine Kd.C_drewN ?_ _) | (with_reducible refine Kd.C_drew ?_))); (case side2 => exact HC0.out); rintro e w26 ⟨rfl, hb⟩; refine ⟨_, rfl, ?_⟩; have n0_ := Aside0.mk (below_step (by repeat (first | (with_reducible first | exact HB.out | apply below_alloc | apply pw_below_drewN | apply below_drew1) | exact HB.out)) hb); clear HB; have HB := n0_; clear n0_; (try clear hb); (try clear hb2); (try clear hk); (try clear hi)) | ((with_reducible refine gate_dst (N := 32) rfl ?_); refine Kd.R_lit k34 _ 34 ?hg (N := 32) ?hd (xs := ([(⟨t102, t102⟩ : S34)] : List (S34))) (inner := [.int .i64 t102, .int .i64 t102]) (ok := fun _ => True) (okp := fun _ => True) ?hr ?hp (fun _ hk => hk) trivial (Below.refl _ _) (Nat.le_refl _) (by simp) ?_; (case hd => rfl); (case hg => rfl); (case hr => first | (go_simp; done) | (go_simp; rfl)); (case hp => exact (Reps.c2 (show Kd.M k34 _ _ _ (⟨t102, t102⟩ : S34) [.int .i64 t102, .int .i64 t102] from (k34_mkM _ _ _ (⟨t102, t102⟩ : S34) )) (Reps.none _ _))); intro v106 w27 ho28 hb hg_ hnew_; clear hg_ hnew_; (first | rw [← Ny105.out] at ho28 | (simp only [Int.reduceToNat] at ho28; rw [← Ny105.out] at ho28)); have n0_ := Aside0.mk (Kd.R_lower ho28 (below_size (by repeat (first | (with_reducible first | exact HB.out | apply below_alloc | apply pw_below_drewN | apply below_drew1) | exact HB.out)))); have n1_ := Aside0.mk (below_step (by repeat (first | (with_reducible first | exact HB.out | apply below_alloc | apply pw_below_drewN | apply below_drew1) | exact HB.out)) hb); clear HB; have HO107 := n0_; have HB := n1_; clear n0_ n1_; clear hb ho28) | ((with_reducible refine gate_callee (f := 24) rfl ?_); refine goesL_ (some 35) rfl rfl Try.func24 (by kernel_rfl) rfl #[.slice A0 l0.length c0, .int .i64 t102] rfl (by (try simp only [List.map_toArray, List.map_cons, List.map_nil]); first | done | rfl | (simp only [List.length_drop, List.length_take]; rfl)) ?_; (with_reducible refine (span_Has.calls _ _ l0 t102 true _ ?side1 ?side2 A17.out).mono ?_); (case side1 => repeat (first | exact (Kd.C_below HR0.out HB.out) | (with_reducible refine Kd.C_alloc ?_ _) | (with_reducible refine Kd.C_drewN ?_ _) | (with_reducible refine Kd.C_drew ?_))); (case side2 => exact HC0.out); rintro e w29 ⟨rfl, hb⟩; refine ⟨_, rfl, ?_⟩; have n0_ := Aside0.mk (Kd.R_below (by (with_reducible repeat (first | apply Kd.R_alloc | apply Kd.R_drewN | apply Kd.R_drew)); exact HO107.out) hb); have n1_ := Aside0.mk (below_step (by repeat (first | (with_reducible first | exact HB.out | apply below_alloc | apply pw_below_drewN | apply below_drew1) | exact HB.out)) hb); clear HO107; clear HB; have HO107 := n0_; have HB := n1_; clear n0_ n1_; (try clear hb); (try clear hb2); (try clear hk); (try clear hi); obtain ⟨Ao30, co30, eo30⟩ := Kd.R_slice HO107.out; subst eo30) | (go_at_call 18; (with_reducible refine (span_Less.calls _ _ l0 _ _ y105 t109 _ ?side1 ?side2 ?side3 ?side4 A20.out).mono ?_); (case side1 => repeat (first | exact (Kd.C_below HR0.out HB.out) | (with_reducible refine Kd.C_alloc ?_ _) | (with_reducible refine Kd.C_drewN ?_ _) | (with_reducible refine Kd.C_drew ?_))); (case side2 => exact HC0.out); (case side3 => repeat (first | exact (Kd.R_reads' HO107.out).2.2 | (with_reducible refine Kd.C_alloc ?_ _) | (with_reducible refine Kd.C_drewN ?_ _) | (with_reducible refine Kd.C_drew ?_))); (case side4 => exact (Kd.R_reads' HO107.out).2.1); rintro e w31 ⟨v110, rfl, ho0, hb⟩; have n0_ := Aside0.mk (Kd.R_elder' (by (with_reducible repeat (first | apply Kd.R_alloc | apply Kd.R_drewN | apply Kd.R_drew)); exact HO107.out) (Kd.R_base ho0) hb); have n1_ := Aside0.mk (Kd.R_lower (Kd.R_new' ho0 (Kd.R_lt (by (with_reducible repeat (first | apply Kd.R_alloc | apply Kd.R_drewN | apply Kd.R_drew)); exact HO107.out))) (below_size (by repeat (first | (with_reducible first | exact HB.out | apply below_alloc | apply pw_below_drewN | apply below_drew1) | exact HB.out)))); have n2_ := Aside0.mk (below_step (by repeat (first | (with_reducible first | exact HB.out | apply below_alloc | apply pw_below_drewN | apply below_drew1) | exact HB.out)) hb); clear HO107; clear HB; have HO107 := n0_; have HO111 := n1_; have HB := n2_; clear n0_ n1_ n2_; (try clear hb); (try clear hb2); (try clear hk); (try clear hi); (try clear ho0); obtain ⟨Ao32, co32, eo32⟩ := Kd.R_slice HO111.out; subst eo32) | (go_at_call 28; (with_reducible refine (span_Size.calls k _ _ t109 t112 _ ?side1 ?side2 A21.out).mono ?_); (case side1 => repeat (first | exact (Kd.R_reads' HO111.out).2.2 | (with_reducible refine Kd.C_alloc ?_ _) | (with_reducible refine Kd.C_drewN ?_ _) | (with_reducible refine Kd.C_drew ?_))); (case side2 => exact (Kd.R_reads' HO111.out).2.1); rintro e w33 ⟨rfl, hb⟩; have n0_ := Aside0.mk (Kd.R_below (by (with_reducible repeat (first | apply Kd.R_alloc | apply Kd.R_drewN | apply Kd.R_drew)); exact HO107.out) hb); have n1_ := Aside0.mk (Kd.R_below (by (with_reducible repeat (first | apply Kd.R_alloc | apply Kd.R_drewN | apply Kd.R_drew)); exact HO111.out) hb); have n2_ := Aside0.mk (below_step (by repeat (first | (with_reducible first | exact HB.out | apply below_alloc | apply pw_below_drewN | apply below_drew1) | exact HB.out)) hb); clear HO107; clear HO111; clear HB; have HO107 := n0_; have HO111 := n1_; have HB := n2_; clear n0_ n1_ n2_; (try clear hb); (try clear hb2); (try clear hk); (try clear hi)) | (go_at_call 28; (with_reducible refine (span_Size.calls k _ _ l0 t113 _ ?side1 ?side2 A22.out).mono ?_); (case side1 => repeat (first | exact (Kd.C_below HR0.out HB.out) | (with_reducible refine Kd.C_alloc ?_ _) | (with_reducible refine Kd.C_drewN ?_ _) | (with_reducible refine Kd.C_drew ?_))); (case side2 => exact HC0.out); rintro e w34 ⟨rfl, hb⟩; have n0_ := Aside0.mk (Kd.R_below (by (with_reducible repeat (first | apply Kd.R_alloc | apply Kd.R_drewN | apply Kd.R_drew)); exact HO107.out) hb); have n1_ := Aside0.mk (Kd.R_below (by (with_reducible repeat (first | apply Kd.R_alloc | apply Kd.R_drewN | apply Kd.R_drew)); exact HO111.out) hb); have n2_ := Aside0.mk (below_step (by repeat (first | (with_reducible first | exact HB.out | apply below_alloc | apply pw_below_drewN | apply below_drew1) | exact HB.out)) hb); clear HO107; clear HO111; clear HB; have HO107 := n0_; have HO111 := n1_; have HB := n2_; clear n0_ n1_ n2_; (try clear hb); (try clear hb2); (try clear hk); (try clear hi)) | (go_at_call 28; (with_reducible refine (span_Size.calls k _ _ y105 t114 _ ?side1 ?side2 A24.out).mono ?_); (case side1 => repeat (first | exact (Kd.R_reads' HO107.out).2.2 | (with_reducible refine Kd.C_alloc ?_ _) | (with_reducible refine Kd.C_drewN ?_ _) | (with_reducible refine Kd.C_drew ?_))); (case side2 => exact (Kd.R_reads' HO107.out).2.1); rintro e w35 ⟨rfl, hb⟩; have n0_ := Aside0.mk (Kd.R_below (by (with_reducible repeat (first | apply Kd.R_alloc | apply Kd.R_drewN | apply Kd.R_drew)); exact HO107.out) hb); have n1_ := Aside0.mk (Kd.R_below (by (with_reducible repeat (first | apply Kd.R_alloc | apply Kd.R_drewN | apply Kd.R_drew)); exact HO111.out) hb); have n2_ := Aside0.mk (below_step (by repeat (first | (with_reducible first | exact HB.out | apply below_alloc | apply pw_below_drewN | apply below_drew1) | exact HB.out)) hb); clear HO107; clear HO111; clear HB; have HO107 := n0_; have HO111 := n1_; have HB := n2_; clear n0_ n1_ n2_; (try clear hb); (try clear hb2); (try clear hk); (try clear hi)))
              go_ret
              exact ⟨by first | rfl | (simp [errW_none, errW_some] <;> rfl) | (simp [*, errW_none, errW_some] <;> rfl), by repeat (first | (with_reducible first | exact HB.out | apply below_alloc | apply pw_below_drewN | apply below_drew1) | exact HB.out)⟩
            · rw [if_neg c23] at H
              have c23b0 : (t112 == (wrap64 (t113 - 1))) = false := beq_eq_false_iff_ne.mpr c23
              have c23b1 : (t112 != (wrap64 (t113 - 1))) = true := bne_iff_ne.mpr c23
              exact absurd ((Option.some.inj H).trans hrt_.out) (by decide)
          · rw [if_neg c19] at H
            have c19b0 : decide (t102 ≤ a1) = false := decide_eq_false c19
            clear c19
            replace H := Option.bind_eq_some_iff.mp H
            obtain ⟨t115, A360, H⟩ := H
            replace H : (if t115 = true then (some false) else ((span_Less.f l0 y105).bind fun t116 => ((span_Size.f k t116).bind fun t119 => ((span_Size.f k l0).bind fun t120 => (if t119 = (wrap64 (t120 - 1)) then ((span_Size.f k y105).bind fun t121 => (some (t121 == 1))) else (some false)))))) = some r := H
            have A36 := Aside0.mk A360
            clear A360
            by_cases c37 : t115 = true
            · subst c37
              have H1 : (some false) = some r := by rw [if_pos rfl] at H; exact H
              clear H
              have H := H1
              clear H1
              exact absurd ((Option.some.inj H).trans hrt_.out) (by decide)
            · replace c37 := Bool.eq_false_iff.mpr c37
              subst c37
              have H1 : ((span_Less.f l0 y105).bind fun t116 => ((span_Size.f k t116).bind fun t119 => ((span_Size.f k l0).bind fun t120 => (if t119 = (wrap64 (t120 - 1)) then ((span_Size.f k y105).bind fun t121 => (some (t121 == 1))) else (some false))))) = some r := by rw [if_neg (show ¬ (false = true) by decide)] at H; exact H
              clear H
              have H := H1
              clear H1
              replace H := Option.bind_eq_some_iff.mp H
              obtain ⟨t116, A380, H⟩ := H
              replace H : ((span_Size.f k t116).bind fun t119 => ((span_Size.f k l0).bind fun t120 => (if t119 = (wrap64 (t120 - 1)) then ((span_Size.f k y105).bind fun t121 => (some (t121 == 1))) else (some false)))) = some r := H
              have A38 := Aside0.mk A380
              clear A380
              replace H := Option.bind_eq_some_iff.mp H
              obtain ⟨t119, A390, H⟩ := H
              replace H : ((span_Size.f k l0).bind fun t120 => (if t119 = (wrap64 (t120 - 1)) then ((span_Size.f k y105).bind fun t121 => (some (t121 == 1))) else (some false))) = some r := H
              have A39 := Aside0.mk A390
              clear A390
              replace H := Option.bind_eq_some_iff.mp H
              obtain ⟨t120, A400, H⟩ := H
              replace H : (if t119 = (wrap64 (t120 - 1)) then ((span_Size.f k y105).bind fun t121 => (some (t121 == 1))) else (some false)) = some r := H
              have A40 := Aside0.mk A400
              clear A400
              by_cases c41 : t119 = (wrap64 (t120 - 1))
              · rw [if_pos c41] at H
                have c41b0 : (t119 == (wrap64 (t120 - 1))) = true := beq_iff_eq.mpr c41
                have c41b1 : (t119 != (wrap64 (t120 - 1))) = false := bne_eq_false_iff_eq.mpr c41
                clear c41
                replace H := Option.bind_eq_some_iff.mp H
                obtain ⟨t121, A420, H⟩ := H
                replace H : (some (t121 == 1)) = some r := H
                have A42 := Aside0.mk A420
                clear A420
                obtain rfl := Option.some.inj H
                go_enter Try.func6, Try.ntmps6
                go_wp2_with (first | ((with_reducible refine gate_callee (f := 11) rfl ?_); refine goesL_ (some 7) rfl rfl Try.func11 (by kernel_rfl) rfl #[] rfl (by (try simp only [List.map_toArray, List.map_cons, List.map_nil]); first | done | rfl | (simp only [List.length_drop, List.length_take]; rfl)) ?_; (with_reducible refine (caesuralaw01_alive.calls  true _ A3.out).mono ?_); rintro e w43 ⟨rfl, hb⟩; refine ⟨_, rfl, ?_⟩; have n0_ := Aside0.mk (below_step (by repeat (first | (with_reducible first | exact HB.out | apply below_alloc | apply pw_below_drewN | apply below_drew1) | exact HB.out)) hb); clear HB; have HB := n0_; clear n0_; (try clear hb); (try clear hb2); (try clear hk); (try clear hi)) | ((with_reducible refine gate_callee (f := 26) rfl ?_); refine goesL_ (some 13) rfl rfl Try.func26 (by kernel_rfl) rfl #[.slice A0 l0.length c0] rfl (by (try simp only [List.map_toArray, List.map_cons, List.map_nil]); first | done | rfl | (simp only [List.length_drop, List.length_take]; rfl)) ?_; (with_reducible refine (span_First.calls k _ _ l0 t102 _ ?side1 ?side2 A7.out).mono ?_); (case side1 => repeat (first | exact (Kd.C_below HR0.out HB.out) | (with_reducible refine Kd.C_alloc ?_ _) | (with_reducible refine Kd.C_drewN ?_ _) | (with_reducible refine Kd.C_drew ?_))); (case side2 => exact HC0.out); rintro e w44 ⟨rfl, hb⟩; refine ⟨_, rfl, ?_⟩; have n0_ := Aside0.mk (below_step (by repeat (first | (with_reducible first | exact HB.out | apply below_alloc | apply pw_below_drewN | apply below_drew1) | exact HB.out)) hb); clear HB; have HB := n0_; clear n0_; (try clear hb); (try clear hb2); (try clear hk); (try clear hi)) | ((with_reducible refine gate_dst (N := 32) rfl ?_); refine Kd.R_lit k34 _ 34 ?hg (N := 32) ?hd (xs := ([(⟨t102, t102⟩ : S34)] : List (S34))) (inner := [.int .i64 t102, .int .i64 t102]) (ok := fun _ => True) (okp := fun _ => True) ?hr ?hp (fun _ hk => hk) trivial (Below.refl _ _) (Nat.le_refl _) (by simp) ?_; (case hd => rfl); (case hg => rfl); (case hr => first | (go_simp; done) | (go_simp; rfl)); (case hp => exact (Reps.c2 (show Kd.M k34 _ _ _ (⟨t102, t102⟩ : S34) [.int .i64 t102, .int .i64 t102] from (k34_mkM _ _ _ (⟨t102, t102⟩ : S34) )) (Reps.none _ _))); intro v106 w45 ho46 hb hg_ hnew_; clear hg_ hnew_; (first | rw [← Ny105.out] at ho46 | (simp only [Int.reduceToNat] at ho46; rw [← Ny105.out] at ho46)); have n0_ := Aside0.mk (Kd.R_lower ho46 (below_size (by repeat (first | (with_reducible first | exact HB.out | apply below_alloc | apply pw_below_drewN | apply below_drew1) | exact HB.out)))); have n1_ := Aside0.mk (below_step (by repeat (first | (with_reducible first | exact HB.out | apply below_alloc | apply pw_below_drewN | apply below_drew1) | exact HB.out)) hb); clear HB; have HO107 := n0_; have HB := n1_; clear n0_ n1_; clear hb ho46) | ((with_reducible refine gate_callee (f := 24) rfl ?_); refine goesL_ (some 35) rfl rfl Try.func24 (by kernel_rfl) rfl #[.slice A0 l0.length c0, .int .i64 t102] rfl (by (try simp only [List.map_toArray, List.map_cons, List.map_nil]); first | done | rfl | (simp only [List.length_drop, List.length_take]; rfl)) ?_; (with_reducible refine (span_Has.calls _ _ l0 t102 true _ ?side1 ?side2 A17.out).mono ?_); (case side1 => repeat (first | exact (Kd.C_below HR0.out HB.out) | (with_reducible refine Kd.C_alloc ?_ _) | (with_reducible refine Kd.C_drewN ?_ _) | (with_reducible refine Kd.C_drew ?_))); (case side2 => exact HC0.out); rintro e w47 ⟨rfl, hb⟩; refine ⟨_, rfl, ?_⟩; have n0_ := Aside0.mk (Kd.R_below (by (with_reducible repeat (first | apply Kd.R_alloc | apply Kd.R_drewN | apply Kd.R_drew)); exact HO107.out) hb); have n1_ := Aside0.mk (below_step (by repeat (first | (with_reducible first | exact HB.out | apply below_alloc | apply pw_below_drewN | apply below_drew1) | exact HB.out)) hb); clear HO107; clear HB; have HO107 := n0_; have HB := n1_; clear n0_ n1_; (try clear hb); (try clear hb2); (try clear hk); (try clear hi)) | (go_at_call 24; (with_reducible refine (span_Has.calls _ _ l0 a1 false _ ?side1 ?side2 A36.out).mono ?_); (case side1 => repeat (first | exact (Kd.C_below HR0.out HB.out) | (with_reducible refine Kd.C_alloc ?_ _) | (with_reducible refine Kd.C_drewN ?_ _) | (with_reducible refine Kd.C_drew ?_))); (case side2 => exact HC0.out); rintro e w48 ⟨rfl, hb⟩; have n0_ := Aside0.mk (Kd.R_below (by (with_reducible repeat (first | apply Kd.R_alloc | apply Kd.R_drewN | apply Kd.R_drew)); exact HO107.out) hb); have n1_ := Aside0.mk (below_step (by repeat (first | (with_reducible first | exact HB.out | apply below_alloc | apply pw_below_drewN | apply below_drew1) | exact HB.out)) hb); clear HO107; clear HB; have HO107 := n0_; have HB := n1_; clear n0_ n1_; (try clear hb); (try clear hb2); (try clear hk); (try clear hi); obtain ⟨Ao49, co49, eo49⟩ := Kd.R_slice HO107.out; subst eo49) | (go_at_call 18; (with_reducible refine (span_Less.calls _ _ l0 _ _ y105 t116 _ ?side1 ?side2 ?side3 ?side4 A38.out).mono ?_); (case side1 => repeat (first | exact (Kd.C_below HR0.out HB.out) | (with_reducible refine Kd.C_alloc ?_ _) | (with_reducible refine Kd.C_drewN ?_ _) | (with_reducible refine Kd.C_drew ?_))); (case side2 => exact HC0.out); (case side3 => repeat (first | exact (Kd.R_reads' HO107.out).2.2 | (with_reducible refine Kd.C_alloc ?_ _) | (with_reducible refine Kd.C_drewN ?_ _) | (with_reducible refine Kd.C_drew ?_))); (case side4 => exact (Kd.R_reads' HO107.out).2.1); rintro e w50 ⟨v117, rfl, ho0, hb⟩; have n0_ := Aside0.mk (Kd.R_elder' (by (with_reducible repeat (first | apply Kd.R_alloc | apply Kd.R_drewN | apply Kd.R_drew)); exact HO107.out) (Kd.R_base ho0) hb); have n1_ := Aside0.mk (Kd.R_lower (Kd.R_new' ho0 (Kd.R_lt (by (with_reducible repeat (first | apply Kd.R_alloc | apply Kd.R_drewN | apply Kd.R_drew)); exact HO107.out))) (below_size (by repeat (first | (with_reducible first | exact HB.out | apply below_alloc | apply pw_below_drewN | apply below_drew1) | exact HB.out)))); have n2_ := Aside0.mk (below_step (by repeat (first | (with_reducible first | exact HB.out | apply below_alloc | apply pw_below_drewN | apply below_drew1) | exact HB.out)) hb); clear HO107; clear HB; have HO107 := n0_; have HO118 := n1_; have HB := n2_; clear n0_ n1_ n2_; (try clear hb); (try clear hb2); (try clear hk); (try clear hi); (try clear ho0); obtain ⟨Ao51, co51, eo51⟩ := Kd.R_slice HO118.out; subst eo51) | (go_at_call 28; (with_reducible refine (span_Size.calls k _ _ t116 t119 _ ?side1 ?side2 A39.out).mono ?_); (case side1 => repeat (first | exact (Kd.R_reads' HO118.out).2.2 | (with_reducible refine Kd.C_alloc ?_ _) | (with_reducible refine Kd.C_drewN ?_ _) | (with_reducible refine Kd.C_drew ?_))); (case side2 => exact (Kd.R_reads' HO118.out).2.1); rintro e w52 ⟨rfl, hb⟩; have n0_ := Aside0.mk (Kd.R_below (by (with_reducible repeat (first | apply Kd.R_alloc | apply Kd.R_drewN | apply Kd.R_drew)); exact HO107.out) hb); have n1_ := Aside0.mk (Kd.R_below (by (with_reducible repeat (first | apply Kd.R_alloc | apply Kd.R_drewN | apply Kd.R_drew)); exact HO118.out) hb); have n2_ := Aside0.mk (below_step (by repeat (first | (with_reducible first | exact HB.out | apply below_alloc | apply pw_below_drewN | apply below_drew1) | exact HB.out)) hb); clear HO107; clear HO118; clear HB; have HO107 := n0_; have HO118 := n1_; have HB := n2_; clear n0_ n1_ n2_; (try clear hb); (try clear hb2); (try clear hk); (try clear hi)) | (go_at_call 28; (with_reducible refine (span_Size.calls k _ _ l0 t120 _ ?side1 ?side2 A40.out).mono ?_); (case side1 => repeat (first | exact (Kd.C_below HR0.out HB.out) | (with_reducible refine Kd.C_alloc ?_ _) | (with_reducible refine Kd.C_drewN ?_ _) | (with_reducible refine Kd.C_drew ?_))); (case side2 => exact HC0.out); rintro e w53 ⟨rfl, hb⟩; have n0_ := Aside0.mk (Kd.R_below (by (with_reducible repeat (first | apply Kd.R_alloc | apply Kd.R_drewN | apply Kd.R_drew)); exact HO107.out) hb); have n1_ := Aside0.mk (Kd.R_below (by (with_reducible repeat (first | apply Kd.R_alloc | apply Kd.R_drewN | apply Kd.R_drew)); exact HO118.out) hb); have n2_ := Aside0.mk (below_step (by repeat (first | (with_reducible first | exact HB.out | apply below_alloc | apply pw_below_drewN | apply below_drew1) | exact HB.out)) hb); clear HO107; clear HO118; clear HB; have HO107 := n0_; have HO118 := n1_; have HB := n2_; clear n0_ n1_ n2_; (try clear hb); (try clear hb2); (try clear hk); (try clear hi)) | (go_at_call 28; (with_reducible refine (span_Size.calls k _ _ y105 t121 _ ?side1 ?side2 A42.out).mono ?_); (case side1 => repeat (first | exact (Kd.R_reads' HO107.out).2.2 | (with_reducible refine Kd.C_alloc ?_ _) | (with_reducible refine Kd.C_drewN ?_ _) | (with_reducible refine Kd.C_drew ?_))); (case side2 => exact (Kd.R_reads' HO107.out).2.1); rintro e w54 ⟨rfl, hb⟩; have n0_ := Aside0.mk (Kd.R_below (by (with_reducible repeat (first | apply Kd.R_alloc | apply Kd.R_drewN | apply Kd.R_drew)); exact HO107.out) hb); have n1_ := Aside0.mk (Kd.R_below (by (with_reducible repeat (first | apply Kd.R_alloc | apply Kd.R_drewN | apply Kd.R_drew)); exact HO118.out) hb); have n2_ := Aside0.mk (below_step (by repeat (first | (with_reducible first | exact HB.out | apply below_alloc | apply pw_below_drewN | apply below_drew1) | exact HB.out)) hb); clear HO107; clear HO118; clear HB; have HO107 := n0_; have HO118 := n1_; have HB := n2_; clear n0_ n1_ n2_; (try clear hb); (try clear hb2); (try clear hk); (try clear hi)))
                go_ret
                exact ⟨by first | rfl | (simp [errW_none, errW_some] <;> rfl) | (simp [*, errW_none, errW_some] <;> rfl), by repeat (first | (with_reducible first | exact HB.out | apply below_alloc | apply pw_below_drewN | apply below_drew1) | exact HB.out)⟩
              · rw [if_neg c41] at H
                have c41b0 : (t119 == (wrap64 (t120 - 1))) = false := beq_eq_false_iff_ne.mpr c41
                have c41b1 : (t119 != (wrap64 (t120 - 1))) = true := bne_iff_ne.mpr c41
                exact absurd ((Option.some.inj H).trans hrt_.out) (by decide)
        · replace c18 := Bool.eq_false_iff.mpr c18
          subst c18
          have H1 : (some false) = some r := by rw [if_neg (show ¬ (false = true) by decide)] at H; exact H
          clear H
          have H := H1
          clear H1
          exact absurd ((Option.some.inj H).trans hrt_.out) (by decide)
  · replace c4 := Bool.eq_false_iff.mpr c4
    subst c4
    have H1 : (some false) = some r := by rw [if_neg (show ¬ (false = true) by decide)] at H; exact H
    clear H
    have H := H1
    clear H1
    exact absurd ((Option.some.inj H).trans hrt_.out) (by decide)

end Go.Proofs.Ytippkbgeeeimjaa.CSpanFirsts
