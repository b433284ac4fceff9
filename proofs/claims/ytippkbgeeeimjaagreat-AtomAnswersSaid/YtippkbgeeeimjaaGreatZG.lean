/- What the reference answers; the law walked. -/
import Derived.Test.YtippkbgeeeimjaaGreatZF
import Derived.Test.YtippkbgeeeimjaaGreatZE
import Derived.Test.YtippkbgeeeimjaaGreatProg
import Derived.Test.YtippkbgeeeimjaaGreatZD
import Derived.Below
import Derived.Deep.Draws
import Derived.Deep.AppendLies
import Derived.Maps.AppendAt
import Derived.OwnWalk
import Derived.Laws.BytesArg
import Derived.Laws.MakeOwn
import Derived.Laws.OwnMore
import Derived.Deep.OwnRows
import Derived.Tactics
import Derived.Lib.ConvBytes
import Derived.Laws.Slices
import Derived.WalkKit
import Derived.KernelRfl
import Derived.RowKit3
import Derived.Deep.LoopGhost
import Derived.Deep.QuietTactic
import Derived.BigQuiet
import Derived.WideLaws
import Derived.Deep.DeepCutAuto
import Derived.Deep.CutBlock
import Derived.Deep.RegionHeld3
import Derived.Laws.Rows
import Derived.Lib.AppendStr
import Derived.ArgAppend
import Derived.Laws.IdiomCopy
import Derived.OrdersHeld
import Derived.Laws.BitsLemmas
import Derived.RowKit
import Derived.Test.YtippkbgeeeimjaaGreatZW
namespace Go.Proofs.YtippkbgeeeimjaaGreat.R
open Go.RowKit Go.Proofs.YtippkbgeeeimjaaGreatW.PrintWords Go.Proofs.YtippkbgeeeimjaaGreatW.PrintLast Go.Proofs.YtippkbgeeeimjaaGreatW.PrintMore Go.Proofs.YtippkbgeeeimjaaGreat.A Go.Proofs.YtippkbgeeeimjaaGreat.L Go.Proofs.YtippkbgeeeimjaaGreat.B
attribute [local go_sem] max2_int min2_int max_two min_two max_three min_three max_four min_four   -- for this text's walks alone
set_option linter.unusedVariables false
set_option linter.unusedSimpArgs false
def caesuraref02_Class.l0 : Nat → List (List (S38)) → Int → Int → Option (Int)
  | 0, _, _, _ => none
  | k + 1, x0, x1, x5 => if x5 < (x0.length : Int) then (if 0 ≤ x5 then ((caesuraref01_Has.f k (rd_L2 x0 x5) x1).bind fun t147 => (if t147 = true then (some x5) else (caesuraref02_Class.l0 k x0 x1 (wrap64 (x5 + 1))))) else (none)) else (some (-1))
def caesuraref02_Class.f (k : Nat) (l0 : List (List (S38))) (a1 : Int) : Option (Int) := caesuraref02_Class.l0 k l0 a1 0
theorem caesuraref02_Class.mono_l : ∀ k, (∀ y0 y1 y2, LeO (caesuraref02_Class.l0 k y0 y1 y2) (caesuraref02_Class.l0 (k + 1) y0 y1 y2))
  | 0 => fun _ _ _ r h => by simp [caesuraref02_Class.l0] at h
  | k + 1 => by
    have ih0 := caesuraref02_Class.mono_l k
    · intro y0 y1 y2
      unfold caesuraref02_Class.l0
      repeat' first
      | (with_reducible exact ih0 _ _ _)
      | (with_reducible exact caesuraref01_Has.mono _ _ _)
      | (with_reducible exact LeO.refl _)
      | (with_reducible exact LeO.none _)
      | (with_reducible refine LeO.ite ?_ ?_)
      | (with_reducible refine LeO.bind ?_ (fun _ => ?_))
      | exact ih0 _ _ _
      | exact caesuraref01_Has.mono _ _ _
      | exact LeO.none _
      | refine LeO.ite ?_ ?_
      | refine LeO.bind ?_ (fun _ => ?_)
theorem caesuraref02_Class.mono : ∀ a0 a1 k, LeO (caesuraref02_Class.f k a0 a1) (caesuraref02_Class.f (k + 1) a0 a1) := by
  intro a0 a1 k
  have ih0 := caesuraref02_Class.mono_l k
  unfold caesuraref02_Class.f
  repeat' first
      | (with_reducible exact ih0 _ _ _)
      | (with_reducible exact caesuraref01_Has.mono _ _ _)
      | (with_reducible exact LeO.refl _)
      | (with_reducible exact LeO.none _)
      | (with_reducible refine LeO.ite ?_ ?_)
      | (with_reducible refine LeO.bind ?_ (fun _ => ?_))
      | exact ih0 _ _ _
      | exact caesuraref01_Has.mono _ _ _
      | exact LeO.none _
      | refine LeO.ite ?_ ?_
      | refine LeO.bind ?_ (fun _ => ?_)
set_option maxHeartbeats 8000000 in
set_option maxRecDepth 100000 in
theorem caesuraref02_Class.calls (k : Nat) (A0 : Option Addr) (c0 : Nat) (l0 : List (List (S38))) (a1 : Int) (r : Int) (w : World) (hr0 : Kd.C (Kd.slice 38 k38) w A0 l0.length l0) (hc0 : l0.length ≤ c0) (h : caesuraref02_Class.f k l0 a1 = some r) :
    Calls Tryz.prog 10 #[.slice A0 l0.length c0, .int .i64 a1] w fun e w' => e = .returned (.int .i64 r) ∧ Drawn0 w w' := by
  have HR0 := Aside0.mk hr0
  have HC0 := Aside0.mk hc0
  clear hr0 hc0
  have H : (caesuraref02_Class.l0 k l0 a1 0) = some r := h
  clear h
  have H' := Aside0.mk H
  clear H
  go_enter Tryz.func10, Tryz.ntmps10
  go_wp2
  go_loopg [5] k (fun kq v5 w' => ∃ (x5_1 : Int), v5 = .int .i64 x5_1 ∧ Aside0 (caesuraref02_Class.l0 kq l0 a1 x5_1 = some r) ∧ Aside0 (kq ≤ k) ∧ Drawn0 w w')
  case atStart => exact ⟨(0), (by first | rfl | (simp; done) | (simp [*]; done)), H', ⟨Nat.le_refl _⟩, by repeat (first | exact Drawn0.refl _ | apply Drawn0.step)⟩
  case round =>
    clear H'
    try clear c1
    try clear p2
    obtain ⟨x5_1, rfl, HA, HK1, ⟨m1, rfl⟩⟩ := hrel
    cases gk with
    | zero => exact absurd HA.out (by simp [caesuraref02_Class.l0])
    | succ k1 =>
      have H := HA.out
      clear HA
      simp only [caesuraref02_Class.l0] at H
      by_cases c3 : x5_1 < (l0.length : Int)
      · rw [if_pos c3] at H
        have c3b0 : decide (x5_1 < (l0.length : Int)) = true := decide_eq_true c3
        clear c3
        by_cases c4 : 0 ≤ x5_1
        · rw [if_pos c4] at H
          have c4b0 : decide (0 ≤ x5_1) = true := decide_eq_true c4
          clear c4
          replace H := Option.bind_eq_some_iff.mp H
          obtain ⟨t147, A50, H⟩ := H
          replace H : (if t147 = true then (some x5_1) else (caesuraref02_Class.l0 k1 l0 a1 (wrap64 (x5_1 + 1)))) = some r := H
          have A5 := Aside0.mk A50
          clear A50
          by_cases c6 : t147 = true
          · subst c6
            have H1 : (some x5_1) = some r := by rw [if_pos rfl] at H; exact H
            clear H
            have H := H1
            clear H1
            obtain rfl := Option.some.inj H
            have p146 : 0 ≤ (x5_1 : Int) := of_decide_eq_true (by first | (with_reducible assumption) | assumption)
            have q146 : x5_1 < (l0.length : Int) := of_decide_eq_true (by first | (with_reducible assumption) | assumption)
            obtain ⟨ad146, A146_0, c146_0, e146, hx146_0, hl146_0, hi146_0⟩ := at_L2 HR0.out x5_1 p146 q146
            cases e146
            have HR146_0 := Aside0.mk hi146_0
            have HC146_0 := Aside0.mk hl146_0
            clear hi146_0 hl146_0
            replace p146 := eq_true p146
            replace q146 := eq_true q146
            go_wp2_with (first | ((with_reducible refine gate_callee (f := 32) rfl ?_); refine goesL_ (some 17) rfl rfl Tryz.func32 (by kernel_rfl) rfl #[.slice A146_0 (rd_L2 l0 x5_1).length c146_0, .int .i64 a1] rfl (by (try simp only [List.map_toArray, List.map_cons, List.map_nil]); first | done | rfl | (simp only [List.length_drop, List.length_take]; rfl)) ?_; (with_reducible refine (caesuraref01_Has.calls k1 _ _ (rd_L2 l0 x5_1) a1 true _ ?side1 ?side2 A5.out).mono ?_); (case side1 => repeat (first | exact HR146_0.out | (with_reducible refine Kd.C_alloc ?_ _) | (with_reducible refine Kd.C_drewN ?_ _) | (with_reducible refine Kd.C_drew ?_))); (case side2 => exact HC146_0.out); rintro e w' ⟨rfl, ⟨nd, rfl⟩⟩; refine ⟨_, rfl, ?_⟩))
            go_ret
            exact ⟨by first | rfl | (simp; done) | (simp [*]; done), by repeat (first | exact Drawn0.refl _ | apply Drawn0.step)⟩
          · replace c6 := Bool.eq_false_iff.mpr c6
            subst c6
            have H1 : (caesuraref02_Class.l0 k1 l0 a1 (wrap64 (x5_1 + 1))) = some r := by rw [if_neg (show ¬ (false = true) by decide)] at H; exact H
            clear H
            have H := H1
            clear H1
            have H' := Aside0.mk H
            clear H
            have p146 : 0 ≤ (x5_1 : Int) := of_decide_eq_true (by first | (with_reducible assumption) | assumption)
            have q146 : x5_1 < (l0.length : Int) := of_decide_eq_true (by first | (with_reducible assumption) | assumption)
            obtain ⟨ad146, A146_0, c146_0, e146, hx146_0, hl146_0, hi146_0⟩ := at_L2 HR0.out x5_1 p146 q146
            cases e146
            have HR146_0 := Aside0.mk hi146_0
            have HC146_0 := Aside0.mk hl146_0
            clear hi146_0 hl146_0
            replace p146 := eq_true p146
            replace q146 := eq_true q146
            go_wp2_with (first | ((with_reducible refine gate_callee (f := 32) rfl ?_); refine goesL_ (some 17) rfl rfl Tryz.func32 (by kernel_rfl) rfl #[.slice A146_0 (rd_L2 l0 x5_1).length c146_0, .int .i64 a1] rfl (by (try simp only [List.map_toArray, List.map_cons, List.map_nil]); first | done | rfl | (simp only [List.length_drop, List.length_take]; rfl)) ?_; (with_reducible refine (caesuraref01_Has.calls k1 _ _ (rd_L2 l0 x5_1) a1 false _ ?side1 ?side2 A5.out).mono ?_); (case side1 => repeat (first | exact HR146_0.out | (with_reducible refine Kd.C_alloc ?_ _) | (with_reducible refine Kd.C_drewN ?_ _) | (with_reducible refine Kd.C_drew ?_))); (case side2 => exact HC146_0.out); rintro e w' ⟨rfl, ⟨nd, rfl⟩⟩; refine ⟨_, rfl, ?_⟩))
            go_roundg k1
            case measure => have := HK1.out; omega
            case rel => exact ⟨(wrap64 (x5_1 + 1)), (by first | rfl | (simp; done) | (simp [*]; done)), H', ⟨by have := HK1.out; omega⟩, by repeat (first | exact Drawn0.refl _ | apply Drawn0.step)⟩
        · rw [if_neg c4] at H
          exact absurd H (by simp)
      · rw [if_neg c3] at H
        have c3b0 : decide (x5_1 < (l0.length : Int)) = false := decide_eq_false c3
        clear c3
        obtain rfl := Option.some.inj H
        go_wp2
        go_ret
        exact ⟨by first | rfl | (simp; done) | (simp [*]; done), by repeat (first | exact Drawn0.refl _ | apply Drawn0.step)⟩
def caesuraref02_Firsts.l0 : Nat → List (List (S38)) → List Int → Int → Option (List Int)
  | 0, _, _, _ => none
  | k + 1, x0, x3, x4 => if x4 < (x0.length : Int) then (if 0 ≤ x4 then ((caesuraref01_First.f (rd_L2 x0 x4)).bind fun t149 => (if x3.length < 17592186044416 then (caesuraref02_Firsts.l0 k x0 (x3 ++ [t149]) (wrap64 (x4 + 1))) else (none))) else (none)) else (some x3)
def caesuraref02_Firsts.f (k : Nat) (l0 : List (List (S38))) : Option (List Int) := caesuraref02_Firsts.l0 k l0 ([] : List Int) 0
theorem caesuraref02_Firsts.mono_l : ∀ k, (∀ y0 y1 y2, LeO (caesuraref02_Firsts.l0 k y0 y1 y2) (caesuraref02_Firsts.l0 (k + 1) y0 y1 y2))
  | 0 => fun _ _ _ r h => by simp [caesuraref02_Firsts.l0] at h
  | k + 1 => by
    have ih0 := caesuraref02_Firsts.mono_l k
    · intro y0 y1 y2
      unfold caesuraref02_Firsts.l0
      repeat' first
      | (with_reducible exact ih0 _ _ _)
      | (with_reducible exact LeO.refl _)
      | (with_reducible exact LeO.none _)
      | (with_reducible refine LeO.ite ?_ ?_)
      | (with_reducible refine LeO.bind ?_ (fun _ => ?_))
      | exact ih0 _ _ _
      | exact LeO.none _
      | refine LeO.ite ?_ ?_
      | refine LeO.bind ?_ (fun _ => ?_)
theorem caesuraref02_Firsts.mono : ∀ a0 k, LeO (caesuraref02_Firsts.f k a0) (caesuraref02_Firsts.f (k + 1) a0) := by
  intro a0 k
  have ih0 := caesuraref02_Firsts.mono_l k
  unfold caesuraref02_Firsts.f
  repeat' first
      | (with_reducible exact ih0 _ _ _)
      | (with_reducible exact LeO.refl _)
      | (with_reducible exact LeO.none _)
      | (with_reducible refine LeO.ite ?_ ?_)
      | (with_reducible refine LeO.bind ?_ (fun _ => ?_))
      | exact ih0 _ _ _
      | exact LeO.none _
      | refine LeO.ite ?_ ?_
      | refine LeO.bind ?_ (fun _ => ?_)
set_option maxHeartbeats 8000000 in
set_option maxRecDepth 100000 in
theorem caesuraref02_Firsts.calls (k : Nat) (A0 : Option Addr) (c0 : Nat) (l0 : List (List (S38))) (r : List Int) (w : World) (hr0 : Kd.C (Kd.slice 38 k38) w A0 l0.length l0) (hc0 : l0.length ≤ c0) (h : caesuraref02_Firsts.f k l0 = some r) :
    Calls Tryz.prog 15 #[.slice A0 l0.length c0] w fun e w' => ∃ v0_ : Value, e = .returned (v0_) ∧ Kd.R (Kd.int .i64) 3 w' w.heap.size (fun _ => True) v0_ r ∧ Below w.heap.size w w' := by
  have HR0 := Aside0.mk hr0
  have HC0 := Aside0.mk hc0
  clear hr0 hc0
  have HB := Aside0.mk (Below.refl w.heap.size w)
  have H : (caesuraref02_Firsts.l0 k l0 ([] : List Int) 0) = some r := h
  clear h
  have H' := Aside0.mk H
  clear H
  go_enter Tryz.func15, Tryz.ntmps15
  go_wp2
  go_loopg [3, 4] k (fun kq v3 v4 w' => ∃ (x3_1 : List Int) (x4_1 : Int), v4 = .int .i64 x4_1 ∧ Aside0 (caesuraref02_Firsts.l0 kq l0 x3_1 x4_1 = some r) ∧ Aside0 (kq ≤ k) ∧ Aside0 (Kd.R (Kd.int .i64) 3 w' w.heap.size (fun _ => True) v3 x3_1) ∧ Aside0 (Below w.heap.size w w'))
  case atStart => exact ⟨(([] : List Int)), (0), (by first | rfl | (simp; done) | (simp [*]; done)), H', ⟨Nat.le_refl _⟩, ⟨by first | exact Kd.R_nil _ _ _ _ _ | exact Kd.N_nil _ _ _ _ _ | exact Kd.V_nil _ _ _ _ _ | exact Kd.Q_nil _ _ _ _ _ | exact Kd.S_nil _ _ _ _ _⟩, ⟨by repeat (first | (with_reducible first | exact HB.out | apply below_alloc | apply pw_below_drewN | apply below_drew1) | exact HB.out)⟩⟩
  case round =>
    clear H'
    try clear c1
    obtain ⟨x3_1, x4_1, rfl, HA, HK1, HO_3, HB⟩ := hrel
    cases gk with
    | zero => exact absurd HA.out (by simp [caesuraref02_Firsts.l0])
    | succ k1 =>
      have H := HA.out
      clear HA
      simp only [caesuraref02_Firsts.l0] at H
      by_cases c2 : x4_1 < (l0.length : Int)
      · rw [if_pos c2] at H
        have c2b0 : decide (x4_1 < (l0.length : Int)) = true := decide_eq_true c2
        clear c2
        by_cases c3 : 0 ≤ x4_1
        · rw [if_pos c3] at H
          have c3b0 : decide (0 ≤ x4_1) = true := decide_eq_true c3
          clear c3
          replace H := Option.bind_eq_some_iff.mp H
          obtain ⟨t149, A40, H⟩ := H
          replace H : (if x3_1.length < 17592186044416 then (caesuraref02_Firsts.l0 k1 l0 (x3_1 ++ [t149]) (wrap64 (x4_1 + 1))) else (none)) = some r := H
          have A4 := Aside0.mk A40
          clear A40
          by_cases c5 : x3_1.length < 17592186044416
          · rw [if_pos c5] at H
            have LMc5 := Aside0.mk c5
            clear c5
            obtain ⟨y150, hy150⟩ : ∃ y_ : List Int, y_ = (x3_1 ++ [t149]) := ⟨_, rfl⟩
            replace H : (caesuraref02_Firsts.l0 k1 l0 y150 (wrap64 (x4_1 + 1))) = some r := by first | (rw [hy150]; with_reducible exact H) | (have H2_ := (Option.bind_some _ _).symm.trans H; rw [hy150]; with_reducible exact H2_) | (have H2_ := (Option.bind_some _ _).symm.trans H; with_reducible exact H2_) | with_reducible exact H | (rw [hy150]; exact H) | exact H
            have Ny150 := Aside0.mk hy150
            clear hy150
            have H' := Aside0.mk H
            clear H
            have p148 : 0 ≤ (x4_1 : Int) := of_decide_eq_true (by first | (with_reducible assumption) | assumption)
            have q148 : x4_1 < (l0.length : Int) := of_decide_eq_true (by first | (with_reducible assumption) | assumption)
            obtain ⟨ad148, A148_0, c148_0, e148, hx148_0, hl148_0, hi148_0⟩ := at_L2 HR0.out x4_1 p148 q148
            cases e148
            replace hx148_0 := (HB.out.cell (World.block_lt_of_cell? w _ hx148_0)).trans hx148_0
            have HR148_0 := Aside0.mk hi148_0
            have HC148_0 := Aside0.mk hl148_0
            clear hi148_0 hl148_0
            replace p148 := eq_true p148
            replace q148 := eq_true q148
            go_wp2_with (first | ((with_reducible refine gate_callee (f := 34) rfl ?_); refine goesL_ (some 16) rfl rfl Tryz.func34 (by kernel_rfl) rfl #[.slice A148_0 (rd_L2 l0 x4_1).length c148_0] rfl (by (try simp only [List.map_toArray, List.map_cons, List.map_nil]); first | done | rfl | (simp only [List.length_drop, List.length_take]; rfl)) ?_; (with_reducible refine (caesuraref01_First.calls _ _ (rd_L2 l0 x4_1) t149 _ ?side1 ?side2 A4.out).mono ?_); (case side1 => repeat (first | exact (Kd.C_below HR148_0.out HB.out) | (with_reducible refine Kd.C_alloc ?_ _) | (with_reducible refine Kd.C_drewN ?_ _) | (with_reducible refine Kd.C_drew ?_))); (case side2 => exact HC148_0.out); rintro e w6 ⟨rfl, hb⟩; refine ⟨_, rfl, ?_⟩; have n0_ := Aside0.mk (Kd.R_below (by (with_reducible repeat (first | apply Kd.R_alloc | apply Kd.R_drewN | apply Kd.R_drew)); exact HO_3.out) hb); have n1_ := Aside0.mk (below_step (by repeat (first | (with_reducible first | exact HB.out | apply below_alloc | apply pw_below_drewN | apply below_drew1) | exact HB.out)) hb); clear HO_3; clear HB; have HO_3 := n0_; have HB := n1_; clear n0_ n1_; (try clear hb); (try clear hb2); (try clear hk); (try clear hi)) | ((with_reducible refine gate_builtin (b := .append) (xs := #[.tmp 11, .tmp 17]) rfl ?_); at_builtin; refine Kd.R_append (Kd.int .i64) (w0 := w) w.heap.size rfl (.tmp 11) (.tmp 17) 32 3 (.int .i64 0) 8 rfl Tryz.underlying32 info3 rfl (by decide) (by omega) u3 x3_1 t149 [.int .i64 t149] (fun _ => True) (fun _ => False) rfl rfl ?aP (fun _ hk => hk.elim) ?aF ?aO ?aB ?aS ?aL ?_; (case aP => exact rfl); (case aB => exact (by repeat (first | (with_reducible first | exact HB.out | apply below_alloc | apply pw_below_drewN | apply below_drew1) | exact HB.out))); (case aF => exact (fun _ _ => trivial)); (case aO => exact (by (with_reducible repeat (first | apply Kd.R_alloc | apply Kd.R_drewN | apply Kd.R_drew)); exact HO_3.out)); (case aS => exact (below_size (by repeat (first | (with_reducible first | exact HB.out | apply below_alloc | apply pw_below_drewN | apply below_drew1) | exact HB.out)))); (case aL => have := LMc5.out; omega); intro v151 w7 ho hb hg hat; rw [← Ny150.out] at ho; have n0_ := Aside0.mk (hb); have n1_ := Aside0.mk (ho); clear HB; clear HO_3; have HB := n0_; have HO152 := n1_; clear n0_ n1_; clear ho hb hg hat))
            go_roundg k1
            case measure => have := HK1.out; omega
            case rel => exact ⟨(y150), (wrap64 (x4_1 + 1)), (by first | rfl | (simp; done) | (simp [*]; done)), H', ⟨by have := HK1.out; omega⟩, ⟨by (with_reducible repeat (first | apply Kd.R_alloc | apply Kd.R_drewN | apply Kd.R_drew)); exact HO152.out⟩, ⟨by repeat (first | (with_reducible first | exact HB.out | apply below_alloc | apply pw_below_drewN | apply below_drew1) | exact HB.out)⟩⟩
          · rw [if_neg c5] at H
            exact absurd H (by simp)
        · rw [if_neg c3] at H
          exact absurd H (by simp)
      · rw [if_neg c2] at H
        have c2b0 : decide (x4_1 < (l0.length : Int)) = false := decide_eq_false c2
        clear c2
        obtain rfl := Option.some.inj H
        go_wp2
        go_ret
        exact ⟨_, by first | rfl | (simp [errW_none, errW_some] <;> rfl) | (simp [*, errW_none, errW_some] <;> rfl), by (with_reducible repeat (first | apply Kd.R_alloc | apply Kd.R_drewN | apply Kd.R_drew)); exact HO_3.out, by repeat (first | (with_reducible first | exact HB.out | apply below_alloc | apply pw_below_drewN | apply below_drew1) | exact HB.out)⟩
def caesuraref02_Within.l0 : Nat → List (S38) → List Int → List Int → Int → Option (List Int)
  | 0, _, _, _, _ => none
  | k + 1, x1, x5, x6, x7 => if x7 < (x6.length : Int) then (if 0 ≤ x7 then ((caesuraref01_Has.f k x1 (rd x6 x7)).bind fun t157 => (if t157 = true then (if x5.length < 17592186044416 then (caesuraref02_Within.l0 k x1 (x5 ++ [x7]) x6 (wrap64 (x7 + 1))) else (none)) else (caesuraref02_Within.l0 k x1 x5 x6 (wrap64 (x7 + 1))))) else (none)) else (some x5)
def caesuraref02_Within.f (k : Nat) (l0 : List (List (S38))) (l1 : List (S38)) : Option (List Int) := (caesuraref02_Firsts.f k l0).bind fun t153 => (caesuraref02_Within.l0 k l1 ([] : List Int) t153 0)
theorem caesuraref02_Within.mono_l : ∀ k, (∀ y0 y1 y2 y3, LeO (caesuraref02_Within.l0 k y0 y1 y2 y3) (caesuraref02_Within.l0 (k + 1) y0 y1 y2 y3))
  | 0 => fun _ _ _ _ r h => by simp [caesuraref02_Within.l0] at h
  | k + 1 => by
    have ih0 := caesuraref02_Within.mono_l k
    · intro y0 y1 y2 y3
      unfold caesuraref02_Within.l0
      repeat' first
      | (with_reducible exact ih0 _ _ _ _)
      | (with_reducible exact caesuraref01_Has.mono _ _ _)
      | (with_reducible exact caesuraref02_Firsts.mono _ _)
      | (with_reducible exact LeO.refl _)
      | (with_reducible exact LeO.none _)
      | (with_reducible refine LeO.ite ?_ ?_)
      | (with_reducible refine LeO.bind ?_ (fun _ => ?_))
      | exact ih0 _ _ _ _
      | exact caesuraref01_Has.mono _ _ _
      | exact caesuraref02_Firsts.mono _ _
      | exact LeO.none _
      | refine LeO.ite ?_ ?_
      | refine LeO.bind ?_ (fun _ => ?_)
theorem caesuraref02_Within.mono : ∀ a0 a1 k, LeO (caesuraref02_Within.f k a0 a1) (caesuraref02_Within.f (k + 1) a0 a1) := by
  intro a0 a1 k
  have ih0 := caesuraref02_Within.mono_l k
  unfold caesuraref02_Within.f
  repeat' first
      | (with_reducible exact ih0 _ _ _ _)
      | (with_reducible exact caesuraref01_Has.mono _ _ _)
      | (with_reducible exact caesuraref02_Firsts.mono _ _)
      | (with_reducible exact LeO.refl _)
      | (with_reducible exact LeO.none _)
      | (with_reducible refine LeO.ite ?_ ?_)
      | (with_reducible refine LeO.bind ?_ (fun _ => ?_))
      | exact ih0 _ _ _ _
      | exact caesuraref01_Has.mono _ _ _
      | exact caesuraref02_Firsts.mono _ _
      | exact LeO.none _
      | refine LeO.ite ?_ ?_
      | refine LeO.bind ?_ (fun _ => ?_)
set_option maxHeartbeats 8000000 in
set_option maxRecDepth 100000 in
theorem caesuraref02_Within.calls (k : Nat) (A0 : Option Addr) (c0 : Nat) (l0 : List (List (S38))) (A1 : Option Addr) (c1 : Nat) (l1 : List (S38)) (r : List Int) (w : World) (hr0 : Kd.C (Kd.slice 38 k38) w A0 l0.length l0) (hc0 : l0.length ≤ c0) (hr1 : Kd.C k38 w A1 l1.length l1) (hc1 : l1.length ≤ c1) (h : caesuraref02_Within.f k l0 l1 = some r) :
    Calls Tryz.prog 13 #[.slice A0 l0.length c0, .slice A1 l1.length c1] w fun e w' => ∃ v0_ : Value, e = .returned (v0_) ∧ Kd.R (Kd.int .i64) 3 w' w.heap.size (fun _ => True) v0_ r ∧ Below w.heap.size w w' := by
  have HR0 := Aside0.mk hr0
  have HC0 := Aside0.mk hc0
  clear hr0 hc0
  have HR1 := Aside0.mk hr1
  have HC1 := Aside0.mk hc1
  clear hr1 hc1
  have HB := Aside0.mk (Below.refl w.heap.size w)
  have H : ((caesuraref02_Firsts.f k l0).bind fun t153 => (caesuraref02_Within.l0 k l1 ([] : List Int) t153 0)) = some r := h
  clear h
  replace H := Option.bind_eq_some_iff.mp H
  obtain ⟨t153, A30, H⟩ := H
  replace H : (caesuraref02_Within.l0 k l1 ([] : List Int) t153 0) = some r := H
  have A3 := Aside0.mk A30
  clear A30
  have H' := Aside0.mk H
  clear H
  go_enter Tryz.func13, Tryz.ntmps13
  go_wp2_with (first | ((with_reducible refine gate_callee (f := 15) rfl ?_); refine goesL_ (some 9) rfl rfl Tryz.func15 (by kernel_rfl) rfl #[.slice A0 l0.length c0] rfl (by (try simp only [List.map_toArray, List.map_cons, List.map_nil]); first | done | rfl | (simp only [List.length_drop, List.length_take]; rfl)) ?_; (with_reducible refine (caesuraref02_Firsts.calls k _ _ l0 t153 _ ?side1 ?side2 A3.out).mono ?_); (case side1 => repeat (first | exact HR0.out | (with_reducible refine Kd.C_alloc ?_ _) | (with_reducible refine Kd.C_drewN ?_ _) | (with_reducible refine Kd.C_drew ?_))); (case side2 => exact HC0.out); rintro e w4 ⟨v154, rfl, ho0, hb⟩; refine ⟨_, rfl, ?_⟩; have n0_ := Aside0.mk (Kd.R_lower ho0 (below_size (by repeat (first | (with_reducible first | exact HB.out | apply below_alloc | apply pw_below_drewN | apply below_drew1) | exact HB.out)))); have n1_ := Aside0.mk (below_step (by repeat (first | (with_reducible first | exact HB.out | apply below_alloc | apply pw_below_drewN | apply below_drew1) | exact HB.out)) hb); clear HB; have HO155 := n0_; have HB := n1_; clear n0_ n1_; (try clear hb); (try clear hb2); (try clear hk); (try clear hi); (try clear ho0)))
  go_loopg [5, 7] k (fun kq v5 v7 w' => ∃ (x5_1 : List Int) (x7_1 : Int), v7 = .int .i64 x7_1 ∧ Aside0 (caesuraref02_Within.l0 kq l1 x5_1 t153 x7_1 = some r) ∧ Aside0 (kq ≤ k) ∧ Aside0 (Kd.R (Kd.int .i64) 3 w' w.heap.size (fun k_ => some k_ ≠ (v154 : Value).ownBlock) v5 x5_1) ∧ Aside0 (Kd.R (Kd.int .i64) 3 w' w.heap.size (fun k_ => some k_ ≠ (v5 : Value).ownBlock) v154 t153) ∧ Aside0 (Below w.heap.size w w'))
  case atStart => exact ⟨(([] : List Int)), (0), (by first | rfl | (simp; done) | (simp [*]; done)), H', ⟨Nat.le_refl _⟩, ⟨by first | exact Kd.R_nil _ _ _ _ _ | exact Kd.N_nil _ _ _ _ _ | exact Kd.V_nil _ _ _ _ _ | exact Kd.Q_nil _ _ _ _ _ | exact Kd.S_nil _ _ _ _ _⟩, ⟨by (with_reducible repeat (first | apply Kd.R_alloc | apply Kd.R_drewN | apply Kd.R_drew)); exact Kd.R_mono HO155.out (fun _ hk => (by simp [Value.ownBlock]))⟩, ⟨by repeat (first | (with_reducible first | exact HB.out | apply below_alloc | apply pw_below_drewN | apply below_drew1) | exact HB.out)⟩⟩
  case round =>
    clear H'
    try clear c1
    try clear p2
    obtain ⟨x5_1, x7_1, rfl, HA, HK1, HO_5, HO_6, HB⟩ := hrel
    cases gk with
    | zero => exact absurd HA.out (by simp [caesuraref02_Within.l0])
    | succ k1 =>
      have H := HA.out
      clear HA
      simp only [caesuraref02_Within.l0] at H
      by_cases c5 : x7_1 < (t153.length : Int)
      · rw [if_pos c5] at H
        have c5b0 : decide (x7_1 < (t153.length : Int)) = true := decide_eq_true c5
        clear c5
        by_cases c6 : 0 ≤ x7_1
        · rw [if_pos c6] at H
          have c6b0 : decide (0 ≤ x7_1) = true := decide_eq_true c6
          clear c6
          replace H := Option.bind_eq_some_iff.mp H
          obtain ⟨t157, A70, H⟩ := H
          replace H : (if t157 = true then (if x5_1.length < 17592186044416 then (caesuraref02_Within.l0 k1 l1 (x5_1 ++ [x7_1]) t153 (wrap64 (x7_1 + 1))) else (none)) else (caesuraref02_Within.l0 k1 l1 x5_1 t153 (wrap64 (x7_1 + 1)))) = some r := H
          have A7 := Aside0.mk A70
          clear A70
          by_cases c8 : t157 = true
          · subst c8
            have H1 : (if x5_1.length < 17592186044416 then (caesuraref02_Within.l0 k1 l1 (x5_1 ++ [x7_1]) t153 (wrap64 (x7_1 + 1))) else (none)) = some r := by rw [if_pos rfl] at H; exact H
            clear H
            have H := H1
            clear H1
            by_cases c9 : x5_1.length < 17592186044416
            · rw [if_pos c9] at H
              have LMc9 := Aside0.mk c9
              clear c9
              obtain ⟨y158, hy158⟩ : ∃ y_ : List Int, y_ = (x5_1 ++ [x7_1]) := ⟨_, rfl⟩
              replace H : (caesuraref02_Within.l0 k1 l1 y158 t153 (wrap64 (x7_1 + 1))) = some r := by first | (rw [hy158]; with_reducible exact H) | (have H2_ := (Option.bind_some _ _).symm.trans H; rw [hy158]; with_reducible exact H2_) | (have H2_ := (Option.bind_some _ _).symm.trans H; with_reducible exact H2_) | with_reducible exact H | (rw [hy158]; exact H) | exact H
              have Ny158 := Aside0.mk hy158
              clear hy158
              have H' := Aside0.mk H
              clear H
              obtain ⟨Ao10, co10, eo10⟩ := Kd.R_slice HO_6.out
              subst eo10
              have p156 : 0 ≤ (x7_1 : Int) := of_decide_eq_true (by first | (with_reducible assumption) | assumption)
              have q156 : x7_1 < (t153.length : Int) := of_decide_eq_true (by first | (with_reducible assumption) | assumption)
              obtain ⟨ad156, e156, hx156_0⟩ := Kd.at_int (Kd.R_reads' HO_6.out).2.2 x7_1 p156 q156
              cases e156
              replace p156 := eq_true p156
              replace q156 := eq_true q156
              go_wp2_with (first | ((with_reducible refine gate_callee (f := 32) rfl ?_); refine goesL_ (some 21) rfl rfl Tryz.func32 (by kernel_rfl) rfl #[.slice A1 l1.length c1, .int .i64 (rd t153 x7_1)] rfl (by (try simp only [List.map_toArray, List.map_cons, List.map_nil]); first | done | rfl | (simp only [List.length_drop, List.length_take]; rfl)) ?_; (with_reducible refine (caesuraref01_Has.calls k1 _ _ l1 (rd t153 x7_1) true _ ?side1 ?side2 A7.out).mono ?_); (case side1 => repeat (first | exact (Kd.C_below HR1.out HB.out) | (with_reducible refine Kd.C_alloc ?_ _) | (with_reducible refine Kd.C_drewN ?_ _) | (with_reducible refine Kd.C_drew ?_))); (case side2 => exact HC1.out); rintro e w' ⟨rfl, ⟨nd, rfl⟩⟩; refine ⟨_, rfl, ?_⟩) | ((with_reducible refine gate_builtin (b := .append) (xs := #[.tmp 22, .tmp 24]) rfl ?_); at_builtin; refine Kd.R_append (Kd.int .i64) (w0 := w) w.heap.size rfl (.tmp 22) (.tmp 24) 32 3 (.int .i64 0) 8 rfl Tryz.underlying32 info3 rfl (by decide) (by omega) u5 x5_1 x7_1 [.int .i64 x7_1] (fun k_ => some k_ ≠ (.slice (some ad156) t153.length co10 : Value).ownBlock) (fun _ => False) rfl rfl ?aP (fun _ hk => hk.elim) ?aF ?aO ?aB ?aS ?aL ?_; (case aP => exact rfl); (case aB => exact (by repeat (first | (with_reducible first | exact HB.out | apply below_alloc | apply pw_below_drewN | apply below_drew1) | exact HB.out))); (case aF => exact (fun k_ hk => Kd.fresh' (Kd.R_lt (by (with_reducible repeat (first | apply Kd.R_alloc | apply Kd.R_drewN | apply Kd.R_drew)); exact HO_6.out)) k_ hk)); (case aO => exact (by (with_reducible repeat (first | apply Kd.R_alloc | apply Kd.R_drewN | apply Kd.R_drew)); exact HO_5.out)); (case aS => exact (below_size (by repeat (first | (with_reducible first | exact HB.out | apply below_alloc | apply pw_below_drewN | apply below_drew1) | exact HB.out)))); (case aL => have := LMc9.out; omega); intro v159 w11 ho hb hg hat; rw [← Ny158.out] at ho; have n0_ := Aside0.mk (Kd.R_after (ok := (fun _ => True)) (by (with_reducible repeat (first | apply Kd.R_alloc | apply Kd.R_drewN | apply Kd.R_drew)); exact Kd.R_mono HO_6.out (fun _ hk => ⟨trivial, hk⟩)) hg hat); have n1_ := Aside0.mk (hb); have n2_ := Aside0.mk (ho); clear HO_6; clear HB; clear HO_5; have HO_6 := n0_; have HB := n1_; have HO160 := n2_; clear n0_ n1_ n2_; clear ho hb hg hat))
              go_roundg k1
              case measure => have := HK1.out; omega
              case rel => exact ⟨(y158), (wrap64 (x7_1 + 1)), (by first | rfl | (simp; done) | (simp [*]; done)), H', ⟨by have := HK1.out; omega⟩, ⟨by (with_reducible repeat (first | apply Kd.R_alloc | apply Kd.R_drewN | apply Kd.R_drew)); exact HO160.out⟩, ⟨by (with_reducible repeat (first | apply Kd.R_alloc | apply Kd.R_drewN | apply Kd.R_drew)); exact Kd.R_mono HO_6.out (fun _ hk => hk.2)⟩, ⟨by repeat (first | (with_reducible first | exact HB.out | apply below_alloc | apply pw_below_drewN | apply below_drew1) | exact HB.out)⟩⟩
            · rw [if_neg c9] at H
              exact absurd H (by simp)
          · replace c8 := Bool.eq_false_iff.mpr c8
            subst c8
            have H1 : (caesuraref02_Within.l0 k1 l1 x5_1 t153 (wrap64 (x7_1 + 1))) = some r := by rw [if_neg (show ¬ (false = true) by decide)] at H; exact H
            clear H
            have H := H1
            clear H1
            have H' := Aside0.mk H
            clear H
            obtain ⟨Ao12, co12, eo12⟩ := Kd.R_slice HO_6.out
            subst eo12
            have p156 : 0 ≤ (x7_1 : Int) := of_decide_eq_true (by first | (with_reducible assumption) | assumption)
            have q156 : x7_1 < (t153.length : Int) := of_decide_eq_true (by first | (with_reducible assumption) | assumption)
            obtain ⟨ad156, e156, hx156_0⟩ := Kd.at_int (Kd.R_reads' HO_6.out).2.2 x7_1 p156 q156
            cases e156
            replace p156 := eq_true p156
            replace q156 := eq_true q156
            go_wp2_with (first | ((with_reducible refine gate_callee (f := 32) rfl ?_); refine goesL_ (some 21) rfl rfl Tryz.func32 (by kernel_rfl) rfl #[.slice A1 l1.length c1, .int .i64 (rd t153 x7_1)] rfl (by (try simp only [List.map_toArray, List.map_cons, List.map_nil]); first | done | rfl | (simp only [List.length_drop, List.length_take]; rfl)) ?_; (with_reducible refine (caesuraref01_Has.calls k1 _ _ l1 (rd t153 x7_1) false _ ?side1 ?side2 A7.out).mono ?_); (case side1 => repeat (first | exact (Kd.C_below HR1.out HB.out) | (with_reducible refine Kd.C_alloc ?_ _) | (with_reducible refine Kd.C_drewN ?_ _) | (with_reducible refine Kd.C_drew ?_))); (case side2 => exact HC1.out); rintro e w' ⟨rfl, ⟨nd, rfl⟩⟩; refine ⟨_, rfl, ?_⟩))
            go_roundg k1
            case measure => have := HK1.out; omega
            case rel => exact ⟨(x5_1), (wrap64 (x7_1 + 1)), (by first | rfl | (simp; done) | (simp [*]; done)), H', ⟨by have := HK1.out; omega⟩, ⟨by (with_reducible repeat (first | apply Kd.R_alloc | apply Kd.R_drewN | apply Kd.R_drew)); exact HO_5.out⟩, ⟨by (with_reducible repeat (first | apply Kd.R_alloc | apply Kd.R_drewN | apply Kd.R_drew)); exact HO_6.out⟩, ⟨by repeat (first | (with_reducible first | exact HB.out | apply below_alloc | apply pw_below_drewN | apply below_drew1) | exact HB.out)⟩⟩
        · rw [if_neg c6] at H
          exact absurd H (by simp)
      · rw [if_neg c5] at H
        have c5b0 : decide (x7_1 < (t153.length : Int)) = false := decide_eq_false c5
        clear c5
        obtain rfl := Option.some.inj H
        obtain ⟨Ao13, co13, eo13⟩ := Kd.R_slice HO_6.out
        subst eo13
        go_wp2
        go_ret
        exact ⟨_, by first | rfl | (simp [errW_none, errW_some] <;> rfl) | (simp [*, errW_none, errW_some] <;> rfl), by (with_reducible repeat (first | apply Kd.R_alloc | apply Kd.R_drewN | apply Kd.R_drew)); exact Kd.R_mono HO_5.out (fun _ hk => trivial), by repeat (first | (with_reducible first | exact HB.out | apply below_alloc | apply pw_below_drewN | apply below_drew1) | exact HB.out)⟩
end Go.Proofs.YtippkbgeeeimjaaGreat.R
namespace Go.Proofs.YtippkbgeeeimjaaGreat.R
open Go.RowKit Go.Proofs.YtippkbgeeeimjaaGreatW.PrintWords Go.Proofs.YtippkbgeeeimjaaGreatW.PrintLast Go.Proofs.YtippkbgeeeimjaaGreatW.PrintMore Go.Proofs.YtippkbgeeeimjaaGreat.A Go.Proofs.YtippkbgeeeimjaaGreat.L Go.Proofs.YtippkbgeeeimjaaGreat.B
attribute [local go_sem] max2_int min2_int max_two min_two max_three min_three max_four min_four   -- for this text's walks alone
set_option linter.unusedVariables false
set_option linter.unusedSimpArgs false
mutual
def caesuraref02_Right.j0 : Nat → List (List (S38)) → Bool → Option (Bool)
  | 0, _, _ => none
  | k + 1, x0, x15 => if x15 = true then (some false) else (caesuraref02_Right.l0 k x0 0 (-1) 0)
def caesuraref02_Right.l0 : Nat → List (List (S38)) → Int → Int → Int → Option (Bool)
  | 0, _, _, _, _ => none
  | k + 1, x0, x3, x4, x5 => if x5 < (x0.length : Int) then (if 0 ≤ x5 then ((caesuraref01_First.f (rd_L2 x0 x5)).bind fun t162 => ((caesuraref01_Right.f k (rd_L2 x0 x5)).bind fun t164 => (if t164 = true then (caesuraref02_Right.j2 k x0 x3 x5 t162 (decide (t162 ≤ x4))) else (caesuraref02_Right.j2 k x0 x3 x5 t162 true)))) else (none)) else (some (x3 == 1114112))
def caesuraref02_Right.j2 : Nat → List (List (S38)) → Int → Int → Int → Bool → Option (Bool)
  | 0, _, _, _, _, _ => none
  | k + 1, x0, x3, x5, x6, x37 => if x37 = true then (some false) else (if 0 ≤ x5 then (if x5 < (x0.length : Int) then ((caesuraref01_Size.f k (rd_L2 x0 x5)).bind fun t166 => (caesuraref02_Right.l1 k x0 (wrap64 (x3 + t166)) x6 x5 0)) else (none)) else (none))
def caesuraref02_Right.l1 : Nat → List (List (S38)) → Int → Int → Int → Int → Option (Bool)
  | 0, _, _, _, _, _ => none
  | k + 1, x0, x3, x4, x5, x7 => if x7 < x5 then (if 0 ≤ x5 then (if x5 < (x0.length : Int) then (if 0 ≤ x7 then (if x7 < (x0.length : Int) then ((caesuraref01_And.f (rd_L2 x0 x5) (rd_L2 x0 x7)).bind fun t169 => (if (t169.length : Int) > 0 then (some false) else (caesuraref02_Right.l1 k x0 x3 x4 x5 (wrap64 (x7 + 1))))) else (none)) else (none)) else (none)) else (none)) else (caesuraref02_Right.l0 k x0 x3 x4 (wrap64 (x5 + 1)))
end
def caesuraref02_Right.f (k : Nat) (l0 : List (List (S38))) : Option (Bool) := if (l0.length : Int) < 1 then (caesuraref02_Right.j0 k l0 true) else (caesuraref02_Right.j0 k l0 (decide ((l0.length : Int) > 200)))
theorem caesuraref02_Right.mono_l : ∀ k, (∀ y0 y1, LeO (caesuraref02_Right.j0 k y0 y1) (caesuraref02_Right.j0 (k + 1) y0 y1)) ∧ (∀ y0 y1 y2 y3, LeO (caesuraref02_Right.l0 k y0 y1 y2 y3) (caesuraref02_Right.l0 (k + 1) y0 y1 y2 y3)) ∧ (∀ y0 y1 y2 y3 y4, LeO (caesuraref02_Right.j2 k y0 y1 y2 y3 y4) (caesuraref02_Right.j2 (k + 1) y0 y1 y2 y3 y4)) ∧ (∀ y0 y1 y2 y3 y4, LeO (caesuraref02_Right.l1 k y0 y1 y2 y3 y4) (caesuraref02_Right.l1 (k + 1) y0 y1 y2 y3 y4))
  | 0 => ⟨fun _ _ r h => by simp [caesuraref02_Right.j0] at h, fun _ _ _ _ r h => by simp [caesuraref02_Right.l0] at h, fun _ _ _ _ _ r h => by simp [caesuraref02_Right.j2] at h, fun _ _ _ _ _ r h => by simp [caesuraref02_Right.l1] at h⟩
  | k + 1 => by
    obtain ⟨ih0, ih1, ih2, ih3⟩ := caesuraref02_Right.mono_l k
    refine ⟨?_, ?_, ?_, ?_⟩
    · intro y0 y1
      unfold caesuraref02_Right.j0
      repeat' first
      | (with_reducible exact ih0 _ _)
      | (with_reducible exact ih1 _ _ _ _)
      | (with_reducible exact ih2 _ _ _ _ _)
      | (with_reducible exact ih3 _ _ _ _ _)
      | (with_reducible exact caesuraref01_Right.mono _ _)
      | (with_reducible exact caesuraref01_Size.mono _ _)
      | (with_reducible exact LeO.refl _)
      | (with_reducible exact LeO.none _)
      | (with_reducible refine LeO.ite ?_ ?_)
      | (with_reducible refine LeO.bind ?_ (fun _ => ?_))
      | exact ih0 _ _
      | exact ih1 _ _ _ _
      | exact ih2 _ _ _ _ _
      | exact ih3 _ _ _ _ _
      | exact caesuraref01_Right.mono _ _
      | exact caesuraref01_Size.mono _ _
      | exact LeO.none _
      | refine LeO.ite ?_ ?_
      | refine LeO.bind ?_ (fun _ => ?_)
    · intro y0 y1 y2 y3
      unfold caesuraref02_Right.l0
      repeat' first
      | (with_reducible exact ih0 _ _)
      | (with_reducible exact ih1 _ _ _ _)
      | (with_reducible exact ih2 _ _ _ _ _)
      | (with_reducible exact ih3 _ _ _ _ _)
      | (with_reducible exact caesuraref01_Right.mono _ _)
      | (with_reducible exact caesuraref01_Size.mono _ _)
      | (with_reducible exact LeO.refl _)
      | (with_reducible exact LeO.none _)
      | (with_reducible refine LeO.ite ?_ ?_)
      | (with_reducible refine LeO.bind ?_ (fun _ => ?_))
      | exact ih0 _ _
      | exact ih1 _ _ _ _
      | exact ih2 _ _ _ _ _
      | exact ih3 _ _ _ _ _
      | exact caesuraref01_Right.mono _ _
      | exact caesuraref01_Size.mono _ _
      | exact LeO.none _
      | refine LeO.ite ?_ ?_
      | refine LeO.bind ?_ (fun _ => ?_)
    · intro y0 y1 y2 y3 y4
      unfold caesuraref02_Right.j2
      repeat' first
      | (with_reducible exact ih0 _ _)
      | (with_reducible exact ih1 _ _ _ _)
      | (with_reducible exact ih2 _ _ _ _ _)
      | (with_reducible exact ih3 _ _ _ _ _)
      | (with_reducible exact caesuraref01_Right.mono _ _)
      | (with_reducible exact caesuraref01_Size.mono _ _)
      | (with_reducible exact LeO.refl _)
      | (with_reducible exact LeO.none _)
      | (with_reducible refine LeO.ite ?_ ?_)
      | (with_reducible refine LeO.bind ?_ (fun _ => ?_))
      | exact ih0 _ _
      | exact ih1 _ _ _ _
      | exact ih2 _ _ _ _ _
      | exact ih3 _ _ _ _ _
      | exact caesuraref01_Right.mono _ _
      | exact caesuraref01_Size.mono _ _
      | exact LeO.none _
      | refine LeO.ite ?_ ?_
      | refine LeO.bind ?_ (fun _ => ?_)
    · intro y0 y1 y2 y3 y4
      unfold caesuraref02_Right.l1
      repeat' first
      | (with_reducible exact ih0 _ _)
      | (with_reducible exact ih1 _ _ _ _)
      | (with_reducible exact ih2 _ _ _ _ _)
      | (with_reducible exact ih3 _ _ _ _ _)
      | (with_reducible exact caesuraref01_Right.mono _ _)
      | (with_reducible exact caesuraref01_Size.mono _ _)
      | (with_reducible exact LeO.refl _)
      | (with_reducible exact LeO.none _)
      | (with_reducible refine LeO.ite ?_ ?_)
      | (with_reducible refine LeO.bind ?_ (fun _ => ?_))
      | exact ih0 _ _
      | exact ih1 _ _ _ _
      | exact ih2 _ _ _ _ _
      | exact ih3 _ _ _ _ _
      | exact caesuraref01_Right.mono _ _
      | exact caesuraref01_Size.mono _ _
      | exact LeO.none _
      | refine LeO.ite ?_ ?_
      | refine LeO.bind ?_ (fun _ => ?_)
theorem caesuraref02_Right.mono : ∀ a0 k, LeO (caesuraref02_Right.f k a0) (caesuraref02_Right.f (k + 1) a0) := by
  intro a0 k
  obtain ⟨ih0, ih1, ih2, ih3⟩ := caesuraref02_Right.mono_l k
  unfold caesuraref02_Right.f
  repeat' first
      | (with_reducible exact ih0 _ _)
      | (with_reducible exact ih1 _ _ _ _)
      | (with_reducible exact ih2 _ _ _ _ _)
      | (with_reducible exact ih3 _ _ _ _ _)
      | (with_reducible exact caesuraref01_Right.mono _ _)
      | (with_reducible exact caesuraref01_Size.mono _ _)
      | (with_reducible exact LeO.refl _)
      | (with_reducible exact LeO.none _)
      | (with_reducible refine LeO.ite ?_ ?_)
      | (with_reducible refine LeO.bind ?_ (fun _ => ?_))
      | exact ih0 _ _
      | exact ih1 _ _ _ _
      | exact ih2 _ _ _ _ _
      | exact ih3 _ _ _ _ _
      | exact caesuraref01_Right.mono _ _
      | exact caesuraref01_Size.mono _ _
      | exact LeO.none _
      | refine LeO.ite ?_ ?_
      | refine LeO.bind ?_ (fun _ => ?_)
def caesuraref02_Right.T14 : Bool × List (List Nat × List Nat) := (true, [([], []), ([], []), ([0, 1], [0, 1]), ([2], [2]), ([], []), ([], []), ([4, 5], [4, 5]), ([6], [6]), ([3, 7], [3, 7]), ([8], [8]), ([9], [9])])
def caesuraref02_Right.B14 : List Nat := [0, 0, 3, 7, 0, 0, 48, 112, 255, 511, 1023]
theorem caesuraref02_Right.tab14 : rtab .any (opsOf Tryz.f17 14) = caesuraref02_Right.T14 := by kernel_rfl
theorem caesuraref02_Right.bits14 : waitsOk caesuraref02_Right.T14.2 caesuraref02_Right.B14 = true := by kernel_rfl
set_option maxHeartbeats 8000000 in
set_option maxRecDepth 100000 in
theorem caesuraref02_Right.calls (k : Nat) (A0 : Option Addr) (c0 : Nat) (l0 : List (List (S38))) (r : Bool) (w : World) (hr0 : Kd.C (Kd.slice 38 k38) w A0 l0.length l0) (hc0 : l0.length ≤ c0) (h : caesuraref02_Right.f k l0 = some r) :
    Calls Tryz.prog 17 #[.slice A0 l0.length c0] w fun e w' => e = .returned (.bool r) ∧ Below w.heap.size w w' := by
  have HR0 := Aside0.mk hr0
  have HC0 := Aside0.mk hc0
  clear hr0 hc0
  have HB := Aside0.mk (Below.refl w.heap.size w)
  have H : (if (l0.length : Int) < 1 then (caesuraref02_Right.j0 k l0 true) else (caesuraref02_Right.j0 k l0 (decide ((l0.length : Int) > 200)))) = some r := h
  clear h
  have HC2 := Aside0.mk H
  clear H
  go_enter Tryz.func17, Tryz.ntmps17
  go_upto_region 1 with (fail)
  go_cut [15] (fun v15 wc => ∃ (kq : Nat) (x15_1 : Bool), v15 = .bool x15_1 ∧ Aside0 (caesuraref02_Right.j0 kq l0 x15_1 = some r) ∧ Aside0 (kq ≤ k) ∧ Aside0 (Below w.heap.size w wc))
  case first =>
    have H := HC2.out
    clear HC2
    by_cases c3 : (l0.length : Int) < 1
    · rw [if_pos c3] at H
      have c3b0 : decide ((l0.length : Int) < 1) = true := decide_eq_true c3
      have c3b1 : decide (l0.length < 1) = true := decide_eq_true (by omega)
      clear c3
      (first | rw [c3b0] | (simp only [i64_w, i32_w]; rw [c3b0]) | skip)
      have H' := Aside0.mk H
      clear H
      go_wp2
      go_meet
      case rel => exact ⟨_, (true), (by first | rfl | (simp; done) | (simp [*]; done)), H', ⟨by first | omega | exact Nat.le_refl _⟩, ⟨by repeat (first | (with_reducible first | exact HB.out | apply below_alloc | apply pw_below_drewN | apply below_drew1) | exact HB.out)⟩⟩
    · rw [if_neg c3] at H
      have c3b0 : decide ((l0.length : Int) < 1) = false := decide_eq_false c3
      have c3b1 : decide (l0.length < 1) = false := decide_eq_false (by omega)
      clear c3
      (first | rw [c3b0] | (simp only [i64_w, i32_w]; rw [c3b0]) | skip)
      have H' := Aside0.mk H
      clear H
      go_wp2
      go_meet
      case rel => exact ⟨_, (decide ((l0.length : Int) > 200)), (by first | rfl | (simp; done) | (simp [*]; done)), H', ⟨by first | omega | exact Nat.le_refl _⟩, ⟨by repeat (first | (with_reducible first | exact HB.out | apply below_alloc | apply pw_below_drewN | apply below_drew1) | exact HB.out)⟩⟩
  case rest =>
    clear HC2
    try clear c1
    try clear p2
    try clear c3
    try clear c3b0
    try clear c3b1
    obtain ⟨kq, x15_1, rfl, HA, HJ1, HB⟩ := hcut
    cases kq with
    | zero => exact absurd HA.out (by simp [caesuraref02_Right.j0])
    | succ kj1 =>
      have H := HA.out
      clear HA
      simp only [caesuraref02_Right.j0] at H
      by_cases c4 : x15_1 = true
      · subst c4
        have H1 : (some false) = some r := by rw [if_pos rfl] at H; exact H
        clear H
        have H := H1
        clear H1
        obtain rfl := Option.some.inj H
        go_wp2
        go_ret
        exact ⟨by first | rfl | (simp [errW_none, errW_some] <;> rfl) | (simp [*, errW_none, errW_some] <;> rfl), by repeat (first | (with_reducible first | exact HB.out | apply below_alloc | apply pw_below_drewN | apply below_drew1) | exact HB.out)⟩
      · replace c4 := Bool.eq_false_iff.mpr c4
        subst c4
        have H1 : (caesuraref02_Right.l0 kj1 l0 0 (-1) 0) = some r := by rw [if_neg (show ¬ (false = true) by decide)] at H; exact H
        clear H
        have H := H1
        clear H1
        have H' := Aside0.mk H
        clear H
        go_wp2
        go_loopg [3, 4, 5] kj1 (fun kq v3 v4 v5 w' => ∃ (x3_2 : Int) (x4_2 : Int) (x5_2 : Int), v3 = .int .i64 x3_2 ∧ v4 = .int .i64 x4_2 ∧ v5 = .int .i64 x5_2 ∧ Aside0 (caesuraref02_Right.l0 kq l0 x3_2 x4_2 x5_2 = some r) ∧ Aside0 (kq ≤ kj1) ∧ Aside0 (Below w.heap.size w w'))
        case atStart => exact ⟨(0), ((-1)), (0), (by first | rfl | (simp; done) | (simp [*]; done)), (by first | rfl | (simp; done) | (simp [*]; done)), (by first | rfl | (simp; done) | (simp [*]; done)), H', ⟨Nat.le_refl _⟩, ⟨by repeat (first | (with_reducible first | exact HB.out | apply below_alloc | apply pw_below_drewN | apply below_drew1) | exact HB.out)⟩⟩
        case round =>
          clear H'
          try clear c1
          try clear p2
          try clear c3
          try clear c3b0
          try clear c3b1
          try clear c4
          try clear p2
          obtain ⟨x3_2, x4_2, x5_2, rfl, rfl, rfl, HA, HK2, HB⟩ := hrel
          cases gk with
          | zero => exact absurd HA.out (by simp [caesuraref02_Right.l0])
          | succ k2 =>
            have H := HA.out
            clear HA
            simp only [caesuraref02_Right.l0] at H
            by_cases c5 : x5_2 < (l0.length : Int)
            · rw [if_pos c5] at H
              have c5b0 : decide (x5_2 < (l0.length : Int)) = true := decide_eq_true c5
              clear c5
              by_cases c6 : 0 ≤ x5_2
              · rw [if_pos c6] at H
                have c6b0 : decide (0 ≤ x5_2) = true := decide_eq_true c6
                clear c6
                replace H := Option.bind_eq_some_iff.mp H
                obtain ⟨t162, A70, H⟩ := H
                replace H : ((caesuraref01_Right.f k2 (rd_L2 l0 x5_2)).bind fun t164 => (if t164 = true then (caesuraref02_Right.j2 k2 l0 x3_2 x5_2 t162 (decide (t162 ≤ x4_2))) else (caesuraref02_Right.j2 k2 l0 x3_2 x5_2 t162 true))) = some r := H
                have A7 := Aside0.mk A70
                clear A70
                have HC8 := Aside0.mk H
                clear H
                have p161 : 0 ≤ (x5_2 : Int) := of_decide_eq_true (by first | (with_reducible assumption) | assumption)
                have q161 : x5_2 < (l0.length : Int) := of_decide_eq_true (by first | (with_reducible assumption) | assumption)
                obtain ⟨ad161, A161_0, c161_0, e161, hx161_0, hl161_0, hi161_0⟩ := at_L2 HR0.out x5_2 p161 q161
                cases e161
                replace hx161_0 := (HB.out.cell (World.block_lt_of_cell? w _ hx161_0)).trans hx161_0
                have HR161_0 := Aside0.mk hi161_0
                have HC161_0 := Aside0.mk hl161_0
                clear hi161_0 hl161_0
                replace p161 := eq_true p161
                replace q161 := eq_true q161
                go_upto_region 8 with (first | ((with_reducible refine gate_callee (f := 34) rfl ?_); refine goesL_ (some 26) rfl rfl Tryz.func34 (by kernel_rfl) rfl #[.slice A161_0 (rd_L2 l0 x5_2).length c161_0] rfl (by (try simp only [List.map_toArray, List.map_cons, List.map_nil]); first | done | rfl | (simp only [List.length_drop, List.length_take]; rfl)) ?_; (with_reducible refine (caesuraref01_First.calls _ _ (rd_L2 l0 x5_2) t162 _ ?side1 ?side2 A7.out).mono ?_); (case side1 => repeat (first | exact (Kd.C_below HR161_0.out HB.out) | (with_reducible refine Kd.C_alloc ?_ _) | (with_reducible refine Kd.C_drewN ?_ _) | (with_reducible refine Kd.C_drew ?_))); (case side2 => exact HC161_0.out); rintro e w9 ⟨rfl, hb⟩; refine ⟨_, rfl, ?_⟩; have n0_ := Aside0.mk (below_step (by repeat (first | (with_reducible first | exact HB.out | apply below_alloc | apply pw_below_drewN | apply below_drew1) | exact HB.out)) hb); clear HB; have HB := n0_; clear n0_; (try clear hb); (try clear hb2); (try clear hk); (try clear hi)))
                (try simp only [Act.put, List.setIfInBounds_toArray, List.set_cons_zero, List.set_cons_succ])
                go_cut [37] (fun v37 wc => ∃ (kq : Nat) (x37_7 : Bool), v37 = .bool x37_7 ∧ Aside0 (caesuraref02_Right.j2 kq l0 x3_2 x5_2 t162 x37_7 = some r) ∧ Aside0 (kq ≤ k2) ∧ Aside0 (Below w.heap.size w wc))
                case first =>
                  have H := HC8.out
                  clear HC8
                  replace H := Option.bind_eq_some_iff.mp H
                  obtain ⟨t164, A100, H⟩ := H
                  replace H : (if t164 = true then (caesuraref02_Right.j2 k2 l0 x3_2 x5_2 t162 (decide (t162 ≤ x4_2))) else (caesuraref02_Right.j2 k2 l0 x3_2 x5_2 t162 true)) = some r := H
                  have A10 := Aside0.mk A100
                  clear A100
                  by_cases c11 : t164 = true
                  · subst c11
                    have H1 : (caesuraref02_Right.j2 k2 l0 x3_2 x5_2 t162 (decide (t162 ≤ x4_2))) = some r := by rw [if_pos rfl] at H; exact H
                    clear H
                    have H := H1
                    clear H1
                    have H' := Aside0.mk H
                    clear H
                    have p163 : 0 ≤ (x5_2 : Int) := of_decide_eq_true (by first | (with_reducible assumption) | assumption)
                    have q163 : x5_2 < (l0.length : Int) := of_decide_eq_true (by first | (with_reducible assumption) | assumption)
                    obtain ⟨ad163, A163_0, c163_0, e163, hx163_0, hl163_0, hi163_0⟩ := at_L2 HR0.out x5_2 p163 q163
                    obtain rfl : ad161 = ad163 := (by injection e163)
                    replace hx163_0 := (HB.out.cell (World.block_lt_of_cell? w _ hx163_0)).trans hx163_0
                    have HR163_0 := Aside0.mk hi163_0
                    have HC163_0 := Aside0.mk hl163_0
                    clear hi163_0 hl163_0
                    replace p163 := eq_true p163
                    replace q163 := eq_true q163
                    go_wp2_with (first | ((with_reducible refine gate_callee (f := 39) rfl ?_); refine goesL_ (some 31) rfl rfl Tryz.func39 (by kernel_rfl) rfl #[.slice A163_0 (rd_L2 l0 x5_2).length c163_0] rfl (by (try simp only [List.map_toArray, List.map_cons, List.map_nil]); first | done | rfl | (simp only [List.length_drop, List.length_take]; rfl)) ?_; (with_reducible refine (caesuraref01_Right.calls k2 _ _ (rd_L2 l0 x5_2) true _ ?side1 ?side2 A10.out).mono ?_); (case side1 => repeat (first | exact (Kd.C_below HR163_0.out HB.out) | (with_reducible refine Kd.C_alloc ?_ _) | (with_reducible refine Kd.C_drewN ?_ _) | (with_reducible refine Kd.C_drew ?_))); (case side2 => exact HC163_0.out); rintro e w12 ⟨rfl, hb⟩; refine ⟨_, rfl, ?_⟩; have n0_ := Aside0.mk (below_step (by repeat (first | (with_reducible first | exact HB.out | apply below_alloc | apply pw_below_drewN | apply below_drew1) | exact HB.out)) hb); clear HB; have HB := n0_; clear n0_; (try clear hb); (try clear hb2); (try clear hk); (try clear hi)))
                    go_meet
                    case rel => exact ⟨_, (decide (t162 ≤ x4_2)), (by first | rfl | (simp; done) | (simp [*]; done)), H', ⟨by have := HJ1.out; have := HK2.out; first | omega | exact Nat.le_refl _⟩, ⟨by repeat (first | (with_reducible first | exact HB.out | apply below_alloc | apply pw_below_drewN | apply below_drew1) | exact HB.out)⟩⟩
                  · replace c11 := Bool.eq_false_iff.mpr c11
                    subst c11
                    have H1 : (caesuraref02_Right.j2 k2 l0 x3_2 x5_2 t162 true) = some r := by rw [if_neg (show ¬ (false = true) by decide)] at H; exact H
                    clear H
                    have H := H1
                    clear H1
                    have H' := Aside0.mk H
                    clear H
                    have p163 : 0 ≤ (x5_2 : Int) := of_decide_eq_true (by first | (with_reducible assumption) | assumption)
                    have q163 : x5_2 < (l0.length : Int) := of_decide_eq_true (by first | (with_reducible assumption) | assumption)
                    obtain ⟨ad163, A163_0, c163_0, e163, hx163_0, hl163_0, hi163_0⟩ := at_L2 HR0.out x5_2 p163 q163
                    obtain rfl : ad161 = ad163 := (by injection e163)
                    replace hx163_0 := (HB.out.cell (World.block_lt_of_cell? w _ hx163_0)).trans hx163_0
                    have HR163_0 := Aside0.mk hi163_0
                    have HC163_0 := Aside0.mk hl163_0
                    clear hi163_0 hl163_0
                    replace p163 := eq_true p163
                    replace q163 := eq_true q163
                    go_wp2_with (first | ((with_reducible refine gate_callee (f := 39) rfl ?_); refine goesL_ (some 31) rfl rfl Tryz.func39 (by kernel_rfl) rfl #[.slice A163_0 (rd_L2 l0 x5_2).length c163_0] rfl (by (try simp only [List.map_toArray, List.map_cons, List.map_nil]); first | done | rfl | (simp only [List.length_drop, List.length_take]; rfl)) ?_; (with_reducible refine (caesuraref01_Right.calls k2 _ _ (rd_L2 l0 x5_2) false _ ?side1 ?side2 A10.out).mono ?_); (case side1 => repeat (first | exact (Kd.C_below HR163_0.out HB.out) | (with_reducible refine Kd.C_alloc ?_ _) | (with_reducible refine Kd.C_drewN ?_ _) | (with_reducible refine Kd.C_drew ?_))); (case side2 => exact HC163_0.out); rintro e w13 ⟨rfl, hb⟩; refine ⟨_, rfl, ?_⟩; have n0_ := Aside0.mk (below_step (by repeat (first | (with_reducible first | exact HB.out | apply below_alloc | apply pw_below_drewN | apply below_drew1) | exact HB.out)) hb); clear HB; have HB := n0_; clear n0_; (try clear hb); (try clear hb2); (try clear hk); (try clear hi)))
                    go_meet
                    case rel => exact ⟨_, (true), (by first | rfl | (simp; done) | (simp [*]; done)), H', ⟨by have := HJ1.out; have := HK2.out; first | omega | exact Nat.le_refl _⟩, ⟨by repeat (first | (with_reducible first | exact HB.out | apply below_alloc | apply pw_below_drewN | apply below_drew1) | exact HB.out)⟩⟩
                case rest =>
                  clear HC8
                  try clear c1
                  try clear p1
                  try clear q1
                  try clear hx1
                  try clear p2
                  try clear c3
                  try clear c3b0
                  try clear c3b1
                  try clear c4
                  try clear c5
                  try clear c5b0
                  try clear c6
                  try clear c6b0
                  try clear c11
                  try clear hx161_0
                  try clear hx163_0
                  try clear p161
                  try clear p163
                  try clear p2
                  try clear q161
                  try clear q163
                  obtain ⟨kq, x37_7, rfl, HA, HJ7, HB⟩ := hcut
                  cases kq with
                  | zero => exact absurd HA.out (by simp [caesuraref02_Right.j2])
                  | succ kj7 =>
                    have H := HA.out
                    clear HA
                    simp only [caesuraref02_Right.j2] at H
                    by_cases c14 : x37_7 = true
                    · subst c14
                      have H1 : (some false) = some r := by rw [if_pos rfl] at H; exact H
                      clear H
                      have H := H1
                      clear H1
                      obtain rfl := Option.some.inj H
                      go_wp2
                      go_ret
                      exact ⟨by first | rfl | (simp [errW_none, errW_some] <;> rfl) | (simp [*, errW_none, errW_some] <;> rfl), by repeat (first | (with_reducible first | exact HB.out | apply below_alloc | apply pw_below_drewN | apply below_drew1) | exact HB.out)⟩
                    · replace c14 := Bool.eq_false_iff.mpr c14
                      subst c14
                      have H1 : (if 0 ≤ x5_2 then (if x5_2 < (l0.length : Int) then ((caesuraref01_Size.f kj7 (rd_L2 l0 x5_2)).bind fun t166 => (caesuraref02_Right.l1 kj7 l0 (wrap64 (x3_2 + t166)) t162 x5_2 0)) else (none)) else (none)) = some r := by rw [if_neg (show ¬ (false = true) by decide)] at H; exact H
                      clear H
                      have H := H1
                      clear H1
                      by_cases c15 : 0 ≤ x5_2
                      · rw [if_pos c15] at H
                        have c15b0 : decide (0 ≤ x5_2) = true := decide_eq_true c15
                        clear c15
                        by_cases c16 : x5_2 < (l0.length : Int)
                        · rw [if_pos c16] at H
                          have c16b0 : decide (x5_2 < (l0.length : Int)) = true := decide_eq_true c16
                          clear c16
                          replace H := Option.bind_eq_some_iff.mp H
                          obtain ⟨t166, A170, H⟩ := H
                          replace H : (caesuraref02_Right.l1 kj7 l0 (wrap64 (x3_2 + t166)) t162 x5_2 0) = some r := H
                          have A17 := Aside0.mk A170
                          clear A170
                          have H' := Aside0.mk H
                          clear H
                          have p165 : 0 ≤ (x5_2 : Int) := of_decide_eq_true (by first | (with_reducible assumption) | assumption)
                          have q165 : x5_2 < (l0.length : Int) := of_decide_eq_true (by first | (with_reducible assumption) | assumption)
                          obtain ⟨ad165, A165_0, c165_0, e165, hx165_0, hl165_0, hi165_0⟩ := at_L2 HR0.out x5_2 p165 q165
                          obtain rfl : ad161 = ad165 := (by injection e165)
                          replace hx165_0 := (HB.out.cell (World.block_lt_of_cell? w _ hx165_0)).trans hx165_0
                          have HR165_0 := Aside0.mk hi165_0
                          have HC165_0 := Aside0.mk hl165_0
                          clear hi165_0 hl165_0
                          replace p165 := eq_true p165
                          replace q165 := eq_true q165
                          go_wp2_with (first | ((with_reducible refine gate_callee (f := 40) rfl ?_); refine goesL_ (some 43) rfl rfl Tryz.func40 (by kernel_rfl) rfl #[.slice A165_0 (rd_L2 l0 x5_2).length c165_0] rfl (by (try simp only [List.map_toArray, List.map_cons, List.map_nil]); first | done | rfl | (simp only [List.length_drop, List.length_take]; rfl)) ?_; (with_reducible refine (caesuraref01_Size.calls kj7 _ _ (rd_L2 l0 x5_2) t166 _ ?side1 ?side2 A17.out).mono ?_); (case side1 => repeat (first | exact (Kd.C_below HR165_0.out HB.out) | (with_reducible refine Kd.C_alloc ?_ _) | (with_reducible refine Kd.C_drewN ?_ _) | (with_reducible refine Kd.C_drew ?_))); (case side2 => exact HC165_0.out); rintro e w18 ⟨rfl, hb⟩; refine ⟨_, rfl, ?_⟩; have n0_ := Aside0.mk (below_step (by repeat (first | (with_reducible first | exact HB.out | apply below_alloc | apply pw_below_drewN | apply below_drew1) | exact HB.out)) hb); clear HB; have HB := n0_; clear n0_; (try clear hb); (try clear hb2); (try clear hk); (try clear hi)))
                          go_loopg [7] kj7 (fun kq v7 w' => ∃ (x7_4 : Int), v7 = .int .i64 x7_4 ∧ Aside0 (caesuraref02_Right.l1 kq l0 (wrap64 (x3_2 + t166)) t162 x5_2 x7_4 = some r) ∧ Aside0 (kq ≤ kj7) ∧ Aside0 (Below w.heap.size w w'))
                          case atStart => exact ⟨(0), (by first | rfl | (simp; done) | (simp [*]; done)), H', ⟨Nat.le_refl _⟩, ⟨by repeat (first | (with_reducible first | exact HB.out | apply below_alloc | apply pw_below_drewN | apply below_drew1) | exact HB.out)⟩⟩
                          case round =>
                            clear H'
                            try clear c1
                            try clear p1
                            try clear q1
                            try clear hx1
                            try clear p2
                            try clear c3
                            try clear c3b0
                            try clear c3b1
                            try clear c4
                            try clear c5
                            try clear c5b0
                            try clear c6
                            try clear c6b0
                            try clear p6
                            try clear c11
                            try clear c14
                            try clear c15
                            try clear c15b0
                            try clear c16
                            try clear c16b0
                            try clear p16
                            try clear q16
                            try clear hx16
                            try clear c17
                            try clear hx161_0
                            try clear hx163_0
                            try clear hx165_0
                            try clear p1
                            try clear p161
                            try clear p163
                            try clear p165
                            try clear p2
                            try clear q1
                            try clear q161
                            try clear q163
                            try clear q165
                            obtain ⟨x7_4, rfl, HA, HK4, HB⟩ := hrel
                            cases gk with
                            | zero => exact absurd HA.out (by simp [caesuraref02_Right.l1])
                            | succ k4 =>
                              have H := HA.out
                              clear HA
                              simp only [caesuraref02_Right.l1] at H
                              by_cases c19 : x7_4 < x5_2
                              · rw [if_pos c19] at H
                                have c19b0 : decide (x7_4 < x5_2) = true := decide_eq_true c19
                                clear c19
                                by_cases c20 : 0 ≤ x5_2
                                · rw [if_pos c20] at H
                                  have c20b0 : decide (0 ≤ x5_2) = true := decide_eq_true c20
                                  clear c20
                                  by_cases c21 : x5_2 < (l0.length : Int)
                                  · rw [if_pos c21] at H
                                    have c21b0 : decide (x5_2 < (l0.length : Int)) = true := decide_eq_true c21
                                    clear c21
                                    by_cases c22 : 0 ≤ x7_4
                                    · rw [if_pos c22] at H
                                      have c22b0 : decide (0 ≤ x7_4) = true := decide_eq_true c22
                                      clear c22
                                      by_cases c23 : x7_4 < (l0.length : Int)
                                      · rw [if_pos c23] at H
                                        have c23b0 : decide (x7_4 < (l0.length : Int)) = true := decide_eq_true c23
                                        clear c23
                                        replace H := Option.bind_eq_some_iff.mp H
                                        obtain ⟨t169, A240, H⟩ := H
                                        replace H : (if (t169.length : Int) > 0 then (some false) else (caesuraref02_Right.l1 k4 l0 (wrap64 (x3_2 + t166)) t162 x5_2 (wrap64 (x7_4 + 1)))) = some r := H
                                        have A24 := Aside0.mk A240
                                        clear A240
                                        by_cases c25 : (t169.length : Int) > 0
                                        · rw [if_pos c25] at H
                                          have c25b0 : decide (0 < (t169.length : Int)) = true := decide_eq_true c25
                                          have c25b1 : decide (0 < t169.length) = true := decide_eq_true (by omega)
                                          clear c25
                                          obtain rfl := Option.some.inj H
                                          try go_wp2
                                          have n0_ := Aside0.mk (below_drew1 HB.out)
                                          clear HB
                                          have HB := n0_
                                          clear n0_
                                          have p167 : 0 ≤ (x5_2 : Int) := of_decide_eq_true (by first | (with_reducible assumption) | assumption)
                                          have q167 : x5_2 < (l0.length : Int) := of_decide_eq_true (by first | (with_reducible assumption) | assumption)
                                          obtain ⟨ad167, A167_0, c167_0, e167, hx167_0, hl167_0, hi167_0⟩ := at_L2 HR0.out x5_2 p167 q167
                                          have hw167_0 := hx167_0
                                          obtain rfl : ad161 = ad167 := (by injection e167)
                                          replace hx167_0 := (HB.out.cell (World.block_lt_of_cell? w _ hx167_0)).trans hx167_0
                                          have HR167_0 := Aside0.mk hi167_0
                                          have HC167_0 := Aside0.mk hl167_0
                                          clear hi167_0 hl167_0
                                          replace p167 := eq_true p167
                                          replace q167 := eq_true q167
                                          have p168 : 0 ≤ (x7_4 : Int) := of_decide_eq_true (by first | (with_reducible assumption) | assumption)
                                          have q168 : x7_4 < (l0.length : Int) := of_decide_eq_true (by first | (with_reducible assumption) | assumption)
                                          obtain ⟨ad168, A168_0, c168_0, e168, hx168_0, hl168_0, hi168_0⟩ := at_L2 HR0.out x7_4 p168 q168
                                          have hw168_0 := hx168_0
                                          obtain rfl : ad161 = ad168 := (by injection e168)
                                          replace hx168_0 := (HB.out.cell (World.block_lt_of_cell? w _ hx168_0)).trans hx168_0
                                          have HR168_0 := Aside0.mk hi168_0
                                          have HC168_0 := Aside0.mk hl168_0
                                          clear hi168_0 hl168_0
                                          replace p168 := eq_true p168
                                          replace q168 := eq_true q168
                                          refine start_ (n := 11) (S := fun w' => w'.cell? (ad161.add (x5_2).toNat) = some (.slice A167_0 (rd_L2 l0 x5_2).length c167_0) ∧ w'.cell? (ad161.add (x7_4).toNat) = some (.slice A168_0 (rd_L2 l0 x7_4).length c168_0)) (ds := []) #[false, false, false, false, false, false, false, false, false, false, false] (by kernel_rfl) rfl rfl ⟨((HB.out.cell (World.block_lt_of_cell? w _ hw167_0)).trans hw167_0), ((HB.out.cell (World.block_lt_of_cell? w _ hw168_0)).trans hw168_0)⟩ (fun hHeld => ?_); refine with_tabW caesuraref02_Right.tab14 caesuraref02_Right.bits14 (fun HT_ HW_ => ?_)
                                          generalize wr.drew = w26 at HB HR167_0 HR168_0 hx167_0 hx168_0 hHeld ⊢
                                          refine pure_ (i := 0) (N := some 51) (v := ?_) (a' := ?_) #[true, false, false, false, false, false, false, false, false, false, false] rfl rfl (any_of HT_.out (by kernel_rfl)) (fun _ _ _ h => h) (Or.inl ⟨by rfl, ?_⟩) ?_ ?_
                                          rotate_left
                                          · intro w'
                                            go_simp
                                            with_reducible rfl
                                          rotate_left
                                          · simp only [Act.put, List.setIfInBounds_toArray, List.set_cons_zero, List.set_cons_succ, i64_w, i32_w]
                                            rfl
                                          refine pure_ (i := 1) (N := some 52) (v := ?_) (a' := ?_) #[true, true, false, false, false, false, false, false, false, false, false] rfl rfl (any_of HT_.out (by kernel_rfl)) (fun _ _ _ h => h) (Or.inl ⟨by rfl, ?_⟩) ?_ ?_
                                          rotate_left
                                          · intro w'
                                            go_simp
                                            with_reducible rfl
                                          rotate_left
                                          · simp only [Act.put, List.setIfInBounds_toArray, List.set_cons_zero, List.set_cons_succ, i64_w, i32_w]
                                            rfl
                                          refine pure_ (i := 2) (N := some 53) (v := ?_) (a' := ?_) #[true, true, true, false, false, false, false, false, false, false, false] rfl rfl (any_of HT_.out (by kernel_rfl)) (fun _ _ _ h => h) (Or.inl ⟨by rfl, ?_⟩) ?_ ?_
                                          rotate_left
                                          · intro w'
                                            go_simp
                                            with_reducible rfl
                                          rotate_left
                                          · simp only [Act.put, List.setIfInBounds_toArray, List.set_cons_zero, List.set_cons_succ, i64_w, i32_w]
                                            rfl
                                          refine pure_ (i := 4) (N := some 55) (v := ?_) (a' := ?_) #[true, true, true, false, true, false, false, false, false, false, false] rfl rfl (any_of HT_.out (by kernel_rfl)) (fun _ _ _ h => h) (Or.inl ⟨by rfl, ?_⟩) ?_ ?_
                                          rotate_left
                                          · intro w'
                                            go_simp
                                            with_reducible rfl
                                          rotate_left
                                          · simp only [Act.put, List.setIfInBounds_toArray, List.set_cons_zero, List.set_cons_succ, i64_w, i32_w]
                                            rfl
                                          refine pure_ (i := 5) (N := some 56) (v := ?_) (a' := ?_) #[true, true, true, false, true, true, false, false, false, false, false] rfl rfl (any_of HT_.out (by kernel_rfl)) (fun _ _ _ h => h) (Or.inl ⟨by rfl, ?_⟩) ?_ ?_
                                          rotate_left
                                          · intro w'
                                            go_simp
                                            with_reducible rfl
                                          rotate_left
                                          · simp only [Act.put, List.setIfInBounds_toArray, List.set_cons_zero, List.set_cons_succ, i64_w, i32_w]
                                            rfl
                                          refine pure_ (i := 6) (N := some 57) (v := ?_) (a' := ?_) #[true, true, true, false, true, true, true, false, false, false, false] rfl rfl (any_of HT_.out (by kernel_rfl)) (fun _ _ _ h => h) (Or.inl ⟨by rfl, ?_⟩) ?_ ?_
                                          rotate_left
                                          · intro w'
                                            go_simp
                                            with_reducible rfl
                                          rotate_left
                                          · simp only [Act.put, List.setIfInBounds_toArray, List.set_cons_zero, List.set_cons_succ, i64_w, i32_w]
                                            rfl
                                          refine take_ (i := 3) (N := some 54) (v := ?_) (a' := ?_) #[true, true, true, true, true, true, true, false, false, false, false] rfl rfl (take_ofW HT_.out HW_.out (by kernel_rfl)) (fun _ _ _ h => h) (Or.inl ⟨by rfl, ?_⟩) hHeld ?_ ?_
                                          rotate_left
                                          · rintro w' ⟨s0, s1⟩
                                            go_simp
                                            with_reducible rfl
                                          rotate_left
                                          · simp only [Act.put, List.setIfInBounds_toArray, List.set_cons_zero, List.set_cons_succ, i64_w, i32_w]
                                            rfl
                                          refine take_ (i := 7) (N := some 58) (v := ?_) (a' := ?_) #[true, true, true, true, true, true, true, true, false, false, false] rfl rfl (take_ofW HT_.out HW_.out (by kernel_rfl)) (fun _ _ _ h => h) (Or.inl ⟨by rfl, ?_⟩) hHeld ?_ ?_
                                          rotate_left
                                          · rintro w' ⟨s0, s1⟩
                                            go_simp
                                            with_reducible rfl
                                          rotate_left
                                          · simp only [Act.put, List.setIfInBounds_toArray, List.set_cons_zero, List.set_cons_succ, i64_w, i32_w]
                                            rfl
                                          refine one_ (i := 8) (N := some 59) #[true, true, true, true, true, true, true, true, true, false, false] rfl rfl (one_of HT_.out (by kernel_rfl)) (by decide) (fun K hK => ?_)
                                          refine goes_ Tryz.func41 (by kernel_rfl) rfl #[.slice A167_0 (rd_L2 l0 x5_2).length c167_0, .slice A168_0 (rd_L2 l0 x7_4).length c168_0] (by rfl) rfl rfl (by (try simp only [List.map_toArray, List.map_cons, List.map_nil]); first | done | rfl | (simp only [List.length_drop, List.length_take]; rfl)) ?_
                                          with_reducible refine (caesuraref01_And.calls _ _ (rd_L2 l0 x5_2) _ _ (rd_L2 l0 x7_4) t169 _ ?side1 ?side2 ?side3 ?side4 A24.out).mono ?_
                                          (case side1 => repeat (first | exact (Kd.C_below HR167_0.out HB.out) | (with_reducible refine Kd.C_alloc ?_ _) | (with_reducible refine Kd.C_drewN ?_ _) | (with_reducible refine Kd.C_drew ?_)))
                                          (case side2 => exact HC167_0.out)
                                          (case side3 => repeat (first | exact (Kd.C_below HR168_0.out HB.out) | (with_reducible refine Kd.C_alloc ?_ _) | (with_reducible refine Kd.C_drewN ?_ _) | (with_reducible refine Kd.C_drew ?_)))
                                          (case side4 => exact HC168_0.out)
                                          rintro e w27 ⟨v170, rfl, ho0, hb⟩
                                          refine ⟨_, rfl, ?_⟩
                                          have n0_ := Aside0.mk (Kd.R_lower ho0 (below_size (by repeat (first | (with_reducible first | exact HB.out | apply below_alloc | apply pw_below_drewN | apply below_drew1) | exact HB.out))))
                                          have n1_ := Aside0.mk (below_step (by repeat (first | (with_reducible first | exact HB.out | apply below_alloc | apply pw_below_drewN | apply below_drew1) | exact HB.out)) hb)
                                          clear HB
                                          have HO171 := n0_
                                          have HB := n1_
                                          clear n0_ n1_
                                          (try clear hb)
                                          (try clear hb2)
                                          (try clear hk)
                                          (try clear hi)
                                          (try clear ho0)
                                          obtain ⟨Ao28, co28, eo28⟩ := Kd.R_slice HO171.out
                                          (first | subst eo28 | (injection eo28 with f1_ f2_ f3_; have f4_ := f1_.symm; have f5_ := f3_.symm; clear f1_ f2_ f3_; subst f4_; subst f5_))
                                          refine hK.out _ _ ⟨((HB.out.cell (World.block_lt_of_cell? w _ hw167_0)).trans hw167_0), ((HB.out.cell (World.block_lt_of_cell? w _ hw168_0)).trans hw168_0)⟩ (fun hHeld => ?_)
                                          clear hK K
                                          refine norm_ (a' := ?_) ?_ ?_
                                          rotate_left
                                          · show Act.put _ (some 59) _ = _
                                            simp only [Act.put, List.setIfInBounds_toArray, List.set_cons_zero, List.set_cons_succ, i64_w, i32_w]
                                            rfl
                                          refine pure_ (i := 9) (N := some 60) (v := ?_) (a' := ?_) #[true, true, true, true, true, true, true, true, true, true, false] rfl rfl (any_of HT_.out (by kernel_rfl)) (fun _ _ _ h => h) (Or.inl ⟨by rfl, ?_⟩) ?_ ?_
                                          rotate_left
                                          · intro w'
                                            go_simp
                                            with_reducible rfl
                                          rotate_left
                                          · simp only [Act.put, List.setIfInBounds_toArray, List.set_cons_zero, List.set_cons_succ, i64_w, i32_w]
                                            rfl
                                          refine pure_ (i := 10) (N := some 61) (v := ?_) (a' := ?_) #[true, true, true, true, true, true, true, true, true, true, true] rfl rfl (any_of HT_.out (by kernel_rfl)) (fun _ _ _ h => h) (Or.inl ⟨by rfl, ?_⟩) ?_ ?_
                                          rotate_left
                                          · intro w'
                                            go_simp
                                            with_reducible rfl
                                          rotate_left
                                          · simp only [Act.put, List.setIfInBounds_toArray, List.set_cons_zero, List.set_cons_succ, i64_w, i32_w]
                                            rfl
                                          refine done_ (done_of HT_.out (by kernel_rfl)) ?_
                                          try go_wp2
                                          go_ret
                                          exact ⟨by first | rfl | (simp [errW_none, errW_some] <;> rfl) | (simp [*, errW_none, errW_some] <;> rfl), by repeat (first | (with_reducible first | exact HB.out | apply below_alloc | apply pw_below_drewN | apply below_drew1) | exact HB.out)⟩
                                        · rw [if_neg c25] at H
                                          have c25b0 : decide (0 < (t169.length : Int)) = false := decide_eq_false c25
                                          have c25b1 : decide (0 < t169.length) = false := decide_eq_false (by omega)
                                          clear c25
                                          have H' := Aside0.mk H
                                          clear H
                                          try go_wp2
                                          have n0_ := Aside0.mk (below_drew1 HB.out)
                                          clear HB
                                          have HB := n0_
                                          clear n0_
                                          have p167 : 0 ≤ (x5_2 : Int) := of_decide_eq_true (by first | (with_reducible assumption) | assumption)
                                          have q167 : x5_2 < (l0.length : Int) := of_decide_eq_true (by first | (with_reducible assumption) | assumption)
                                          obtain ⟨ad167, A167_0, c167_0, e167, hx167_0, hl167_0, hi167_0⟩ := at_L2 HR0.out x5_2 p167 q167
                                          have hw167_0 := hx167_0
                                          obtain rfl : ad161 = ad167 := (by injection e167)
                                          replace hx167_0 := (HB.out.cell (World.block_lt_of_cell? w _ hx167_0)).trans hx167_0
                                          have HR167_0 := Aside0.mk hi167_0
                                          have HC167_0 := Aside0.mk hl167_0
                                          clear hi167_0 hl167_0
                                          replace p167 := eq_true p167
                                          replace q167 := eq_true q167
                                          have p168 : 0 ≤ (x7_4 : Int) := of_decide_eq_true (by first | (with_reducible assumption) | assumption)
                                          have q168 : x7_4 < (l0.length : Int) := of_decide_eq_true (by first | (with_reducible assumption) | assumption)
                                          obtain ⟨ad168, A168_0, c168_0, e168, hx168_0, hl168_0, hi168_0⟩ := at_L2 HR0.out x7_4 p168 q168
                                          have hw168_0 := hx168_0
                                          obtain rfl : ad161 = ad168 := (by injection e168)
                                          replace hx168_0 := (HB.out.cell (World.block_lt_of_cell? w _ hx168_0)).trans hx168_0
                                          have HR168_0 := Aside0.mk hi168_0
                                          have HC168_0 := Aside0.mk hl168_0
                                          clear hi168_0 hl168_0
                                          replace p168 := eq_true p168
                                          replace q168 := eq_true q168
                                          refine start_ (n := 11) (S := fun w' => w'.cell? (ad161.add (x5_2).toNat) = some (.slice A167_0 (rd_L2 l0 x5_2).length c167_0) ∧ w'.cell? (ad161.add (x7_4).toNat) = some (.slice A168_0 (rd_L2 l0 x7_4).length c168_0)) (ds := []) #[false, false, false, false, false, false, false, false, false, false, false] (by kernel_rfl) rfl rfl ⟨((HB.out.cell (World.block_lt_of_cell? w _ hw167_0)).trans hw167_0), ((HB.out.cell (World.block_lt_of_cell? w _ hw168_0)).trans hw168_0)⟩ (fun hHeld => ?_); refine with_tabW caesuraref02_Right.tab14 caesuraref02_Right.bits14 (fun HT_ HW_ => ?_)
                                          generalize wr.drew = w29 at HB HR167_0 HR168_0 hx167_0 hx168_0 hHeld ⊢
                                          refine pure_ (i := 0) (N := some 51) (v := ?_) (a' := ?_) #[true, false, false, false, false, false, false, false, false, false, false] rfl rfl (any_of HT_.out (by kernel_rfl)) (fun _ _ _ h => h) (Or.inl ⟨by rfl, ?_⟩) ?_ ?_
                                          rotate_left
                                          · intro w'
                                            go_simp
                                            with_reducible rfl
                                          rotate_left
                                          · simp only [Act.put, List.setIfInBounds_toArray, List.set_cons_zero, List.set_cons_succ, i64_w, i32_w]
                                            rfl
                                          refine pure_ (i := 1) (N := some 52) (v := ?_) (a' := ?_) #[true, true, false, false, false, false, false, false, false, false, false] rfl rfl (any_of HT_.out (by kernel_rfl)) (fun _ _ _ h => h) (Or.inl ⟨by rfl, ?_⟩) ?_ ?_
                                          rotate_left
                                          · intro w'
                                            go_simp
                                            with_reducible rfl
                                          rotate_left
                                          · simp only [Act.put, List.setIfInBounds_toArray, List.set_cons_zero, List.set_cons_succ, i64_w, i32_w]
                                            rfl
                                          refine pure_ (i := 2) (N := some 53) (v := ?_) (a' := ?_) #[true, true, true, false, false, false, false, false, false, false, false] rfl rfl (any_of HT_.out (by kernel_rfl)) (fun _ _ _ h => h) (Or.inl ⟨by rfl, ?_⟩) ?_ ?_
                                          rotate_left
                                          · intro w'
                                            go_simp
                                            with_reducible rfl
                                          rotate_left
                                          · simp only [Act.put, List.setIfInBounds_toArray, List.set_cons_zero, List.set_cons_succ, i64_w, i32_w]
                                            rfl
                                          refine pure_ (i := 4) (N := some 55) (v := ?_) (a' := ?_) #[true, true, true, false, true, false, false, false, false, false, false] rfl rfl (any_of HT_.out (by kernel_rfl)) (fun _ _ _ h => h) (Or.inl ⟨by rfl, ?_⟩) ?_ ?_
                                          rotate_left
                                          · intro w'
                                            go_simp
                                            with_reducible rfl
                                          rotate_left
                                          · simp only [Act.put, List.setIfInBounds_toArray, List.set_cons_zero, List.set_cons_succ, i64_w, i32_w]
                                            rfl
                                          refine pure_ (i := 5) (N := some 56) (v := ?_) (a' := ?_) #[true, true, true, false, true, true, false, false, false, false, false] rfl rfl (any_of HT_.out (by kernel_rfl)) (fun _ _ _ h => h) (Or.inl ⟨by rfl, ?_⟩) ?_ ?_
                                          rotate_left
                                          · intro w'
                                            go_simp
                                            with_reducible rfl
                                          rotate_left
                                          · simp only [Act.put, List.setIfInBounds_toArray, List.set_cons_zero, List.set_cons_succ, i64_w, i32_w]
                                            rfl
                                          refine pure_ (i := 6) (N := some 57) (v := ?_) (a' := ?_) #[true, true, true, false, true, true, true, false, false, false, false] rfl rfl (any_of HT_.out (by kernel_rfl)) (fun _ _ _ h => h) (Or.inl ⟨by rfl, ?_⟩) ?_ ?_
                                          rotate_left
                                          · intro w'
                                            go_simp
                                            with_reducible rfl
                                          rotate_left
                                          · simp only [Act.put, List.setIfInBounds_toArray, List.set_cons_zero, List.set_cons_succ, i64_w, i32_w]
                                            rfl
                                          refine take_ (i := 3) (N := some 54) (v := ?_) (a' := ?_) #[true, true, true, true, true, true, true, false, false, false, false] rfl rfl (take_ofW HT_.out HW_.out (by kernel_rfl)) (fun _ _ _ h => h) (Or.inl ⟨by rfl, ?_⟩) hHeld ?_ ?_
                                          rotate_left
                                          · rintro w' ⟨s0, s1⟩
                                            go_simp
                                            with_reducible rfl
                                          rotate_left
                                          · simp only [Act.put, List.setIfInBounds_toArray, List.set_cons_zero, List.set_cons_succ, i64_w, i32_w]
                                            rfl
                                          refine take_ (i := 7) (N := some 58) (v := ?_) (a' := ?_) #[true, true, true, true, true, true, true, true, false, false, false] rfl rfl (take_ofW HT_.out HW_.out (by kernel_rfl)) (fun _ _ _ h => h) (Or.inl ⟨by rfl, ?_⟩) hHeld ?_ ?_
                                          rotate_left
                                          · rintro w' ⟨s0, s1⟩
                                            go_simp
                                            with_reducible rfl
                                          rotate_left
                                          · simp only [Act.put, List.setIfInBounds_toArray, List.set_cons_zero, List.set_cons_succ, i64_w, i32_w]
                                            rfl
                                          refine one_ (i := 8) (N := some 59) #[true, true, true, true, true, true, true, true, true, false, false] rfl rfl (one_of HT_.out (by kernel_rfl)) (by decide) (fun K hK => ?_)
                                          refine goes_ Tryz.func41 (by kernel_rfl) rfl #[.slice A167_0 (rd_L2 l0 x5_2).length c167_0, .slice A168_0 (rd_L2 l0 x7_4).length c168_0] (by rfl) rfl rfl (by (try simp only [List.map_toArray, List.map_cons, List.map_nil]); first | done | rfl | (simp only [List.length_drop, List.length_take]; rfl)) ?_
                                          with_reducible refine (caesuraref01_And.calls _ _ (rd_L2 l0 x5_2) _ _ (rd_L2 l0 x7_4) t169 _ ?side1 ?side2 ?side3 ?side4 A24.out).mono ?_
                                          (case side1 => repeat (first | exact (Kd.C_below HR167_0.out HB.out) | (with_reducible refine Kd.C_alloc ?_ _) | (with_reducible refine Kd.C_drewN ?_ _) | (with_reducible refine Kd.C_drew ?_)))
                                          (case side2 => exact HC167_0.out)
                                          (case side3 => repeat (first | exact (Kd.C_below HR168_0.out HB.out) | (with_reducible refine Kd.C_alloc ?_ _) | (with_reducible refine Kd.C_drewN ?_ _) | (with_reducible refine Kd.C_drew ?_)))
                                          (case side4 => exact HC168_0.out)
                                          rintro e w30 ⟨v170, rfl, ho0, hb⟩
                                          refine ⟨_, rfl, ?_⟩
                                          have n0_ := Aside0.mk (Kd.R_lower ho0 (below_size (by repeat (first | (with_reducible first | exact HB.out | apply below_alloc | apply pw_below_drewN | apply below_drew1) | exact HB.out))))
                                          have n1_ := Aside0.mk (below_step (by repeat (first | (with_reducible first | exact HB.out | apply below_alloc | apply pw_below_drewN | apply below_drew1) | exact HB.out)) hb)
                                          clear HB
                                          have HO171 := n0_
                                          have HB := n1_
                                          clear n0_ n1_
                                          (try clear hb)
                                          (try clear hb2)
                                          (try clear hk)
                                          (try clear hi)
                                          (try clear ho0)
                                          obtain ⟨Ao31, co31, eo31⟩ := Kd.R_slice HO171.out
                                          (first | subst eo31 | (injection eo31 with f1_ f2_ f3_; have f4_ := f1_.symm; have f5_ := f3_.symm; clear f1_ f2_ f3_; subst f4_; subst f5_))
                                          refine hK.out _ _ ⟨((HB.out.cell (World.block_lt_of_cell? w _ hw167_0)).trans hw167_0), ((HB.out.cell (World.block_lt_of_cell? w _ hw168_0)).trans hw168_0)⟩ (fun hHeld => ?_)
                                          clear hK K
                                          refine norm_ (a' := ?_) ?_ ?_
                                          rotate_left
                                          · show Act.put _ (some 59) _ = _
                                            simp only [Act.put, List.setIfInBounds_toArray, List.set_cons_zero, List.set_cons_succ, i64_w, i32_w]
                                            rfl
                                          refine pure_ (i := 9) (N := some 60) (v := ?_) (a' := ?_) #[true, true, true, true, true, true, true, true, true, true, false] rfl rfl (any_of HT_.out (by kernel_rfl)) (fun _ _ _ h => h) (Or.inl ⟨by rfl, ?_⟩) ?_ ?_
                                          rotate_left
                                          · intro w'
                                            go_simp
                                            with_reducible rfl
                                          rotate_left
                                          · simp only [Act.put, List.setIfInBounds_toArray, List.set_cons_zero, List.set_cons_succ, i64_w, i32_w]
                                            rfl
                                          refine pure_ (i := 10) (N := some 61) (v := ?_) (a' := ?_) #[true, true, true, true, true, true, true, true, true, true, true] rfl rfl (any_of HT_.out (by kernel_rfl)) (fun _ _ _ h => h) (Or.inl ⟨by rfl, ?_⟩) ?_ ?_
                                          rotate_left
                                          · intro w'
                                            go_simp
                                            with_reducible rfl
                                          rotate_left
                                          · simp only [Act.put, List.setIfInBounds_toArray, List.set_cons_zero, List.set_cons_succ, i64_w, i32_w]
                                            rfl
                                          refine done_ (done_of HT_.out (by kernel_rfl)) ?_
                                          try go_wp2
                                          go_roundg k4
                                          case measure => have := HJ1.out; have := HK2.out; have := HJ7.out; have := HK4.out; omega
                                          case rel => exact ⟨(wrap64 (x7_4 + 1)), (by first | rfl | (simp; done) | (simp [*]; done)), H', ⟨by have := HJ1.out; have := HK2.out; have := HJ7.out; have := HK4.out; omega⟩, ⟨by repeat (first | (with_reducible first | exact HB.out | apply below_alloc | apply pw_below_drewN | apply below_drew1) | exact HB.out)⟩⟩
                                      · rw [if_neg c23] at H
                                        exact absurd H (by simp)
                                    · rw [if_neg c22] at H
                                      exact absurd H (by simp)
                                  · rw [if_neg c21] at H
                                    exact absurd H (by simp)
                                · rw [if_neg c20] at H
                                  exact absurd H (by simp)
                              · rw [if_neg c19] at H
                                have c19b0 : decide (x7_4 < x5_2) = false := decide_eq_false c19
                                clear c19
                                have H' := Aside0.mk H
                                clear H
                                go_wp2
                                go_roundg k4
                                case measure => have := HJ1.out; have := HK2.out; have := HJ7.out; have := HK4.out; omega
                                case rel => exact ⟨((wrap64 (x3_2 + t166))), (t162), (wrap64 (x5_2 + 1)), (by first | rfl | (simp; done) | (simp [*]; done)), (by first | rfl | (simp; done) | (simp [*]; done)), (by first | rfl | (simp; done) | (simp [*]; done)), H', ⟨by have := HJ1.out; have := HK2.out; have := HJ7.out; have := HK4.out; omega⟩, ⟨by repeat (first | (with_reducible first | exact HB.out | apply below_alloc | apply pw_below_drewN | apply below_drew1) | exact HB.out)⟩⟩
                        · rw [if_neg c16] at H
                          exact absurd H (by simp)
                      · rw [if_neg c15] at H
                        exact absurd H (by simp)
              · rw [if_neg c6] at H
                exact absurd H (by simp)
            · rw [if_neg c5] at H
              have c5b0 : decide (x5_2 < (l0.length : Int)) = false := decide_eq_false c5
              clear c5
              obtain rfl := Option.some.inj H
              go_wp2
              go_ret
              exact ⟨by first | rfl | (simp [errW_none, errW_some] <;> rfl) | (simp [*, errW_none, errW_some] <;> rfl), by repeat (first | (with_reducible first | exact HB.out | apply below_alloc | apply pw_below_drewN | apply below_drew1) | exact HB.out)⟩
end Go.Proofs.YtippkbgeeeimjaaGreat.R
/- The reference's Of (02), its rows told as the law's print wants them. -/
namespace Go.Proofs.YtippkbgeeeimjaaGreat.L
open Go.RowKit Go.Proofs.YtippkbgeeeimjaaGreatW.PrintWords Go.Proofs.YtippkbgeeeimjaaGreatW.PrintLast Go.Proofs.YtippkbgeeeimjaaGreatW.PrintMore Go.Proofs.YtippkbgeeeimjaaGreat.A
set_option linter.unusedVariables false
def caesuraref02_OfN.f (k : Nat) (l0 : List (List S38)) : Option (List (List S38) × Int) := R.caesuraref02_Of.f k l0
theorem caesuraref02_OfN.mono : ∀ a0 k, LeO (caesuraref02_OfN.f k a0) (caesuraref02_OfN.f (k + 1) a0) := R.caesuraref02_Of.mono
theorem caesuraref02_OfN.calls (k : Nat) (A0 : Option Addr) (c0 : Nat) (l0 : List (List S38)) (r1 : List (List S38)) (r2 : Int) (w : World) (hr0 : Kd.C (Kd.slice 38 k38) w A0 l0.length l0) (hc0 : l0.length ≤ c0) (h : caesuraref02_OfN.f k l0 = some (r1, r2)) :
    Calls Tryz.prog 7 #[.slice A0 l0.length c0] w fun e w' => ∃ v0_ : Value, e = .returned (.tuple #[v0_, .int .i64 r2]) ∧ Kd.N (Kd.slice 38 k38) 23 w' w.heap.size (fun k_ => w.heap.size ≤ k_) v0_ r1 ∧ Below w.heap.size w w' := by
  refine (R.caesuraref02_Of.calls k A0 c0 l0 r1 r2 w hr0 hc0 h).mono ?_
  rintro e w' ⟨v, he, hs, hb⟩
  exact ⟨v, he, Kd.N_mono (Kd.S_N (Kd.S_bound hs)) fun k hk => hk.2.1, hb⟩
end Go.Proofs.YtippkbgeeeimjaaGreat.L
/- The reference's Of (02), in plain Lean: what it answers is the classes in order, or too many. -/
namespace Go.Proofs.YtippkbgeeeimjaaGreat.P
open Go.RowKit Go.Proofs.YtippkbgeeeimjaaGreatW.PrintWords Go.Proofs.YtippkbgeeeimjaaGreat.A Go.Proofs.YtippkbgeeeimjaaGreat.L Go.Proofs.YtippkbgeeeimjaaGreat.B
set_option linter.unusedVariables false
set_option linter.unusedSimpArgs false
theorem rd2 {L : List (List S38)} {i : Nat} {x : List S38} (h : L[i]? = some x) : R.rd_L2 L (i : Int) = x := rd3 h
theorem like_ev (l0 : List (List S38)) (hl : l0.length ≤ 100000) {a b : Int} (a0 : 0 ≤ a) (a1 : a ≤ 1114111) (b0 : 0 ≤ b) (b1 : b ≤ 1114111) : Ev (fun k => R.caesuraref02_like.f k l0 a b) (decide (sigF l0 a = sigF l0 b)) := by
  have go : ∀ d i : Nat, i + d = l0.length → Ev (fun k => R.caesuraref02_like.l0 k l0 a b (i : Int)) (decide (sigF (l0.drop i) a = sigF (l0.drop i) b)) := by
    intro d
    induction d with
    | zero =>
      intro i h
      rw [List.drop_eq_nil_iff.2 (by omega)]
      exact Ev.step (f := fun _ => some true) (fun k => by rw [R.caesuraref02_like.l0, if_neg (by omega)]) (Ev.now _)
    | succ d ih =>
      intro i h
      have hlt : i < l0.length := by omega
      have hg : l0[i]? = some l0[i] := List.getElem?_eq_getElem hlt
      have hn := ih (i + 1) (by omega)
      rw [show ((i + 1 : Nat) : Int) = (i : Int) + 1 from by omega] at hn
      refine Ev.step (f := fun k => (caesuraref01_Has.f k l0[i] a).bind fun t102 => ((caesuraref01_Has.f k l0[i] b).bind fun t104 => (if (t102 != t104) = true then (some false) else (R.caesuraref02_like.l0 k l0 a b ((i : Int) + 1))))) (fun k => by
        rw [R.caesuraref02_like.l0, if_pos (by omega), if_pos (show (0 : Int) ≤ (i : Int) by omega), rd2 hg, w64 (n := (i : Int) + 1) (by omega) (by omega)]) ?_
      refine Ev.bind (ref_has _ _) (Ev.bind (ref_has _ _) ?_)
      rw [hasF_in a0 a1, hasF_in b0 b1, List.drop_eq_getElem_cons hlt]
      show Ev _ (decide (hasB l0[i] a :: sigF (l0.drop (i + 1)) a = hasB l0[i] b :: sigF (l0.drop (i + 1)) b))
      by_cases q : hasB l0[i] a = hasB l0[i] b
      · rw [q]
        refine ev_else (by simp) ?_
        have e : decide (hasB l0[i] b :: sigF (l0.drop (i + 1)) a = hasB l0[i] b :: sigF (l0.drop (i + 1)) b) = decide (sigF (l0.drop (i + 1)) a = sigF (l0.drop (i + 1)) b) := by
          rw [decide_eq_decide]
          exact ⟨fun h => (List.cons.inj h).2, fun h => by rw [h]⟩
        rw [e]
        exact hn
      · have e : decide (hasB l0[i] a :: sigF (l0.drop (i + 1)) a = hasB l0[i] b :: sigF (l0.drop (i + 1)) b) = false := decide_eq_false fun h => q (List.cons.inj h).1
        rw [e]
        exact ev_if (bne_iff_ne.2 q) (Ev.now _)
  exact go l0.length 0 (by omega)
theorem tell_add {a : Int} {r : S38} {xs : List S38} (h : r.f0 ≤ r.f1) : tellF true r.f0 (r.f1 + 1) xs = if 0 < xs.length ∧ (rd_T38 xs ((xs.length : Int) - 1)).f1 + 1 = r.f0 then xs.set (xs.length - 1) ⟨(rd_T38 xs ((xs.length : Int) - 1)).f0, r.f1⟩ else xs ++ [⟨r.f0, r.f1⟩] := by
  unfold tellF
  rw [if_pos ⟨by omega, rfl⟩, show r.f1 + 1 - 1 = r.f1 from by omega]
  by_cases q : 0 < xs.length ∧ (rd_T38 xs ((xs.length : Int) - 1)).f1 + 1 = r.f0
  · rw [if_pos q, if_pos ⟨q.1, by omega⟩]
  · rw [if_neg q, if_neg fun p => q ⟨p.1, by omega⟩]
theorem rise_mem {g : List S38} (hv : ∀ r ∈ g, r.f0 ≤ r.f1) (hp : g.Pairwise fun r s => r.f1 < s.f0) {i : Nat} (hi : i < g.length) {c : Int} (h0 : ∀ j, (hj : j < i) → g[j].f1 < c) (h1 : c < g[i].f0) : Mem g c = false := by
  cases hm : Mem g c with
  | false => rfl
  | true =>
    obtain ⟨s, hs, k0, k1⟩ := mem_iff.1 hm
    obtain ⟨j, hj, e⟩ := List.getElem_of_mem hs
    subst e
    rw [List.pairwise_iff_getElem] at hp
    rcases Nat.lt_trichotomy j i with q | q | q
    · have := h0 j q
      omega
    · subst q
      omega
    · have := hp i j hi hj q
      have := hv _ (List.getElem_mem hi)
      omega
theorem whole_ev (g : List S38) (hl : g.length ≤ 100000) (hv : ∀ r ∈ g, 0 ≤ r.f0 ∧ r.f0 ≤ r.f1 ∧ r.f1 < 1114112) (hp : g.Pairwise fun r s => r.f1 < s.f0) : Ev (fun k => R.caesuraref02_whole.f k g) (canonF (Mem g)) := by
  have go : ∀ d i : Nat, i + d = g.length → ∀ (a : Int) (acc : List S38), 0 ≤ a → a ≤ 1114112 → acc.length ≤ i → Spec (Mem g) acc a → (∀ j, (hj : j < i) → (h : j < g.length) → g[j].f1 < a) → (∀ j, i ≤ j → (h : j < g.length) → a ≤ g[j].f0) → Ev (fun k => R.caesuraref02_whole.l0 k g acc (i : Int)) (canonF (Mem g)) := by
    intro d
    induction d with
    | zero =>
      intro i h a acc a0 a1 hlen hs hlo hhi
      have fin : Spec (Mem g) acc 1114112 := by
        have := tell_spec (b := false) hs a0 a1 fun c h0 h1 => by
          cases hm : Mem g c with
          | false => rfl
          | true =>
            obtain ⟨s, hsm, k0, k1⟩ := mem_iff.1 hm
            obtain ⟨j, hj, e⟩ := List.getElem_of_mem hsm
            have := hlo j (by omega) hj
            rw [e] at this
            omega
        rwa [show tellF false a 1114112 acc = acc from by unfold tellF; rw [if_neg (by simp)]] at this
      rw [← canon_of fin]
      exact Ev.step (f := fun _ => some acc) (fun k => by rw [R.caesuraref02_whole.l0, if_neg (by omega)]) (Ev.now _)
    | succ d ih =>
      intro i h a acc a0 a1 hlen hs hlo hhi
      have hlt : i < g.length := by omega
      have hr := hv _ (List.getElem_mem hlt)
      have hge := hhi i (Nat.le_refl _) hlt
      have hrd : rd_T38 g (i : Int) = g[i] := rd_get hlt
      have hpg := hp
      rw [List.pairwise_iff_getElem] at hpg
      have s1 : Spec (Mem g) acc g[i].f0 := by
        have := tell_spec (b := false) hs a0 hge fun c h0 h1 => rise_mem (fun r hr => (hv r hr).2.1) hp hlt (fun j hj => by have := hlo j hj (by omega); omega) h1
        rwa [show tellF false a g[i].f0 acc = acc from by unfold tellF; rw [if_neg (by simp)]] at this
      have s2 : Spec (Mem g) (tellF true g[i].f0 (g[i].f1 + 1) acc) (g[i].f1 + 1) := tell_spec s1 hr.1 (by omega) fun c h0 h1 => mem_iff.2 ⟨_, List.getElem_mem hlt, h0, by omega⟩
      have hn := ih (i + 1) (by omega) (g[i].f1 + 1) (tellF true g[i].f0 (g[i].f1 + 1) acc) (by omega) (by omega) (by rw [tell_add (a := a) hr.2.1]; split <;> simp <;> omega) s2 (fun j hj hj2 => by
        by_cases q : j = i
        · subst q; omega
        · have := hpg j i hj2 hlt (by omega)
          omega) fun j hj hj2 => by
        have := hpg i j hlt hj2 (by omega)
        omega
      rw [show ((i + 1 : Nat) : Int) = (i : Int) + 1 from by omega, tell_add (a := a) hr.2.1] at hn
      by_cases hne : (acc.length : Int) > 0
      · have w1 : wrap64 ((acc.length : Int) - 1) = (acc.length : Int) - 1 := w64 (by omega) (by omega)
        have hlast : (rd_T38 acc ((acc.length : Int) - 1)).f1 < 1114112 := by
          obtain ⟨pre, r, hx, hrd', _⟩ := last_of (xs := acc) (by omega)
          rw [hrd']
          have := hs.1.1 r (by rw [hx]; simp)
          omega
        have hlast0 : 0 ≤ (rd_T38 acc ((acc.length : Int) - 1)).f1 := by
          obtain ⟨pre, r, hx, hrd', _⟩ := last_of (xs := acc) (by omega)
          rw [hrd']
          have := hs.1.1 r (by rw [hx]; simp)
          omega
        have w2 : wrap64 ((rd_T38 acc ((acc.length : Int) - 1)).f1 + 1) = (rd_T38 acc ((acc.length : Int) - 1)).f1 + 1 := w64 (by omega) (by omega)
        have e1 : ((acc.length : Int) - 1).toNat = acc.length - 1 := by omega
        by_cases q : (rd_T38 acc ((acc.length : Int) - 1)).f1 + 1 = g[i].f0
        · rw [if_pos ⟨by omega, q⟩] at hn
          refine Ev.step (f := fun k => R.caesuraref02_whole.l0 k g (acc.set (acc.length - 1) ⟨(rd_T38 acc ((acc.length : Int) - 1)).f0, g[i].f1⟩) ((i : Int) + 1)) (fun k => by
            rw [R.caesuraref02_whole.l0, if_pos (by omega), if_pos hne, w1, if_pos (by omega), if_pos (by omega), if_pos (show (0 : Int) ≤ (i : Int) by omega), hrd, w2, if_pos q, e1, w64 (n := (i : Int) + 1) (by omega) (by omega)]) hn
        · rw [if_neg fun p => q p.2] at hn
          refine Ev.step (f := fun k => R.caesuraref02_whole.l0 k g (acc ++ [(⟨g[i].f0, g[i].f1⟩ : S38)]) ((i : Int) + 1)) (fun k => by
            rw [R.caesuraref02_whole.l0, if_pos (by omega), if_pos hne, w1, if_pos (by omega), if_pos (by omega), if_pos (show (0 : Int) ≤ (i : Int) by omega), hrd, w2, if_neg q, if_pos (by omega), w64 (n := (i : Int) + 1) (by omega) (by omega)]) hn
      · rw [if_neg fun p => hne (by omega)] at hn
        refine Ev.step (f := fun k => R.caesuraref02_whole.l0 k g (acc ++ [(⟨g[i].f0, g[i].f1⟩ : S38)]) ((i : Int) + 1)) (fun k => by
          rw [R.caesuraref02_whole.l0, if_pos (by omega), if_neg hne, if_pos (show (0 : Int) ≤ (i : Int) by omega), if_pos (by omega), hrd, w64 (n := (i : Int) + 1) (by omega) (by omega)]) hn
  exact go g.length 0 (by omega) 0 [] (Int.le_refl _) (by decide) (Nat.le_refl _) ⟨⟨fun r hr => (by cases hr), List.Pairwise.nil⟩, fun c h0 h1 => by omega⟩ (fun j hj _ => by omega) fun j _ hj => (hv _ (List.getElem_mem hj)).1
structure Grp (l0 : List (List S38)) (a : Int) (g : List S38) : Prop where
  ne : 0 < g.length
  val : ∀ r ∈ g, 0 ≤ r.f0 ∧ r.f0 ≤ r.f1 ∧ r.f1 < a
  up : g.Pairwise fun r s => r.f1 < s.f0
  mem : ∀ c, 0 ≤ c → c < a → Mem g c = decide (sigF l0 c = sigF l0 (lowR g))
theorem Grp.low {l0 : List (List S38)} {a : Int} {g : List S38} (h : Grp l0 a g) : 0 ≤ lowR g ∧ lowR g < a ∧ ∀ r ∈ g, lowR g ≤ r.f0 := by
  match g, h with
  | r :: t, h =>
    have hr := h.val r (List.mem_cons_self ..)
    have e : lowR (r :: t) = r.f0 := rfl
    rw [e]
    refine ⟨hr.1, by omega, fun s hs => ?_⟩
    rcases List.mem_cons.1 hs with rfl | hs
    · exact Int.le_refl _
    · have := (List.pairwise_cons.1 h.up).1 s hs
      omega
theorem low_app {g : List S38} (h : 0 < g.length) (t : List S38) : lowR (g ++ t) = lowR g := by
  match g, h with
  | r :: s, _ => rfl
structure Inv (l0 : List (List S38)) (a : Int) (out : List (List S38)) : Prop where
  nd : (out.map fun g => sigF l0 (lowR g)).Nodup
  grp : ∀ g ∈ out, Grp l0 a g
  cov : ∀ c, 0 ≤ c → c < a → ∃ g ∈ out, sigF l0 c = sigF l0 (lowR g)
  low : out.Pairwise fun x y => lowR x < lowR y
theorem in_no {a h c : Int} (q : c < a) : inR ⟨a, h⟩ c = false := by
  unfold inR
  rw [decide_eq_false (show ¬ a ≤ c by omega)]
  rfl
theorem grp_more {l0 : List (List S38)} {a h : Int} (ha : 0 ≤ a) (hah : a ≤ h) (hc : ∀ c, a ≤ c → c ≤ h → sigF l0 c = sigF l0 a) {g : List S38} (G : Grp l0 a g) (hs : sigF l0 (lowR g) = sigF l0 a) : Grp l0 (h + 1) (g ++ [⟨a, h⟩]) := by
  refine ⟨by simp, fun r hr => ?_, ?_, fun c h0 h1 => ?_⟩
  · rcases List.mem_append.1 hr with hr | hr
    · have := G.val r hr
      omega
    · rw [List.mem_singleton.1 hr]
      exact ⟨ha, hah, Int.lt_add_one_of_le (Int.le_refl _)⟩
  · rw [List.pairwise_append]
    refine ⟨G.up, List.pairwise_singleton _ _, fun r hr s hs => ?_⟩
    rw [List.mem_singleton.1 hs]
    exact (G.val r hr).2.2
  · rw [low_app G.ne, mem_app, mem_one]
    by_cases q : c < a
    · rw [G.mem c h0 q, in_no (by omega), Bool.or_false]
    · have e : inR ⟨a, h⟩ c = true := inR_iff.2 ⟨by show a ≤ c; omega, by show c ≤ h; omega⟩
      rw [e, Bool.or_true, hc c (by omega) (by omega), hs]
      exact (decide_eq_true rfl).symm
theorem grp_other {l0 : List (List S38)} {a h : Int} (hc : ∀ c, a ≤ c → c ≤ h → sigF l0 c = sigF l0 a) (hah : a ≤ h) {g : List S38} (G : Grp l0 a g) (hs : sigF l0 (lowR g) ≠ sigF l0 a) : Grp l0 (h + 1) g := by
  refine ⟨G.ne, fun r hr => by have := G.val r hr; omega, G.up, fun c h0 h1 => ?_⟩
  by_cases q : c < a
  · exact G.mem c h0 q
  · rw [decide_eq_false fun e => hs (by rw [← e, hc c (by omega) (by omega)])]
    cases hm : Mem g c with
    | false => rfl
    | true =>
      obtain ⟨r, hr, k0, k1⟩ := mem_iff.1 hm
      have := G.val r hr
      omega
theorem grp_new {l0 : List (List S38)} {a h : Int} (ha : 0 ≤ a) (hah : a ≤ h) (hc : ∀ c, a ≤ c → c ≤ h → sigF l0 c = sigF l0 a) (hno : ∀ c, 0 ≤ c → c < a → sigF l0 c ≠ sigF l0 a) : Grp l0 (h + 1) [⟨a, h⟩] := by
  refine ⟨by simp, fun r hr => ?_, List.pairwise_singleton _ _, fun c h0 h1 => ?_⟩
  · rw [List.mem_singleton.1 hr]
    exact ⟨ha, hah, Int.lt_add_one_of_le (Int.le_refl _)⟩
  · have el : lowR [(⟨a, h⟩ : S38)] = a := rfl
    rw [mem_one, el]
    by_cases q : c < a
    · rw [decide_eq_false (hno c h0 q)]
      exact in_no q
    · rw [decide_eq_true (hc c (by omega) (by omega))]
      exact inR_iff.2 ⟨by show a ≤ c; omega, by show c ≤ h; omega⟩
theorem inv_set {l0 : List (List S38)} {a h : Int} (ha : 0 ≤ a) (hah : a ≤ h) (hc : ∀ c, a ≤ c → c ≤ h → sigF l0 c = sigF l0 a) {out : List (List S38)} (I : Inv l0 a out) {k : Nat} (hk : k < out.length) (hs : sigF l0 (lowR out[k]) = sigF l0 a) : Inv l0 (h + 1) (out.set k (out[k] ++ [⟨a, h⟩])) := by
  have hne := (I.grp _ (List.getElem_mem hk)).ne
  have el : (out.set k (out[k] ++ [⟨a, h⟩])).map lowR = out.map lowR := by
    rw [List.map_set, low_app hne]
    apply List.ext_getElem
    · simp
    · intro i h1 h2
      rw [List.getElem_set]
      split
      · rename_i e
        subst e
        simp
      · rfl
  have es : (out.set k (out[k] ++ [⟨a, h⟩])).map (fun g => sigF l0 (lowR g)) = out.map fun g => sigF l0 (lowR g) := by
    have := congrArg (List.map (sigF l0)) el
    rw [List.map_map, List.map_map] at this
    exact this
  have hmk : out[k] ++ [⟨a, h⟩] ∈ out.set k (out[k] ++ [⟨a, h⟩]) := by
    rw [List.mem_iff_getElem?]
    exact ⟨k, by rw [List.getElem?_set_self hk]⟩
  refine ⟨by rw [es]; exact I.nd, fun g hg => ?_, fun c h0 h1 => ?_, ?_⟩
  · obtain ⟨i, hi, e⟩ := List.getElem_of_mem hg
    have hi' : i < out.length := by simpa using hi
    rw [List.getElem_set] at e
    split at e
    · rw [← e]
      exact grp_more ha hah hc (I.grp _ (List.getElem_mem hk)) hs
    · rename_i hik
      rw [← e]
      refine grp_other hc hah (I.grp _ (List.getElem_mem hi')) fun e2 => ?_
      have nd := I.nd
      unfold List.Nodup at nd
      rw [List.pairwise_map, List.pairwise_iff_getElem] at nd
      rcases Nat.lt_or_gt_of_ne hik with q | q
      · exact nd k i hk hi' q (hs.trans e2.symm)
      · exact nd i k hi' hk q (e2.trans hs.symm)
  · have key : ∀ g ∈ out, ∃ g' ∈ out.set k (out[k] ++ [⟨a, h⟩]), lowR g' = lowR g := by
      intro g hg
      have : lowR g ∈ (out.set k (out[k] ++ [⟨a, h⟩])).map lowR := by rw [el]; exact List.mem_map.2 ⟨g, hg, rfl⟩
      obtain ⟨g', h1, h2⟩ := List.mem_map.1 this
      exact ⟨g', h1, h2⟩
    by_cases q : c < a
    · obtain ⟨g, hg, e⟩ := I.cov c h0 q
      obtain ⟨g', hg', e'⟩ := key g hg
      exact ⟨g', hg', by rw [e', e]⟩
    · exact ⟨_, hmk, by rw [low_app hne, hs, hc c (by omega) (by omega)]⟩
  · have := I.low
    rw [← List.pairwise_map (f := lowR) (R := fun x y : Int => x < y), ← el, List.pairwise_map] at this
    exact this
theorem inv_add {l0 : List (List S38)} {a h : Int} (ha : 0 ≤ a) (hah : a ≤ h) (hc : ∀ c, a ≤ c → c ≤ h → sigF l0 c = sigF l0 a) {out : List (List S38)} (I : Inv l0 a out) (hno : ∀ g ∈ out, sigF l0 (lowR g) ≠ sigF l0 a) : Inv l0 (h + 1) (out ++ [[⟨a, h⟩]]) := by
  have el : lowR [(⟨a, h⟩ : S38)] = a := rfl
  refine ⟨?_, fun g hg => ?_, fun c h0 h1 => ?_, ?_⟩
  · rw [List.map_append, List.nodup_append]
    refine ⟨I.nd, by simp, fun x hx y hy e => ?_⟩
    obtain ⟨g, hg, rfl⟩ := List.mem_map.1 hx
    simp only [List.map_cons, List.map_nil, List.mem_singleton, el] at hy
    exact hno g hg (e.trans hy)
  · rcases List.mem_append.1 hg with hg | hg
    · exact grp_other hc hah (I.grp g hg) (hno g hg)
    · rw [List.mem_singleton.1 hg]
      refine grp_new ha hah hc fun c h0 h1 e => ?_
      obtain ⟨g, hg, e2⟩ := I.cov c h0 h1
      exact hno g hg (e2.symm.trans e)
  · by_cases q : c < a
    · obtain ⟨g, hg, e⟩ := I.cov c h0 q
      exact ⟨g, List.mem_append_left _ hg, e⟩
    · exact ⟨_, List.mem_append_right _ (List.mem_singleton.2 rfl), by rw [el, hc c (by omega) (by omega)]⟩
  · rw [List.pairwise_append]
    refine ⟨I.low, List.pairwise_singleton _ _, fun x hx y hy => ?_⟩
    rw [List.mem_singleton.1 hy, el]
    exact (I.grp x hx).low.2.1
/-- At the end. -/
theorem inv_end {l0 : List (List S38)} {out : List (List S38)} (I : Inv l0 1114112 out) {E : List Int} (f : Few l0 E) : (∀ g ∈ out, canonF (Mem g) = clsF l0 (lowR g)) ∧ out.map (fun g => canonF (Mem g)) = clsL l0 := by
  have h1 : ∀ g ∈ out, canonF (Mem g) = clsF l0 (lowR g) := fun g hg => canon_congr (P := Mem g) (Q := fun d => decide (sigF l0 d = sigF l0 (lowR g))) fun c h0 h1 => (I.grp g hg).mem c h0 (by omega)
  have h2 : ∀ g ∈ out, canonF (Mem g) = atF l0 (sigF l0 (lowR g)) := fun g hg => by
    rw [h1 g hg]
    unfold clsF
    rfl
  refine ⟨h1, ?_⟩
  have e : out.map (fun g => canonF (Mem g)) = (out.map fun g => sigF l0 (lowR g)).map (atF l0) := by
    rw [List.map_map]
    refine List.map_congr_left fun g hg => ?_
    rw [Function.comp_apply]
    exact h2 g hg
  refine clsL_one f ?_ ?_
  · refine ⟨_, I.nd, e, fun c h0 h1 => ?_, fun t ht => ?_⟩
    · obtain ⟨g, hg, e⟩ := I.cov c h0 (by omega)
      exact List.mem_map.2 ⟨g, hg, e.symm⟩
    · obtain ⟨g, hg, rfl⟩ := List.mem_map.1 ht
      have := (I.grp g hg).low
      exact at_pos this.1 (by omega)
  · unfold Sorted
    rw [List.pairwise_map]
    have low : ∀ g ∈ out, lowR (canonF (Mem g)) = lowR g := by
      intro g hg
      have G := I.grp g hg
      have gl := G.low
      have hpos : 0 < (canonF (Mem g)).length := by
        rw [h2 g hg]
        exact at_pos gl.1 (by omega)
      obtain ⟨k0, k1, k2, k3⟩ := low_spec hpos
      have a1 : lowR (canonF (Mem g)) ≤ lowR g := k3 _ gl.1 (by omega) (by rw [G.mem _ gl.1 gl.2.1]; exact decide_eq_true rfl)
      obtain ⟨r, hr, q0, q1⟩ := mem_iff.1 k2
      have := gl.2.2 r hr
      omega
    refine I.low.imp_of_mem fun {x y} hx hy hxy => ?_
    rw [low x hx, low y hy]
    omega
/-- More than 200 of them. -/
theorem inv_many {l0 : List (List S38)} {a : Int} (ha : 0 ≤ a) (ha1 : a ≤ 1114111) {out : List (List S38)} (I : Inv l0 a out) (hno : ∀ g ∈ out, sigF l0 (lowR g) ≠ sigF l0 a) {E : List Int} (f : Few l0 E) : out.length < (clsL l0).length := by
  obtain ⟨T, hT, e, _⟩ := sigs_of (clsL_atoms f)
  rw [e, List.length_map]
  have := nodup_sub (sigF l0 a :: out.map fun g => sigF l0 (lowR g)) T (List.nodup_cons.2 ⟨fun h => ?_, I.nd⟩) fun t ht => ?_
  · rw [List.length_cons, List.length_map] at this
    omega
  · obtain ⟨g, hg, e⟩ := List.mem_map.1 h
    exact hno g hg e
  · rcases List.mem_cons.1 ht with rfl | ht
    · exact (hT.mem _).2 ⟨a, ha, ha1, rfl⟩
    · obtain ⟨g, hg, rfl⟩ := List.mem_map.1 ht
      have := (I.grp g hg).low
      exact (hT.mem _).2 ⟨_, this.1, by omega, rfl⟩
end Go.Proofs.YtippkbgeeeimjaaGreat.P
/- The reference's Of (02): its loops. -/
namespace Go.Proofs.YtippkbgeeeimjaaGreat.P
open Go.RowKit Go.Proofs.YtippkbgeeeimjaaGreatW.PrintWords Go.Proofs.YtippkbgeeeimjaaGreat.A Go.Proofs.YtippkbgeeeimjaaGreat.L Go.Proofs.YtippkbgeeeimjaaGreat.B
set_option linter.unusedVariables false
set_option linter.unusedSimpArgs false
/-- What Of answers. -/
def ofAns (l0 : List (List S38)) : List (List S38) × Int := (if badB l0 then [] else clsL l0, if badB l0 then 9 else 0)
theorem ans_bad {l0 : List (List S38)} (h : badB l0 = true) : ofAns l0 = ([], 9) := by unfold ofAns; rw [h]; rfl
theorem ans_ok {l0 : List (List S38)} (h : badB l0 = false) : ofAns l0 = (clsL l0, 0) := by unfold ofAns; rw [h]; rfl
theorem rd_at {es : List Int} {i : Nat} (h : i < es.length) : rd es (i : Int) = es[i] := by
  unfold rd
  rw [Int.toNat_natCast, List.getD_eq_getElem?_getD, List.getElem?_eq_getElem h]
  rfl
def lim (es : List Int) (i : Nat) : Int := es.getD i 1114112
theorem lim_lt {es : List Int} {i : Nat} (h : i < es.length) : lim es i = es[i] := by
  unfold lim
  rw [List.getD_eq_getElem?_getD, List.getElem?_eq_getElem h]
  rfl
theorem lim_end {es : List Int} {i : Nat} (h : es.length ≤ i) : lim es i = 1114112 := by
  unfold lim
  rw [List.getD_eq_getElem?_getD, List.getElem?_eq_none h]
  rfl
theorem lim_zero {es : List Int} (e : Eg es) : lim es 0 = 0 := by
  obtain ⟨j, hj, h0⟩ := List.getElem_of_mem e.zero
  have hp : 0 < es.length := by omega
  rw [lim_lt hp]
  have hup := e.up
  unfold Up at hup
  rw [List.pairwise_iff_getElem] at hup
  have h1 := e.rng _ (List.getElem_mem hp)
  rcases Nat.eq_zero_or_pos j with q | q
  · subst q; exact h0
  · have := hup 0 j hp hj q
    omega
theorem lim_up {es : List Int} (e : Eg es) {i : Nat} (h : i < es.length) : 0 ≤ es[i] ∧ es[i] ≤ 1114111 ∧ es[i] < lim es (i + 1) ∧ lim es (i + 1) ≤ 1114112 := by
  have h1 := e.rng _ (List.getElem_mem h)
  refine ⟨h1.1, h1.2, ?_, ?_⟩
  · by_cases q : i + 1 < es.length
    · rw [lim_lt q]
      have hup := e.up
      unfold Up at hup
      rw [List.pairwise_iff_getElem] at hup
      exact hup i (i + 1) h q (by omega)
    · rw [lim_end (by omega)]
      omega
  · by_cases q : i + 1 < es.length
    · rw [lim_lt q]
      have := e.rng _ (List.getElem_mem q)
      omega
    · rw [lim_end (by omega)]
      exact Int.le_refl _
/-- Between two edges nothing changes. -/
theorem sig_const {l0 : List (List S38)} {i : Nat} (h : i < (edgesF l0).length) : ∀ c, (edgesF l0)[i] ≤ c → c ≤ lim (edgesF l0) (i + 1) - 1 → sigF l0 c = sigF l0 (edgesF l0)[i] := by
  intro c h0 h1
  obtain ⟨e, hh⟩ := edges_eg l0
  have hl := lim_up e h
  unfold sigF
  refine List.map_inj_left.2 fun s hs => ?_
  refine (has_const (hh s hs) hl.1 h0 (by omega) fun x hx => ?_).symm
  rintro ⟨q0, q1⟩
  obtain ⟨j, hj, rfl⟩ := List.getElem_of_mem hx
  have hup := e.up
  unfold Up at hup
  rw [List.pairwise_iff_getElem] at hup
  rcases Nat.lt_trichotomy j i with q | q | q
  · have := hup j i hj h q
    omega
  · subst q
    omega
  · have hi1 : i + 1 < (edgesF l0).length := by omega
    rw [lim_lt hi1] at h1
    rcases Nat.lt_or_eq_of_le (show i + 1 ≤ j by omega) with q2 | q2
    · have := hup (i + 1) j hi1 hj q2
      omega
    · subst q2
      omega
theorem set_app {out : List (List S38)} {r : List S38} : (out ++ [[]]).set out.length r = out ++ [r] := by
  rw [List.set_append_right _ _ (Nat.le_refl _), Nat.sub_self]
  rfl
theorem bad_lt {l0 : List (List S38)} {E : List Int} (f : Few l0 E) (h60 : l0.length ≤ 60) (hlong : longF l0 = false) (h : 200 < (clsL l0).length) : badB l0 = true := by
  unfold badB
  rw [decide_eq_true h, Bool.or_true]
theorem bad_no {l0 : List (List S38)} {E : List Int} (f : Few l0 E) (h60 : l0.length ≤ 60) (hlong : longF l0 = false) (h : (clsL l0).length ≤ 200) : badB l0 = false := by
  unfold badB
  rw [hlong, decide_eq_false (by omega), decide_eq_false (by omega)]
  rfl
section
variable {l0 : List (List S38)} {E : List Int} (f : Few l0 E) (h60 : l0.length ≤ 60) (hlong : longF l0 = false)
include f h60 hlong
/-- The last loop. -/
theorem of_l3 {out : List (List S38)} (I : Inv l0 1114112 out) (hl : out.length ≤ 200) (hr : ∀ g ∈ out, g.length ≤ 100000) :
    ∀ d j : Nat, j + d = out.length → Ev (fun k => R.caesuraref02_Of.l3 k ((out.take j).map (fun g => canonF (Mem g)) ++ out.drop j) (j : Int)) (ofAns l0) := by
  obtain ⟨hw, hcl⟩ := inv_end I f
  have hans : ofAns l0 = (out.map (fun g => canonF (Mem g)), 0) := by
    rw [ans_ok (bad_no f h60 hlong (by rw [← hcl, List.length_map]; exact hl)), hcl]
  rw [hans]
  intro d
  induction d with
  | zero =>
    intro j hj
    have e : (out.take j).map (fun g => canonF (Mem g)) ++ out.drop j = out.map fun g => canonF (Mem g) := by
      rw [List.drop_eq_nil_iff.2 (by omega), List.append_nil, List.take_of_length_le (by omega)]
    rw [e]
    exact Ev.step (f := fun _ => some (out.map (fun g => canonF (Mem g)), 0)) (fun k => by rw [R.caesuraref02_Of.l3, if_neg (by rw [List.length_map]; omega)]) (Ev.now _)
  | succ d ih =>
    intro j hj
    have hlt : j < out.length := by omega
    have hn := ih (j + 1) (by omega)
    rw [show ((j + 1 : Nat) : Int) = (j : Int) + 1 from by omega] at hn
    obtain ⟨cur, hcur⟩ : ∃ c, c = (out.take j).map (fun g => canonF (Mem g)) ++ out.drop j := ⟨_, rfl⟩
    have hlt' : ((out.take j).map fun g => canonF (Mem g)).length = j := by rw [List.length_map, List.length_take]; omega
    have hclen : cur.length = out.length := by rw [hcur, List.length_append, hlt', List.length_drop]; omega
    have hget : cur[j]? = some out[j] := by
      rw [hcur, List.getElem?_append_right (by omega), hlt', Nat.sub_self, List.drop_eq_getElem_cons hlt]
      rfl
    have hset : cur.set j (canonF (Mem out[j])) = (out.take (j + 1)).map (fun g => canonF (Mem g)) ++ out.drop (j + 1) := by
      rw [hcur, List.set_append_right _ _ (by omega), hlt', Nat.sub_self, List.drop_eq_getElem_cons hlt, List.set_cons_zero, List.take_add_one, List.getElem?_eq_getElem hlt, List.map_append, List.append_assoc]
      rfl
    rw [← hset] at hn
    rw [← hcur]
    have G := I.grp _ (List.getElem_mem hlt)
    have hsmall : (canonF (Mem out[j])).length ≤ 400 := by
      rw [hw _ (List.getElem_mem hlt)]
      unfold clsF
      have := at_len (sets := l0) E f.at_ (sigF l0 (lowR out[j]))
      have := f.le
      omega
    have hset2 : (cur.set j (canonF (Mem out[j])))[j]? = some (canonF (Mem out[j])) := List.getElem?_set_self (by omega)
    refine Ev.step (f := fun k => (R.caesuraref02_whole.f k out[j]).bind fun t141 => ((some (cur.set (j : Int).toNat t141 : List (List S38))).bind fun y144 => (if ((R.rd_L2 y144 (j : Int)).length : Int) > 400 then (some (([] : List (List (S38))), 9)) else (R.caesuraref02_Of.l3 k y144 ((j : Int) + 1))))) (fun k => by
      rw [R.caesuraref02_Of.l3, if_pos (by omega), if_pos (show (0 : Int) ≤ (j : Int) by omega), rd2 hget, w64 (n := (j : Int) + 1) (by omega) (by omega)]) ?_
    refine Ev.bind (whole_ev out[j] (hr _ (List.getElem_mem hlt)) G.val G.up) ?_
    rw [Int.toNat_natCast]
    refine Ev.bind (a := cur.set j (canonF (Mem out[j]))) (Ev.now _) ?_
    rw [rd2 hset2]
    exact ev_else (by omega) hn
/-- The search for a group, and what is done with it. -/
theorem of_l2 (hes : (edgesF l0).length ≤ 90000) {i : Nat} (hi : i < (edgesF l0).length) {out : List (List S38)} (I : Inv l0 (edgesF l0)[i] out) (hl : out.length ≤ 200) (hr : ∀ g ∈ out, g.length ≤ i)
    (hn : ∀ out', Inv l0 (lim (edgesF l0) (i + 1)) out' → out'.length ≤ 200 → (∀ g ∈ out', g.length ≤ i + 1) → Ev (fun k => R.caesuraref02_Of.l1 k l0 out' (edgesF l0) ((i : Int) + 1)) (ofAns l0)) :
    ∀ d k : Nat, k + d = out.length → (∀ j, (hj : j < k) → (hj2 : j < out.length) → sigF l0 (lowR out[j]) ≠ sigF l0 (edgesF l0)[i]) → Ev (fun n => R.caesuraref02_Of.l2 n l0 out (edgesF l0) (i : Int) (k : Int) (edgesF l0)[i] (lim (edgesF l0) (i + 1) - 1)) (ofAns l0) := by
  obtain ⟨eg, _⟩ := edges_eg l0
  have hlim := lim_up eg hi
  have hc := sig_const hi
  have hh : lim (edgesF l0) (i + 1) - 1 + 1 = lim (edgesF l0) (i + 1) := by omega
  intro d
  induction d with
  | zero =>
    intro k hk hno
    have hno' : ∀ g ∈ out, sigF l0 (lowR g) ≠ sigF l0 (edgesF l0)[i] := by
      intro g hg
      obtain ⟨j, hj, rfl⟩ := List.getElem_of_mem hg
      exact hno j (by omega) hj
    have hke : k = out.length := by omega
    subst hke
    have hj4 : Ev (fun n => R.caesuraref02_Of.j4 n l0 out (edgesF l0) (i : Int) (out.length : Int) (edgesF l0)[i] (lim (edgesF l0) (i + 1) - 1)) (ofAns l0) := by
      by_cases q : out.length = 200
      · have hb := bad_lt f h60 hlong (by have := inv_many hlim.1 hlim.2.1 I hno' f; omega)
        rw [ans_bad hb]
        exact Ev.step (f := fun _ => some ([], 9)) (fun n => by rw [R.caesuraref02_Of.j4, if_pos rfl, if_pos (by omega)]) (Ev.now _)
      · have hadd := inv_add hlim.1 (by omega) hc I hno'
        rw [hh] at hadd
        have hn' := hn _ hadd (by rw [List.length_append, List.length_singleton]; omega) fun g hg => by
          rcases List.mem_append.1 hg with hg | hg
          · have := hr g hg; omega
          · rw [List.mem_singleton.1 hg]; simp
        have hlast : (out ++ [([] : List S38)])[out.length]? = some [] := by simp
        refine Ev.step (f := fun n => (some (out ++ [[]] : List (List (S38)))).bind fun y127 => (if 0 ≤ (out.length : Int) then (if (out.length : Int) < (y127.length : Int) then (if (R.rd_L2 y127 (out.length : Int)).length < 8796093022208 then (R.caesuraref02_Of.l1 n l0 (y127.set ((out.length : Int) : Int).toNat ((R.rd_L2 y127 (out.length : Int)) ++ [(⟨(edgesF l0)[i], lim (edgesF l0) (i + 1) - 1⟩ : S38)])) (edgesF l0) ((i : Int) + 1)) else (none)) else (none)) else (none))) (fun n => by
          rw [R.caesuraref02_Of.j4, if_pos rfl, if_neg (by omega), if_pos (by omega), w64 (n := (i : Int) + 1) (by omega) (by omega)]) ?_
        refine Ev.bind (a := out ++ [[]]) (Ev.now _) (ev_if (by omega) (ev_if (by rw [List.length_append, List.length_singleton]; omega) ?_))
        rw [rd2 hlast, Int.toNat_natCast, set_app]
        exact ev_if (by rw [List.length_nil]; omega) hn'
    exact Ev.step (f := fun n => R.caesuraref02_Of.j4 n l0 out (edgesF l0) (i : Int) (out.length : Int) (edgesF l0)[i] (lim (edgesF l0) (i + 1) - 1)) (fun n => by rw [R.caesuraref02_Of.l2, if_neg (by omega)]) hj4
  | succ d ih =>
    intro k hk hno
    have hlt : k < out.length := by omega
    have hget : out[k]? = some out[k] := List.getElem?_eq_getElem hlt
    have G := I.grp _ (List.getElem_mem hlt)
    have glow := G.low
    have hlk := like_ev l0 (by omega) glow.1 (by omega) hlim.1 hlim.2.1
    refine Ev.step (f := fun n => (R.caesuraref02_like.f n l0 (lowR out[k]) (edgesF l0)[i]).bind fun t126 => (if t126 = true then (R.caesuraref02_Of.j4 n l0 out (edgesF l0) (i : Int) (k : Int) (edgesF l0)[i] (lim (edgesF l0) (i + 1) - 1)) else (R.caesuraref02_Of.l2 n l0 out (edgesF l0) (i : Int) ((k : Int) + 1) (edgesF l0)[i] (lim (edgesF l0) (i + 1) - 1)))) (fun n => by
      rw [R.caesuraref02_Of.l2, if_pos (by omega), if_pos (show (0 : Int) ≤ (k : Int) by omega), rd2 hget, if_pos (by have := G.ne; omega), w64 (n := (k : Int) + 1) (by omega) (by omega)]
      rfl) ?_
    refine Ev.bind hlk ?_
    by_cases q : sigF l0 (lowR out[k]) = sigF l0 (edgesF l0)[i]
    · refine ev_if (decide_eq_true q) ?_
      have hset := inv_set hlim.1 (by omega) hc I hlt q
      rw [hh] at hset
      have hrk := hr _ (List.getElem_mem hlt)
      have hn' := hn _ hset (by rw [List.length_set]; exact hl) fun g hg => by
        rcases List.mem_or_eq_of_mem_set hg with hg | hg
        · have := hr g hg; omega
        · rw [hg, List.length_append, List.length_singleton]; omega
      refine Ev.step (f := fun n => R.caesuraref02_Of.l1 n l0 (out.set k (out[k] ++ [(⟨(edgesF l0)[i], lim (edgesF l0) (i + 1) - 1⟩ : S38)])) (edgesF l0) ((i : Int) + 1)) (fun n => by
        rw [R.caesuraref02_Of.j4, if_neg (by omega), if_pos (show (0 : Int) ≤ (k : Int) by omega), if_pos (by omega), rd2 hget, if_pos (by omega), Int.toNat_natCast, w64 (n := (i : Int) + 1) (by omega) (by omega)]) hn'
    · refine ev_else (by rw [decide_eq_false q]; decide) ?_
      have := ih (k + 1) (by omega) fun j hj hj2 => by
        rcases Nat.lt_or_eq_of_le (Nat.lt_succ_iff.1 hj) with p | p
        · exact hno j p hj2
        · subst p; exact q
      rw [show ((k + 1 : Nat) : Int) = (k : Int) + 1 from by omega] at this
      exact this
theorem of_l1 (hes : (edgesF l0).length ≤ 90000) : ∀ d i : Nat, i + d = (edgesF l0).length → ∀ out, Inv l0 (lim (edgesF l0) i) out → out.length ≤ 200 → (∀ g ∈ out, g.length ≤ i) → Ev (fun k => R.caesuraref02_Of.l1 k l0 out (edgesF l0) (i : Int)) (ofAns l0) := by
  intro d
  induction d with
  | zero =>
    intro i hi out I hl hr
    rw [lim_end (by omega)] at I
    have := of_l3 f h60 hlong I hl (fun g hg => by have := hr g hg; omega) out.length 0 (Nat.zero_add _)
    rw [List.take_zero, List.map_nil, List.nil_append, List.drop_zero] at this
    exact Ev.step (f := fun k => R.caesuraref02_Of.l3 k out 0) (fun k => by rw [R.caesuraref02_Of.l1, if_neg (by omega)]) this
  | succ d ih =>
    intro i hi out I hl hr
    have hlt : i < (edgesF l0).length := by omega
    obtain ⟨eg, _⟩ := edges_eg l0
    have hlim := lim_up eg hlt
    rw [lim_lt hlt] at I
    have h2 := of_l2 f h60 hlong hes hlt I hl hr (fun out' I' hl' hr' => by
      have := ih (i + 1) (by omega) out' I' hl' hr'
      rw [show ((i + 1 : Nat) : Int) = (i : Int) + 1 from by omega] at this
      exact this) out.length 0 (Nat.zero_add _) (fun j hj => by omega)
    have hj2 : Ev (fun n => R.caesuraref02_Of.j2 n l0 out (edgesF l0) (i : Int) (edgesF l0)[i] (lim (edgesF l0) (i + 1) - 1)) (ofAns l0) := Ev.step (f := fun n => R.caesuraref02_Of.l2 n l0 out (edgesF l0) (i : Int) 0 (edgesF l0)[i] (lim (edgesF l0) (i + 1) - 1)) (fun n => by rw [R.caesuraref02_Of.j2]) h2
    have w1 : wrap64 ((i : Int) + 1) = (i : Int) + 1 := w64 (by omega) (by omega)
    by_cases q : i + 1 < (edgesF l0).length
    · have hb := eg.rng _ (List.getElem_mem q)
      have e2 : rd (edgesF l0) ((i : Int) + 1) = (edgesF l0)[i + 1] := by
        rw [show (i : Int) + 1 = ((i + 1 : Nat) : Int) from by omega]
        exact rd_at q
      have w2 : wrap64 ((edgesF l0)[i + 1] - 1) = lim (edgesF l0) (i + 1) - 1 := by rw [lim_lt q, w64 (by omega) (by omega)]
      refine Ev.step (f := fun n => R.caesuraref02_Of.j2 n l0 out (edgesF l0) (i : Int) (edgesF l0)[i] (lim (edgesF l0) (i + 1) - 1)) (fun n => by
        rw [R.caesuraref02_Of.l1, if_pos (by omega), if_pos (show (0 : Int) ≤ (i : Int) by omega), w1, if_pos (by omega), if_pos (by omega), rd_at hlt, e2, w2]) hj2
    · have e3 : lim (edgesF l0) (i + 1) - 1 = 1114111 := by rw [lim_end (by omega)]; rfl
      rw [e3] at hj2
      refine Ev.step (f := fun n => R.caesuraref02_Of.j2 n l0 out (edgesF l0) (i : Int) (edgesF l0)[i] 1114111) (fun n => by
        rw [R.caesuraref02_Of.l1, if_pos (by omega), if_pos (show (0 : Int) ≤ (i : Int) by omega), w1, if_neg (by omega), rd_at hlt]) hj2
end
theorem of_l0 {l0 : List (List S38)} (h60 : l0.length ≤ 60) : ∀ d i : Nat, i + d = l0.length → (longF (l0.drop i) = true → Ev (fun k => R.caesuraref02_Of.l0 k l0 (i : Int)) ([], 9)) ∧ (longF (l0.drop i) = false → ∀ r, Ev (fun k => (caesuraref01_Edges.f l0).bind fun t118 => R.caesuraref02_Of.l1 k l0 ([] : List (List S38)) t118 0) r → Ev (fun k => R.caesuraref02_Of.l0 k l0 (i : Int)) r) := by
  intro d
  induction d with
  | zero =>
    intro i hi
    rw [List.drop_eq_nil_iff.2 (by omega)]
    exact ⟨fun h => (by cases h), fun _ r h => Ev.step (f := fun k => (caesuraref01_Edges.f l0).bind fun t118 => R.caesuraref02_Of.l1 k l0 ([] : List (List S38)) t118 0) (fun k => by rw [R.caesuraref02_Of.l0, if_neg (by omega)]) h⟩
  | succ d ih =>
    intro i hi
    have hlt : i < l0.length := by omega
    have hg : l0[i]? = some l0[i] := List.getElem?_eq_getElem hlt
    obtain ⟨h1, h2⟩ := ih (i + 1) (by omega)
    rw [show ((i + 1 : Nat) : Int) = (i : Int) + 1 from by omega] at h1 h2
    have hd : longF (l0.drop i) = (decide (400 < l0[i].length) || longF (l0.drop (i + 1))) := by rw [List.drop_eq_getElem_cons hlt]; rfl
    have hstep : ∀ {r}, Ev (fun k => if ((l0[i]).length : Int) > 400 then (some (([] : List (List (S38))), 9)) else (R.caesuraref02_Of.l0 k l0 ((i : Int) + 1))) r → Ev (fun k => R.caesuraref02_Of.l0 k l0 (i : Int)) r := fun h => Ev.step (fun k => by rw [R.caesuraref02_Of.l0, if_pos (by omega), if_pos (show (0 : Int) ≤ (i : Int) by omega), rd2 hg, w64 (n := (i : Int) + 1) (by omega) (by omega)]) h
    by_cases q : 400 < l0[i].length
    · rw [hd, decide_eq_true q, Bool.true_or]
      exact ⟨fun _ => hstep (ev_if (by omega) (Ev.now _)), fun h => by cases h⟩
    · rw [hd, decide_eq_false q, Bool.false_or]
      exact ⟨fun h => hstep (ev_else (by omega) (h1 h)), fun h r k => hstep (ev_else (by omega) (h2 h r k))⟩
theorem ref_of {l0 : List (List S38)} {E : List Int} (f : Few l0 E) : Ev (fun k => R.caesuraref02_Of.f k l0) (ofAns l0) := by
  unfold R.caesuraref02_Of.f
  by_cases h60 : (l0.length : Int) > 60
  · have hb : badB l0 = true := by
      unfold badB
      rw [decide_eq_true (by omega : 60 < l0.length)]
      rfl
    rw [ans_bad hb]
    exact ev_if h60 (Ev.now _)
  refine ev_else h60 ?_
  obtain ⟨h1, h2⟩ := of_l0 (l0 := l0) (by omega) l0.length 0 (Nat.zero_add _)
  rw [List.drop_zero] at h1 h2
  cases hlong : longF l0 with
  | true =>
    have hb : badB l0 = true := by
      unfold badB
      rw [hlong, Bool.or_true, Bool.true_or]
    rw [ans_bad hb]
    exact h1 hlong
  | false =>
    refine h2 hlong _ ?_
    have hes : (edgesF l0).length ≤ 90000 := by have := edgesF_len l0; omega
    have he : caesuraref01_Edges.f l0 = some (edgesF l0) := by
      unfold caesuraref01_Edges.f
      rw [if_pos (by omega)]
    refine Ev.bind ⟨0, fun _ _ => he⟩ ?_
    refine of_l1 f (by omega) hlong hes (edgesF l0).length 0 (Nat.zero_add _) [] ?_ (Nat.zero_le _) fun g hg => by cases hg
    rw [lim_zero (edges_eg l0).1]
    exact ⟨List.nodup_nil, fun g hg => (by cases hg), fun c h0 h1 => by omega, List.Pairwise.nil⟩
end Go.Proofs.YtippkbgeeeimjaaGreat.P
/- The reference's Class, Firsts, Within, Right (02), in plain Lean. -/
namespace Go.Proofs.YtippkbgeeeimjaaGreat.P
open Go.RowKit Go.Proofs.YtippkbgeeeimjaaGreatW.PrintWords Go.Proofs.YtippkbgeeeimjaaGreat.A Go.Proofs.YtippkbgeeeimjaaGreat.L Go.Proofs.YtippkbgeeeimjaaGreat.B
set_option linter.unusedVariables false
set_option linter.unusedSimpArgs false
theorem ref_class (L : List (List S38)) (c : Int) (hL : L.length ≤ 100000) : Ev (fun k => R.caesuraref02_Class.f k L c) (classF L c) := by
  have go : ∀ d i : Nat, i + d = L.length → (∀ j, (hj : j < i) → (h : j < L.length) → hasF L[j] c = false) → Ev (fun k => R.caesuraref02_Class.l0 k L c (i : Int)) (classF L c) := by
    intro d
    induction d with
    | zero =>
      intro i h hno
      have e : classF L c = -1 := by
        unfold classF ixF
        cases q : L.findIdx? (fun x => hasF x c) with
        | none => rfl
        | some k =>
          obtain ⟨hk, hk2, _⟩ := List.findIdx?_eq_some_iff_getElem.1 q
          rw [hno k (by omega) hk] at hk2
          cases hk2
      rw [e]
      exact Ev.step (f := fun _ => some (-1)) (fun k => by rw [R.caesuraref02_Class.l0, if_neg (by omega)]) (Ev.now _)
    | succ d ih =>
      intro i h hno
      have hlt : i < L.length := by omega
      have hg : L[i]? = some L[i] := List.getElem?_eq_getElem hlt
      refine Ev.step (f := fun k => (caesuraref01_Has.f k L[i] c).bind fun t147 => (if t147 = true then (some (i : Int)) else (R.caesuraref02_Class.l0 k L c ((i : Int) + 1)))) (fun k => by
        rw [R.caesuraref02_Class.l0, if_pos (by omega), if_pos (show (0 : Int) ≤ (i : Int) by omega), rd2 hg, w64 (n := (i : Int) + 1) (by omega) (by omega)]) ?_
      refine Ev.bind (ref_has _ _) ?_
      cases q : hasF L[i] c with
      | true =>
        have e : classF L c = i := by
          unfold classF ixF
          have : L.findIdx? (fun x => hasF x c) = some i := List.findIdx?_eq_some_iff_getElem.2 ⟨hlt, q, fun j hj => by rw [hno j hj (by omega)]; decide⟩
          rw [this]
        rw [e]
        exact ev_if rfl (Ev.now _)
      | false =>
        refine ev_else (by decide) ?_
        have := ih (i + 1) (by omega) fun j hj hj2 => by
          rcases Nat.lt_or_eq_of_le (Nat.lt_succ_iff.1 hj) with p | p
          · exact hno j p hj2
          · subst p; exact q
        rw [show ((i + 1 : Nat) : Int) = (i : Int) + 1 from by omega] at this
        exact this
  exact go L.length 0 (by omega) fun j hj => by omega
theorem ref_firsts (L : List (List S38)) (hL : L.length ≤ 100000) : Ev (fun k => R.caesuraref02_Firsts.f k L) (L.map firstF) := by
  have go : ∀ d i : Nat, i + d = L.length → ∀ acc : List Int, acc.length ≤ i → Ev (fun k => R.caesuraref02_Firsts.l0 k L acc (i : Int)) (acc ++ (L.drop i).map firstF) := by
    intro d
    induction d with
    | zero =>
      intro i h acc ha
      rw [List.drop_eq_nil_iff.2 (by omega), List.map_nil, List.append_nil]
      exact Ev.step (f := fun _ => some acc) (fun k => by rw [R.caesuraref02_Firsts.l0, if_neg (by omega)]) (Ev.now _)
    | succ d ih =>
      intro i h acc ha
      have hlt : i < L.length := by omega
      have hg : L[i]? = some L[i] := List.getElem?_eq_getElem hlt
      have := ih (i + 1) (by omega) (acc ++ [firstF L[i]]) (by rw [List.length_append, List.length_singleton]; omega)
      rw [show ((i + 1 : Nat) : Int) = (i : Int) + 1 from by omega, List.append_assoc] at this
      rw [List.drop_eq_getElem_cons hlt, List.map_cons]
      refine Ev.step (f := fun k => (caesuraref01_First.f L[i]).bind fun t149 => (if acc.length < 17592186044416 then (R.caesuraref02_Firsts.l0 k L (acc ++ [t149]) ((i : Int) + 1)) else (none))) (fun k => by
        rw [R.caesuraref02_Firsts.l0, if_pos (by omega), if_pos (show (0 : Int) ≤ (i : Int) by omega), rd2 hg, w64 (n := (i : Int) + 1) (by omega) (by omega)]) ?_
      exact Ev.bind ⟨0, fun _ _ => ref_first _⟩ (ev_if (by omega) this)
  have := go L.length 0 (by omega) [] (Nat.le_refl _)
  rw [List.drop_zero, List.nil_append] at this
  exact this
theorem ref_within (L : List (List S38)) (s : List S38) (hL : L.length ≤ 100000) : Ev (fun k => R.caesuraref02_Within.f k L s) (withinF L s) := by
  have go : ∀ (fs : List Int), fs.length ≤ 100000 → ∀ d i : Nat, i + d = fs.length → ∀ acc : List Int, acc.length ≤ i → Ev (fun k => R.caesuraref02_Within.l0 k s acc fs (i : Int)) (acc ++ wiF s (fs.drop i) i) := by
    intro fs hf d
    induction d with
    | zero =>
      intro i h acc ha
      rw [List.drop_eq_nil_iff.2 (by omega)]
      show Ev _ (acc ++ [])
      rw [List.append_nil]
      exact Ev.step (f := fun _ => some acc) (fun k => by rw [R.caesuraref02_Within.l0, if_neg (by omega)]) (Ev.now _)
    | succ d ih =>
      intro i h acc ha
      have hlt : i < fs.length := by omega
      rw [List.drop_eq_getElem_cons hlt, wiF]
      refine Ev.step (f := fun k => (caesuraref01_Has.f k s fs[i]).bind fun t157 => (if t157 = true then (if acc.length < 17592186044416 then (R.caesuraref02_Within.l0 k s (acc ++ [(i : Int)]) fs ((i : Int) + 1)) else (none)) else (R.caesuraref02_Within.l0 k s acc fs ((i : Int) + 1)))) (fun k => by
        rw [R.caesuraref02_Within.l0, if_pos (by omega), if_pos (show (0 : Int) ≤ (i : Int) by omega), rd_at hlt, w64 (n := (i : Int) + 1) (by omega) (by omega)]) ?_
      refine Ev.bind (ref_has _ _) ?_
      by_cases q : hasF s fs[i] = true
      · rw [if_pos q]
        refine ev_if q (ev_if (by omega) ?_)
        have := ih (i + 1) (by omega) (acc ++ [(i : Int)]) (by rw [List.length_append, List.length_singleton]; omega)
        rw [List.append_assoc, show ((i + 1 : Nat) : Int) = (i : Int) + 1 from by omega] at this
        exact this
      · rw [if_neg q]
        refine ev_else q ?_
        have := ih (i + 1) (by omega) acc (by omega)
        rw [show ((i + 1 : Nat) : Int) = (i : Int) + 1 from by omega] at this
        exact this
  unfold R.caesuraref02_Within.f
  refine Ev.bind (ref_firsts L hL) ?_
  have := go (L.map firstF) (by rw [List.length_map]; exact hL) (L.map firstF).length 0 (by omega) [] (Nat.le_refl _)
  rw [List.drop_zero, List.nil_append] at this
  exact this
theorem and_nil {x y : List S38} (hx : rightF x = true) (hy : rightF y = true) : andF x y = [] ↔ ∀ r ∈ x, ∀ s ∈ y, Apart2 r s := by
  have lx := (right_len hx).1
  have ly := (right_len hy).1
  have vx : ∀ r ∈ x, 0 ≤ r.f0 ∧ r.f0 ≤ r.f1 ∧ r.f1 < 1114112 := by
    intro r hr
    rw [← (right_len hx).2, plF_eq] at hr
    exact (canon_spec _).1.1 r hr
  have vy : ∀ r ∈ y, 0 ≤ r.f0 ∧ r.f0 ≤ r.f1 ∧ r.f1 < 1114112 := by
    intro r hr
    rw [← (right_len hy).2, plF_eq] at hr
    exact (canon_spec _).1.1 r hr
  constructor
  · intro h r hr s hs
    by_cases q : Apart2 r s
    · exact q
    · exfalso
      unfold Apart2 at q
      have v1 := vx r hr
      have v2 := vy s hs
      have key : ∀ c, r.f0 ≤ c → c ≤ r.f1 → s.f0 ≤ c → c ≤ s.f1 → False := by
        intro c c0 c1 c2 c3
        have m := canon_mem (fun c => hasB x c && hasB y c) (c := c) (by omega) (by omega)
        unfold andF at h
        rw [h, hasB_iff.2 ⟨lx, r, hr, c0, c1⟩, hasB_iff.2 ⟨ly, s, hs, c2, c3⟩] at m
        cases m
      rcases Int.le_total r.f0 s.f0 with le | le
      · exact key s.f0 le (by omega) (Int.le_refl _) v2.2.1
      · exact key r.f0 (Int.le_refl _) v1.2.1 le (by omega)
  · intro h
    unfold andF
    refine canon_nil fun c h0 h1 => ?_
    cases q1 : hasB x c with
    | false => rfl
    | true =>
      cases q2 : hasB y c with
      | false => rfl
      | true =>
        obtain ⟨_, r, hr, a0, a1⟩ := hasB_iff.1 q1
        obtain ⟨_, s, hs, b0, b1⟩ := hasB_iff.1 q2
        have := h r hr s hs
        unfold Apart2 at this
        omega
theorem disj_snoc {L : List (List S38)} {x : List S38} (hL : ∀ y ∈ L, rightF y = true) (hx : rightF x = true) : (L ++ [x]).flatten.Pairwise Apart2 ↔ L.flatten.Pairwise Apart2 ∧ ∀ y ∈ L, andF x y = [] := by
  have hin : x.Pairwise Apart2 := by
    rw [← (right_len hx).2, plF_eq]
    exact (canon_spec _).1.2.imp fun {a b} hab => Or.inl (by omega)
  rw [List.flatten_append, List.pairwise_append]
  have e : [x].flatten = x := by simp
  rw [e]
  constructor
  · rintro ⟨h1, _, h3⟩
    refine ⟨h1, fun y hy => (and_nil hx (hL y hy)).2 fun r hr s hs => (h3 s (List.mem_flatten.2 ⟨y, hy, hs⟩) r hr).symm⟩
  · rintro ⟨h1, h2⟩
    refine ⟨h1, hin, fun s hs r hr => ?_⟩
    obtain ⟨y, hy, hs⟩ := List.mem_flatten.1 hs
    exact ((and_nil hx (hL y hy)).1 (h2 y hy) r hr s hs).symm
theorem rightA_of {L : List (List S38)} (h0 : 0 < L.length) (h1 : L.length ≤ 200) : rightAF L = (okF (-1) L && disjB L.flatten && decide ((L.map sizeF).sum = 1114112)) := by
  unfold rightAF
  rw [decide_eq_true h0, decide_eq_true h1, Bool.true_and, Bool.true_and]
theorem disj_pre {L M : List (List S38)} (h : disjB L.flatten = false) : disjB (L ++ M).flatten = false := by
  cases q : disjB (L ++ M).flatten with
  | false => rfl
  | true =>
    have := disjB_iff.1 q
    rw [List.flatten_append, List.pairwise_append] at this
    rw [disjB_iff.2 this.1] at h
    cases h
theorem ref_rightA (L : List (List S38)) : Ev (fun k => R.caesuraref02_Right.f k L) (rightAF L) := by
  unfold R.caesuraref02_Right.f
  have hbad : Ev (fun k => R.caesuraref02_Right.j0 k L true) false := Ev.step (f := fun _ => some false) (fun k => by rw [R.caesuraref02_Right.j0, if_pos rfl]) (Ev.now _)
  by_cases h1 : (L.length : Int) < 1
  · rw [right_no fun h => absurd h.1 (by omega)]
    exact ev_if h1 hbad
  refine ev_else h1 ?_
  by_cases h2 : (L.length : Int) > 200
  · rw [decide_eq_true h2, right_no fun h => absurd h.2 (by omega)]
    exact hbad
  rw [decide_eq_false h2]
  refine Ev.step (f := fun k => R.caesuraref02_Right.l0 k L 0 (-1) 0) (fun k => by rw [R.caesuraref02_Right.j0, if_neg (by decide)]) ?_
  have hans := rightA_of (L := L) (by omega) (by omega)
  have no_ok : ∀ i, okF (-1) (L.take i) = false → rightAF L = false := by
    intro i h
    refine right_no fun _ => ?_
    rw [← List.take_append_drop i L]
    exact ok_pre _ _ _ h
  have go : ∀ d i : Nat, i + d = L.length → okF (-1) (L.take i) = true → disjB (L.take i).flatten = true → Ev (fun k => R.caesuraref02_Right.l0 k L ((L.take i).map sizeF).sum (lastF (L.take i)) (i : Int)) (rightAF L) := by
    intro d
    induction d with
    | zero =>
      intro i h hok hd
      rw [List.take_of_length_le (by omega)] at hok hd ⊢
      rw [hans, hok, hd, Bool.true_and, Bool.true_and]
      refine Ev.step (f := fun _ => some (decide ((L.map sizeF).sum = 1114112))) (fun k => by
        rw [R.caesuraref02_Right.l0, if_neg (by omega)]
        by_cases q : (L.map sizeF).sum = 1114112
        · rw [decide_eq_true q, beq_iff_eq.2 q]
        · rw [decide_eq_false q, beq_eq_false_iff_ne.2 q]) (Ev.now _)
    | succ d ih =>
      intro i h hok hd
      have hlt : i < L.length := by omega
      have hg : L[i]? = some L[i] := List.getElem?_eq_getElem hlt
      have htk : L.take (i + 1) = L.take i ++ [L[i]] := by rw [List.take_add_one, hg]; rfl
      have hj2f : Ev (fun k => R.caesuraref02_Right.j2 k L ((L.take i).map sizeF).sum (i : Int) (firstF L[i]) true) false := Ev.step (f := fun _ => some false) (fun k => by rw [R.caesuraref02_Right.j2, if_pos rfl]) (Ev.now _)
      have okn : okF (-1) (L.take (i + 1)) = (rightF L[i] && decide (lastF (L.take i) < firstF L[i])) := by rw [htk, ok_app, hok, Bool.true_and]; rfl
      refine Ev.step (f := fun k => (caesuraref01_First.f L[i]).bind fun t162 => ((caesuraref01_Right.f k L[i]).bind fun t164 => (if t164 = true then (R.caesuraref02_Right.j2 k L ((L.take i).map sizeF).sum (i : Int) t162 (decide (t162 ≤ (lastF (L.take i))))) else (R.caesuraref02_Right.j2 k L ((L.take i).map sizeF).sum (i : Int) t162 true)))) (fun k => by
        rw [R.caesuraref02_Right.l0, if_pos (by omega), if_pos (show (0 : Int) ≤ (i : Int) by omega), rd2 hg]) ?_
      refine Ev.bind ⟨0, fun _ _ => ref_first _⟩ (Ev.bind (ref_right _) ?_)
      cases hr : rightF L[i] with
      | false =>
        rw [hr, Bool.false_and] at okn
        rw [no_ok _ okn]
        exact ev_else (by decide) hj2f
      | true =>
        refine ev_if rfl ?_
        by_cases q : firstF L[i] ≤ lastF (L.take i)
        · rw [hr, decide_eq_false (by omega)] at okn
          rw [no_ok _ okn, decide_eq_true q]
          exact hj2f
        · have hok' : okF (-1) (L.take (i + 1)) = true := by rw [okn, hr, decide_eq_true (by omega)]; rfl
          rw [decide_eq_false q]
          have hsz := sizes_rng (L.take i)
          have hs1 := size_rng L[i]
          rw [List.length_take] at hsz
          have hrow : ∀ y ∈ L.take i, rightF y = true := ok_right hok
          have inner : ∀ e k' : Nat, k' + e = i → (∀ j, (hj : j < k') → (hj2 : j < L.length) → andF L[i] L[j] = []) → Ev (fun k => R.caesuraref02_Right.l1 k L (((L.take i).map sizeF).sum + sizeF L[i]) (firstF L[i]) (i : Int) (k' : Int)) (rightAF L) := by
            intro e
            induction e with
            | zero =>
              intro k' hk hno
              have hd' : disjB (L.take (i + 1)).flatten = true := by
                rw [disjB_iff, htk, disj_snoc hrow hr]
                refine ⟨disjB_iff.1 hd, fun y hy => ?_⟩
                obtain ⟨j, hj, rfl⟩ := List.getElem_of_mem hy
                rw [List.length_take] at hj
                rw [List.getElem_take]
                exact hno j (by omega) (by omega)
              have := ih (i + 1) (by omega) hok' hd'
              have es : ((L.take (i + 1)).map sizeF).sum = ((L.take i).map sizeF).sum + sizeF L[i] := by rw [htk, List.map_append, List.sum_append, List.map_cons, List.map_nil, List.sum_cons, List.sum_nil]; omega
              have el : lastF (L.take (i + 1)) = firstF L[i] := by unfold lastF; rw [htk, List.map_append, List.map_cons, List.map_nil, List.getLastD_concat]
              rw [es, el, show ((i + 1 : Nat) : Int) = (i : Int) + 1 from by omega] at this
              exact Ev.step (f := fun k => R.caesuraref02_Right.l0 k L (((L.take i).map sizeF).sum + sizeF L[i]) (firstF L[i]) ((i : Int) + 1)) (fun k => by
                rw [R.caesuraref02_Right.l1, if_neg (by omega), w64 (n := (i : Int) + 1) (by omega) (by omega)]) this
            | succ e ih2 =>
              intro k' hk hno
              have hlk : k' < L.length := by omega
              have hgk : L[k']? = some L[k'] := List.getElem?_eq_getElem hlk
              refine Ev.step (f := fun k => (caesuraref01_And.f L[i] L[k']).bind fun t169 => (if (t169.length : Int) > 0 then (some false) else (R.caesuraref02_Right.l1 k L (((L.take i).map sizeF).sum + sizeF L[i]) (firstF L[i]) (i : Int) ((k' : Int) + 1)))) (fun k => by
                rw [R.caesuraref02_Right.l1, if_pos (by omega), if_pos (show (0 : Int) ≤ (i : Int) by omega), if_pos (by omega), if_pos (show (0 : Int) ≤ (k' : Int) by omega), if_pos (by omega), rd2 hg, rd2 hgk, w64 (n := (k' : Int) + 1) (by omega) (by omega)]) ?_
              refine Ev.bind (a := andF L[i] L[k']) ⟨0, fun _ _ => rfl⟩ ?_
              by_cases z : ((andF L[i] L[k']).length : Int) > 0
              · have hd' : disjB (L.take (i + 1)).flatten = false := by
                  cases p : disjB (L.take (i + 1)).flatten with
                  | false => rfl
                  | true =>
                    rw [disjB_iff, htk, disj_snoc hrow hr] at p
                    have hm : L[k'] ∈ L.take i := by
                      rw [List.mem_iff_getElem?]
                      exact ⟨k', by rw [List.getElem?_take_of_lt (by omega), hgk]⟩
                    have := p.2 _ hm
                    rw [this] at z
                    exact absurd z (by decide)
                have hno2 : rightAF L = false := by
                  rw [hans]
                  have : disjB L.flatten = false := by
                    have := disj_pre (M := L.drop (i + 1)) hd'
                    rwa [List.take_append_drop] at this
                  rw [this, Bool.and_false, Bool.false_and]
                rw [hno2]
                exact ev_if z (Ev.now _)
              · refine ev_else z ?_
                have := ih2 (k' + 1) (by omega) fun j hj hj2 => by
                  rcases Nat.lt_or_eq_of_le (Nat.lt_succ_iff.1 hj) with p | p
                  · exact hno j p hj2
                  · subst p
                    exact List.length_eq_zero_iff.1 (by omega)
                rw [show ((k' + 1 : Nat) : Int) = (k' : Int) + 1 from by omega] at this
                exact this
          refine Ev.step (f := fun k => (caesuraref01_Size.f k L[i]).bind fun t166 => (R.caesuraref02_Right.l1 k L (wrap64 (((L.take i).map sizeF).sum + t166)) (firstF L[i]) (i : Int) 0)) (fun k => by
            rw [R.caesuraref02_Right.j2, if_neg (by decide), if_pos (show (0 : Int) ≤ (i : Int) by omega), if_pos (by omega), rd2 hg]) ?_
          refine Ev.bind (ref_size _) ?_
          rw [w64 (n := ((L.take i).map sizeF).sum + sizeF L[i]) (by omega) (by omega)]
          exact inner i 0 (by omega) fun j hj => by omega
  exact go L.length 0 (by omega) rfl (disjB_iff.2 List.Pairwise.nil)
end Go.Proofs.YtippkbgeeeimjaaGreat.P
namespace Go.Proofs.YtippkbgeeeimjaaGreat.AN
open Go.RowKit Go.Proofs.YtippkbgeeeimjaaGreatW.PrintWords Go.Proofs.YtippkbgeeeimjaaGreatW.PrintLast Go.Proofs.YtippkbgeeeimjaaGreatW.PrintMore Go.Proofs.YtippkbgeeeimjaaGreat.A Go.Proofs.YtippkbgeeeimjaaGreat.L Go.Proofs.YtippkbgeeeimjaaGreat.B Go.Proofs.YtippkbgeeeimjaaGreat.D Go.Proofs.YtippkbgeeeimjaaGreat.R
attribute [local go_sem] max2_int min2_int max_two min_two max_three min_three max_four min_four   -- for this text's walks alone
set_option linter.unusedVariables false
set_option linter.unusedSimpArgs false
def errW : Option Int → Value
  | none => .nilIface
  | some c => .iface 0 (.int .i64 c)
theorem errW_none : errW none = .nilIface := rfl
theorem errW_some (c : Int) : errW (some c) = .iface 0 (.int .i64 c) := rfl
def rd_L2 (xs : List (List S38)) (i : Int) : (List S38) := xs.getD i.toNat ([] : List S38)
theorem at_L2 {w : World} {A : Option Addr} {n : Nat} {xs : List (List S38)} (h : Kd.C (Kd.slice 38 k38) w A n xs) (i : Int) (h0 : 0 ≤ i) (h1 : i < n) : ∃ ad A0 c0, A = some ad ∧ w.cell? (ad.add i.toNat) = some (.slice A0 (rd_L2 xs i).length c0) ∧ (rd_L2 xs i).length ≤ c0 ∧ k38.C w A0 (rd_L2 xs i).length (rd_L2 xs i) := by
  obtain ⟨ad, c, e, _, hK, hc0⟩ := Kd.C_get h ([] : List S38) i h0 h1
  have hc : ∀ j u, c[j]? = some u → w.cell? (ad.add (i.toNat * 1 + j)) = some u := hc0
  obtain ⟨A0, c0, rfl, l0, g0⟩ := hK
  exact ⟨ad, A0, c0, e, by have hq := hc 0 _ rfl; rwa [Nat.mul_one, Nat.add_zero] at hq, l0, g0⟩
end Go.Proofs.YtippkbgeeeimjaaGreat.AN
namespace Go.Proofs.YtippkbgeeeimjaaGreat.AN
noncomputable section
open Go.RowKit Go.Proofs.YtippkbgeeeimjaaGreatW.PrintWords Go.Proofs.YtippkbgeeeimjaaGreatW.PrintLast Go.Proofs.YtippkbgeeeimjaaGreatW.PrintMore Go.Proofs.YtippkbgeeeimjaaGreat.A Go.Proofs.YtippkbgeeeimjaaGreat.L Go.Proofs.YtippkbgeeeimjaaGreat.B Go.Proofs.YtippkbgeeeimjaaGreat.D Go.Proofs.YtippkbgeeeimjaaGreat.R
attribute [local go_sem] max2_int min2_int max_two min_two max_three min_three max_four min_four   -- for this text's walks alone
set_option linter.unusedVariables false
set_option linter.unusedSimpArgs false
def caesuralaw02_AtomAnswers.j0 : Nat → List (List (S38)) → List (S38) → Int → Bool → Option (Bool)
  | 0, _, _, _, _ => none
  | k + 1, x0, x1, x2, x19 => if x19 = true then (some true) else ((atom_Of.f x0).bind fun bt103 => ((caesuraref02_OfN.f k x0).bind fun bt107 => ((caesuraref02_Same.f k bt103.1 bt107.1).bind fun t111 => (if t111 = true then (if bt103.2 = bt107.2 then ((atom_Class.f x0 x2).bind fun t112 => ((caesuraref02_Class.f k x0 x2).bind fun t113 => (if t112 = t113 then ((atom_Within.f k x0 x1).bind fun t114 => ((caesuraref02_Within.f k x0 x1).bind fun t117 => ((caesuraref01_Ints.f k t114 t117).bind fun t120 => (if t120 = true then ((atom_Firsts.f k x0).bind fun t121 => ((caesuraref02_Firsts.f k x0).bind fun t124 => ((caesuraref01_Ints.f k t121 t124).bind fun t127 => (if t127 = true then ((atom_Right.f x0).bind fun t128 => ((caesuraref02_Right.f k x0).bind fun t129 => (some (t128 == t129)))) else (some false))))) else (some false))))) else (some false)))) else (some false)) else (some false)))))
def caesuralaw02_AtomAnswers.f (k : Nat) (l0 : List (List (S38))) (l1 : List (S38)) (a2 : Int) : Option (Bool) := (caesuralaw02_alive.f).bind fun t101 => (if t101 = true then ((caesuraref02_Great.f k l0 300).bind fun t102 => (if t102 = true then (caesuralaw02_AtomAnswers.j0 k l0 l1 a2 true) else (caesuralaw02_AtomAnswers.j0 k l0 l1 a2 (decide ((l1.length : Int) > 300))))) else (some false))
theorem caesuralaw02_AtomAnswers.mono_l : ∀ k, (∀ y0 y1 y2 y3, LeO (caesuralaw02_AtomAnswers.j0 k y0 y1 y2 y3) (caesuralaw02_AtomAnswers.j0 (k + 1) y0 y1 y2 y3))
  | 0 => fun _ _ _ _ r h => by simp [caesuralaw02_AtomAnswers.j0] at h
  | k + 1 => by
    have ih0 := caesuralaw02_AtomAnswers.mono_l k
    · intro y0 y1 y2 y3
      unfold caesuralaw02_AtomAnswers.j0
      repeat' first
      | (with_reducible exact ih0 _ _ _ _)
      | (with_reducible exact atom_Firsts.mono _ _)
      | (with_reducible exact atom_Within.mono _ _ _)
      | (with_reducible exact caesuraref01_Ints.mono _ _ _)
      | (with_reducible exact caesuraref02_Class.mono _ _ _)
      | (with_reducible exact caesuraref02_Firsts.mono _ _)
      | (with_reducible exact caesuraref02_Great.mono _ _ _)
      | (with_reducible exact caesuraref02_OfN.mono _ _)
      | (with_reducible exact caesuraref02_Right.mono _ _)
      | (with_reducible exact caesuraref02_Same.mono _ _ _)
      | (with_reducible exact caesuraref02_Within.mono _ _ _)
      | (with_reducible exact LeO.refl _)
      | (with_reducible exact LeO.none _)
      | (with_reducible refine LeO.ite ?_ ?_)
      | (with_reducible refine LeO.bind ?_ (fun _ => ?_))
      | exact ih0 _ _ _ _
      | exact atom_Firsts.mono _ _
      | exact atom_Within.mono _ _ _
      | exact caesuraref01_Ints.mono _ _ _
      | exact caesuraref02_Class.mono _ _ _
      | exact caesuraref02_Firsts.mono _ _
      | exact caesuraref02_Great.mono _ _ _
      | exact caesuraref02_OfN.mono _ _
      | exact caesuraref02_Right.mono _ _
      | exact caesuraref02_Same.mono _ _ _
      | exact caesuraref02_Within.mono _ _ _
      | exact LeO.none _
      | refine LeO.ite ?_ ?_
      | refine LeO.bind ?_ (fun _ => ?_)
theorem caesuralaw02_AtomAnswers.mono : ∀ a0 a1 a2 k, LeO (caesuralaw02_AtomAnswers.f k a0 a1 a2) (caesuralaw02_AtomAnswers.f (k + 1) a0 a1 a2) := by
  intro a0 a1 a2 k
  have ih0 := caesuralaw02_AtomAnswers.mono_l k
  unfold caesuralaw02_AtomAnswers.f
  repeat' first
      | (with_reducible exact ih0 _ _ _ _)
      | (with_reducible exact atom_Firsts.mono _ _)
      | (with_reducible exact atom_Within.mono _ _ _)
      | (with_reducible exact caesuraref01_Ints.mono _ _ _)
      | (with_reducible exact caesuraref02_Class.mono _ _ _)
      | (with_reducible exact caesuraref02_Firsts.mono _ _)
      | (with_reducible exact caesuraref02_Great.mono _ _ _)
      | (with_reducible exact caesuraref02_OfN.mono _ _)
      | (with_reducible exact caesuraref02_Right.mono _ _)
      | (with_reducible exact caesuraref02_Same.mono _ _ _)
      | (with_reducible exact caesuraref02_Within.mono _ _ _)
      | (with_reducible exact LeO.refl _)
      | (with_reducible exact LeO.none _)
      | (with_reducible refine LeO.ite ?_ ?_)
      | (with_reducible refine LeO.bind ?_ (fun _ => ?_))
      | exact ih0 _ _ _ _
      | exact atom_Firsts.mono _ _
      | exact atom_Within.mono _ _ _
      | exact caesuraref01_Ints.mono _ _ _
      | exact caesuraref02_Class.mono _ _ _
      | exact caesuraref02_Firsts.mono _ _
      | exact caesuraref02_Great.mono _ _ _
      | exact caesuraref02_OfN.mono _ _
      | exact caesuraref02_Right.mono _ _
      | exact caesuraref02_Same.mono _ _ _
      | exact caesuraref02_Within.mono _ _ _
      | exact LeO.none _
      | refine LeO.ite ?_ ?_
      | refine LeO.bind ?_ (fun _ => ?_)
set_option maxHeartbeats 8000000 in
set_option maxRecDepth 100000 in
theorem caesuralaw02_AtomAnswers.calls (k : Nat) (A0 : Option Addr) (c0 : Nat) (l0 : List (List (S38))) (A1 : Option Addr) (c1 : Nat) (l1 : List (S38)) (a2 : Int) (r : Bool) (w : World) (hr0 : Kd.C (Kd.slice 38 k38) w A0 l0.length l0) (hc0 : l0.length ≤ c0) (hr1 : Kd.C k38 w A1 l1.length l1) (hc1 : l1.length ≤ c1) (h : caesuralaw02_AtomAnswers.f k l0 l1 a2 = some r) (hrt_ : Aside0 (r = true)) :
    Calls Tryz.prog 3 #[.slice A0 l0.length c0, .slice A1 l1.length c1, .int .i64 a2] w fun e w' => e = .returned (.bool r) ∧ Below w.heap.size w w' := by
  have HR0 := Aside0.mk hr0
  have HC0 := Aside0.mk hc0
  clear hr0 hc0
  have HR1 := Aside0.mk hr1
  have HC1 := Aside0.mk hc1
  clear hr1 hc1
  have HB := Aside0.mk (Below.refl w.heap.size w)
  have H : ((caesuralaw02_alive.f).bind fun t101 => (if t101 = true then ((caesuraref02_Great.f k l0 300).bind fun t102 => (if t102 = true then (caesuralaw02_AtomAnswers.j0 k l0 l1 a2 true) else (caesuralaw02_AtomAnswers.j0 k l0 l1 a2 (decide ((l1.length : Int) > 300))))) else (some false))) = some r := h
  clear h
  replace H := Option.bind_eq_some_iff.mp H
  obtain ⟨t101, A40, H⟩ := H
  replace H : (if t101 = true then ((caesuraref02_Great.f k l0 300).bind fun t102 => (if t102 = true then (caesuralaw02_AtomAnswers.j0 k l0 l1 a2 true) else (caesuralaw02_AtomAnswers.j0 k l0 l1 a2 (decide ((l1.length : Int) > 300))))) else (some false)) = some r := H
  have A4 := Aside0.mk A40
  clear A40
  by_cases c5 : t101 = true
  · subst c5
    have H1 : ((caesuraref02_Great.f k l0 300).bind fun t102 => (if t102 = true then (caesuralaw02_AtomAnswers.j0 k l0 l1 a2 true) else (caesuralaw02_AtomAnswers.j0 k l0 l1 a2 (decide ((l1.length : Int) > 300))))) = some r := by rw [if_pos rfl] at H; exact H
    clear H
    have H := H1
    clear H1
    have HC6 := Aside0.mk H
    clear H
    go_enter Tryz.func3, Tryz.ntmps3
    go_upto_region 3 with (first | ((with_reducible refine gate_callee (f := 4) rfl ?_); refine goesL_ (some 11) rfl rfl Tryz.func4 (by kernel_rfl) rfl #[] rfl (by (try simp only [List.map_toArray, List.map_cons, List.map_nil]); first | done | rfl | (simp only [List.length_drop, List.length_take]; rfl)) ?_; (with_reducible refine (caesuralaw02_alive.calls  true _ A4.out).mono ?_); rintro e w7 ⟨rfl, hb⟩; refine ⟨_, rfl, ?_⟩; have n0_ := Aside0.mk (below_step (by repeat (first | (with_reducible first | exact HB.out | apply below_alloc | apply pw_below_drewN | apply below_drew1) | exact HB.out)) hb); clear HB; have HB := n0_; clear n0_; (try clear hb); (try clear hb2); (try clear hk); (try clear hi)))
    (try simp only [Act.put, List.setIfInBounds_toArray, List.set_cons_zero, List.set_cons_succ])
    go_cut [19] (fun v19 wc => ∃ (kq : Nat) (x19_5 : Bool), v19 = .bool x19_5 ∧ Aside0 (caesuralaw02_AtomAnswers.j0 kq l0 l1 a2 x19_5 = some r) ∧ Aside0 (kq ≤ k) ∧ Aside0 (Below w.heap.size w wc))
    case first =>
      have H := HC6.out
      clear HC6
      replace H := Option.bind_eq_some_iff.mp H
      obtain ⟨t102, A80, H⟩ := H
      replace H : (if t102 = true then (caesuralaw02_AtomAnswers.j0 k l0 l1 a2 true) else (caesuralaw02_AtomAnswers.j0 k l0 l1 a2 (decide ((l1.length : Int) > 300)))) = some r := H
      have A8 := Aside0.mk A80
      clear A80
      by_cases c9 : t102 = true
      · subst c9
        have H1 : (caesuralaw02_AtomAnswers.j0 k l0 l1 a2 true) = some r := by rw [if_pos rfl] at H; exact H
        clear H
        have H := H1
        clear H1
        have H' := Aside0.mk H
        clear H
        go_wp2_with (first | ((with_reducible refine gate_callee (f := 5) rfl ?_); refine goesL_ (some 14) rfl rfl Tryz.func5 (by kernel_rfl) rfl #[.slice A0 l0.length c0, .int .i64 300] rfl (by (try simp only [List.map_toArray, List.map_cons, List.map_nil]); first | done | rfl | (simp only [List.length_drop, List.length_take]; rfl)) ?_; (with_reducible refine (caesuraref02_Great.calls k _ _ l0 300 true _ ?side1 ?side2 A8.out).mono ?_); (case side1 => repeat (first | exact (Kd.C_below HR0.out HB.out) | (with_reducible refine Kd.C_alloc ?_ _) | (with_reducible refine Kd.C_drewN ?_ _) | (with_reducible refine Kd.C_drew ?_))); (case side2 => exact HC0.out); rintro e w' ⟨rfl, ⟨nd, rfl⟩⟩; refine ⟨_, rfl, ?_⟩))
        go_meet
        case rel => exact ⟨_, (true), (by first | rfl | (simp; done) | (simp [*]; done)), H', ⟨by first | omega | exact Nat.le_refl _⟩, ⟨by repeat (first | (with_reducible first | exact HB.out | apply below_alloc | apply pw_below_drewN | apply below_drew1) | exact HB.out)⟩⟩
      · replace c9 := Bool.eq_false_iff.mpr c9
        subst c9
        have H1 : (caesuralaw02_AtomAnswers.j0 k l0 l1 a2 (decide ((l1.length : Int) > 300))) = some r := by rw [if_neg (show ¬ (false = true) by decide)] at H; exact H
        clear H
        have H := H1
        clear H1
        have H' := Aside0.mk H
        clear H
        go_wp2_with (first | ((with_reducible refine gate_callee (f := 5) rfl ?_); refine goesL_ (some 14) rfl rfl Tryz.func5 (by kernel_rfl) rfl #[.slice A0 l0.length c0, .int .i64 300] rfl (by (try simp only [List.map_toArray, List.map_cons, List.map_nil]); first | done | rfl | (simp only [List.length_drop, List.length_take]; rfl)) ?_; (with_reducible refine (caesuraref02_Great.calls k _ _ l0 300 false _ ?side1 ?side2 A8.out).mono ?_); (case side1 => repeat (first | exact (Kd.C_below HR0.out HB.out) | (with_reducible refine Kd.C_alloc ?_ _) | (with_reducible refine Kd.C_drewN ?_ _) | (with_reducible refine Kd.C_drew ?_))); (case side2 => exact HC0.out); rintro e w' ⟨rfl, ⟨nd, rfl⟩⟩; refine ⟨_, rfl, ?_⟩))
        go_meet
        case rel => exact ⟨_, (decide ((l1.length : Int) > 300)), (by first | rfl | (simp; done) | (simp [*]; done)), H', ⟨by first | omega | exact Nat.le_refl _⟩, ⟨by repeat (first | (with_reducible first | exact HB.out | apply below_alloc | apply pw_below_drewN | apply below_drew1) | exact HB.out)⟩⟩
    case rest =>
      clear HC6
      try clear c1
      try clear p2
      try clear c3
      try clear c4
      try clear c5
      try clear c9
      obtain ⟨kq, x19_5, rfl, HA, HJ5, HB⟩ := hcut
      cases kq with
      | zero => exact absurd HA.out (by simp [caesuralaw02_AtomAnswers.j0])
      | succ kj5 =>
        have H := HA.out
        clear HA
        simp only [caesuralaw02_AtomAnswers.j0] at H
        by_cases c10 : x19_5 = true
        · subst c10
          have H1 : (some true) = some r := by rw [if_pos rfl] at H; exact H
          clear H
          have H := H1
          clear H1
          obtain rfl := Option.some.inj H
          go_wp2
          go_ret
          exact ⟨by first | rfl | (simp [errW_none, errW_some] <;> rfl) | (simp [*, errW_none, errW_some] <;> rfl), by repeat (first | (with_reducible first | exact HB.out | apply below_alloc | apply pw_below_drewN | apply below_drew1) | exact HB.out)⟩
        · replace c10 := Bool.eq_false_iff.mpr c10
          subst c10
          have H1 : ((atom_Of.f l0).bind fun bt103 => ((caesuraref02_OfN.f kj5 l0).bind fun bt107 => ((caesuraref02_Same.f kj5 bt103.1 bt107.1).bind fun t111 => (if t111 = true then (if bt103.2 = bt107.2 then ((atom_Class.f l0 a2).bind fun t112 => ((caesuraref02_Class.f kj5 l0 a2).bind fun t113 => (if t112 = t113 then ((atom_Within.f kj5 l0 l1).bind fun t114 => ((caesuraref02_Within.f kj5 l0 l1).bind fun t117 => ((caesuraref01_Ints.f kj5 t114 t117).bind fun t120 => (if t120 = true then ((atom_Firsts.f kj5 l0).bind fun t121 => ((caesuraref02_Firsts.f kj5 l0).bind fun t124 => ((caesuraref01_Ints.f kj5 t121 t124).bind fun t127 => (if t127 = true then ((atom_Right.f l0).bind fun t128 => ((caesuraref02_Right.f kj5 l0).bind fun t129 => (some (t128 == t129)))) else (some false))))) else (some false))))) else (some false)))) else (some false)) else (some false))))) = some r := by rw [if_neg (show ¬ (false = true) by decide)] at H; exact H
          clear H
          have H := H1
          clear H1
          replace H := Option.bind_eq_some_iff.mp H
          obtain ⟨⟨t103, t106⟩, A110, H⟩ := H
          replace H : ((caesuraref02_OfN.f kj5 l0).bind fun bt107 => ((caesuraref02_Same.f kj5 t103 bt107.1).bind fun t111 => (if t111 = true then (if t106 = bt107.2 then ((atom_Class.f l0 a2).bind fun t112 => ((caesuraref02_Class.f kj5 l0 a2).bind fun t113 => (if t112 = t113 then ((atom_Within.f kj5 l0 l1).bind fun t114 => ((caesuraref02_Within.f kj5 l0 l1).bind fun t117 => ((caesuraref01_Ints.f kj5 t114 t117).bind fun t120 => (if t120 = true then ((atom_Firsts.f kj5 l0).bind fun t121 => ((caesuraref02_Firsts.f kj5 l0).bind fun t124 => ((caesuraref01_Ints.f kj5 t121 t124).bind fun t127 => (if t127 = true then ((atom_Right.f l0).bind fun t128 => ((caesuraref02_Right.f kj5 l0).bind fun t129 => (some (t128 == t129)))) else (some false))))) else (some false))))) else (some false)))) else (some false)) else (some false)))) = some r := H
          have A11 := Aside0.mk A110
          clear A110
          replace H := Option.bind_eq_some_iff.mp H
          obtain ⟨⟨t107, t110⟩, A120, H⟩ := H
          replace H : ((caesuraref02_Same.f kj5 t103 t107).bind fun t111 => (if t111 = true then (if t106 = t110 then ((atom_Class.f l0 a2).bind fun t112 => ((caesuraref02_Class.f kj5 l0 a2).bind fun t113 => (if t112 = t113 then ((atom_Within.f kj5 l0 l1).bind fun t114 => ((caesuraref02_Within.f kj5 l0 l1).bind fun t117 => ((caesuraref01_Ints.f kj5 t114 t117).bind fun t120 => (if t120 = true then ((atom_Firsts.f kj5 l0).bind fun t121 => ((caesuraref02_Firsts.f kj5 l0).bind fun t124 => ((caesuraref01_Ints.f kj5 t121 t124).bind fun t127 => (if t127 = true then ((atom_Right.f l0).bind fun t128 => ((caesuraref02_Right.f kj5 l0).bind fun t129 => (some (t128 == t129)))) else (some false))))) else (some false))))) else (some false)))) else (some false)) else (some false))) = some r := H
          have A12 := Aside0.mk A120
          clear A120
          replace H := Option.bind_eq_some_iff.mp H
          obtain ⟨t111, A130, H⟩ := H
          replace H : (if t111 = true then (if t106 = t110 then ((atom_Class.f l0 a2).bind fun t112 => ((caesuraref02_Class.f kj5 l0 a2).bind fun t113 => (if t112 = t113 then ((atom_Within.f kj5 l0 l1).bind fun t114 => ((caesuraref02_Within.f kj5 l0 l1).bind fun t117 => ((caesuraref01_Ints.f kj5 t114 t117).bind fun t120 => (if t120 = true then ((atom_Firsts.f kj5 l0).bind fun t121 => ((caesuraref02_Firsts.f kj5 l0).bind fun t124 => ((caesuraref01_Ints.f kj5 t121 t124).bind fun t127 => (if t127 = true then ((atom_Right.f l0).bind fun t128 => ((caesuraref02_Right.f kj5 l0).bind fun t129 => (some (t128 == t129)))) else (some false))))) else (some false))))) else (some false)))) else (some false)) else (some false)) = some r := H
          have A13 := Aside0.mk A130
          clear A130
          by_cases c14 : t111 = true
          · subst c14
            have H1 : (if t106 = t110 then ((atom_Class.f l0 a2).bind fun t112 => ((caesuraref02_Class.f kj5 l0 a2).bind fun t113 => (if t112 = t113 then ((atom_Within.f kj5 l0 l1).bind fun t114 => ((caesuraref02_Within.f kj5 l0 l1).bind fun t117 => ((caesuraref01_Ints.f kj5 t114 t117).bind fun t120 => (if t120 = true then ((atom_Firsts.f kj5 l0).bind fun t121 => ((caesuraref02_Firsts.f kj5 l0).bind fun t124 => ((caesuraref01_Ints.f kj5 t121 t124).bind fun t127 => (if t127 = true then ((atom_Right.f l0).bind fun t128 => ((caesuraref02_Right.f kj5 l0).bind fun t129 => (some (t128 == t129)))) else (some false))))) else (some false))))) else (some false)))) else (some false)) = some r := by rw [if_pos rfl] at H; exact H
            clear H
            have H := H1
            clear H1
            by_cases c15 : t106 = t110
            · rw [if_pos c15] at H
              have c15b0 : (t106 == t110) = true := beq_iff_eq.mpr c15
              have c15b1 : (t106 != t110) = false := bne_eq_false_iff_eq.mpr c15
              clear c15
              replace H := Option.bind_eq_some_iff.mp H
              obtain ⟨t112, A160, H⟩ := H
              replace H : ((caesuraref02_Class.f kj5 l0 a2).bind fun t113 => (if t112 = t113 then ((atom_Within.f kj5 l0 l1).bind fun t114 => ((caesuraref02_Within.f kj5 l0 l1).bind fun t117 => ((caesuraref01_Ints.f kj5 t114 t117).bind fun t120 => (if t120 = true then ((atom_Firsts.f kj5 l0).bind fun t121 => ((caesuraref02_Firsts.f kj5 l0).bind fun t124 => ((caesuraref01_Ints.f kj5 t121 t124).bind fun t127 => (if t127 = true then ((atom_Right.f l0).bind fun t128 => ((caesuraref02_Right.f kj5 l0).bind fun t129 => (some (t128 == t129)))) else (some false))))) else (some false))))) else (some false))) = some r := H
              have A16 := Aside0.mk A160
              clear A160
              replace H := Option.bind_eq_some_iff.mp H
              obtain ⟨t113, A170, H⟩ := H
              replace H : (if t112 = t113 then ((atom_Within.f kj5 l0 l1).bind fun t114 => ((caesuraref02_Within.f kj5 l0 l1).bind fun t117 => ((caesuraref01_Ints.f kj5 t114 t117).bind fun t120 => (if t120 = true then ((atom_Firsts.f kj5 l0).bind fun t121 => ((caesuraref02_Firsts.f kj5 l0).bind fun t124 => ((caesuraref01_Ints.f kj5 t121 t124).bind fun t127 => (if t127 = true then ((atom_Right.f l0).bind fun t128 => ((caesuraref02_Right.f kj5 l0).bind fun t129 => (some (t128 == t129)))) else (some false))))) else (some false))))) else (some false)) = some r := H
              have A17 := Aside0.mk A170
              clear A170
              by_cases c18 : t112 = t113
              · rw [if_pos c18] at H
                have c18b0 : (t112 == t113) = true := beq_iff_eq.mpr c18
                have c18b1 : (t112 != t113) = false := bne_eq_false_iff_eq.mpr c18
                clear c18
                replace H := Option.bind_eq_some_iff.mp H
                obtain ⟨t114, A190, H⟩ := H
                replace H : ((caesuraref02_Within.f kj5 l0 l1).bind fun t117 => ((caesuraref01_Ints.f kj5 t114 t117).bind fun t120 => (if t120 = true then ((atom_Firsts.f kj5 l0).bind fun t121 => ((caesuraref02_Firsts.f kj5 l0).bind fun t124 => ((caesuraref01_Ints.f kj5 t121 t124).bind fun t127 => (if t127 = true then ((atom_Right.f l0).bind fun t128 => ((caesuraref02_Right.f kj5 l0).bind fun t129 => (some (t128 == t129)))) else (some false))))) else (some false)))) = some r := H
                have A19 := Aside0.mk A190
                clear A190
                replace H := Option.bind_eq_some_iff.mp H
                obtain ⟨t117, A200, H⟩ := H
                replace H : ((caesuraref01_Ints.f kj5 t114 t117).bind fun t120 => (if t120 = true then ((atom_Firsts.f kj5 l0).bind fun t121 => ((caesuraref02_Firsts.f kj5 l0).bind fun t124 => ((caesuraref01_Ints.f kj5 t121 t124).bind fun t127 => (if t127 = true then ((atom_Right.f l0).bind fun t128 => ((caesuraref02_Right.f kj5 l0).bind fun t129 => (some (t128 == t129)))) else (some false))))) else (some false))) = some r := H
                have A20 := Aside0.mk A200
                clear A200
                replace H := Option.bind_eq_some_iff.mp H
                obtain ⟨t120, A210, H⟩ := H
                replace H : (if t120 = true then ((atom_Firsts.f kj5 l0).bind fun t121 => ((caesuraref02_Firsts.f kj5 l0).bind fun t124 => ((caesuraref01_Ints.f kj5 t121 t124).bind fun t127 => (if t127 = true then ((atom_Right.f l0).bind fun t128 => ((caesuraref02_Right.f kj5 l0).bind fun t129 => (some (t128 == t129)))) else (some false))))) else (some false)) = some r := H
                have A21 := Aside0.mk A210
                clear A210
                by_cases c22 : t120 = true
                · subst c22
                  have H1 : ((atom_Firsts.f kj5 l0).bind fun t121 => ((caesuraref02_Firsts.f kj5 l0).bind fun t124 => ((caesuraref01_Ints.f kj5 t121 t124).bind fun t127 => (if t127 = true then ((atom_Right.f l0).bind fun t128 => ((caesuraref02_Right.f kj5 l0).bind fun t129 => (some (t128 == t129)))) else (some false))))) = some r := by rw [if_pos rfl] at H; exact H
                  clear H
                  have H := H1
                  clear H1
                  replace H := Option.bind_eq_some_iff.mp H
                  obtain ⟨t121, A230, H⟩ := H
                  replace H : ((caesuraref02_Firsts.f kj5 l0).bind fun t124 => ((caesuraref01_Ints.f kj5 t121 t124).bind fun t127 => (if t127 = true then ((atom_Right.f l0).bind fun t128 => ((caesuraref02_Right.f kj5 l0).bind fun t129 => (some (t128 == t129)))) else (some false)))) = some r := H
                  have A23 := Aside0.mk A230
                  clear A230
                  replace H := Option.bind_eq_some_iff.mp H
                  obtain ⟨t124, A240, H⟩ := H
                  replace H : ((caesuraref01_Ints.f kj5 t121 t124).bind fun t127 => (if t127 = true then ((atom_Right.f l0).bind fun t128 => ((caesuraref02_Right.f kj5 l0).bind fun t129 => (some (t128 == t129)))) else (some false))) = some r := H
                  have A24 := Aside0.mk A240
                  clear A240
                  replace H := Option.bind_eq_some_iff.mp H
                  obtain ⟨t127, A250, H⟩ := H
                  replace H : (if t127 = true then ((atom_Right.f l0).bind fun t128 => ((caesuraref02_Right.f kj5 l0).bind fun t129 => (some (t128 == t129)))) else (some false)) = some r := H
                  have A25 := Aside0.mk A250
                  clear A250
                  by_cases c26 : t127 = true
                  · subst c26
                    have H1 : ((atom_Right.f l0).bind fun t128 => ((caesuraref02_Right.f kj5 l0).bind fun t129 => (some (t128 == t129)))) = some r := by rw [if_pos rfl] at H; exact H
                    clear H
                    have H := H1
                    clear H1
                    replace H := Option.bind_eq_some_iff.mp H
                    obtain ⟨t128, A270, H⟩ := H
                    replace H : ((caesuraref02_Right.f kj5 l0).bind fun t129 => (some (t128 == t129))) = some r := H
                    have A27 := Aside0.mk A270
                    clear A270
                    replace H := Option.bind_eq_some_iff.mp H
                    obtain ⟨t129, A280, H⟩ := H
                    replace H : (some (t128 == t129)) = some r := H
                    have A28 := Aside0.mk A280
                    clear A280
                    obtain rfl := Option.some.inj H
                    go_wp2_with (first | ((with_reducible refine gate_callee (f := 6) rfl ?_); refine goesL_ (some 22) rfl rfl Tryz.func6 (by kernel_rfl) rfl #[.slice A0 l0.length c0] rfl (by (try simp only [List.map_toArray, List.map_cons, List.map_nil]); first | done | rfl | (simp only [List.length_drop, List.length_take]; rfl)) ?_; (with_reducible refine (atom_Of.calls _ _ l0 t103 t106 _ ?side1 ?side2 A11.out).mono ?_); (case side1 => repeat (first | exact (Kd.C_below HR0.out HB.out) | (with_reducible refine Kd.C_alloc ?_ _) | (with_reducible refine Kd.C_drewN ?_ _) | (with_reducible refine Kd.C_drew ?_))); (case side2 => exact HC0.out); rintro e w29 ⟨v104, rfl, ho0, hb⟩; refine ⟨_, rfl, ?_⟩; have n0_ := Aside0.mk (Kd.N_lower (Kd.N_mono (ok' := fun k_ => True) ho0 (fun k_ hk_ => trivial)) (below_size (by repeat (first | (with_reducible first | exact HB.out | apply below_alloc | apply pw_below_drewN | apply below_drew1) | exact HB.out)))); have n1_ := Aside0.mk (below_step (by repeat (first | (with_reducible first | exact HB.out | apply below_alloc | apply pw_below_drewN | apply below_drew1) | exact HB.out)) hb); clear HB; have HO105 := n0_; have HB := n1_; clear n0_ n1_; (try clear hb); (try clear hb2); (try clear hk); (try clear hi); (try clear ho0)) | ((with_reducible refine gate_callee (f := 7) rfl ?_); refine goesL_ (some 27) rfl rfl Tryz.func7 (by kernel_rfl) rfl #[.slice A0 l0.length c0] rfl (by (try simp only [List.map_toArray, List.map_cons, List.map_nil]); first | done | rfl | (simp only [List.length_drop, List.length_take]; rfl)) ?_; (with_reducible refine (caesuraref02_OfN.calls kj5 _ _ l0 t107 t110 _ ?side1 ?side2 A12.out).mono ?_); (case side1 => repeat (first | exact (Kd.C_below HR0.out HB.out) | (with_reducible refine Kd.C_alloc ?_ _) | (with_reducible refine Kd.C_drewN ?_ _) | (with_reducible refine Kd.C_drew ?_))); (case side2 => exact HC0.out); rintro e w30 ⟨v108, rfl, ho0, hb⟩; refine ⟨_, rfl, ?_⟩; have n0_ := Aside0.mk (Kd.N_elder' (by (with_reducible repeat (first | apply Kd.N_alloc | apply Kd.N_drewN | apply Kd.N_drew)); exact HO105.out) (Kd.N_base ho0) hb); have n1_ := Aside0.mk (Kd.N_lower (Kd.N_mono (ok' := fun k_ => some k_ ≠ (v104 : Value).ownBlock) ho0 (fun k_ hk_ => (Kd.fresh' (Kd.N_lt (by (with_reducible repeat (first | apply Kd.N_alloc | apply Kd.N_drewN | apply Kd.N_drew)); exact HO105.out)) k_ hk_))) (below_size (by repeat (first | (with_reducible first | exact HB.out | apply below_alloc | apply pw_below_drewN | apply below_drew1) | exact HB.out)))); have n2_ := Aside0.mk (below_step (by repeat (first | (with_reducible first | exact HB.out | apply below_alloc | apply pw_below_drewN | apply below_drew1) | exact HB.out)) hb); clear HO105; clear HB; have HO105 := n0_; have HO109 := n1_; have HB := n2_; clear n0_ n1_ n2_; (try clear hb); (try clear hb2); (try clear hk); (try clear hi); (try clear ho0); obtain ⟨Ao31, co31, eo31⟩ := Kd.N_slice HO105.out; subst eo31; obtain ⟨Ao32, co32, eo32⟩ := Kd.N_slice HO109.out; subst eo32) | ((with_reducible refine gate_callee (f := 8) rfl ?_); refine goesL_ (some 32) rfl rfl Tryz.func8 (by kernel_rfl) rfl #[.slice Ao31 t103.length co31, .slice Ao32 t107.length co32] rfl (by (try simp only [List.map_toArray, List.map_cons, List.map_nil]); first | done | rfl | (simp only [List.length_drop, List.length_take]; rfl)) ?_; (with_reducible refine (caesuraref02_Same.calls kj5 _ _ t103 _ _ t107 true _ ?side1 ?side2 ?side3 ?side4 A13.out).mono ?_); (case side1 => repeat (first | exact (Kd.N_reads' HO105.out).2.2 | (with_reducible refine Kd.C_alloc ?_ _) | (with_reducible refine Kd.C_drewN ?_ _) | (with_reducible refine Kd.C_drew ?_))); (case side2 => exact (Kd.N_reads' HO105.out).2.1); (case side3 => repeat (first | exact (Kd.N_reads' HO109.out).2.2 | (with_reducible refine Kd.C_alloc ?_ _) | (with_reducible refine Kd.C_drewN ?_ _) | (with_reducible refine Kd.C_drew ?_))); (case side4 => exact (Kd.N_reads' HO109.out).2.1); rintro e w' ⟨rfl, ⟨nd, rfl⟩⟩; refine ⟨_, rfl, ?_⟩) | (go_at_call 9; (with_reducible refine (atom_Class.calls _ _ l0 a2 t112 _ ?side1 ?side2 A16.out).mono ?_); (case side1 => repeat (first | exact (Kd.C_below HR0.out (by repeat (first | (with_reducible first | exact HB.out | apply below_alloc | apply pw_below_drewN | apply below_drew1) | exact HB.out))) | (with_reducible refine Kd.C_alloc ?_ _) | (with_reducible refine Kd.C_drewN ?_ _) | (with_reducible refine Kd.C_drew ?_))); (case side2 => exact HC0.out); rintro e w33 ⟨rfl, hb⟩; have n0_ := Aside0.mk (Kd.N_below (by (with_reducible repeat (first | apply Kd.N_alloc | apply Kd.N_drewN | apply Kd.N_drew)); exact HO105.out) hb); have n1_ := Aside0.mk (Kd.N_below (by (with_reducible repeat (first | apply Kd.N_alloc | apply Kd.N_drewN | apply Kd.N_drew)); exact HO109.out) hb); have n2_ := Aside0.mk (below_step (by repeat (first | (with_reducible first | exact HB.out | apply below_alloc | apply pw_below_drewN | apply below_drew1) | exact HB.out)) hb); clear HO105; clear HO109; clear HB; have HO105 := n0_; have HO109 := n1_; have HB := n2_; clear n0_ n1_ n2_; (try clear hb); (try clear hb2); (try clear hk); (try clear hi)) | (go_at_call 10; (with_reducible refine (caesuraref02_Class.calls kj5 _ _ l0 a2 t113 _ ?side1 ?side2 A17.out).mono ?_); (case side1 => repeat (first | exact (Kd.C_below HR0.out HB.out) | (with_reducible refine Kd.C_alloc ?_ _) | (with_reducible refine Kd.C_drewN ?_ _) | (with_reducible refine Kd.C_drew ?_))); (case side2 => exact HC0.out); rintro e w' ⟨rfl, ⟨nd, rfl⟩⟩) | (go_at_call 12; (with_reducible refine (atom_Within.calls kj5 _ _ l0 _ _ l1 t114 _ ?side1 ?side2 ?side3 ?side4 A19.out).mono ?_); (case side1 => repeat (first | exact (Kd.C_below HR0.out (by repeat (first | (with_reducible first | exact HB.out | apply below_alloc | apply pw_below_drewN | apply below_drew1) | exact HB.out))) | (with_reducible refine Kd.C_alloc ?_ _) | (with_reducible refine Kd.C_drewN ?_ _) | (with_reducible refine Kd.C_drew ?_))); (case side2 => exact HC0.out); (case side3 => repeat (first | exact (Kd.C_below HR1.out (by repeat (first | (with_reducible first | exact HB.out | apply below_alloc | apply pw_below_drewN | apply below_drew1) | exact HB.out))) | (with_reducible refine Kd.C_alloc ?_ _) | (with_reducible refine Kd.C_drewN ?_ _) | (with_reducible refine Kd.C_drew ?_))); (case side4 => exact HC1.out); rintro e w34 ⟨v115, rfl, ho0, hb⟩; have n0_ := Aside0.mk (Kd.N_elder' (by (with_reducible repeat (first | apply Kd.N_alloc | apply Kd.N_drewN | apply Kd.N_drew)); exact HO105.out) (Kd.R_base ho0) hb); have n1_ := Aside0.mk (Kd.N_elder' (by (with_reducible repeat (first | apply Kd.N_alloc | apply Kd.N_drewN | apply Kd.N_drew)); exact HO109.out) (Kd.R_base ho0) hb); have n2_ := Aside0.mk (Kd.R_lower ho0 (below_size (by repeat (first | (with_reducible first | exact HB.out | apply below_alloc | apply pw_below_drewN | apply below_drew1) | exact HB.out)))); have n3_ := Aside0.mk (below_step (by repeat (first | (with_reducible first | exact HB.out | apply below_alloc | apply pw_below_drewN | apply below_drew1) | exact HB.out)) hb); clear HO105; clear HO109; clear HB; have HO105 := n0_; have HO109 := n1_; have HO116 := n2_; have HB := n3_; clear n0_ n1_ n2_ n3_; (try clear hb); (try clear hb2); (try clear hk); (try clear hi); (try clear ho0)) | (go_at_call 13; (with_reducible refine (caesuraref02_Within.calls kj5 _ _ l0 _ _ l1 t117 _ ?side1 ?side2 ?side3 ?side4 A20.out).mono ?_); (case side1 => repeat (first | exact (Kd.C_below HR0.out HB.out) | (with_reducible refine Kd.C_alloc ?_ _) | (with_reducible refine Kd.C_drewN ?_ _) | (with_reducible refine Kd.C_drew ?_))); (case side2 => exact HC0.out); (case side3 => repeat (first | exact (Kd.C_below HR1.out HB.out) | (with_reducible refine Kd.C_alloc ?_ _) | (with_reducible refine Kd.C_drewN ?_ _) | (with_reducible refine Kd.C_drew ?_))); (case side4 => exact HC1.out); rintro e w35 ⟨v118, rfl, ho0, hb⟩; have n0_ := Aside0.mk (Kd.N_elder' (by (with_reducible repeat (first | apply Kd.N_alloc | apply Kd.N_drewN | apply Kd.N_drew)); exact HO105.out) (Kd.R_base ho0) hb); have n1_ := Aside0.mk (Kd.N_elder' (by (with_reducible repeat (first | apply Kd.N_alloc | apply Kd.N_drewN | apply Kd.N_drew)); exact HO109.out) (Kd.R_base ho0) hb); have n2_ := Aside0.mk (Kd.R_elder' (by (with_reducible repeat (first | apply Kd.R_alloc | apply Kd.R_drewN | apply Kd.R_drew)); exact HO116.out) (Kd.R_base ho0) hb); have n3_ := Aside0.mk (Kd.R_lower (Kd.R_new' ho0 (Kd.R_lt (by (with_reducible repeat (first | apply Kd.R_alloc | apply Kd.R_drewN | apply Kd.R_drew)); exact HO116.out))) (below_size (by repeat (first | (with_reducible first | exact HB.out | apply below_alloc | apply pw_below_drewN | apply below_drew1) | exact HB.out)))); have n4_ := Aside0.mk (below_step (by repeat (first | (with_reducible first | exact HB.out | apply below_alloc | apply pw_below_drewN | apply below_drew1) | exact HB.out)) hb); clear HO105; clear HO109; clear HO116; clear HB; have HO105 := n0_; have HO109 := n1_; have HO116 := n2_; have HO119 := n3_; have HB := n4_; clear n0_ n1_ n2_ n3_ n4_; (try clear hb); (try clear hb2); (try clear hk); (try clear hi); (try clear ho0); obtain ⟨Ao36, co36, eo36⟩ := Kd.R_slice HO116.out; subst eo36; obtain ⟨Ao37, co37, eo37⟩ := Kd.R_slice HO119.out; subst eo37) | (go_at_call 11; (with_reducible refine (caesuraref01_Ints.calls kj5 _ _ t114 _ _ t117 true _ ?side1 ?side2 ?side3 ?side4 A21.out).mono ?_); (case side1 => repeat (first | exact (Kd.R_reads' HO116.out).2.2 | (with_reducible refine Kd.C_alloc ?_ _) | (with_reducible refine Kd.C_drewN ?_ _) | (with_reducible refine Kd.C_drew ?_))); (case side2 => exact (Kd.R_reads' HO116.out).2.1); (case side3 => repeat (first | exact (Kd.R_reads' HO119.out).2.2 | (with_reducible refine Kd.C_alloc ?_ _) | (with_reducible refine Kd.C_drewN ?_ _) | (with_reducible refine Kd.C_drew ?_))); (case side4 => exact (Kd.R_reads' HO119.out).2.1); rintro e w' ⟨rfl, ⟨nd, rfl⟩⟩) | (go_at_call 14; (with_reducible refine (atom_Firsts.calls kj5 _ _ l0 t121 _ ?side1 ?side2 A23.out).mono ?_); (case side1 => repeat (first | exact (Kd.C_below HR0.out (by repeat (first | (with_reducible first | exact HB.out | apply below_alloc | apply pw_below_drewN | apply below_drew1) | exact HB.out))) | (with_reducible refine Kd.C_alloc ?_ _) | (with_reducible refine Kd.C_drewN ?_ _) | (with_reducible refine Kd.C_drew ?_))); (case side2 => exact HC0.out); rintro e w38 ⟨v122, rfl, ho0, hb⟩; have n0_ := Aside0.mk (Kd.N_elder' (by (with_reducible repeat (first | apply Kd.N_alloc | apply Kd.N_drewN | apply Kd.N_drew)); exact HO105.out) (Kd.R_base ho0) hb); have n1_ := Aside0.mk (Kd.N_elder' (by (with_reducible repeat (first | apply Kd.N_alloc | apply Kd.N_drewN | apply Kd.N_drew)); exact HO109.out) (Kd.R_base ho0) hb); have n2_ := Aside0.mk (Kd.R_elder' (by (with_reducible repeat (first | apply Kd.R_alloc | apply Kd.R_drewN | apply Kd.R_drew)); exact HO116.out) (Kd.R_base ho0) hb); have n3_ := Aside0.mk (Kd.R_elder' (by (with_reducible repeat (first | apply Kd.R_alloc | apply Kd.R_drewN | apply Kd.R_drew)); exact HO119.out) (Kd.R_base ho0) hb); have n4_ := Aside0.mk (Kd.R_lower (Kd.R_new' (Kd.R_new' ho0 (Kd.R_lt (by (with_reducible repeat (first | apply Kd.R_alloc | apply Kd.R_drewN | apply Kd.R_drew)); exact HO116.out))) (Kd.R_lt (by (with_reducible repeat (first | apply Kd.R_alloc | apply Kd.R_drewN | apply Kd.R_drew)); exact HO119.out))) (below_size (by repeat (first | (with_reducible first | exact HB.out | apply below_alloc | apply pw_below_drewN | apply below_drew1) | exact HB.out)))); have n5_ := Aside0.mk (below_step (by repeat (first | (with_reducible first | exact HB.out | apply below_alloc | apply pw_below_drewN | apply below_drew1) | exact HB.out)) hb); clear HO105; clear HO109; clear HO116; clear HO119; clear HB; have HO105 := n0_; have HO109 := n1_; have HO116 := n2_; have HO119 := n3_; have HO123 := n4_; have HB := n5_; clear n0_ n1_ n2_ n3_ n4_ n5_; (try clear hb); (try clear hb2); (try clear hk); (try clear hi); (try clear ho0)) | (go_at_call 15; (with_reducible refine (caesuraref02_Firsts.calls kj5 _ _ l0 t124 _ ?side1 ?side2 A24.out).mono ?_); (case side1 => repeat (first | exact (Kd.C_below HR0.out HB.out) | (with_reducible refine Kd.C_alloc ?_ _) | (with_reducible refine Kd.C_drewN ?_ _) | (with_reducible refine Kd.C_drew ?_))); (case side2 => exact HC0.out); rintro e w39 ⟨v125, rfl, ho0, hb⟩; have n0_ := Aside0.mk (Kd.N_elder' (by (with_reducible repeat (first | apply Kd.N_alloc | apply Kd.N_drewN | apply Kd.N_drew)); exact HO105.out) (Kd.R_base ho0) hb); have n1_ := Aside0.mk (Kd.N_elder' (by (with_reducible repeat (first | apply Kd.N_alloc | apply Kd.N_drewN | apply Kd.N_drew)); exact HO109.out) (Kd.R_base ho0) hb); have n2_ := Aside0.mk (Kd.R_elder' (by (with_reducible repeat (first | apply Kd.R_alloc | apply Kd.R_drewN | apply Kd.R_drew)); exact HO116.out) (Kd.R_base ho0) hb); have n3_ := Aside0.mk (Kd.R_elder' (by (with_reducible repeat (first | apply Kd.R_alloc | apply Kd.R_drewN | apply Kd.R_drew)); exact HO119.out) (Kd.R_base ho0) hb); have n4_ := Aside0.mk (Kd.R_elder' (by (with_reducible repeat (first | apply Kd.R_alloc | apply Kd.R_drewN | apply Kd.R_drew)); exact HO123.out) (Kd.R_base ho0) hb); have n5_ := Aside0.mk (Kd.R_lower (Kd.R_new' (Kd.R_new' (Kd.R_new' ho0 (Kd.R_lt (by (with_reducible repeat (first | apply Kd.R_alloc | apply Kd.R_drewN | apply Kd.R_drew)); exact HO116.out))) (Kd.R_lt (by (with_reducible repeat (first | apply Kd.R_alloc | apply Kd.R_drewN | apply Kd.R_drew)); exact HO119.out))) (Kd.R_lt (by (with_reducible repeat (first | apply Kd.R_alloc | apply Kd.R_drewN | apply Kd.R_drew)); exact HO123.out))) (below_size (by repeat (first | (with_reducible first | exact HB.out | apply below_alloc | apply pw_below_drewN | apply below_drew1) | exact HB.out)))); have n6_ := Aside0.mk (below_step (by repeat (first | (with_reducible first | exact HB.out | apply below_alloc | apply pw_below_drewN | apply below_drew1) | exact HB.out)) hb); clear HO105; clear HO109; clear HO116; clear HO119; clear HO123; clear HB; have HO105 := n0_; have HO109 := n1_; have HO116 := n2_; have HO119 := n3_; have HO123 := n4_; have HO126 := n5_; have HB := n6_; clear n0_ n1_ n2_ n3_ n4_ n5_ n6_; (try clear hb); (try clear hb2); (try clear hk); (try clear hi); (try clear ho0); obtain ⟨Ao40, co40, eo40⟩ := Kd.R_slice HO123.out; subst eo40; obtain ⟨Ao41, co41, eo41⟩ := Kd.R_slice HO126.out; subst eo41) | (go_at_call 11; (with_reducible refine (caesuraref01_Ints.calls kj5 _ _ t121 _ _ t124 true _ ?side1 ?side2 ?side3 ?side4 A25.out).mono ?_); (case side1 => repeat (first | exact (Kd.R_reads' HO123.out).2.2 | (with_reducible refine Kd.C_alloc ?_ _) | (with_reducible refine Kd.C_drewN ?_ _) | (with_reducible refine Kd.C_drew ?_))); (case side2 => exact (Kd.R_reads' HO123.out).2.1); (case side3 => repeat (first | exact (Kd.R_reads' HO126.out).2.2 | (with_reducible refine Kd.C_alloc ?_ _) | (with_reducible refine Kd.C_drewN ?_ _) | (with_reducible refine Kd.C_drew ?_))); (case side4 => exact (Kd.R_reads' HO126.out).2.1); rintro e w' ⟨rfl, ⟨nd, rfl⟩⟩) | (go_at_call 16; (with_reducible refine (atom_Right.calls _ _ l0 t128 _ ?side1 ?side2 A27.out).mono ?_); (case side1 => repeat (first | exact (Kd.C_below HR0.out (by repeat (first | (with_reducible first | exact HB.out | apply below_alloc | apply pw_below_drewN | apply below_drew1) | exact HB.out))) | (with_reducible refine Kd.C_alloc ?_ _) | (with_reducible refine Kd.C_drewN ?_ _) | (with_reducible refine Kd.C_drew ?_))); (case side2 => exact HC0.out); rintro e w42 ⟨rfl, hb⟩; have n0_ := Aside0.mk (Kd.N_below (by (with_reducible repeat (first | apply Kd.N_alloc | apply Kd.N_drewN | apply Kd.N_drew)); exact HO105.out) hb); have n1_ := Aside0.mk (Kd.N_below (by (with_reducible repeat (first | apply Kd.N_alloc | apply Kd.N_drewN | apply Kd.N_drew)); exact HO109.out) hb); have n2_ := Aside0.mk (Kd.R_below (by (with_reducible repeat (first | apply Kd.R_alloc | apply Kd.R_drewN | apply Kd.R_drew)); exact HO116.out) hb); have n3_ := Aside0.mk (Kd.R_below (by (with_reducible repeat (first | apply Kd.R_alloc | apply Kd.R_drewN | apply Kd.R_drew)); exact HO119.out) hb); have n4_ := Aside0.mk (Kd.R_below (by (with_reducible repeat (first | apply Kd.R_alloc | apply Kd.R_drewN | apply Kd.R_drew)); exact HO123.out) hb); have n5_ := Aside0.mk (Kd.R_below (by (with_reducible repeat (first | apply Kd.R_alloc | apply Kd.R_drewN | apply Kd.R_drew)); exact HO126.out) hb); have n6_ := Aside0.mk (below_step (by repeat (first | (with_reducible first | exact HB.out | apply below_alloc | apply pw_below_drewN | apply below_drew1) | exact HB.out)) hb); clear HO105; clear HO109; clear HO116; clear HO119; clear HO123; clear HO126; clear HB; have HO105 := n0_; have HO109 := n1_; have HO116 := n2_; have HO119 := n3_; have HO123 := n4_; have HO126 := n5_; have HB := n6_; clear n0_ n1_ n2_ n3_ n4_ n5_ n6_; (try clear hb); (try clear hb2); (try clear hk); (try clear hi)) | (go_at_call 17; (with_reducible refine (caesuraref02_Right.calls kj5 _ _ l0 t129 _ ?side1 ?side2 A28.out).mono ?_); (case side1 => repeat (first | exact (Kd.C_below HR0.out HB.out) | (with_reducible refine Kd.C_alloc ?_ _) | (with_reducible refine Kd.C_drewN ?_ _) | (with_reducible refine Kd.C_drew ?_))); (case side2 => exact HC0.out); rintro e w43 ⟨rfl, hb⟩; have n0_ := Aside0.mk (Kd.N_below (by (with_reducible repeat (first | apply Kd.N_alloc | apply Kd.N_drewN | apply Kd.N_drew)); exact HO105.out) hb); have n1_ := Aside0.mk (Kd.N_below (by (with_reducible repeat (first | apply Kd.N_alloc | apply Kd.N_drewN | apply Kd.N_drew)); exact HO109.out) hb); have n2_ := Aside0.mk (Kd.R_below (by (with_reducible repeat (first | apply Kd.R_alloc | apply Kd.R_drewN | apply Kd.R_drew)); exact HO116.out) hb); have n3_ := Aside0.mk (Kd.R_below (by (with_reducible repeat (first | apply Kd.R_alloc | apply Kd.R_drewN | apply Kd.R_drew)); exact HO119.out) hb); have n4_ := Aside0.mk (Kd.R_below (by (with_reducible repeat (first | apply Kd.R_alloc | apply Kd.R_drewN | apply Kd.R_drew)); exact HO123.out) hb); have n5_ := Aside0.mk (Kd.R_below (by (with_reducible repeat (first | apply Kd.R_alloc | apply Kd.R_drewN | apply Kd.R_drew)); exact HO126.out) hb); have n6_ := Aside0.mk (below_step (by repeat (first | (with_reducible first | exact HB.out | apply below_alloc | apply pw_below_drewN | apply below_drew1) | exact HB.out)) hb); clear HO105; clear HO109; clear HO116; clear HO119; clear HO123; clear HO126; clear HB; have HO105 := n0_; have HO109 := n1_; have HO116 := n2_; have HO119 := n3_; have HO123 := n4_; have HO126 := n5_; have HB := n6_; clear n0_ n1_ n2_ n3_ n4_ n5_ n6_; (try clear hb); (try clear hb2); (try clear hk); (try clear hi)))
                    go_ret
                    exact ⟨by first | rfl | (simp [errW_none, errW_some] <;> rfl) | (simp [*, errW_none, errW_some] <;> rfl), by repeat (first | (with_reducible first | exact HB.out | apply below_alloc | apply pw_below_drewN | apply below_drew1) | exact HB.out)⟩
                  · replace c26 := Bool.eq_false_iff.mpr c26
                    subst c26
                    have H1 : (some false) = some r := by rw [if_neg (show ¬ (false = true) by decide)] at H; exact H
                    clear H
                    have H := H1
                    clear H1
                    exact absurd ((Option.some.inj H).trans hrt_.out) (by decide)
                · replace c22 := Bool.eq_false_iff.mpr c22
                  subst c22
                  have H1 : (some false) = some r := by rw [if_neg (show ¬ (false = true) by decide)] at H; exact H
                  clear H
                  have H := H1
                  clear H1
                  exact absurd ((Option.some.inj H).trans hrt_.out) (by decide)
              · rw [if_neg c18] at H
                have c18b0 : (t112 == t113) = false := beq_eq_false_iff_ne.mpr c18
                have c18b1 : (t112 != t113) = true := bne_iff_ne.mpr c18
                exact absurd ((Option.some.inj H).trans hrt_.out) (by decide)
            · rw [if_neg c15] at H
              have c15b0 : (t106 == t110) = false := beq_eq_false_iff_ne.mpr c15
              have c15b1 : (t106 != t110) = true := bne_iff_ne.mpr c15
              exact absurd ((Option.some.inj H).trans hrt_.out) (by decide)
          · replace c14 := Bool.eq_false_iff.mpr c14
            subst c14
            have H1 : (some false) = some r := by rw [if_neg (show ¬ (false = true) by decide)] at H; exact H
            clear H
            have H := H1
            clear H1
            exact absurd ((Option.some.inj H).trans hrt_.out) (by decide)
  · replace c5 := Bool.eq_false_iff.mpr c5
    subst c5
    have H1 : (some false) = some r := by rw [if_neg (show ¬ (false = true) by decide)] at H; exact H
    clear H
    have H := H1
    clear H1
    exact absurd ((Option.some.inj H).trans hrt_.out) (by decide)
end
end Go.Proofs.YtippkbgeeeimjaaGreat.AN
/- AtomAnswers, in plain Lean; and joined with its walk. -/
namespace Go.Proofs.YtippkbgeeeimjaaGreat.P
open Go.RowKit Go.Proofs.YtippkbgeeeimjaaGreatW.PrintWords Go.Proofs.YtippkbgeeeimjaaGreat.A Go.Proofs.YtippkbgeeeimjaaGreat.L Go.Proofs.YtippkbgeeeimjaaGreat.B Go.Proofs.YtippkbgeeeimjaaGreat.D
set_option linter.unusedVariables false
set_option linter.unusedSimpArgs false
theorem same_rows (L : List (List S38)) (hl : L.length ≤ 100000) (h : ∀ x ∈ L, (x.length : Int) ≤ 9223372036854775806) : Ev (fun k => caesuraref02_Same.f k L L) true := by
  unfold caesuraref02_Same.f
  refine ev_if rfl ?_
  have go : ∀ d i : Nat, i + d = L.length → Ev (fun k => caesuraref02_Same.l0 k L L (i : Int)) true := by
    intro d
    induction d with
    | zero =>
      intro i hi
      exact Ev.step (f := fun _ => some true) (fun k => by rw [caesuraref02_Same.l0, if_neg (by omega)]) (Ev.now _)
    | succ d ih =>
      intro i hi
      have hlt : i < L.length := by omega
      have hg : L[i]? = some L[i] := List.getElem?_eq_getElem hlt
      have hn := ih (i + 1) (by omega)
      rw [show ((i + 1 : Nat) : Int) = (i : Int) + 1 from by omega] at hn
      refine Ev.step (f := fun k => (caesuraref01_Ranges.f k L[i] L[i]).bind fun t118 => (if t118 = true then (caesuraref02_Same.l0 k L L ((i : Int) + 1)) else (some false))) (fun k => by
        rw [caesuraref02_Same.l0, if_pos (by omega), if_pos (show (0 : Int) ≤ (i : Int) by omega), if_pos (by omega), rd3 hg, w64 (n := (i : Int) + 1) (by omega) (by omega)]) ?_
      exact Ev.bind (rng_ev (h _ (List.getElem_mem hlt)) true (by simp)).1 (ev_if rfl hn)
  exact go L.length 0 (by omega)
theorem answers_law (l0 : List (List S38)) (l1 : List S38) (a2 : Int) (hs : X.SmallL l0) : Ev (fun k => AN.caesuralaw02_AtomAnswers.f k l0 l1 a2) true := by
  obtain ⟨b, hb, hb2⟩ := great_ev l0 300 (by decide) hs
  unfold AN.caesuralaw02_AtomAnswers.f
  refine Ev.bind (a := true) ⟨0, fun _ _ => rfl⟩ (ev_if rfl ?_)
  refine Ev.bind hb ?_
  have htrue : Ev (fun k => AN.caesuralaw02_AtomAnswers.j0 k l0 l1 a2 true) true := Ev.step (f := fun _ => some true) (fun k => by rw [AN.caesuralaw02_AtomAnswers.j0, if_pos rfl]) (Ev.now _)
  cases b with
  | true => exact ev_if rfl htrue
  | false =>
    refine ev_else (by decide) ?_
    have hsum := hb2 rfl
    by_cases hz : (l1.length : Int) > 300
    · rw [decide_eq_true hz]
      exact htrue
    rw [decide_eq_false hz]
    have f : Few l0 (edgesOf l0) := few_edges (by omega)
    have o1 : atom_Of.f l0 = some (ofAns l0) := of_f f
    have o2 : Ev (fun k => caesuraref02_OfN.f k l0) (ofAns l0) := ref_of f
    have hrows : (ofAns l0).1.length ≤ 100000 ∧ ∀ x ∈ (ofAns l0).1, (x.length : Int) ≤ 9223372036854775806 := by
      cases q : badB l0 with
      | true =>
        rw [ans_bad q]
        exact ⟨Nat.zero_le _, fun x hx => by cases hx⟩
      | false =>
        rw [ans_ok q]
        obtain ⟨ha, hc, hS, hL⟩ := of_good f q
        exact ⟨show (clsL l0).length ≤ 100000 by omega, fun x hx => by have := hS x hx; omega⟩
    have hl0 : l0.length ≤ 100000 := by omega
    have wlen : (withinF l0 l1).length ≤ l0.length := Nat.le_trans (wi_len _ _) (by rw [List.length_map]; exact Nat.le_refl _)
    generalize ofAns l0 = p at *
    refine Ev.step (f := fun k => (atom_Of.f l0).bind fun bt103 => ((caesuraref02_OfN.f k l0).bind fun bt107 => ((caesuraref02_Same.f k bt103.1 bt107.1).bind fun t111 => (if t111 = true then (if bt103.2 = bt107.2 then ((atom_Class.f l0 a2).bind fun t112 => ((R.caesuraref02_Class.f k l0 a2).bind fun t113 => (if t112 = t113 then ((atom_Within.f k l0 l1).bind fun t114 => ((R.caesuraref02_Within.f k l0 l1).bind fun t117 => ((caesuraref01_Ints.f k t114 t117).bind fun t120 => (if t120 = true then ((atom_Firsts.f k l0).bind fun t121 => ((R.caesuraref02_Firsts.f k l0).bind fun t124 => ((caesuraref01_Ints.f k t121 t124).bind fun t127 => (if t127 = true then ((atom_Right.f l0).bind fun t128 => ((R.caesuraref02_Right.f k l0).bind fun t129 => (some (t128 == t129)))) else (some false))))) else (some false))))) else (some false)))) else (some false)) else (some false))))) (fun k => by rw [AN.caesuralaw02_AtomAnswers.j0, if_neg (by decide)]) ?_
    refine Ev.bind ⟨0, fun _ _ => o1⟩ (Ev.bind o2 ?_)
    refine Ev.bind (same_rows p.1 hrows.1 hrows.2) (ev_if rfl (ev_if rfl ?_))
    refine Ev.bind (a := classF l0 a2) ⟨0, fun _ _ => rfl⟩ (Ev.bind (ref_class l0 a2 hl0) (ev_if rfl ?_))
    refine Ev.bind (within_f l0 l1 hl0) (Ev.bind (ref_within l0 l1 hl0) ?_)
    refine Ev.bind (ints_self _ (by omega)) (ev_if rfl ?_)
    refine Ev.bind (firsts_f l0 hl0) (Ev.bind (ref_firsts l0 hl0) ?_)
    refine Ev.bind (ints_self _ (by rw [List.length_map]; omega)) (ev_if rfl ?_)
    refine Ev.bind (a := rightAF l0) ⟨0, fun _ _ => rfl⟩ (Ev.bind (ref_rightA l0) ?_)
    rw [beq_self_eq_true]
    exact Ev.now _
end Go.Proofs.YtippkbgeeeimjaaGreat.P
namespace Go.Proofs.YtippkbgeeeimjaaGreat.L
open Go.RowKit Go.Proofs.YtippkbgeeeimjaaGreatW.PrintWords Go.Proofs.YtippkbgeeeimjaaGreat.A Go.Proofs.YtippkbgeeeimjaaGreat.P
set_option linter.unusedVariables false
theorem AtomAnswers_calls (A0 : Option Addr) (c0 : Nat) (l0 : List (List S38)) (A1 : Option Addr) (c1 : Nat) (l1 : List S38) (a2 : Int) (w : World) (w0 : X.SmallL l0) (hr0 : Kd.C (Kd.slice 38 k38) w A0 l0.length l0) (hc0 : l0.length ≤ c0) (hr1 : Kd.C k38 w A1 l1.length l1) (hc1 : l1.length ≤ c1) : Calls Tryz.prog 3 #[.slice A0 l0.length c0, .slice A1 l1.length c1, .int .i64 a2] w fun e w' => e = .returned (.bool true) ∧ Below w.heap.size w w' := by
  obtain ⟨k, hk⟩ := (answers_law l0 l1 a2 w0).rounds
  exact AN.caesuralaw02_AtomAnswers.calls k A0 c0 l0 A1 c1 l1 a2 true w hr0 hc0 hr1 hc1 hk ⟨rfl⟩
end Go.Proofs.YtippkbgeeeimjaaGreat.L
