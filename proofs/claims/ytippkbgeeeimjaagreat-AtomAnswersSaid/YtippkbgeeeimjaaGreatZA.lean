/- The printed ground of span's sets. -/
import Derived.Test.YtippkbgeeeimjaaGreatProg
import Derived.Below
import Derived.Deep.Draws
import Derived.Deep.AppendLies
import Derived.Maps.AppendAt
import Derived.OwnWalk
import Derived.Laws.BytesArg
import Derived.Laws.MakeOwn
import Derived.Laws.OwnMore
import Derived.Deep.OwnRows
import Derived.Tactics
import Derived.Lib.ConvBytes
import Derived.Laws.Slices
import Derived.WalkKit
import Derived.KernelRfl
import Derived.RowKit3
import Derived.Deep.LoopGhost
import Derived.Deep.QuietTactic
import Derived.BigQuiet
import Derived.WideLaws
import Derived.Deep.DeepCutAuto
import Derived.Deep.CutBlock
import Derived.Deep.RegionHeld3
import Derived.Laws.Rows
import Derived.Lib.AppendStr
import Derived.ArgAppend
import Derived.Laws.IdiomCopy
import Derived.OrdersHeld
import Derived.Laws.BitsLemmas
import Derived.RowKit
import Derived.Test.YtippkbgeeeimjaaGreatZW
import Derived.IntWalk
namespace Go.Proofs.YtippkbgeeeimjaaGreat.A
open Go.RowKit Go.Proofs.YtippkbgeeeimjaaGreatW.PrintWords Go.Proofs.YtippkbgeeeimjaaGreatW.PrintLast Go.Proofs.YtippkbgeeeimjaaGreatW.PrintMore
attribute [local go_sem] max2_int min2_int max_two min_two max_three min_three max_four min_four   -- for this text's walks alone
set_option linter.unusedVariables false
set_option linter.unusedSimpArgs false
def errW : Option Int → Value
  | none => .nilIface
  | some c => .iface 0 (.int .i64 c)
theorem errW_none : errW none = .nilIface := rfl
theorem errW_some (c : Int) : errW (some c) = .iface 0 (.int .i64 c) := rfl
theorem info72 : (Tryz.prog.info? 72).map (fun i => (i.zero, i.size, i.bytes)) = some (some (.agg #[(.int .i64 0), (.int .i64 0), (.int .i64 0)]), 3, 24) := by kernel_rfl
structure S38 where
  f0 : Int
  f1 : Int
def z38 : S38 := ⟨(0 : Int), (0 : Int)⟩
def k38 : Kd S38 := Kd.iso (Kd.pair (Kd.int .i64) (Kd.int .i64)) (fun x : S38 => (x.f0, x.f1))
theorem k38_open {w : World} {x : S38} {cs : List Value} (h : k38.K w x cs) : cs = [.int .i64 x.f0, .int .i64 x.f1] := by
  obtain ⟨_, _, rfl, rfl, rfl⟩ := h
  exact rfl
theorem k38_openM {w : World} {base : Nat} {ok : Nat → Prop} {x : S38} {cs : List Value} (h : k38.M w base ok x cs) : cs = [.int .i64 x.f0, .int .i64 x.f1] := by
  obtain ⟨_, _, rfl, rfl, rfl⟩ := h
  exact rfl
theorem k38_mk (w : World) (x : S38)  : k38.K w x [.int .i64 x.f0, .int .i64 x.f1] := ⟨[.int .i64 x.f0], [.int .i64 x.f1], rfl, rfl, rfl⟩
theorem k38_mkM (w : World) (base : Nat) (ok : Nat → Prop) (x : S38)  : k38.M w base ok x [.int .i64 x.f0, .int .i64 x.f1] := ⟨[.int .i64 x.f0], [.int .i64 x.f1], rfl, rfl, rfl⟩
def rd_T38 (xs : List S38) (i : Int) : S38 := xs.getD i.toNat z38
theorem at_T38 {w : World} {A : Option Addr} {n : Nat} {xs : List S38} (h : Kd.C k38 w A n xs) (i : Int) (h0 : 0 ≤ i) (h1 : i < n) : ∃ ad , A = some ad ∧ w.cell? (ad.add (i.toNat * 2)) = some (.int .i64 (rd_T38 xs i).f0) ∧ w.cell? ⟨(ad.add (i.toNat * 2)).block, (ad.add (i.toNat * 2)).off + 1, none⟩ = some (.int .i64 (rd_T38 xs i).f1) := by
  obtain ⟨ad, c, e, _, hK, hc0⟩ := Kd.C_get h z38 i h0 h1
  have hc : ∀ j u, c[j]? = some u → w.cell? (ad.add (i.toNat * 2 + j)) = some u := hc0
  obtain rfl := k38_open hK
  exact ⟨ad, e, hc 0 _ rfl, by rw [← add_field _ _ 1 (by omega)]; exact hc 1 _ rfl⟩
structure S72 where
  f0 : Int
  f1 : Int
  f2 : Int
def z72 : S72 := ⟨(0 : Int), (0 : Int), (0 : Int)⟩
def k72 : Kd S72 := Kd.iso (Kd.pair (Kd.int .i64) (Kd.pair (Kd.int .i64) (Kd.int .i64))) (fun x : S72 => (x.f0, x.f1, x.f2))
theorem k72_open {w : World} {x : S72} {cs : List Value} (h : k72.K w x cs) : cs = [.int .i64 x.f0, .int .i64 x.f1, .int .i64 x.f2] := by
  obtain ⟨_, _, rfl, rfl, ⟨_, _, rfl, rfl, rfl⟩⟩ := h
  exact rfl
theorem k72_mkM (w : World) (base : Nat) (ok : Nat → Prop) (x : S72)  : k72.M w base ok x [.int .i64 x.f0, .int .i64 x.f1, .int .i64 x.f2] := ⟨[.int .i64 x.f0], [.int .i64 x.f1, .int .i64 x.f2], rfl, rfl, ⟨[.int .i64 x.f1], [.int .i64 x.f2], rfl, rfl, rfl⟩⟩
def rd_T72 (xs : List S72) (i : Int) : S72 := xs.getD i.toNat z72
theorem at_T72 {w : World} {A : Option Addr} {n : Nat} {xs : List S72} (h : Kd.C k72 w A n xs) (i : Int) (h0 : 0 ≤ i) (h1 : i < n) : ∃ ad , A = some ad ∧ w.cell? (ad.add (i.toNat * 3)) = some (.int .i64 (rd_T72 xs i).f0) ∧ w.cell? ⟨(ad.add (i.toNat * 3)).block, (ad.add (i.toNat * 3)).off + 1, none⟩ = some (.int .i64 (rd_T72 xs i).f1) ∧ w.cell? ⟨(ad.add (i.toNat * 3)).block, (ad.add (i.toNat * 3)).off + 2, none⟩ = some (.int .i64 (rd_T72 xs i).f2) := by
  obtain ⟨ad, c, e, _, hK, hc0⟩ := Kd.C_get h z72 i h0 h1
  have hc : ∀ j u, c[j]? = some u → w.cell? (ad.add (i.toNat * 3 + j)) = some u := hc0
  obtain rfl := k72_open hK
  exact ⟨ad, e, hc 0 _ rfl, by rw [← add_field _ _ 1 (by omega)]; exact hc 1 _ rfl, by rw [← add_field _ _ 2 (by omega)]; exact hc 2 _ rfl⟩
def rd_L3 (xs : List (List S38)) (i : Int) : (List S38) := xs.getD i.toNat ([] : List S38)
theorem at_L3 {w : World} {A : Option Addr} {n : Nat} {xs : List (List S38)} (h : Kd.C (Kd.slice 38 k38) w A n xs) (i : Int) (h0 : 0 ≤ i) (h1 : i < n) : ∃ ad A0 c0, A = some ad ∧ w.cell? (ad.add i.toNat) = some (.slice A0 (rd_L3 xs i).length c0) ∧ (rd_L3 xs i).length ≤ c0 ∧ k38.C w A0 (rd_L3 xs i).length (rd_L3 xs i) := by
  obtain ⟨ad, c, e, _, hK, hc0⟩ := Kd.C_get h ([] : List S38) i h0 h1
  have hc : ∀ j u, c[j]? = some u → w.cell? (ad.add (i.toNat * 1 + j)) = some u := hc0
  obtain ⟨A0, c0, rfl, l0, g0⟩ := hK
  exact ⟨ad, A0, c0, e, by have hq := hc 0 _ rfl; rwa [Nat.mul_one, Nat.add_zero] at hq, l0, g0⟩
end Go.Proofs.YtippkbgeeeimjaaGreat.A
namespace Go.Proofs.YtippkbgeeeimjaaGreat.A
open Go.RowKit Go.Proofs.YtippkbgeeeimjaaGreatW.PrintWords Go.Proofs.YtippkbgeeeimjaaGreatW.PrintLast Go.Proofs.YtippkbgeeeimjaaGreatW.PrintMore
attribute [local go_sem] max2_int min2_int max_two min_two max_three min_three max_four min_four   -- for this text's walks alone
set_option linter.unusedVariables false
set_option linter.unusedSimpArgs false
theorem eqA38 (d : Nat) (w : World) (x0 y0 : Int) (x1 y1 : Int) :
    (Op.equalIn (d + 2) 38 (.agg #[.int .i64 x0, .int .i64 x1]) (.agg #[.int .i64 y0, .int .i64 y1])).run Tryz.prog w = .ok (x0 == y0 && (x1 == y1)) w := by
  refine eqA_of Tryz.underlying38 (by kernel_rfl) ?_
  refine eqf_cons (by rfl) (by go_simp; rfl) (by go_simp; rfl) (by go_simp) ?_
  exact eqf_last (by rfl) (by go_simp; rfl) (by go_simp; rfl) (by go_simp)
end Go.Proofs.YtippkbgeeeimjaaGreat.A
namespace Go.Proofs.YtippkbgeeeimjaaGreat.A
open Go.RowKit Go.Proofs.YtippkbgeeeimjaaGreatW.PrintWords Go.Proofs.YtippkbgeeeimjaaGreatW.PrintLast Go.Proofs.YtippkbgeeeimjaaGreatW.PrintMore
attribute [local go_sem] max2_int min2_int max_two min_two max_three min_three max_four min_four   -- for this text's walks alone
set_option linter.unusedVariables false
set_option linter.unusedSimpArgs false
attribute [local go_sem high] eqA38
def span_steps.l0 : Nat → Int → List (S72) → List (S38) → Int → Int → Option ((List (S72)))
  | 0, _, _, _, _, _ => none
  | k + 1, x1, x5, x13, x14, x15 => if x15 < x14 then (if 0 ≤ x15 then (if x15 < (x13.length : Int) then (if (mx 0 ((rd_T38 x13 x15).f0)) ≤ (mn 1114111 ((rd_T38 x13 x15).f1)) then ((some (([(⟨mx 0 ((rd_T38 x13 x15).f0), x1, 1⟩ : S72), (⟨wrap64 ((mn 1114111 ((rd_T38 x13 x15).f1)) + 1), x1, (-1)⟩ : S72)] : List (S72)) : List (S72))).bind fun y103 => (if x5.length + y103.length < 5864062014805 then (span_steps.l0 k x1 (x5 ++ y103) x13 x14 (wrap64 (x15 + 1))) else (none))) else (span_steps.l0 k x1 x5 x13 x14 (wrap64 (x15 + 1)))) else (none)) else (none)) else (some x5)
def span_steps.f (k : Nat) (l0 : List (S38)) (a1 : Int) : Option ((List (S72))) := if (l0.length : Int) > 400 then (some ([] : List (S72))) else (span_steps.l0 k a1 ([] : List (S72)) l0 (l0.length : Int) 0)
theorem span_steps.mono_l : ∀ k, (∀ y0 y1 y2 y3 y4, LeO (span_steps.l0 k y0 y1 y2 y3 y4) (span_steps.l0 (k + 1) y0 y1 y2 y3 y4))
  | 0 => fun _ _ _ _ _ r h => by simp [span_steps.l0] at h
  | k + 1 => by
    have ih0 := span_steps.mono_l k
    · intro y0 y1 y2 y3 y4
      unfold span_steps.l0
      repeat' first
      | (with_reducible exact ih0 _ _ _ _ _)
      | (with_reducible exact LeO.refl _)
      | (with_reducible exact LeO.none _)
      | (with_reducible refine LeO.ite ?_ ?_)
      | (with_reducible refine LeO.bind ?_ (fun _ => ?_))
      | exact ih0 _ _ _ _ _
      | exact LeO.none _
      | refine LeO.ite ?_ ?_
      | refine LeO.bind ?_ (fun _ => ?_)
theorem span_steps.mono : ∀ a0 a1 k, LeO (span_steps.f k a0 a1) (span_steps.f (k + 1) a0 a1) := by
  intro a0 a1 k
  have ih0 := span_steps.mono_l k
  unfold span_steps.f
  repeat' first
      | (with_reducible exact ih0 _ _ _ _ _)
      | (with_reducible exact LeO.refl _)
      | (with_reducible exact LeO.none _)
      | (with_reducible refine LeO.ite ?_ ?_)
      | (with_reducible refine LeO.bind ?_ (fun _ => ?_))
      | exact ih0 _ _ _ _ _
      | exact LeO.none _
      | refine LeO.ite ?_ ?_
      | refine LeO.bind ?_ (fun _ => ?_)
set_option maxHeartbeats 8000000 in
set_option maxRecDepth 100000 in
theorem span_steps.calls (k : Nat) (A0 : Option Addr) (c0 : Nat) (l0 : List (S38)) (a1 : Int) (r : List (S72)) (w : World) (hr0 : Kd.C k38 w A0 l0.length l0) (hc0 : l0.length ≤ c0) (h : span_steps.f k l0 a1 = some r) :
    Calls Tryz.prog 58 #[.slice A0 l0.length c0, .int .i64 a1] w fun e w' => ∃ v0_ : Value, e = .returned (v0_) ∧ Kd.R k72 72 w' w.heap.size (fun _ => True) v0_ r ∧ Below w.heap.size w w' := by
  have hu38 := Tryz.underlying38
  have hu72 := Tryz.underlying72
  have HR0 := Aside0.mk hr0
  have HC0 := Aside0.mk hc0
  clear hr0 hc0
  have HB := Aside0.mk (Below.refl w.heap.size w)
  have H : (if (l0.length : Int) > 400 then (some ([] : List (S72))) else (span_steps.l0 k a1 ([] : List (S72)) l0 (l0.length : Int) 0)) = some r := h
  clear h
  by_cases c3 : (l0.length : Int) > 400
  · rw [if_pos c3] at H
    have c3b0 : decide (400 < (l0.length : Int)) = true := decide_eq_true c3
    have c3b1 : decide (400 < l0.length) = true := decide_eq_true (by omega)
    clear c3
    obtain rfl := Option.some.inj H
    go_enter Tryz.func58, Tryz.ntmps58
    go_wp2
    repeat (go_quiet (fail); try go_wp2)
    go_ret
    exact ⟨_, by first | rfl | (simp [errW_none, errW_some] <;> rfl) | (simp [*, errW_none, errW_some] <;> rfl), by first | exact Kd.R_nil _ _ _ _ _ | exact Kd.N_nil _ _ _ _ _ | exact Kd.V_nil _ _ _ _ _ | exact Kd.Q_nil _ _ _ _ _ | exact Kd.S_nil _ _ _ _ _, by repeat (first | (with_reducible first | exact HB.out | apply below_alloc | apply pw_below_drewN | apply below_drew1) | exact HB.out)⟩
  · rw [if_neg c3] at H
    have c3b0 : decide (400 < (l0.length : Int)) = false := decide_eq_false c3
    have c3b1 : decide (400 < l0.length) = false := decide_eq_false (by omega)
    clear c3
    have H' := Aside0.mk H
    clear H
    go_enter Tryz.func58, Tryz.ntmps58
    go_wp2
    repeat (go_quiet (fail); try go_wp2)
    go_loopg [5, 15] k (fun kq v5 v15 w' => ∃ (x5_1 : List (S72)) (x15_1 : Int), v15 = .int .i64 x15_1 ∧ Aside0 (span_steps.l0 kq a1 x5_1 l0 (l0.length : Int) x15_1 = some r) ∧ Aside0 (kq ≤ k) ∧ Aside0 (Kd.R k72 72 w' w.heap.size (fun _ => True) v5 x5_1) ∧ Aside0 (Below w.heap.size w w'))
    case atStart => exact ⟨(([] : List (S72))), (0), (by first | rfl | (simp; done) | (simp [*]; done)), H', ⟨Nat.le_refl _⟩, ⟨by first | exact Kd.R_nil _ _ _ _ _ | exact Kd.N_nil _ _ _ _ _ | exact Kd.V_nil _ _ _ _ _ | exact Kd.Q_nil _ _ _ _ _ | exact Kd.S_nil _ _ _ _ _⟩, ⟨by repeat (first | (with_reducible first | exact HB.out | apply below_alloc | apply pw_below_drewN | apply below_drew1) | exact HB.out)⟩⟩
    case round =>
      clear H'
      try clear p2
      try clear c3
      try clear c3b0
      try clear c3b1
      obtain ⟨x5_1, x15_1, rfl, HA, HK1, HO_5, HB⟩ := hrel
      cases gk with
      | zero => exact absurd HA.out (by simp [span_steps.l0])
      | succ k1 =>
        have H := HA.out
        clear HA
        simp only [span_steps.l0] at H
        by_cases c4 : x15_1 < (l0.length : Int)
        · rw [if_pos c4] at H
          have c4b0 : decide (x15_1 < (l0.length : Int)) = true := decide_eq_true c4
          clear c4
          by_cases c5 : 0 ≤ x15_1
          · rw [if_pos c5] at H
            have c5b0 : decide (0 ≤ x15_1) = true := decide_eq_true c5
            clear c5
            by_cases c6 : x15_1 < (l0.length : Int)
            · rw [if_pos c6] at H
              have c6b0 : decide (x15_1 < (l0.length : Int)) = true := decide_eq_true c6
              clear c6
              obtain ⟨ji7, hji7⟩ : ∃ j_ : Int, (mx 0 ((rd_T38 l0 x15_1).f0)) = j_ := ⟨_, rfl⟩
              replace H : (if (ji7) ≤ (mn 1114111 ((rd_T38 l0 x15_1).f1)) then ((some (([(⟨ji7, a1, 1⟩ : S72), (⟨wrap64 ((mn 1114111 ((rd_T38 l0 x15_1).f1)) + 1), a1, (-1)⟩ : S72)] : List (S72)) : List (S72))).bind fun y103 => (if x5_1.length + y103.length < 5864062014805 then (span_steps.l0 k1 a1 (x5_1 ++ y103) l0 (l0.length : Int) (wrap64 (x15_1 + 1))) else (none))) else (span_steps.l0 k1 a1 x5_1 l0 (l0.length : Int) (wrap64 (x15_1 + 1)))) = some r := by first | (rw [hji7] at H; exact H) | (simp only [hji7] at H ⊢; exact H)
              have hji7_ : (if 0 < ((rd_T38 l0 x15_1).f0) then ((rd_T38 l0 x15_1).f0) else 0) = ji7 := hji7
              obtain ⟨ji8, hji8⟩ : ∃ j_ : Int, (mn 1114111 ((rd_T38 l0 x15_1).f1)) = j_ := ⟨_, rfl⟩
              replace H : (if (ji7) ≤ (ji8) then ((some (([(⟨ji7, a1, 1⟩ : S72), (⟨wrap64 ((ji8) + 1), a1, (-1)⟩ : S72)] : List (S72)) : List (S72))).bind fun y103 => (if x5_1.length + y103.length < 5864062014805 then (span_steps.l0 k1 a1 (x5_1 ++ y103) l0 (l0.length : Int) (wrap64 (x15_1 + 1))) else (none))) else (span_steps.l0 k1 a1 x5_1 l0 (l0.length : Int) (wrap64 (x15_1 + 1)))) = some r := by first | (rw [hji8] at H; exact H) | (simp only [hji8] at H ⊢; exact H)
              have hji8_ : (if ((rd_T38 l0 x15_1).f1) < 1114111 then ((rd_T38 l0 x15_1).f1) else 1114111) = ji8 := hji8
              by_cases c9 : (ji7) ≤ (ji8)
              · rw [if_pos c9] at H
                have c9b0 : decide ((ji7) ≤ (ji8)) = true := decide_eq_true c9
                clear c9
                obtain ⟨y103, hy103⟩ : ∃ y_ : List (S72), y_ = (([(⟨ji7, a1, 1⟩ : S72), (⟨wrap64 ((ji8) + 1), a1, (-1)⟩ : S72)] : List (S72))) := ⟨_, rfl⟩
                replace H : (if x5_1.length + y103.length < 5864062014805 then (span_steps.l0 k1 a1 (x5_1 ++ y103) l0 (l0.length : Int) (wrap64 (x15_1 + 1))) else (none)) = some r := by first | (rw [hy103]; with_reducible exact H) | (have H2_ := (Option.bind_some _ _).symm.trans H; rw [hy103]; with_reducible exact H2_) | (have H2_ := (Option.bind_some _ _).symm.trans H; with_reducible exact H2_) | with_reducible exact H | (rw [hy103]; exact H) | exact H
                have Ny103 := Aside0.mk hy103
                clear hy103
                by_cases c10 : x5_1.length + y103.length < 5864062014805
                · rw [if_pos c10] at H
                  have LMc10 := Aside0.mk c10
                  clear c10
                  obtain ⟨y106, hy106⟩ : ∃ y_ : List (S72), y_ = (x5_1 ++ y103) := ⟨_, rfl⟩
                  replace H : (span_steps.l0 k1 a1 y106 l0 (l0.length : Int) (wrap64 (x15_1 + 1))) = some r := by first | (rw [hy106]; with_reducible exact H) | (have H2_ := (Option.bind_some _ _).symm.trans H; rw [hy106]; with_reducible exact H2_) | (have H2_ := (Option.bind_some _ _).symm.trans H; with_reducible exact H2_) | with_reducible exact H | (rw [hy106]; exact H) | exact H
                  have Ny106 := Aside0.mk hy106
                  clear hy106
                  have H' := Aside0.mk H
                  clear H
                  have p101 : 0 ≤ (x15_1 : Int) := of_decide_eq_true (by first | (with_reducible assumption) | assumption)
                  have q101 : x15_1 < (l0.length : Int) := of_decide_eq_true (by first | (with_reducible assumption) | assumption)
                  obtain ⟨ad101, e101, hx101_0, hx101_1⟩ := at_T38 HR0.out x15_1 p101 q101
                  cases e101
                  replace hx101_0 := (HB.out.cell (World.block_lt_of_cell? w _ hx101_0)).trans hx101_0
                  replace hx101_1 := (HB.out.cell (World.block_lt_of_cell? w _ hx101_1)).trans hx101_1
                  replace p101 := eq_true p101
                  replace q101 := eq_true q101
                  go_wp2_with (first | ((with_reducible refine gate_dst (N := 7) rfl ?_); refine box_event ?hg (N := 7) ?hd (cs := #[.int .i64 0, .int .i64 0]) (t := 38) ?hr ?_; (case hd => rfl); (case hg => rfl); (case hr => first | (go_simp; done) | (go_simp; rfl)); intro gb102 hg w11 hbox hb; have n0_ := Aside0.mk (Kd.R_below (by (with_reducible repeat (first | apply Kd.R_alloc | apply Kd.R_drewN | apply Kd.R_drew)); exact HO_5.out) hb); have n1_ := Aside0.mk (below_step (by repeat (first | (with_reducible first | exact HB.out | apply below_alloc | apply pw_below_drewN | apply below_drew1) | exact HB.out)) hb); have n2_ := Aside0.mk (hbox); have n3_ := Aside0.mk ((by rw [hg]; exact (below_size (by repeat (first | (with_reducible first | exact HB.out | apply below_alloc | apply pw_below_drewN | apply below_drew1) | exact HB.out))) : w.heap.size ≤ gb102)); have n4_ := Aside0.mk ((by rw [hg]; exact (below_size (by repeat (first | (with_reducible first | exact HB.out | apply below_alloc | apply pw_below_drewN | apply below_drew1) | exact HB.out))) : w.heap.size ≤ gb102)); clear HO_5; clear HB; have HO_5 := n0_; have HB := n1_; have BK102 := n2_; have GW102 := n3_; have GE102 := n4_; clear n0_ n1_ n2_ n3_ n4_; clear hb hbox hg; have hcz12_0 : w11.cell? ⟨gb102, 0, none⟩ = some (.int .i64 0) := (blk_cell BK102.out 0).trans rfl; have hcz12_1 : w11.cell? ⟨gb102, 1, none⟩ = some (.int .i64 0) := (blk_cell BK102.out 1).trans rfl; have hfz12_0 := blk_frozen BK102.out 0; have hfz12_1 := blk_frozen BK102.out 1) | ((with_reducible refine gate_dst (N := 36) rfl ?_); refine Kd.R_lit k72 _ 72 ?hg (N := 36) ?hd (xs := ([(⟨ji7, a1, 1⟩ : S72), (⟨wrap64 ((ji8) + 1), a1, (-1)⟩ : S72)] : List (S72))) (inner := [.int .i64 ji7, .int .i64 a1, .int .i64 1, .int .i64 (wrap64 ((ji8) + 1)), .int .i64 a1, .int .i64 (-1)]) (ok := fun _ => True) (okp := fun _ => True) ?hr ?hp (fun _ hk => hk) trivial (Below.refl _ _) (Nat.le_refl _) (by simp) ?_; (case hd => rfl); (case hg => rfl); (case hr => first | (go_simp; done) | (go_simp; rfl)); (case hp => exact (Reps.c3 (show Kd.M k72 _ _ _ (⟨ji7, a1, 1⟩ : S72) [.int .i64 ji7, .int .i64 a1, .int .i64 1] from (k72_mkM _ _ _ (⟨ji7, a1, 1⟩ : S72) )) (Reps.c3 (show Kd.M k72 _ _ _ (⟨wrap64 ((ji8) + 1), a1, (-1)⟩ : S72) [.int .i64 (wrap64 ((ji8) + 1)), .int .i64 a1, .int .i64 (-1)] from (k72_mkM _ _ _ (⟨wrap64 ((ji8) + 1), a1, (-1)⟩ : S72) )) (Reps.none _ _)))); intro v104 w13 ho14 hb hg_ hnew_; clear hg_ hnew_; (first | rw [← Ny103.out] at ho14 | (simp only [Int.reduceToNat] at ho14; rw [← Ny103.out] at ho14)); have n0_ := Aside0.mk (Kd.R_elder' (by (with_reducible repeat (first | apply Kd.R_alloc | apply Kd.R_drewN | apply Kd.R_drew)); exact (Kd.R_mono (Kd.R_far (p := ⟨gb102, 1, none⟩) (Kd.R_far (p := ⟨gb102, 0, none⟩) (Kd.R_types HO_5.out BK102.out (by decide)) (fun _ hk => hk.2) (.int .i64 ((rd_T38 l0 x15_1).f0))) (fun _ hk => hk.2) (.int .i64 ((rd_T38 l0 x15_1).f1))) (fun _ h_ => h_.1))) (Kd.R_base ho14) hb); have n1_ := Aside0.mk (Kd.R_lower (Kd.R_new' ho14 (Kd.R_lt (by (with_reducible repeat (first | apply Kd.R_alloc | apply Kd.R_drewN | apply Kd.R_drew)); exact (Kd.R_mono (Kd.R_far (p := ⟨gb102, 1, none⟩) (Kd.R_far (p := ⟨gb102, 0, none⟩) (Kd.R_types HO_5.out BK102.out (by decide)) (fun _ hk => hk.2) (.int .i64 ((rd_T38 l0 x15_1).f0))) (fun _ hk => hk.2) (.int .i64 ((rd_T38 l0 x15_1).f1))) (fun _ h_ => h_.1))))) (below_size (by repeat (first | (with_reducible first | exact HB.out | apply below_alloc | apply pw_below_drewN | apply below_drew1 | refine below_set ?_ GE102.out) | exact HB.out)))); have n2_ := Aside0.mk (blk_below (g := gb102) (o := .cells #[.int .i64 ((rd_T38 l0 x15_1).f0), .int .i64 ((rd_T38 l0 x15_1).f1)] 38 (0, 0)) (by (with_reducible repeat (first | refine blk_drewN ?_ _ | refine blk_drew ?_ | refine blk_alloc ?_ _)); refine blk_put (cs := #[.int .i64 ((rd_T38 l0 x15_1).f0), .int .i64 0]) ?_ 1 _ rfl; (with_reducible repeat (first | refine blk_drewN ?_ _ | refine blk_drew ?_ | refine blk_alloc ?_ _)); refine blk_put (cs := #[.int .i64 0, .int .i64 0]) ?_ 0 _ rfl; (with_reducible repeat (first | refine blk_drewN ?_ _ | refine blk_drew ?_ | refine blk_alloc ?_ _)); exact BK102.out) hb); have n3_ := Aside0.mk (below_step (by repeat (first | (with_reducible first | exact HB.out | apply below_alloc | apply pw_below_drewN | apply below_drew1 | refine below_set ?_ GE102.out) | exact HB.out)) hb); clear HO_5; clear BK102; clear HB; have HO_5 := n0_; have HO105 := n1_; have BK102 := n2_; have HB := n3_; clear n0_ n1_ n2_ n3_; clear hb ho14; obtain ⟨Ao16, co16, eo16⟩ := Kd.R_slice HO105.out; subst eo16) | ((with_reducible refine gate_builtin (b := .append) (xs := #[.tmp 28, .tmp 36]) rfl ?_); at_builtin; refine Kd.R_append_rows k72 (w0 := w) w.heap.size rfl (.tmp 28) (.tmp 36) 68 72 (.agg #[(.int .i64 0), (.int .i64 0), (.int .i64 0)]) 24 rfl Tryz.underlying68 info72 rfl (by decide) (by omega) u5 x5_1 y103 _ _ _ (fun k_ => some k_ ≠ (.slice Ao16 y103.length co16 : Value).ownBlock) (fun _ => False) rfl rfl ?aO ?aR (fun _ _ h => h) (fun _ h => h.elim) ?aF ?aB ?aS ?aL ?_; (case aR => repeat (first | exact (Kd.R_reads' HO105.out).2.2 | (with_reducible refine Kd.C_alloc ?_ _) | (with_reducible refine Kd.C_drewN ?_ _) | (with_reducible refine Kd.C_drew ?_))); (case aB => exact (by repeat (first | (with_reducible first | exact HB.out | apply below_alloc | apply pw_below_drewN | apply below_drew1 | refine below_set ?_ GE102.out) | exact HB.out))); (case aF => exact (fun k_ hk => Kd.fresh' (Kd.R_lt (by (with_reducible repeat (first | apply Kd.R_alloc | apply Kd.R_drewN | apply Kd.R_drew)); exact HO105.out)) k_ hk)); (case aO => exact (by (with_reducible repeat (first | apply Kd.R_alloc | apply Kd.R_drewN | apply Kd.R_drew)); exact Kd.R_mono HO_5.out (fun _ hk => hk.2))); (case aS => exact (below_size (by repeat (first | (with_reducible first | exact HB.out | apply below_alloc | apply pw_below_drewN | apply below_drew1 | refine below_set ?_ GE102.out) | exact HB.out)))); (case aL => have := LMc10.out; omega); intro v107 w15 ho hb hg hat; rw [← Ny106.out] at ho; have n0_ := Aside0.mk (blk_grown (g := gb102) (o := .cells #[.int .i64 ((rd_T38 l0 x15_1).f0), .int .i64 ((rd_T38 l0 x15_1).f1)] 38 (0, 0)) (by (with_reducible repeat (first | refine blk_drewN ?_ _ | refine blk_drew ?_ | refine blk_alloc ?_ _)); exact BK102.out) hg (Kd.R_ne HO_5.out BK102.out (by decide))); have n1_ := Aside0.mk (Kd.R_after (ok := (fun _ => True)) (by (with_reducible repeat (first | apply Kd.R_alloc | apply Kd.R_drewN | apply Kd.R_drew)); exact HO105.out) hg hat); have n2_ := Aside0.mk (hb); have n3_ := Aside0.mk (ho); clear BK102; clear HO105; clear HB; clear HO_5; have BK102 := n0_; have HO105 := n1_; have HB := n2_; have HO108 := n3_; clear n0_ n1_ n2_ n3_; clear ho hb hg hat))
                  repeat (go_quiet (first | ((with_reducible refine gate_dst (N := 7) rfl ?_); refine box_event ?hg (N := 7) ?hd (cs := #[.int .i64 0, .int .i64 0]) (t := 38) ?hr ?_; (case hd => rfl); (case hg => rfl); (case hr => first | (go_simp; done) | (go_simp; rfl)); intro gb102 hg w11 hbox hb; have n0_ := Aside0.mk (Kd.R_below (by (with_reducible repeat (first | apply Kd.R_alloc | apply Kd.R_drewN | apply Kd.R_drew)); exact HO_5.out) hb); have n1_ := Aside0.mk (below_step (by repeat (first | (with_reducible first | exact HB.out | apply below_alloc | apply pw_below_drewN | apply below_drew1) | exact HB.out)) hb); have n2_ := Aside0.mk (hbox); have n3_ := Aside0.mk ((by rw [hg]; exact (below_size (by repeat (first | (with_reducible first | exact HB.out | apply below_alloc | apply pw_below_drewN | apply below_drew1) | exact HB.out))) : w.heap.size ≤ gb102)); have n4_ := Aside0.mk ((by rw [hg]; exact (below_size (by repeat (first | (with_reducible first | exact HB.out | apply below_alloc | apply pw_below_drewN | apply below_drew1) | exact HB.out))) : w.heap.size ≤ gb102)); clear HO_5; clear HB; have HO_5 := n0_; have HB := n1_; have BK102 := n2_; have GW102 := n3_; have GE102 := n4_; clear n0_ n1_ n2_ n3_ n4_; clear hb hbox hg; have hcz12_0 : w11.cell? ⟨gb102, 0, none⟩ = some (.int .i64 0) := (blk_cell BK102.out 0).trans rfl; have hcz12_1 : w11.cell? ⟨gb102, 1, none⟩ = some (.int .i64 0) := (blk_cell BK102.out 1).trans rfl; have hfz12_0 := blk_frozen BK102.out 0; have hfz12_1 := blk_frozen BK102.out 1) | ((with_reducible refine gate_dst (N := 36) rfl ?_); refine Kd.R_lit k72 _ 72 ?hg (N := 36) ?hd (xs := ([(⟨ji7, a1, 1⟩ : S72), (⟨wrap64 ((ji8) + 1), a1, (-1)⟩ : S72)] : List (S72))) (inner := [.int .i64 ji7, .int .i64 a1, .int .i64 1, .int .i64 (wrap64 ((ji8) + 1)), .int .i64 a1, .int .i64 (-1)]) (ok := fun _ => True) (okp := fun _ => True) ?hr ?hp (fun _ hk => hk) trivial (Below.refl _ _) (Nat.le_refl _) (by simp) ?_; (case hd => rfl); (case hg => rfl); (case hr => first | (go_simp; done) | (go_simp; rfl)); (case hp => exact (Reps.c3 (show Kd.M k72 _ _ _ (⟨ji7, a1, 1⟩ : S72) [.int .i64 ji7, .int .i64 a1, .int .i64 1] from (k72_mkM _ _ _ (⟨ji7, a1, 1⟩ : S72) )) (Reps.c3 (show Kd.M k72 _ _ _ (⟨wrap64 ((ji8) + 1), a1, (-1)⟩ : S72) [.int .i64 (wrap64 ((ji8) + 1)), .int .i64 a1, .int .i64 (-1)] from (k72_mkM _ _ _ (⟨wrap64 ((ji8) + 1), a1, (-1)⟩ : S72) )) (Reps.none _ _)))); intro v104 w13 ho14 hb hg_ hnew_; clear hg_ hnew_; (first | rw [← Ny103.out] at ho14 | (simp only [Int.reduceToNat] at ho14; rw [← Ny103.out] at ho14)); have n0_ := Aside0.mk (Kd.R_elder' (by (with_reducible repeat (first | apply Kd.R_alloc | apply Kd.R_drewN | apply Kd.R_drew)); exact (Kd.R_mono (Kd.R_far (p := ⟨gb102, 1, none⟩) (Kd.R_far (p := ⟨gb102, 0, none⟩) (Kd.R_types HO_5.out BK102.out (by decide)) (fun _ hk => hk.2) (.int .i64 ((rd_T38 l0 x15_1).f0))) (fun _ hk => hk.2) (.int .i64 ((rd_T38 l0 x15_1).f1))) (fun _ h_ => h_.1))) (Kd.R_base ho14) hb); have n1_ := Aside0.mk (Kd.R_lower (Kd.R_new' ho14 (Kd.R_lt (by (with_reducible repeat (first | apply Kd.R_alloc | apply Kd.R_drewN | apply Kd.R_drew)); exact (Kd.R_mono (Kd.R_far (p := ⟨gb102, 1, none⟩) (Kd.R_far (p := ⟨gb102, 0, none⟩) (Kd.R_types HO_5.out BK102.out (by decide)) (fun _ hk => hk.2) (.int .i64 ((rd_T38 l0 x15_1).f0))) (fun _ hk => hk.2) (.int .i64 ((rd_T38 l0 x15_1).f1))) (fun _ h_ => h_.1))))) (below_size (by repeat (first | (with_reducible first | exact HB.out | apply below_alloc | apply pw_below_drewN | apply below_drew1 | refine below_set ?_ GE102.out) | exact HB.out)))); have n2_ := Aside0.mk (blk_below (g := gb102) (o := .cells #[.int .i64 ((rd_T38 l0 x15_1).f0), .int .i64 ((rd_T38 l0 x15_1).f1)] 38 (0, 0)) (by (with_reducible repeat (first | refine blk_drewN ?_ _ | refine blk_drew ?_ | refine blk_alloc ?_ _)); refine blk_put (cs := #[.int .i64 ((rd_T38 l0 x15_1).f0), .int .i64 0]) ?_ 1 _ rfl; (with_reducible repeat (first | refine blk_drewN ?_ _ | refine blk_drew ?_ | refine blk_alloc ?_ _)); refine blk_put (cs := #[.int .i64 0, .int .i64 0]) ?_ 0 _ rfl; (with_reducible repeat (first | refine blk_drewN ?_ _ | refine blk_drew ?_ | refine blk_alloc ?_ _)); exact BK102.out) hb); have n3_ := Aside0.mk (below_step (by repeat (first | (with_reducible first | exact HB.out | apply below_alloc | apply pw_below_drewN | apply below_drew1 | refine below_set ?_ GE102.out) | exact HB.out)) hb); clear HO_5; clear BK102; clear HB; have HO_5 := n0_; have HO105 := n1_; have BK102 := n2_; have HB := n3_; clear n0_ n1_ n2_ n3_; clear hb ho14; obtain ⟨Ao16, co16, eo16⟩ := Kd.R_slice HO105.out; subst eo16) | ((with_reducible refine gate_builtin (b := .append) (xs := #[.tmp 28, .tmp 36]) rfl ?_); at_builtin; refine Kd.R_append_rows k72 (w0 := w) w.heap.size rfl (.tmp 28) (.tmp 36) 68 72 (.agg #[(.int .i64 0), (.int .i64 0), (.int .i64 0)]) 24 rfl Tryz.underlying68 info72 rfl (by decide) (by omega) u5 x5_1 y103 _ _ _ (fun k_ => some k_ ≠ (.slice Ao16 y103.length co16 : Value).ownBlock) (fun _ => False) rfl rfl ?aO ?aR (fun _ _ h => h) (fun _ h => h.elim) ?aF ?aB ?aS ?aL ?_; (case aR => repeat (first | exact (Kd.R_reads' HO105.out).2.2 | (with_reducible refine Kd.C_alloc ?_ _) | (with_reducible refine Kd.C_drewN ?_ _) | (with_reducible refine Kd.C_drew ?_))); (case aB => exact (by repeat (first | (with_reducible first | exact HB.out | apply below_alloc | apply pw_below_drewN | apply below_drew1 | refine below_set ?_ GE102.out) | exact HB.out))); (case aF => exact (fun k_ hk => Kd.fresh' (Kd.R_lt (by (with_reducible repeat (first | apply Kd.R_alloc | apply Kd.R_drewN | apply Kd.R_drew)); exact HO105.out)) k_ hk)); (case aO => exact (by (with_reducible repeat (first | apply Kd.R_alloc | apply Kd.R_drewN | apply Kd.R_drew)); exact Kd.R_mono HO_5.out (fun _ hk => hk.2))); (case aS => exact (below_size (by repeat (first | (with_reducible first | exact HB.out | apply below_alloc | apply pw_below_drewN | apply below_drew1 | refine below_set ?_ GE102.out) | exact HB.out)))); (case aL => have := LMc10.out; omega); intro v107 w15 ho hb hg hat; rw [← Ny106.out] at ho; have n0_ := Aside0.mk (blk_grown (g := gb102) (o := .cells #[.int .i64 ((rd_T38 l0 x15_1).f0), .int .i64 ((rd_T38 l0 x15_1).f1)] 38 (0, 0)) (by (with_reducible repeat (first | refine blk_drewN ?_ _ | refine blk_drew ?_ | refine blk_alloc ?_ _)); exact BK102.out) hg (Kd.R_ne HO_5.out BK102.out (by decide))); have n1_ := Aside0.mk (Kd.R_after (ok := (fun _ => True)) (by (with_reducible repeat (first | apply Kd.R_alloc | apply Kd.R_drewN | apply Kd.R_drew)); exact HO105.out) hg hat); have n2_ := Aside0.mk (hb); have n3_ := Aside0.mk (ho); clear BK102; clear HO105; clear HB; clear HO_5; have BK102 := n0_; have HO105 := n1_; have HB := n2_; have HO108 := n3_; clear n0_ n1_ n2_ n3_; clear ho hb hg hat)); try go_wp2_with (first | ((with_reducible refine gate_dst (N := 7) rfl ?_); refine box_event ?hg (N := 7) ?hd (cs := #[.int .i64 0, .int .i64 0]) (t := 38) ?hr ?_; (case hd => rfl); (case hg => rfl); (case hr => first | (go_simp; done) | (go_simp; rfl)); intro gb102 hg w11 hbox hb; have n0_ := Aside0.mk (Kd.R_below (by (with_reducible repeat (first | apply Kd.R_alloc | apply Kd.R_drewN | apply Kd.R_drew)); exact HO_5.out) hb); have n1_ := Aside0.mk (below_step (by repeat (first | (with_reducible first | exact HB.out | apply below_alloc | apply pw_below_drewN | apply below_drew1) | exact HB.out)) hb); have n2_ := Aside0.mk (hbox); have n3_ := Aside0.mk ((by rw [hg]; exact (below_size (by repeat (first | (with_reducible first | exact HB.out | apply below_alloc | apply pw_below_drewN | apply below_drew1) | exact HB.out))) : w.heap.size ≤ gb102)); have n4_ := Aside0.mk ((by rw [hg]; exact (below_size (by repeat (first | (with_reducible first | exact HB.out | apply below_alloc | apply pw_below_drewN | apply below_drew1) | exact HB.out))) : w.heap.size ≤ gb102)); clear HO_5; clear HB; have HO_5 := n0_; have HB := n1_; have BK102 := n2_; have GW102 := n3_; have GE102 := n4_; clear n0_ n1_ n2_ n3_ n4_; clear hb hbox hg; have hcz12_0 : w11.cell? ⟨gb102, 0, none⟩ = some (.int .i64 0) := (blk_cell BK102.out 0).trans rfl; have hcz12_1 : w11.cell? ⟨gb102, 1, none⟩ = some (.int .i64 0) := (blk_cell BK102.out 1).trans rfl; have hfz12_0 := blk_frozen BK102.out 0; have hfz12_1 := blk_frozen BK102.out 1) | ((with_reducible refine gate_dst (N := 36) rfl ?_); refine Kd.R_lit k72 _ 72 ?hg (N := 36) ?hd (xs := ([(⟨ji7, a1, 1⟩ : S72), (⟨wrap64 ((ji8) + 1), a1, (-1)⟩ : S72)] : List (S72))) (inner := [.int .i64 ji7, .int .i64 a1, .int .i64 1, .int .i64 (wrap64 ((ji8) + 1)), .int .i64 a1, .int .i64 (-1)]) (ok := fun _ => True) (okp := fun _ => True) ?hr ?hp (fun _ hk => hk) trivial (Below.refl _ _) (Nat.le_refl _) (by simp) ?_; (case hd => rfl); (case hg => rfl); (case hr => first | (go_simp; done) | (go_simp; rfl)); (case hp => exact (Reps.c3 (show Kd.M k72 _ _ _ (⟨ji7, a1, 1⟩ : S72) [.int .i64 ji7, .int .i64 a1, .int .i64 1] from (k72_mkM _ _ _ (⟨ji7, a1, 1⟩ : S72) )) (Reps.c3 (show Kd.M k72 _ _ _ (⟨wrap64 ((ji8) + 1), a1, (-1)⟩ : S72) [.int .i64 (wrap64 ((ji8) + 1)), .int .i64 a1, .int .i64 (-1)] from (k72_mkM _ _ _ (⟨wrap64 ((ji8) + 1), a1, (-1)⟩ : S72) )) (Reps.none _ _)))); intro v104 w13 ho14 hb hg_ hnew_; clear hg_ hnew_; (first | rw [← Ny103.out] at ho14 | (simp only [Int.reduceToNat] at ho14; rw [← Ny103.out] at ho14)); have n0_ := Aside0.mk (Kd.R_elder' (by (with_reducible repeat (first | apply Kd.R_alloc | apply Kd.R_drewN | apply Kd.R_drew)); exact (Kd.R_mono (Kd.R_far (p := ⟨gb102, 1, none⟩) (Kd.R_far (p := ⟨gb102, 0, none⟩) (Kd.R_types HO_5.out BK102.out (by decide)) (fun _ hk => hk.2) (.int .i64 ((rd_T38 l0 x15_1).f0))) (fun _ hk => hk.2) (.int .i64 ((rd_T38 l0 x15_1).f1))) (fun _ h_ => h_.1))) (Kd.R_base ho14) hb); have n1_ := Aside0.mk (Kd.R_lower (Kd.R_new' ho14 (Kd.R_lt (by (with_reducible repeat (first | apply Kd.R_alloc | apply Kd.R_drewN | apply Kd.R_drew)); exact (Kd.R_mono (Kd.R_far (p := ⟨gb102, 1, none⟩) (Kd.R_far (p := ⟨gb102, 0, none⟩) (Kd.R_types HO_5.out BK102.out (by decide)) (fun _ hk => hk.2) (.int .i64 ((rd_T38 l0 x15_1).f0))) (fun _ hk => hk.2) (.int .i64 ((rd_T38 l0 x15_1).f1))) (fun _ h_ => h_.1))))) (below_size (by repeat (first | (with_reducible first | exact HB.out | apply below_alloc | apply pw_below_drewN | apply below_drew1 | refine below_set ?_ GE102.out) | exact HB.out)))); have n2_ := Aside0.mk (blk_below (g := gb102) (o := .cells #[.int .i64 ((rd_T38 l0 x15_1).f0), .int .i64 ((rd_T38 l0 x15_1).f1)] 38 (0, 0)) (by (with_reducible repeat (first | refine blk_drewN ?_ _ | refine blk_drew ?_ | refine blk_alloc ?_ _)); refine blk_put (cs := #[.int .i64 ((rd_T38 l0 x15_1).f0), .int .i64 0]) ?_ 1 _ rfl; (with_reducible repeat (first | refine blk_drewN ?_ _ | refine blk_drew ?_ | refine blk_alloc ?_ _)); refine blk_put (cs := #[.int .i64 0, .int .i64 0]) ?_ 0 _ rfl; (with_reducible repeat (first | refine blk_drewN ?_ _ | refine blk_drew ?_ | refine blk_alloc ?_ _)); exact BK102.out) hb); have n3_ := Aside0.mk (below_step (by repeat (first | (with_reducible first | exact HB.out | apply below_alloc | apply pw_below_drewN | apply below_drew1 | refine below_set ?_ GE102.out) | exact HB.out)) hb); clear HO_5; clear BK102; clear HB; have HO_5 := n0_; have HO105 := n1_; have BK102 := n2_; have HB := n3_; clear n0_ n1_ n2_ n3_; clear hb ho14; obtain ⟨Ao16, co16, eo16⟩ := Kd.R_slice HO105.out; subst eo16) | ((with_reducible refine gate_builtin (b := .append) (xs := #[.tmp 28, .tmp 36]) rfl ?_); at_builtin; refine Kd.R_append_rows k72 (w0 := w) w.heap.size rfl (.tmp 28) (.tmp 36) 68 72 (.agg #[(.int .i64 0), (.int .i64 0), (.int .i64 0)]) 24 rfl Tryz.underlying68 info72 rfl (by decide) (by omega) u5 x5_1 y103 _ _ _ (fun k_ => some k_ ≠ (.slice Ao16 y103.length co16 : Value).ownBlock) (fun _ => False) rfl rfl ?aO ?aR (fun _ _ h => h) (fun _ h => h.elim) ?aF ?aB ?aS ?aL ?_; (case aR => repeat (first | exact (Kd.R_reads' HO105.out).2.2 | (with_reducible refine Kd.C_alloc ?_ _) | (with_reducible refine Kd.C_drewN ?_ _) | (with_reducible refine Kd.C_drew ?_))); (case aB => exact (by repeat (first | (with_reducible first | exact HB.out | apply below_alloc | apply pw_below_drewN | apply below_drew1 | refine below_set ?_ GE102.out) | exact HB.out))); (case aF => exact (fun k_ hk => Kd.fresh' (Kd.R_lt (by (with_reducible repeat (first | apply Kd.R_alloc | apply Kd.R_drewN | apply Kd.R_drew)); exact HO105.out)) k_ hk)); (case aO => exact (by (with_reducible repeat (first | apply Kd.R_alloc | apply Kd.R_drewN | apply Kd.R_drew)); exact Kd.R_mono HO_5.out (fun _ hk => hk.2))); (case aS => exact (below_size (by repeat (first | (with_reducible first | exact HB.out | apply below_alloc | apply pw_below_drewN | apply below_drew1 | refine below_set ?_ GE102.out) | exact HB.out)))); (case aL => have := LMc10.out; omega); intro v107 w15 ho hb hg hat; rw [← Ny106.out] at ho; have n0_ := Aside0.mk (blk_grown (g := gb102) (o := .cells #[.int .i64 ((rd_T38 l0 x15_1).f0), .int .i64 ((rd_T38 l0 x15_1).f1)] 38 (0, 0)) (by (with_reducible repeat (first | refine blk_drewN ?_ _ | refine blk_drew ?_ | refine blk_alloc ?_ _)); exact BK102.out) hg (Kd.R_ne HO_5.out BK102.out (by decide))); have n1_ := Aside0.mk (Kd.R_after (ok := (fun _ => True)) (by (with_reducible repeat (first | apply Kd.R_alloc | apply Kd.R_drewN | apply Kd.R_drew)); exact HO105.out) hg hat); have n2_ := Aside0.mk (hb); have n3_ := Aside0.mk (ho); clear BK102; clear HO105; clear HB; clear HO_5; have BK102 := n0_; have HO105 := n1_; have HB := n2_; have HO108 := n3_; clear n0_ n1_ n2_ n3_; clear ho hb hg hat)))
                  go_roundg k1
                  case measure => have := HK1.out; omega
                  case rel => exact ⟨(y106), (wrap64 (x15_1 + 1)), (by first | rfl | (simp; done) | (simp [*]; done)), H', ⟨by have := HK1.out; omega⟩, ⟨by (with_reducible repeat (first | apply Kd.R_alloc | apply Kd.R_drewN | apply Kd.R_drew)); exact Kd.R_mono HO108.out (fun _ hk => trivial)⟩, ⟨by repeat (first | (with_reducible first | exact HB.out | apply below_alloc | apply pw_below_drewN | apply below_drew1 | refine below_set ?_ GE102.out) | exact HB.out)⟩⟩
                · rw [if_neg c10] at H
                  exact absurd H (by simp)
              · rw [if_neg c9] at H
                have c9b0 : decide ((ji7) ≤ (ji8)) = false := decide_eq_false c9
                clear c9
                have H' := Aside0.mk H
                clear H
                have p101 : 0 ≤ (x15_1 : Int) := of_decide_eq_true (by first | (with_reducible assumption) | assumption)
                have q101 : x15_1 < (l0.length : Int) := of_decide_eq_true (by first | (with_reducible assumption) | assumption)
                obtain ⟨ad101, e101, hx101_0, hx101_1⟩ := at_T38 HR0.out x15_1 p101 q101
                cases e101
                replace hx101_0 := (HB.out.cell (World.block_lt_of_cell? w _ hx101_0)).trans hx101_0
                replace hx101_1 := (HB.out.cell (World.block_lt_of_cell? w _ hx101_1)).trans hx101_1
                replace p101 := eq_true p101
                replace q101 := eq_true q101
                go_wp2_with (first | ((with_reducible refine gate_dst (N := 7) rfl ?_); refine box_event ?hg (N := 7) ?hd (cs := #[.int .i64 0, .int .i64 0]) (t := 38) ?hr ?_; (case hd => rfl); (case hg => rfl); (case hr => first | (go_simp; done) | (go_simp; rfl)); intro gb102 hg w17 hbox hb; have n0_ := Aside0.mk (Kd.R_below (by (with_reducible repeat (first | apply Kd.R_alloc | apply Kd.R_drewN | apply Kd.R_drew)); exact HO_5.out) hb); have n1_ := Aside0.mk (below_step (by repeat (first | (with_reducible first | exact HB.out | apply below_alloc | apply pw_below_drewN | apply below_drew1) | exact HB.out)) hb); have n2_ := Aside0.mk (hbox); have n3_ := Aside0.mk ((by rw [hg]; exact (below_size (by repeat (first | (with_reducible first | exact HB.out | apply below_alloc | apply pw_below_drewN | apply below_drew1) | exact HB.out))) : w.heap.size ≤ gb102)); have n4_ := Aside0.mk ((by rw [hg]; exact (below_size (by repeat (first | (with_reducible first | exact HB.out | apply below_alloc | apply pw_below_drewN | apply below_drew1) | exact HB.out))) : w.heap.size ≤ gb102)); clear HO_5; clear HB; have HO_5 := n0_; have HB := n1_; have BK102 := n2_; have GW102 := n3_; have GE102 := n4_; clear n0_ n1_ n2_ n3_ n4_; clear hb hbox hg; have hcz18_0 : w17.cell? ⟨gb102, 0, none⟩ = some (.int .i64 0) := (blk_cell BK102.out 0).trans rfl; have hcz18_1 : w17.cell? ⟨gb102, 1, none⟩ = some (.int .i64 0) := (blk_cell BK102.out 1).trans rfl; have hfz18_0 := blk_frozen BK102.out 0; have hfz18_1 := blk_frozen BK102.out 1))
                repeat (go_quiet (first | ((with_reducible refine gate_dst (N := 7) rfl ?_); refine box_event ?hg (N := 7) ?hd (cs := #[.int .i64 0, .int .i64 0]) (t := 38) ?hr ?_; (case hd => rfl); (case hg => rfl); (case hr => first | (go_simp; done) | (go_simp; rfl)); intro gb102 hg w17 hbox hb; have n0_ := Aside0.mk (Kd.R_below (by (with_reducible repeat (first | apply Kd.R_alloc | apply Kd.R_drewN | apply Kd.R_drew)); exact HO_5.out) hb); have n1_ := Aside0.mk (below_step (by repeat (first | (with_reducible first | exact HB.out | apply below_alloc | apply pw_below_drewN | apply below_drew1) | exact HB.out)) hb); have n2_ := Aside0.mk (hbox); have n3_ := Aside0.mk ((by rw [hg]; exact (below_size (by repeat (first | (with_reducible first | exact HB.out | apply below_alloc | apply pw_below_drewN | apply below_drew1) | exact HB.out))) : w.heap.size ≤ gb102)); have n4_ := Aside0.mk ((by rw [hg]; exact (below_size (by repeat (first | (with_reducible first | exact HB.out | apply below_alloc | apply pw_below_drewN | apply below_drew1) | exact HB.out))) : w.heap.size ≤ gb102)); clear HO_5; clear HB; have HO_5 := n0_; have HB := n1_; have BK102 := n2_; have GW102 := n3_; have GE102 := n4_; clear n0_ n1_ n2_ n3_ n4_; clear hb hbox hg; have hcz18_0 : w17.cell? ⟨gb102, 0, none⟩ = some (.int .i64 0) := (blk_cell BK102.out 0).trans rfl; have hcz18_1 : w17.cell? ⟨gb102, 1, none⟩ = some (.int .i64 0) := (blk_cell BK102.out 1).trans rfl; have hfz18_0 := blk_frozen BK102.out 0; have hfz18_1 := blk_frozen BK102.out 1)); try go_wp2_with (first | ((with_reducible refine gate_dst (N := 7) rfl ?_); refine box_event ?hg (N := 7) ?hd (cs := #[.int .i64 0, .int .i64 0]) (t := 38) ?hr ?_; (case hd => rfl); (case hg => rfl); (case hr => first | (go_simp; done) | (go_simp; rfl)); intro gb102 hg w17 hbox hb; have n0_ := Aside0.mk (Kd.R_below (by (with_reducible repeat (first | apply Kd.R_alloc | apply Kd.R_drewN | apply Kd.R_drew)); exact HO_5.out) hb); have n1_ := Aside0.mk (below_step (by repeat (first | (with_reducible first | exact HB.out | apply below_alloc | apply pw_below_drewN | apply below_drew1) | exact HB.out)) hb); have n2_ := Aside0.mk (hbox); have n3_ := Aside0.mk ((by rw [hg]; exact (below_size (by repeat (first | (with_reducible first | exact HB.out | apply below_alloc | apply pw_below_drewN | apply below_drew1) | exact HB.out))) : w.heap.size ≤ gb102)); have n4_ := Aside0.mk ((by rw [hg]; exact (below_size (by repeat (first | (with_reducible first | exact HB.out | apply below_alloc | apply pw_below_drewN | apply below_drew1) | exact HB.out))) : w.heap.size ≤ gb102)); clear HO_5; clear HB; have HO_5 := n0_; have HB := n1_; have BK102 := n2_; have GW102 := n3_; have GE102 := n4_; clear n0_ n1_ n2_ n3_ n4_; clear hb hbox hg; have hcz18_0 : w17.cell? ⟨gb102, 0, none⟩ = some (.int .i64 0) := (blk_cell BK102.out 0).trans rfl; have hcz18_1 : w17.cell? ⟨gb102, 1, none⟩ = some (.int .i64 0) := (blk_cell BK102.out 1).trans rfl; have hfz18_0 := blk_frozen BK102.out 0; have hfz18_1 := blk_frozen BK102.out 1)))
                go_roundg k1
                case measure => have := HK1.out; omega
                case rel => exact ⟨(x5_1), (wrap64 (x15_1 + 1)), (by first | rfl | (simp; done) | (simp [*]; done)), H', ⟨by have := HK1.out; omega⟩, ⟨by (with_reducible repeat (first | apply Kd.R_alloc | apply Kd.R_drewN | apply Kd.R_drew)); exact Kd.R_mono (Kd.R_far (p := ⟨gb102, 1, none⟩) (Kd.R_far (p := ⟨gb102, 0, none⟩) (Kd.R_types HO_5.out BK102.out (by decide)) (fun _ hk => hk.2) (.int .i64 ((rd_T38 l0 x15_1).f0))) (fun _ hk => hk.2) (.int .i64 ((rd_T38 l0 x15_1).f1))) (fun _ hk => trivial)⟩, ⟨by repeat (first | (with_reducible first | exact HB.out | apply below_alloc | apply pw_below_drewN | apply below_drew1 | refine below_set ?_ GE102.out) | exact HB.out)⟩⟩
            · rw [if_neg c6] at H
              exact absurd H (by simp)
          · rw [if_neg c5] at H
            exact absurd H (by simp)
        · rw [if_neg c4] at H
          have c4b0 : decide (x15_1 < (l0.length : Int)) = false := decide_eq_false c4
          clear c4
          obtain rfl := Option.some.inj H
          go_wp2
          repeat (go_quiet (fail); try go_wp2)
          go_ret
          exact ⟨_, by first | rfl | (simp [errW_none, errW_some] <;> rfl) | (simp [*, errW_none, errW_some] <;> rfl), by (with_reducible repeat (first | apply Kd.R_alloc | apply Kd.R_drewN | apply Kd.R_drew)); exact HO_5.out, by repeat (first | (with_reducible first | exact HB.out | apply below_alloc | apply pw_below_drewN | apply below_drew1) | exact HB.out)⟩
def caesuraref01_Ranges.l0 : Nat → List (S38) → List (S38) → Int → Option (Bool)
  | 0, _, _, _ => none
  | k + 1, x0, x1, x5 => if x5 < (x0.length : Int) then (if 0 ≤ x5 then (if x5 < (x1.length : Int) then (if (!(((rd_T38 x0 x5).f0) == ((rd_T38 x1 x5).f0)) || (!(((rd_T38 x0 x5).f1) == ((rd_T38 x1 x5).f1)))) = true then (some false) else (caesuraref01_Ranges.l0 k x0 x1 (wrap64 (x5 + 1)))) else (none)) else (none)) else (some true)
def caesuraref01_Ranges.f (k : Nat) (l0 : List (S38)) (l1 : List (S38)) : Option (Bool) := if (l0.length : Int) = (l1.length : Int) then (caesuraref01_Ranges.l0 k l0 l1 0) else (some false)
theorem caesuraref01_Ranges.mono_l : ∀ k, (∀ y0 y1 y2, LeO (caesuraref01_Ranges.l0 k y0 y1 y2) (caesuraref01_Ranges.l0 (k + 1) y0 y1 y2))
  | 0 => fun _ _ _ r h => by simp [caesuraref01_Ranges.l0] at h
  | k + 1 => by
    have ih0 := caesuraref01_Ranges.mono_l k
    · intro y0 y1 y2
      unfold caesuraref01_Ranges.l0
      repeat' first
      | (with_reducible exact ih0 _ _ _)
      | (with_reducible exact LeO.refl _)
      | (with_reducible exact LeO.none _)
      | (with_reducible refine LeO.ite ?_ ?_)
      | (with_reducible refine LeO.bind ?_ (fun _ => ?_))
      | exact ih0 _ _ _
      | exact LeO.none _
      | refine LeO.ite ?_ ?_
      | refine LeO.bind ?_ (fun _ => ?_)
theorem caesuraref01_Ranges.mono : ∀ a0 a1 k, LeO (caesuraref01_Ranges.f k a0 a1) (caesuraref01_Ranges.f (k + 1) a0 a1) := by
  intro a0 a1 k
  have ih0 := caesuraref01_Ranges.mono_l k
  unfold caesuraref01_Ranges.f
  repeat' first
      | (with_reducible exact ih0 _ _ _)
      | (with_reducible exact LeO.refl _)
      | (with_reducible exact LeO.none _)
      | (with_reducible refine LeO.ite ?_ ?_)
      | (with_reducible refine LeO.bind ?_ (fun _ => ?_))
      | exact ih0 _ _ _
      | exact LeO.none _
      | refine LeO.ite ?_ ?_
      | refine LeO.bind ?_ (fun _ => ?_)
set_option maxHeartbeats 8000000 in
set_option maxRecDepth 100000 in
theorem caesuraref01_Ranges.calls (k : Nat) (A0 : Option Addr) (c0 : Nat) (l0 : List (S38)) (A1 : Option Addr) (c1 : Nat) (l1 : List (S38)) (r : Bool) (w : World) (hr0 : Kd.C k38 w A0 l0.length l0) (hc0 : l0.length ≤ c0) (hr1 : Kd.C k38 w A1 l1.length l1) (hc1 : l1.length ≤ c1) (h : caesuraref01_Ranges.f k l0 l1 = some r) :
    Calls Tryz.prog 28 #[.slice A0 l0.length c0, .slice A1 l1.length c1] w fun e w' => e = .returned (.bool r) ∧ Drawn0 w w' := by
  have hu38 := Tryz.underlying38
  have HR0 := Aside0.mk hr0
  have HC0 := Aside0.mk hc0
  clear hr0 hc0
  have HR1 := Aside0.mk hr1
  have HC1 := Aside0.mk hc1
  clear hr1 hc1
  have H : (if (l0.length : Int) = (l1.length : Int) then (caesuraref01_Ranges.l0 k l0 l1 0) else (some false)) = some r := h
  clear h
  by_cases c3 : (l0.length : Int) = (l1.length : Int)
  · rw [if_pos c3] at H
    have c3b0 : ((l0.length : Int) == (l1.length : Int)) = true := beq_iff_eq.mpr c3
    have c3b1 : ((l0.length : Int) != (l1.length : Int)) = false := bne_eq_false_iff_eq.mpr c3
    have c3b2 : (l0.length == l1.length) = true := by first | simpa using c3 | (simp at c3 ⊢; omega)
    clear c3
    have H' := Aside0.mk H
    clear H
    go_enter Tryz.func28, Tryz.ntmps28
    go_wp2
    repeat (go_quiet (fail); try go_wp2)
    go_loopg [5] k (fun kq v5 w' => ∃ (x5_1 : Int), v5 = .int .i64 x5_1 ∧ Aside0 (caesuraref01_Ranges.l0 kq l0 l1 x5_1 = some r) ∧ Aside0 (kq ≤ k) ∧ Drawn0 w w')
    case atStart => exact ⟨(0), (by first | rfl | (simp; done) | (simp [*]; done)), H', ⟨Nat.le_refl _⟩, by repeat (first | exact Drawn0.refl _ | apply Drawn0.step)⟩
    case round =>
      clear H'
      try clear c1
      try clear c2
      try clear p2
      try clear c3
      try clear c3b0
      try clear c3b1
      try clear c3b2
      obtain ⟨x5_1, rfl, HA, HK1, ⟨m1, rfl⟩⟩ := hrel
      cases gk with
      | zero => exact absurd HA.out (by simp [caesuraref01_Ranges.l0])
      | succ k1 =>
        have H := HA.out
        clear HA
        simp only [caesuraref01_Ranges.l0] at H
        by_cases c4 : x5_1 < (l0.length : Int)
        · rw [if_pos c4] at H
          have c4b0 : decide (x5_1 < (l0.length : Int)) = true := decide_eq_true c4
          clear c4
          by_cases c5 : 0 ≤ x5_1
          · rw [if_pos c5] at H
            have c5b0 : decide (0 ≤ x5_1) = true := decide_eq_true c5
            clear c5
            by_cases c6 : x5_1 < (l1.length : Int)
            · rw [if_pos c6] at H
              have c6b0 : decide (x5_1 < (l1.length : Int)) = true := decide_eq_true c6
              clear c6
              by_cases c7 : (!(((rd_T38 l0 x5_1).f0) == ((rd_T38 l1 x5_1).f0)) || (!(((rd_T38 l0 x5_1).f1) == ((rd_T38 l1 x5_1).f1)))) = true
              · rw [if_pos c7] at H
                have c7b0 : (!(((rd_T38 l0 x5_1).f0) == ((rd_T38 l1 x5_1).f0)) || (!(((rd_T38 l0 x5_1).f1) == ((rd_T38 l1 x5_1).f1)))) = true := c7
                clear c7
                obtain rfl := Option.some.inj H
                have p109 : 0 ≤ (x5_1 : Int) := of_decide_eq_true (by first | (with_reducible assumption) | assumption)
                have q109 : x5_1 < (l0.length : Int) := of_decide_eq_true (by first | (with_reducible assumption) | assumption)
                obtain ⟨ad109, e109, hx109_0, hx109_1⟩ := at_T38 HR0.out x5_1 p109 q109
                cases e109
                replace p109 := eq_true p109
                replace q109 := eq_true q109
                have p110 : 0 ≤ (x5_1 : Int) := of_decide_eq_true (by first | (with_reducible assumption) | assumption)
                have q110 : x5_1 < (l1.length : Int) := of_decide_eq_true (by first | (with_reducible assumption) | assumption)
                obtain ⟨ad110, e110, hx110_0, hx110_1⟩ := at_T38 HR1.out x5_1 p110 q110
                cases e110
                replace p110 := eq_true p110
                replace q110 := eq_true q110
                go_wp2
                repeat (go_quiet (fail); try go_wp2)
                go_ret
                exact ⟨by first | rfl | (simp; done) | (simp [*]; done), by repeat (first | exact Drawn0.refl _ | apply Drawn0.step)⟩
              · rw [if_neg c7] at H
                have c7b0 : (!(((rd_T38 l0 x5_1).f0) == ((rd_T38 l1 x5_1).f0)) || (!(((rd_T38 l0 x5_1).f1) == ((rd_T38 l1 x5_1).f1)))) = false := by simpa using c7
                clear c7
                have H' := Aside0.mk H
                clear H
                have p109 : 0 ≤ (x5_1 : Int) := of_decide_eq_true (by first | (with_reducible assumption) | assumption)
                have q109 : x5_1 < (l0.length : Int) := of_decide_eq_true (by first | (with_reducible assumption) | assumption)
                obtain ⟨ad109, e109, hx109_0, hx109_1⟩ := at_T38 HR0.out x5_1 p109 q109
                cases e109
                replace p109 := eq_true p109
                replace q109 := eq_true q109
                have p110 : 0 ≤ (x5_1 : Int) := of_decide_eq_true (by first | (with_reducible assumption) | assumption)
                have q110 : x5_1 < (l1.length : Int) := of_decide_eq_true (by first | (with_reducible assumption) | assumption)
                obtain ⟨ad110, e110, hx110_0, hx110_1⟩ := at_T38 HR1.out x5_1 p110 q110
                cases e110
                replace p110 := eq_true p110
                replace q110 := eq_true q110
                go_wp2
                repeat (go_quiet (fail); try go_wp2)
                go_roundg k1
                case measure => have := HK1.out; omega
                case rel => exact ⟨(wrap64 (x5_1 + 1)), (by first | rfl | (simp; done) | (simp [*]; done)), H', ⟨by have := HK1.out; omega⟩, by repeat (first | exact Drawn0.refl _ | apply Drawn0.step)⟩
            · rw [if_neg c6] at H
              exact absurd H (by simp)
          · rw [if_neg c5] at H
            exact absurd H (by simp)
        · rw [if_neg c4] at H
          have c4b0 : decide (x5_1 < (l0.length : Int)) = false := decide_eq_false c4
          clear c4
          obtain rfl := Option.some.inj H
          go_wp2
          repeat (go_quiet (fail); try go_wp2)
          go_ret
          exact ⟨by first | rfl | (simp; done) | (simp [*]; done), by repeat (first | exact Drawn0.refl _ | apply Drawn0.step)⟩
  · rw [if_neg c3] at H
    have c3b0 : ((l0.length : Int) == (l1.length : Int)) = false := beq_eq_false_iff_ne.mpr c3
    have c3b1 : ((l0.length : Int) != (l1.length : Int)) = true := bne_iff_ne.mpr c3
    have c3b2 : (l0.length == l1.length) = false := by first | simpa using c3 | (simp at c3 ⊢; omega)
    obtain rfl := Option.some.inj H
    go_enter Tryz.func28, Tryz.ntmps28
    go_wp2
    repeat (go_quiet (fail); try go_wp2)
    go_ret
    exact ⟨by first | rfl | (simp; done) | (simp [*]; done), by repeat (first | exact Drawn0.refl _ | apply Drawn0.step)⟩
def api_Range.l0 : Nat → List (S38) → List (S38) → Int → Int → Option (Bool)
  | 0, _, _, _, _ => none
  | k + 1, x0, x1, x12, x13 => if x13 < x12 then (if 0 ≤ x13 then (if x13 < (x0.length : Int) then (if x13 < (x1.length : Int) then (if (!(((rd_T38 x0 x13).f0) == ((rd_T38 x1 x13).f0)) || (!(((rd_T38 x0 x13).f1) == ((rd_T38 x1 x13).f1)))) = true then (some false) else (api_Range.l0 k x0 x1 x12 (wrap64 (x13 + 1)))) else (none)) else (none)) else (none)) else (some true)
def api_Range.f (k : Nat) (l0 : List (S38)) (l1 : List (S38)) : Option (Bool) := if (l0.length : Int) = (l1.length : Int) then (api_Range.l0 k l0 l1 (l0.length : Int) 0) else (some false)
theorem api_Range.mono_l : ∀ k, (∀ y0 y1 y2 y3, LeO (api_Range.l0 k y0 y1 y2 y3) (api_Range.l0 (k + 1) y0 y1 y2 y3))
  | 0 => fun _ _ _ _ r h => by simp [api_Range.l0] at h
  | k + 1 => by
    have ih0 := api_Range.mono_l k
    · intro y0 y1 y2 y3
      unfold api_Range.l0
      repeat' first
      | (with_reducible exact ih0 _ _ _ _)
      | (with_reducible exact LeO.refl _)
      | (with_reducible exact LeO.none _)
      | (with_reducible refine LeO.ite ?_ ?_)
      | (with_reducible refine LeO.bind ?_ (fun _ => ?_))
      | exact ih0 _ _ _ _
      | exact LeO.none _
      | refine LeO.ite ?_ ?_
      | refine LeO.bind ?_ (fun _ => ?_)
theorem api_Range.mono : ∀ a0 a1 k, LeO (api_Range.f k a0 a1) (api_Range.f (k + 1) a0 a1) := by
  intro a0 a1 k
  have ih0 := api_Range.mono_l k
  unfold api_Range.f
  repeat' first
      | (with_reducible exact ih0 _ _ _ _)
      | (with_reducible exact LeO.refl _)
      | (with_reducible exact LeO.none _)
      | (with_reducible refine LeO.ite ?_ ?_)
      | (with_reducible refine LeO.bind ?_ (fun _ => ?_))
      | exact ih0 _ _ _ _
      | exact LeO.none _
      | refine LeO.ite ?_ ?_
      | refine LeO.bind ?_ (fun _ => ?_)
set_option maxHeartbeats 8000000 in
set_option maxRecDepth 100000 in
theorem api_Range.calls (k : Nat) (A0 : Option Addr) (c0 : Nat) (l0 : List (S38)) (A1 : Option Addr) (c1 : Nat) (l1 : List (S38)) (r : Bool) (w : World) (hr0 : Kd.C k38 w A0 l0.length l0) (hc0 : l0.length ≤ c0) (hr1 : Kd.C k38 w A1 l1.length l1) (hc1 : l1.length ≤ c1) (h : api_Range.f k l0 l1 = some r) :
    Calls Tryz.prog 55 #[.slice A0 l0.length c0, .slice A1 l1.length c1] w fun e w' => e = .returned (.bool r) ∧ Drawn0 w w' := by
  have hu38 := Tryz.underlying38
  have HR0 := Aside0.mk hr0
  have HC0 := Aside0.mk hc0
  clear hr0 hc0
  have HR1 := Aside0.mk hr1
  have HC1 := Aside0.mk hc1
  clear hr1 hc1
  have H : (if (l0.length : Int) = (l1.length : Int) then (api_Range.l0 k l0 l1 (l0.length : Int) 0) else (some false)) = some r := h
  clear h
  by_cases c3 : (l0.length : Int) = (l1.length : Int)
  · rw [if_pos c3] at H
    have c3b0 : ((l0.length : Int) == (l1.length : Int)) = true := beq_iff_eq.mpr c3
    have c3b1 : ((l0.length : Int) != (l1.length : Int)) = false := bne_eq_false_iff_eq.mpr c3
    have c3b2 : (l0.length == l1.length) = true := by first | simpa using c3 | (simp at c3 ⊢; omega)
    clear c3
    have H' := Aside0.mk H
    clear H
    go_enter Tryz.func55, Tryz.ntmps55
    go_wp2
    repeat (go_quiet (fail); try go_wp2)
    go_loopg [13] k (fun kq v13 w' => ∃ (x13_1 : Int), v13 = .int .i64 x13_1 ∧ Aside0 (api_Range.l0 kq l0 l1 (l0.length : Int) x13_1 = some r) ∧ Aside0 (kq ≤ k) ∧ Drawn0 w w')
    case atStart => exact ⟨(0), (by first | rfl | (simp; done) | (simp [*]; done)), H', ⟨Nat.le_refl _⟩, by repeat (first | exact Drawn0.refl _ | apply Drawn0.step)⟩
    case round =>
      clear H'
      try clear c1
      try clear p2
      try clear c3
      try clear c3b0
      try clear c3b1
      try clear c3b2
      obtain ⟨x13_1, rfl, HA, HK1, ⟨m1, rfl⟩⟩ := hrel
      cases gk with
      | zero => exact absurd HA.out (by simp [api_Range.l0])
      | succ k1 =>
        have H := HA.out
        clear HA
        simp only [api_Range.l0] at H
        by_cases c4 : x13_1 < (l0.length : Int)
        · rw [if_pos c4] at H
          have c4b0 : decide (x13_1 < (l0.length : Int)) = true := decide_eq_true c4
          clear c4
          by_cases c5 : 0 ≤ x13_1
          · rw [if_pos c5] at H
            have c5b0 : decide (0 ≤ x13_1) = true := decide_eq_true c5
            clear c5
            by_cases c6 : x13_1 < (l0.length : Int)
            · rw [if_pos c6] at H
              have c6b0 : decide (x13_1 < (l0.length : Int)) = true := decide_eq_true c6
              clear c6
              by_cases c7 : x13_1 < (l1.length : Int)
              · rw [if_pos c7] at H
                have c7b0 : decide (x13_1 < (l1.length : Int)) = true := decide_eq_true c7
                clear c7
                by_cases c8 : (!(((rd_T38 l0 x13_1).f0) == ((rd_T38 l1 x13_1).f0)) || (!(((rd_T38 l0 x13_1).f1) == ((rd_T38 l1 x13_1).f1)))) = true
                · rw [if_pos c8] at H
                  have c8b0 : (!(((rd_T38 l0 x13_1).f0) == ((rd_T38 l1 x13_1).f0)) || (!(((rd_T38 l0 x13_1).f1) == ((rd_T38 l1 x13_1).f1)))) = true := c8
                  clear c8
                  obtain rfl := Option.some.inj H
                  have p111 : 0 ≤ (x13_1 : Int) := of_decide_eq_true (by first | (with_reducible assumption) | assumption)
                  have q111 : x13_1 < (l0.length : Int) := of_decide_eq_true (by first | (with_reducible assumption) | assumption)
                  obtain ⟨ad111, e111, hx111_0, hx111_1⟩ := at_T38 HR0.out x13_1 p111 q111
                  cases e111
                  replace p111 := eq_true p111
                  replace q111 := eq_true q111
                  have p112 : 0 ≤ (x13_1 : Int) := of_decide_eq_true (by first | (with_reducible assumption) | assumption)
                  have q112 : x13_1 < (l1.length : Int) := of_decide_eq_true (by first | (with_reducible assumption) | assumption)
                  obtain ⟨ad112, e112, hx112_0, hx112_1⟩ := at_T38 HR1.out x13_1 p112 q112
                  cases e112
                  replace p112 := eq_true p112
                  replace q112 := eq_true q112
                  go_wp2
                  repeat (go_quiet (fail); try go_wp2)
                  go_ret
                  exact ⟨by first | rfl | (simp; done) | (simp [*]; done), by repeat (first | exact Drawn0.refl _ | apply Drawn0.step)⟩
                · rw [if_neg c8] at H
                  have c8b0 : (!(((rd_T38 l0 x13_1).f0) == ((rd_T38 l1 x13_1).f0)) || (!(((rd_T38 l0 x13_1).f1) == ((rd_T38 l1 x13_1).f1)))) = false := by simpa using c8
                  clear c8
                  have H' := Aside0.mk H
                  clear H
                  have p111 : 0 ≤ (x13_1 : Int) := of_decide_eq_true (by first | (with_reducible assumption) | assumption)
                  have q111 : x13_1 < (l0.length : Int) := of_decide_eq_true (by first | (with_reducible assumption) | assumption)
                  obtain ⟨ad111, e111, hx111_0, hx111_1⟩ := at_T38 HR0.out x13_1 p111 q111
                  cases e111
                  replace p111 := eq_true p111
                  replace q111 := eq_true q111
                  have p112 : 0 ≤ (x13_1 : Int) := of_decide_eq_true (by first | (with_reducible assumption) | assumption)
                  have q112 : x13_1 < (l1.length : Int) := of_decide_eq_true (by first | (with_reducible assumption) | assumption)
                  obtain ⟨ad112, e112, hx112_0, hx112_1⟩ := at_T38 HR1.out x13_1 p112 q112
                  cases e112
                  replace p112 := eq_true p112
                  replace q112 := eq_true q112
                  go_wp2
                  repeat (go_quiet (fail); try go_wp2)
                  go_roundg k1
                  case measure => have := HK1.out; omega
                  case rel => exact ⟨(wrap64 (x13_1 + 1)), (by first | rfl | (simp; done) | (simp [*]; done)), H', ⟨by have := HK1.out; omega⟩, by repeat (first | exact Drawn0.refl _ | apply Drawn0.step)⟩
              · rw [if_neg c7] at H
                exact absurd H (by simp)
            · rw [if_neg c6] at H
              exact absurd H (by simp)
          · rw [if_neg c5] at H
            exact absurd H (by simp)
        · rw [if_neg c4] at H
          have c4b0 : decide (x13_1 < (l0.length : Int)) = false := decide_eq_false c4
          clear c4
          obtain rfl := Option.some.inj H
          go_wp2
          repeat (go_quiet (fail); try go_wp2)
          go_ret
          exact ⟨by first | rfl | (simp; done) | (simp [*]; done), by repeat (first | exact Drawn0.refl _ | apply Drawn0.step)⟩
  · rw [if_neg c3] at H
    have c3b0 : ((l0.length : Int) == (l1.length : Int)) = false := beq_eq_false_iff_ne.mpr c3
    have c3b1 : ((l0.length : Int) != (l1.length : Int)) = true := bne_iff_ne.mpr c3
    have c3b2 : (l0.length == l1.length) = false := by first | simpa using c3 | (simp at c3 ⊢; omega)
    obtain rfl := Option.some.inj H
    go_enter Tryz.func55, Tryz.ntmps55
    go_wp2
    repeat (go_quiet (fail); try go_wp2)
    go_ret
    exact ⟨by first | rfl | (simp; done) | (simp [*]; done), by repeat (first | exact Drawn0.refl _ | apply Drawn0.step)⟩
mutual
def caesuraref01_Has.j0 : Nat → List (S38) → Int → Bool → Option (Bool)
  | 0, _, _, _ => none
  | k + 1, x0, x1, x16 => if x16 = true then (some false) else (caesuraref01_Has.l0 k x0 x1 0)
def caesuraref01_Has.l0 : Nat → List (S38) → Int → Int → Option (Bool)
  | 0, _, _, _ => none
  | k + 1, x0, x1, x5 => if x5 < (x0.length : Int) then (if 0 ≤ x5 then (if x1 ≥ ((rd_T38 x0 x5).f0) then (if x1 ≤ ((rd_T38 x0 x5).f1) then (some true) else (caesuraref01_Has.l0 k x0 x1 (wrap64 (x5 + 1)))) else (caesuraref01_Has.l0 k x0 x1 (wrap64 (x5 + 1)))) else (none)) else (some false)
end
def caesuraref01_Has.f (k : Nat) (l0 : List (S38)) (a1 : Int) : Option (Bool) := if a1 < 0 then (caesuraref01_Has.j0 k l0 a1 true) else (if a1 > 1114111 then (caesuraref01_Has.j0 k l0 a1 true) else (caesuraref01_Has.j0 k l0 a1 (decide ((l0.length : Int) > 400))))
theorem caesuraref01_Has.mono_l : ∀ k, (∀ y0 y1 y2, LeO (caesuraref01_Has.j0 k y0 y1 y2) (caesuraref01_Has.j0 (k + 1) y0 y1 y2)) ∧ (∀ y0 y1 y2, LeO (caesuraref01_Has.l0 k y0 y1 y2) (caesuraref01_Has.l0 (k + 1) y0 y1 y2))
  | 0 => ⟨fun _ _ _ r h => by simp [caesuraref01_Has.j0] at h, fun _ _ _ r h => by simp [caesuraref01_Has.l0] at h⟩
  | k + 1 => by
    obtain ⟨ih0, ih1⟩ := caesuraref01_Has.mono_l k
    refine ⟨?_, ?_⟩
    · intro y0 y1 y2
      unfold caesuraref01_Has.j0
      repeat' first
      | (with_reducible exact ih0 _ _ _)
      | (with_reducible exact ih1 _ _ _)
      | (with_reducible exact LeO.refl _)
      | (with_reducible exact LeO.none _)
      | (with_reducible refine LeO.ite ?_ ?_)
      | (with_reducible refine LeO.bind ?_ (fun _ => ?_))
      | exact ih0 _ _ _
      | exact ih1 _ _ _
      | exact LeO.none _
      | refine LeO.ite ?_ ?_
      | refine LeO.bind ?_ (fun _ => ?_)
    · intro y0 y1 y2
      unfold caesuraref01_Has.l0
      repeat' first
      | (with_reducible exact ih0 _ _ _)
      | (with_reducible exact ih1 _ _ _)
      | (with_reducible exact LeO.refl _)
      | (with_reducible exact LeO.none _)
      | (with_reducible refine LeO.ite ?_ ?_)
      | (with_reducible refine LeO.bind ?_ (fun _ => ?_))
      | exact ih0 _ _ _
      | exact ih1 _ _ _
      | exact LeO.none _
      | refine LeO.ite ?_ ?_
      | refine LeO.bind ?_ (fun _ => ?_)
theorem caesuraref01_Has.mono : ∀ a0 a1 k, LeO (caesuraref01_Has.f k a0 a1) (caesuraref01_Has.f (k + 1) a0 a1) := by
  intro a0 a1 k
  obtain ⟨ih0, ih1⟩ := caesuraref01_Has.mono_l k
  unfold caesuraref01_Has.f
  repeat' first
      | (with_reducible exact ih0 _ _ _)
      | (with_reducible exact ih1 _ _ _)
      | (with_reducible exact LeO.refl _)
      | (with_reducible exact LeO.none _)
      | (with_reducible refine LeO.ite ?_ ?_)
      | (with_reducible refine LeO.bind ?_ (fun _ => ?_))
      | exact ih0 _ _ _
      | exact ih1 _ _ _
      | exact LeO.none _
      | refine LeO.ite ?_ ?_
      | refine LeO.bind ?_ (fun _ => ?_)
set_option maxHeartbeats 8000000 in
set_option maxRecDepth 100000 in
theorem caesuraref01_Has.calls (k : Nat) (A0 : Option Addr) (c0 : Nat) (l0 : List (S38)) (a1 : Int) (r : Bool) (w : World) (hr0 : Kd.C k38 w A0 l0.length l0) (hc0 : l0.length ≤ c0) (h : caesuraref01_Has.f k l0 a1 = some r) :
    Calls Tryz.prog 32 #[.slice A0 l0.length c0, .int .i64 a1] w fun e w' => e = .returned (.bool r) ∧ Drawn0 w w' := by
  have HR0 := Aside0.mk hr0
  have HC0 := Aside0.mk hc0
  clear hr0 hc0
  have H : (if a1 < 0 then (caesuraref01_Has.j0 k l0 a1 true) else (if a1 > 1114111 then (caesuraref01_Has.j0 k l0 a1 true) else (caesuraref01_Has.j0 k l0 a1 (decide ((l0.length : Int) > 400))))) = some r := h
  clear h
  have HC3 := Aside0.mk H
  clear H
  go_enter Tryz.func32, Tryz.ntmps32
  go_upto_region 1 with (fail)
  go_cut [16] (fun v16 wc => ∃ (kq : Nat) (x16_2 : Bool), v16 = .bool x16_2 ∧ Aside0 (caesuraref01_Has.j0 kq l0 a1 x16_2 = some r) ∧ Aside0 (kq ≤ k) ∧ Drawn0 w wc)
  case first =>
    have H := HC3.out
    clear HC3
    by_cases c4 : a1 < 0
    · rw [if_pos c4] at H
      have c4b0 : decide (a1 < 0) = true := decide_eq_true c4
      clear c4
      (first | rw [c4b0] | (simp only [i64_w, i32_w]; rw [c4b0]) | skip)
      have H' := Aside0.mk H
      clear H
      go_wp2
      go_meet
      case rel => exact ⟨_, (true), (by first | rfl | (simp; done) | (simp [*]; done)), H', ⟨by first | omega | exact Nat.le_refl _⟩, by repeat (first | exact Drawn0.refl _ | apply Drawn0.step)⟩
    · rw [if_neg c4] at H
      have c4b0 : decide (a1 < 0) = false := decide_eq_false c4
      clear c4
      (first | rw [c4b0] | (simp only [i64_w, i32_w]; rw [c4b0]) | skip)
      by_cases c5 : a1 > 1114111
      · rw [if_pos c5] at H
        have c5b0 : decide (1114111 < a1) = true := decide_eq_true c5
        clear c5
        have H' := Aside0.mk H
        clear H
        go_wp2
        go_meet
        case rel => exact ⟨_, (true), (by first | rfl | (simp; done) | (simp [*]; done)), H', ⟨by first | omega | exact Nat.le_refl _⟩, by repeat (first | exact Drawn0.refl _ | apply Drawn0.step)⟩
      · rw [if_neg c5] at H
        have c5b0 : decide (1114111 < a1) = false := decide_eq_false c5
        clear c5
        have H' := Aside0.mk H
        clear H
        go_wp2
        go_meet
        case rel => exact ⟨_, (decide ((l0.length : Int) > 400)), (by first | rfl | (simp; done) | (simp [*]; done)), H', ⟨by first | omega | exact Nat.le_refl _⟩, by repeat (first | exact Drawn0.refl _ | apply Drawn0.step)⟩
  case rest =>
    clear HC3
    try clear p2
    try clear c3
    try clear c4
    try clear c4b0
    try clear c5
    try clear c5b0
    obtain ⟨kq, x16_2, rfl, HA, HJ2, ⟨mc2, rfl⟩⟩ := hcut
    cases kq with
    | zero => exact absurd HA.out (by simp [caesuraref01_Has.j0])
    | succ kj2 =>
      have H := HA.out
      clear HA
      simp only [caesuraref01_Has.j0] at H
      by_cases c6 : x16_2 = true
      · subst c6
        have H1 : (some false) = some r := by rw [if_pos rfl] at H; exact H
        clear H
        have H := H1
        clear H1
        obtain rfl := Option.some.inj H
        go_wp2
        go_ret
        exact ⟨by first | rfl | (simp; done) | (simp [*]; done), by repeat (first | exact Drawn0.refl _ | apply Drawn0.step)⟩
      · replace c6 := Bool.eq_false_iff.mpr c6
        subst c6
        have H1 : (caesuraref01_Has.l0 kj2 l0 a1 0) = some r := by rw [if_neg (show ¬ (false = true) by decide)] at H; exact H
        clear H
        have H := H1
        clear H1
        have H' := Aside0.mk H
        clear H
        go_wp2
        go_loopg [5] kj2 (fun kq v5 w' => ∃ (x5_2 : Int), v5 = .int .i64 x5_2 ∧ Aside0 (caesuraref01_Has.l0 kq l0 a1 x5_2 = some r) ∧ Aside0 (kq ≤ kj2) ∧ Drawn0 w w')
        case atStart => exact ⟨(0), (by first | rfl | (simp; done) | (simp [*]; done)), H', ⟨Nat.le_refl _⟩, by repeat (first | exact Drawn0.refl _ | apply Drawn0.step)⟩
        case round =>
          clear H'
          try clear c2
          try clear p2
          try clear c3
          try clear c4
          try clear c4b0
          try clear c5
          try clear c5b0
          try clear c6
          try clear p2
          obtain ⟨x5_2, rfl, HA, HK2, ⟨m2, rfl⟩⟩ := hrel
          cases gk with
          | zero => exact absurd HA.out (by simp [caesuraref01_Has.l0])
          | succ k2 =>
            have H := HA.out
            clear HA
            simp only [caesuraref01_Has.l0] at H
            by_cases c7 : x5_2 < (l0.length : Int)
            · rw [if_pos c7] at H
              have c7b0 : decide (x5_2 < (l0.length : Int)) = true := decide_eq_true c7
              clear c7
              by_cases c8 : 0 ≤ x5_2
              · rw [if_pos c8] at H
                have c8b0 : decide (0 ≤ x5_2) = true := decide_eq_true c8
                clear c8
                by_cases c9 : a1 ≥ ((rd_T38 l0 x5_2).f0)
                · rw [if_pos c9] at H
                  have c9b0 : decide (((rd_T38 l0 x5_2).f0) ≤ a1) = true := decide_eq_true c9
                  clear c9
                  by_cases c10 : a1 ≤ ((rd_T38 l0 x5_2).f1)
                  · rw [if_pos c10] at H
                    have c10b0 : decide (a1 ≤ ((rd_T38 l0 x5_2).f1)) = true := decide_eq_true c10
                    clear c10
                    obtain rfl := Option.some.inj H
                    have p113 : 0 ≤ (x5_2 : Int) := of_decide_eq_true (by first | (with_reducible assumption) | assumption)
                    have q113 : x5_2 < (l0.length : Int) := of_decide_eq_true (by first | (with_reducible assumption) | assumption)
                    obtain ⟨ad113, e113, hx113_0, hx113_1⟩ := at_T38 HR0.out x5_2 p113 q113
                    cases e113
                    replace p113 := eq_true p113
                    replace q113 := eq_true q113
                    have p114 : 0 ≤ (x5_2 : Int) := of_decide_eq_true (by first | (with_reducible assumption) | assumption)
                    have q114 : x5_2 < (l0.length : Int) := of_decide_eq_true (by first | (with_reducible assumption) | assumption)
                    obtain ⟨ad114, e114, hx114_0, hx114_1⟩ := at_T38 HR0.out x5_2 p114 q114
                    obtain rfl : ad113 = ad114 := (by injection e114)
                    replace p114 := eq_true p114
                    replace q114 := eq_true q114
                    go_wp2
                    go_ret
                    exact ⟨by first | rfl | (simp; done) | (simp [*]; done), by repeat (first | exact Drawn0.refl _ | apply Drawn0.step)⟩
                  · rw [if_neg c10] at H
                    have c10b0 : decide (a1 ≤ ((rd_T38 l0 x5_2).f1)) = false := decide_eq_false c10
                    clear c10
                    have H' := Aside0.mk H
                    clear H
                    have p113 : 0 ≤ (x5_2 : Int) := of_decide_eq_true (by first | (with_reducible assumption) | assumption)
                    have q113 : x5_2 < (l0.length : Int) := of_decide_eq_true (by first | (with_reducible assumption) | assumption)
                    obtain ⟨ad113, e113, hx113_0, hx113_1⟩ := at_T38 HR0.out x5_2 p113 q113
                    cases e113
                    replace p113 := eq_true p113
                    replace q113 := eq_true q113
                    have p114 : 0 ≤ (x5_2 : Int) := of_decide_eq_true (by first | (with_reducible assumption) | assumption)
                    have q114 : x5_2 < (l0.length : Int) := of_decide_eq_true (by first | (with_reducible assumption) | assumption)
                    obtain ⟨ad114, e114, hx114_0, hx114_1⟩ := at_T38 HR0.out x5_2 p114 q114
                    obtain rfl : ad113 = ad114 := (by injection e114)
                    replace p114 := eq_true p114
                    replace q114 := eq_true q114
                    go_wp2
                    go_roundg k2
                    case measure => have := HJ2.out; have := HK2.out; omega
                    case rel => exact ⟨(wrap64 (x5_2 + 1)), (by first | rfl | (simp; done) | (simp [*]; done)), H', ⟨by have := HJ2.out; have := HK2.out; omega⟩, by repeat (first | exact Drawn0.refl _ | apply Drawn0.step)⟩
                · rw [if_neg c9] at H
                  have c9b0 : decide (((rd_T38 l0 x5_2).f0) ≤ a1) = false := decide_eq_false c9
                  clear c9
                  have H' := Aside0.mk H
                  clear H
                  have p113 : 0 ≤ (x5_2 : Int) := of_decide_eq_true (by first | (with_reducible assumption) | assumption)
                  have q113 : x5_2 < (l0.length : Int) := of_decide_eq_true (by first | (with_reducible assumption) | assumption)
                  obtain ⟨ad113, e113, hx113_0, hx113_1⟩ := at_T38 HR0.out x5_2 p113 q113
                  cases e113
                  replace p113 := eq_true p113
                  replace q113 := eq_true q113
                  go_wp2
                  go_roundg k2
                  case measure => have := HJ2.out; have := HK2.out; omega
                  case rel => exact ⟨(wrap64 (x5_2 + 1)), (by first | rfl | (simp; done) | (simp [*]; done)), H', ⟨by have := HJ2.out; have := HK2.out; omega⟩, by repeat (first | exact Drawn0.refl _ | apply Drawn0.step)⟩
              · rw [if_neg c8] at H
                exact absurd H (by simp)
            · rw [if_neg c7] at H
              have c7b0 : decide (x5_2 < (l0.length : Int)) = false := decide_eq_false c7
              clear c7
              obtain rfl := Option.some.inj H
              go_wp2
              go_ret
              exact ⟨by first | rfl | (simp; done) | (simp [*]; done), by repeat (first | exact Drawn0.refl _ | apply Drawn0.step)⟩
def caesuraref02_Same.l0 : Nat → List (List (S38)) → List (List (S38)) → Int → Option (Bool)
  | 0, _, _, _ => none
  | k + 1, x0, x1, x5 => if x5 < (x0.length : Int) then (if 0 ≤ x5 then (if x5 < (x1.length : Int) then ((caesuraref01_Ranges.f k (rd_L3 x0 x5) (rd_L3 x1 x5)).bind fun t117 => (if t117 = true then (caesuraref02_Same.l0 k x0 x1 (wrap64 (x5 + 1))) else (some false))) else (none)) else (none)) else (some true)
def caesuraref02_Same.f (k : Nat) (l0 : List (List (S38))) (l1 : List (List (S38))) : Option (Bool) := if (l0.length : Int) = (l1.length : Int) then (caesuraref02_Same.l0 k l0 l1 0) else (some false)
theorem caesuraref02_Same.mono_l : ∀ k, (∀ y0 y1 y2, LeO (caesuraref02_Same.l0 k y0 y1 y2) (caesuraref02_Same.l0 (k + 1) y0 y1 y2))
  | 0 => fun _ _ _ r h => by simp [caesuraref02_Same.l0] at h
  | k + 1 => by
    have ih0 := caesuraref02_Same.mono_l k
    · intro y0 y1 y2
      unfold caesuraref02_Same.l0
      repeat' first
      | (with_reducible exact ih0 _ _ _)
      | (with_reducible exact caesuraref01_Ranges.mono _ _ _)
      | (with_reducible exact LeO.refl _)
      | (with_reducible exact LeO.none _)
      | (with_reducible refine LeO.ite ?_ ?_)
      | (with_reducible refine LeO.bind ?_ (fun _ => ?_))
      | exact ih0 _ _ _
      | exact caesuraref01_Ranges.mono _ _ _
      | exact LeO.none _
      | refine LeO.ite ?_ ?_
      | refine LeO.bind ?_ (fun _ => ?_)
theorem caesuraref02_Same.mono : ∀ a0 a1 k, LeO (caesuraref02_Same.f k a0 a1) (caesuraref02_Same.f (k + 1) a0 a1) := by
  intro a0 a1 k
  have ih0 := caesuraref02_Same.mono_l k
  unfold caesuraref02_Same.f
  repeat' first
      | (with_reducible exact ih0 _ _ _)
      | (with_reducible exact caesuraref01_Ranges.mono _ _ _)
      | (with_reducible exact LeO.refl _)
      | (with_reducible exact LeO.none _)
      | (with_reducible refine LeO.ite ?_ ?_)
      | (with_reducible refine LeO.bind ?_ (fun _ => ?_))
      | exact ih0 _ _ _
      | exact caesuraref01_Ranges.mono _ _ _
      | exact LeO.none _
      | refine LeO.ite ?_ ?_
      | refine LeO.bind ?_ (fun _ => ?_)
set_option maxHeartbeats 8000000 in
set_option maxRecDepth 100000 in
theorem caesuraref02_Same.calls (k : Nat) (A0 : Option Addr) (c0 : Nat) (l0 : List (List (S38))) (A1 : Option Addr) (c1 : Nat) (l1 : List (List (S38))) (r : Bool) (w : World) (hr0 : Kd.C (Kd.slice 38 k38) w A0 l0.length l0) (hc0 : l0.length ≤ c0) (hr1 : Kd.C (Kd.slice 38 k38) w A1 l1.length l1) (hc1 : l1.length ≤ c1) (h : caesuraref02_Same.f k l0 l1 = some r) :
    Calls Tryz.prog 8 #[.slice A0 l0.length c0, .slice A1 l1.length c1] w fun e w' => e = .returned (.bool r) ∧ Drawn0 w w' := by
  have HR0 := Aside0.mk hr0
  have HC0 := Aside0.mk hc0
  clear hr0 hc0
  have HR1 := Aside0.mk hr1
  have HC1 := Aside0.mk hc1
  clear hr1 hc1
  have H : (if (l0.length : Int) = (l1.length : Int) then (caesuraref02_Same.l0 k l0 l1 0) else (some false)) = some r := h
  clear h
  by_cases c3 : (l0.length : Int) = (l1.length : Int)
  · rw [if_pos c3] at H
    have c3b0 : ((l0.length : Int) == (l1.length : Int)) = true := beq_iff_eq.mpr c3
    have c3b1 : ((l0.length : Int) != (l1.length : Int)) = false := bne_eq_false_iff_eq.mpr c3
    have c3b2 : (l0.length == l1.length) = true := by first | simpa using c3 | (simp at c3 ⊢; omega)
    clear c3
    have H' := Aside0.mk H
    clear H
    go_enter Tryz.func8, Tryz.ntmps8
    go_wp2
    repeat (go_quiet (fail); try go_wp2)
    go_loopg [5] k (fun kq v5 w' => ∃ (x5_1 : Int), v5 = .int .i64 x5_1 ∧ Aside0 (caesuraref02_Same.l0 kq l0 l1 x5_1 = some r) ∧ Aside0 (kq ≤ k) ∧ Drawn0 w w')
    case atStart => exact ⟨(0), (by first | rfl | (simp; done) | (simp [*]; done)), H', ⟨Nat.le_refl _⟩, by repeat (first | exact Drawn0.refl _ | apply Drawn0.step)⟩
    case round =>
      clear H'
      try clear c1
      try clear p2
      try clear c3
      try clear c3b0
      try clear c3b1
      try clear c3b2
      obtain ⟨x5_1, rfl, HA, HK1, ⟨m1, rfl⟩⟩ := hrel
      cases gk with
      | zero => exact absurd HA.out (by simp [caesuraref02_Same.l0])
      | succ k1 =>
        have H := HA.out
        clear HA
        simp only [caesuraref02_Same.l0] at H
        by_cases c4 : x5_1 < (l0.length : Int)
        · rw [if_pos c4] at H
          have c4b0 : decide (x5_1 < (l0.length : Int)) = true := decide_eq_true c4
          clear c4
          by_cases c5 : 0 ≤ x5_1
          · rw [if_pos c5] at H
            have c5b0 : decide (0 ≤ x5_1) = true := decide_eq_true c5
            clear c5
            by_cases c6 : x5_1 < (l1.length : Int)
            · rw [if_pos c6] at H
              have c6b0 : decide (x5_1 < (l1.length : Int)) = true := decide_eq_true c6
              clear c6
              replace H := Option.bind_eq_some_iff.mp H
              obtain ⟨t117, A70, H⟩ := H
              replace H : (if t117 = true then (caesuraref02_Same.l0 k1 l0 l1 (wrap64 (x5_1 + 1))) else (some false)) = some r := H
              have A7 := Aside0.mk A70
              clear A70
              by_cases c8 : t117 = true
              · subst c8
                have H1 : (caesuraref02_Same.l0 k1 l0 l1 (wrap64 (x5_1 + 1))) = some r := by rw [if_pos rfl] at H; exact H
                clear H
                have H := H1
                clear H1
                have H' := Aside0.mk H
                clear H
                have p115 : 0 ≤ (x5_1 : Int) := of_decide_eq_true (by first | (with_reducible assumption) | assumption)
                have q115 : x5_1 < (l0.length : Int) := of_decide_eq_true (by first | (with_reducible assumption) | assumption)
                obtain ⟨ad115, A115_0, c115_0, e115, hx115_0, hl115_0, hi115_0⟩ := at_L3 HR0.out x5_1 p115 q115
                cases e115
                have HR115_0 := Aside0.mk hi115_0
                have HC115_0 := Aside0.mk hl115_0
                clear hi115_0 hl115_0
                replace p115 := eq_true p115
                replace q115 := eq_true q115
                have p116 : 0 ≤ (x5_1 : Int) := of_decide_eq_true (by first | (with_reducible assumption) | assumption)
                have q116 : x5_1 < (l1.length : Int) := of_decide_eq_true (by first | (with_reducible assumption) | assumption)
                obtain ⟨ad116, A116_0, c116_0, e116, hx116_0, hl116_0, hi116_0⟩ := at_L3 HR1.out x5_1 p116 q116
                cases e116
                have HR116_0 := Aside0.mk hi116_0
                have HC116_0 := Aside0.mk hl116_0
                clear hi116_0 hl116_0
                replace p116 := eq_true p116
                replace q116 := eq_true q116
                go_wp2_with (first | (go_at_call 28; (with_reducible refine (caesuraref01_Ranges.calls k1 _ _ (rd_L3 l0 x5_1) _ _ (rd_L3 l1 x5_1) true _ ?side1 ?side2 ?side3 ?side4 A7.out).mono ?_); (case side1 => repeat (first | exact HR115_0.out | (with_reducible refine Kd.C_alloc ?_ _) | (with_reducible refine Kd.C_drewN ?_ _) | (with_reducible refine Kd.C_drew ?_))); (case side2 => exact HC115_0.out); (case side3 => repeat (first | exact HR116_0.out | (with_reducible refine Kd.C_alloc ?_ _) | (with_reducible refine Kd.C_drewN ?_ _) | (with_reducible refine Kd.C_drew ?_))); (case side4 => exact HC116_0.out); rintro e w' ⟨rfl, ⟨nd, rfl⟩⟩; (try first | exact ⟨rfl, _, World.drewN_drewN _ _ _⟩ | exact ⟨rfl, _, Eq.trans (World.drewN_drewN _ _ _) (congrArg (World.drewN _) (Nat.add_assoc _ _ _))⟩)))
                repeat (go_quiet (first | (go_at_call 28; (with_reducible refine (caesuraref01_Ranges.calls k1 _ _ (rd_L3 l0 x5_1) _ _ (rd_L3 l1 x5_1) true _ ?side1 ?side2 ?side3 ?side4 A7.out).mono ?_); (case side1 => repeat (first | exact HR115_0.out | (with_reducible refine Kd.C_alloc ?_ _) | (with_reducible refine Kd.C_drewN ?_ _) | (with_reducible refine Kd.C_drew ?_))); (case side2 => exact HC115_0.out); (case side3 => repeat (first | exact HR116_0.out | (with_reducible refine Kd.C_alloc ?_ _) | (with_reducible refine Kd.C_drewN ?_ _) | (with_reducible refine Kd.C_drew ?_))); (case side4 => exact HC116_0.out); rintro e w' ⟨rfl, ⟨nd, rfl⟩⟩; (try first | exact ⟨rfl, _, World.drewN_drewN _ _ _⟩ | exact ⟨rfl, _, Eq.trans (World.drewN_drewN _ _ _) (congrArg (World.drewN _) (Nat.add_assoc _ _ _))⟩))); try go_wp2_with (first | (go_at_call 28; (with_reducible refine (caesuraref01_Ranges.calls k1 _ _ (rd_L3 l0 x5_1) _ _ (rd_L3 l1 x5_1) true _ ?side1 ?side2 ?side3 ?side4 A7.out).mono ?_); (case side1 => repeat (first | exact HR115_0.out | (with_reducible refine Kd.C_alloc ?_ _) | (with_reducible refine Kd.C_drewN ?_ _) | (with_reducible refine Kd.C_drew ?_))); (case side2 => exact HC115_0.out); (case side3 => repeat (first | exact HR116_0.out | (with_reducible refine Kd.C_alloc ?_ _) | (with_reducible refine Kd.C_drewN ?_ _) | (with_reducible refine Kd.C_drew ?_))); (case side4 => exact HC116_0.out); rintro e w' ⟨rfl, ⟨nd, rfl⟩⟩; (try first | exact ⟨rfl, _, World.drewN_drewN _ _ _⟩ | exact ⟨rfl, _, Eq.trans (World.drewN_drewN _ _ _) (congrArg (World.drewN _) (Nat.add_assoc _ _ _))⟩))))
                go_roundg k1
                case measure => have := HK1.out; omega
                case rel => exact ⟨(wrap64 (x5_1 + 1)), (by first | rfl | (simp; done) | (simp [*]; done)), H', ⟨by have := HK1.out; omega⟩, by repeat (first | exact Drawn0.refl _ | apply Drawn0.step)⟩
              · replace c8 := Bool.eq_false_iff.mpr c8
                subst c8
                have H1 : (some false) = some r := by rw [if_neg (show ¬ (false = true) by decide)] at H; exact H
                clear H
                have H := H1
                clear H1
                obtain rfl := Option.some.inj H
                have p115 : 0 ≤ (x5_1 : Int) := of_decide_eq_true (by first | (with_reducible assumption) | assumption)
                have q115 : x5_1 < (l0.length : Int) := of_decide_eq_true (by first | (with_reducible assumption) | assumption)
                obtain ⟨ad115, A115_0, c115_0, e115, hx115_0, hl115_0, hi115_0⟩ := at_L3 HR0.out x5_1 p115 q115
                cases e115
                have HR115_0 := Aside0.mk hi115_0
                have HC115_0 := Aside0.mk hl115_0
                clear hi115_0 hl115_0
                replace p115 := eq_true p115
                replace q115 := eq_true q115
                have p116 : 0 ≤ (x5_1 : Int) := of_decide_eq_true (by first | (with_reducible assumption) | assumption)
                have q116 : x5_1 < (l1.length : Int) := of_decide_eq_true (by first | (with_reducible assumption) | assumption)
                obtain ⟨ad116, A116_0, c116_0, e116, hx116_0, hl116_0, hi116_0⟩ := at_L3 HR1.out x5_1 p116 q116
                cases e116
                have HR116_0 := Aside0.mk hi116_0
                have HC116_0 := Aside0.mk hl116_0
                clear hi116_0 hl116_0
                replace p116 := eq_true p116
                replace q116 := eq_true q116
                go_wp2_with (first | (go_at_call 28; (with_reducible refine (caesuraref01_Ranges.calls k1 _ _ (rd_L3 l0 x5_1) _ _ (rd_L3 l1 x5_1) false _ ?side1 ?side2 ?side3 ?side4 A7.out).mono ?_); (case side1 => repeat (first | exact HR115_0.out | (with_reducible refine Kd.C_alloc ?_ _) | (with_reducible refine Kd.C_drewN ?_ _) | (with_reducible refine Kd.C_drew ?_))); (case side2 => exact HC115_0.out); (case side3 => repeat (first | exact HR116_0.out | (with_reducible refine Kd.C_alloc ?_ _) | (with_reducible refine Kd.C_drewN ?_ _) | (with_reducible refine Kd.C_drew ?_))); (case side4 => exact HC116_0.out); rintro e w' ⟨rfl, ⟨nd, rfl⟩⟩; (try first | exact ⟨rfl, _, World.drewN_drewN _ _ _⟩ | exact ⟨rfl, _, Eq.trans (World.drewN_drewN _ _ _) (congrArg (World.drewN _) (Nat.add_assoc _ _ _))⟩)))
                repeat (go_quiet (first | (go_at_call 28; (with_reducible refine (caesuraref01_Ranges.calls k1 _ _ (rd_L3 l0 x5_1) _ _ (rd_L3 l1 x5_1) false _ ?side1 ?side2 ?side3 ?side4 A7.out).mono ?_); (case side1 => repeat (first | exact HR115_0.out | (with_reducible refine Kd.C_alloc ?_ _) | (with_reducible refine Kd.C_drewN ?_ _) | (with_reducible refine Kd.C_drew ?_))); (case side2 => exact HC115_0.out); (case side3 => repeat (first | exact HR116_0.out | (with_reducible refine Kd.C_alloc ?_ _) | (with_reducible refine Kd.C_drewN ?_ _) | (with_reducible refine Kd.C_drew ?_))); (case side4 => exact HC116_0.out); rintro e w' ⟨rfl, ⟨nd, rfl⟩⟩; (try first | exact ⟨rfl, _, World.drewN_drewN _ _ _⟩ | exact ⟨rfl, _, Eq.trans (World.drewN_drewN _ _ _) (congrArg (World.drewN _) (Nat.add_assoc _ _ _))⟩))); try go_wp2_with (first | (go_at_call 28; (with_reducible refine (caesuraref01_Ranges.calls k1 _ _ (rd_L3 l0 x5_1) _ _ (rd_L3 l1 x5_1) false _ ?side1 ?side2 ?side3 ?side4 A7.out).mono ?_); (case side1 => repeat (first | exact HR115_0.out | (with_reducible refine Kd.C_alloc ?_ _) | (with_reducible refine Kd.C_drewN ?_ _) | (with_reducible refine Kd.C_drew ?_))); (case side2 => exact HC115_0.out); (case side3 => repeat (first | exact HR116_0.out | (with_reducible refine Kd.C_alloc ?_ _) | (with_reducible refine Kd.C_drewN ?_ _) | (with_reducible refine Kd.C_drew ?_))); (case side4 => exact HC116_0.out); rintro e w' ⟨rfl, ⟨nd, rfl⟩⟩; (try first | exact ⟨rfl, _, World.drewN_drewN _ _ _⟩ | exact ⟨rfl, _, Eq.trans (World.drewN_drewN _ _ _) (congrArg (World.drewN _) (Nat.add_assoc _ _ _))⟩))))
                go_ret
                exact ⟨by first | rfl | (simp; done) | (simp [*]; done), by repeat (first | exact Drawn0.refl _ | apply Drawn0.step)⟩
            · rw [if_neg c6] at H
              exact absurd H (by simp)
          · rw [if_neg c5] at H
            exact absurd H (by simp)
        · rw [if_neg c4] at H
          have c4b0 : decide (x5_1 < (l0.length : Int)) = false := decide_eq_false c4
          clear c4
          obtain rfl := Option.some.inj H
          go_wp2
          repeat (go_quiet (fail); try go_wp2)
          go_ret
          exact ⟨by first | rfl | (simp; done) | (simp [*]; done), by repeat (first | exact Drawn0.refl _ | apply Drawn0.step)⟩
  · rw [if_neg c3] at H
    have c3b0 : ((l0.length : Int) == (l1.length : Int)) = false := beq_eq_false_iff_ne.mpr c3
    have c3b1 : ((l0.length : Int) != (l1.length : Int)) = true := bne_iff_ne.mpr c3
    have c3b2 : (l0.length == l1.length) = false := by first | simpa using c3 | (simp at c3 ⊢; omega)
    obtain rfl := Option.some.inj H
    go_enter Tryz.func8, Tryz.ntmps8
    go_wp2
    repeat (go_quiet (fail); try go_wp2)
    go_ret
    exact ⟨by first | rfl | (simp; done) | (simp [*]; done), by repeat (first | exact Drawn0.refl _ | apply Drawn0.step)⟩
end Go.Proofs.YtippkbgeeeimjaaGreat.A
namespace Go.Proofs.YtippkbgeeeimjaaGreat.A
open Go.RowKit Go.Proofs.YtippkbgeeeimjaaGreatW.PrintWords Go.Proofs.YtippkbgeeeimjaaGreatW.PrintLast Go.Proofs.YtippkbgeeeimjaaGreatW.PrintMore
attribute [local go_sem] max2_int min2_int max_two min_two max_three min_three max_four min_four   -- for this text's walks alone
set_option linter.unusedVariables false
set_option linter.unusedSimpArgs false
def caesuraref02_Great.l0 : Nat → List (List (S38)) → Int → Int → Int → Option (Bool)
  | 0, _, _, _, _ => none
  | k + 1, x0, x1, x5, x6 => if x6 < (x0.length : Int) then (if x5 ≤ x1 then (if 0 ≤ x6 then (caesuraref02_Great.l0 k x0 x1 (wrap64 (x5 + ((rd_L3 x0 x6).length : Int))) (wrap64 (x6 + 1))) else (none)) else (some (decide (x5 > x1)))) else (some (decide (x5 > x1)))
def caesuraref02_Great.f (k : Nat) (l0 : List (List (S38))) (a1 : Int) : Option (Bool) := caesuraref02_Great.l0 k l0 a1 (l0.length : Int) 0
theorem caesuraref02_Great.mono_l : ∀ k, (∀ y0 y1 y2 y3, LeO (caesuraref02_Great.l0 k y0 y1 y2 y3) (caesuraref02_Great.l0 (k + 1) y0 y1 y2 y3))
  | 0 => fun _ _ _ _ r h => by simp [caesuraref02_Great.l0] at h
  | k + 1 => by
    have ih0 := caesuraref02_Great.mono_l k
    · intro y0 y1 y2 y3
      unfold caesuraref02_Great.l0
      repeat' first
      | (with_reducible exact ih0 _ _ _ _)
      | (with_reducible exact LeO.refl _)
      | (with_reducible exact LeO.none _)
      | (with_reducible refine LeO.ite ?_ ?_)
      | (with_reducible refine LeO.bind ?_ (fun _ => ?_))
      | exact ih0 _ _ _ _
      | exact LeO.none _
      | refine LeO.ite ?_ ?_
      | refine LeO.bind ?_ (fun _ => ?_)
theorem caesuraref02_Great.mono : ∀ a0 a1 k, LeO (caesuraref02_Great.f k a0 a1) (caesuraref02_Great.f (k + 1) a0 a1) := by
  intro a0 a1 k
  have ih0 := caesuraref02_Great.mono_l k
  unfold caesuraref02_Great.f
  repeat' first
      | (with_reducible exact ih0 _ _ _ _)
      | (with_reducible exact LeO.refl _)
      | (with_reducible exact LeO.none _)
      | (with_reducible refine LeO.ite ?_ ?_)
      | (with_reducible refine LeO.bind ?_ (fun _ => ?_))
      | exact ih0 _ _ _ _
      | exact LeO.none _
      | refine LeO.ite ?_ ?_
      | refine LeO.bind ?_ (fun _ => ?_)
set_option maxHeartbeats 8000000 in
set_option maxRecDepth 100000 in
theorem caesuraref02_Great.calls (k : Nat) (A0 : Option Addr) (c0 : Nat) (l0 : List (List (S38))) (a1 : Int) (r : Bool) (w : World) (hr0 : Kd.C (Kd.slice 38 k38) w A0 l0.length l0) (hc0 : l0.length ≤ c0) (h : caesuraref02_Great.f k l0 a1 = some r) :
    Calls Tryz.prog 5 #[.slice A0 l0.length c0, .int .i64 a1] w fun e w' => e = .returned (.bool r) ∧ Drawn0 w w' := by
  have HR0 := Aside0.mk hr0
  have HC0 := Aside0.mk hc0
  clear hr0 hc0
  have H : (caesuraref02_Great.l0 k l0 a1 (l0.length : Int) 0) = some r := h
  clear h
  have H' := Aside0.mk H
  clear H
  go_enter Tryz.func5, Tryz.ntmps5
  go_wp2
  go_loopg [5, 6] k (fun kq v5 v6 w' => ∃ (x5_1 : Int) (x6_1 : Int), v5 = .int .i64 x5_1 ∧ v6 = .int .i64 x6_1 ∧ Aside0 (caesuraref02_Great.l0 kq l0 a1 x5_1 x6_1 = some r) ∧ Aside0 (kq ≤ k) ∧ Drawn0 w w')
  case atStart => exact ⟨((l0.length : Int)), (0), (by first | rfl | (simp; done) | (simp [*]; done)), (by first | rfl | (simp; done) | (simp [*]; done)), H', ⟨Nat.le_refl _⟩, by repeat (first | exact Drawn0.refl _ | apply Drawn0.step)⟩
  case round =>
    clear H'
    try clear p2
    obtain ⟨x5_1, x6_1, rfl, rfl, HA, HK1, ⟨m1, rfl⟩⟩ := hrel
    cases gk with
    | zero => exact absurd HA.out (by simp [caesuraref02_Great.l0])
    | succ k1 =>
      have H := HA.out
      clear HA
      simp only [caesuraref02_Great.l0] at H
      by_cases c3 : x6_1 < (l0.length : Int)
      · rw [if_pos c3] at H
        have c3b0 : decide (x6_1 < (l0.length : Int)) = true := decide_eq_true c3
        clear c3
        by_cases c4 : x5_1 ≤ a1
        · rw [if_pos c4] at H
          have c4b0 : decide (x5_1 ≤ a1) = true := decide_eq_true c4
          clear c4
          by_cases c5 : 0 ≤ x6_1
          · rw [if_pos c5] at H
            have c5b0 : decide (0 ≤ x6_1) = true := decide_eq_true c5
            clear c5
            have H' := Aside0.mk H
            clear H
            have p118 : 0 ≤ (x6_1 : Int) := of_decide_eq_true (by first | (with_reducible assumption) | assumption)
            have q118 : x6_1 < (l0.length : Int) := of_decide_eq_true (by first | (with_reducible assumption) | assumption)
            obtain ⟨ad118, A118_0, c118_0, e118, hx118_0, hl118_0, hi118_0⟩ := at_L3 HR0.out x6_1 p118 q118
            cases e118
            have HR118_0 := Aside0.mk hi118_0
            have HC118_0 := Aside0.mk hl118_0
            clear hi118_0 hl118_0
            replace p118 := eq_true p118
            replace q118 := eq_true q118
            go_wp2
            go_roundg k1
            case measure => have := HK1.out; omega
            case rel => exact ⟨(wrap64 (x5_1 + ((rd_L3 l0 x6_1).length : Int))), (wrap64 (x6_1 + 1)), (by first | rfl | (simp; done) | (simp [*]; done)), (by first | rfl | (simp; done) | (simp [*]; done)), H', ⟨by have := HK1.out; omega⟩, by repeat (first | exact Drawn0.refl _ | apply Drawn0.step)⟩
          · rw [if_neg c5] at H
            exact absurd H (by simp)
        · rw [if_neg c4] at H
          have c4b0 : decide (x5_1 ≤ a1) = false := decide_eq_false c4
          clear c4
          obtain rfl := Option.some.inj H
          go_wp2
          go_ret
          exact ⟨by first | rfl | (simp; done) | (simp [*]; done), by repeat (first | exact Drawn0.refl _ | apply Drawn0.step)⟩
      · rw [if_neg c3] at H
        have c3b0 : decide (x6_1 < (l0.length : Int)) = false := decide_eq_false c3
        clear c3
        obtain rfl := Option.some.inj H
        go_wp2
        go_ret
        exact ⟨by first | rfl | (simp; done) | (simp [*]; done), by repeat (first | exact Drawn0.refl _ | apply Drawn0.step)⟩
def caesuraref01_Ints.l0 : Nat → List Int → List Int → Int → Option (Bool)
  | 0, _, _, _ => none
  | k + 1, x0, x1, x5 => if x5 < (x0.length : Int) then (if 0 ≤ x5 then (if x5 < (x1.length : Int) then (if (rd x0 x5) = (rd x1 x5) then (caesuraref01_Ints.l0 k x0 x1 (wrap64 (x5 + 1))) else (some false)) else (none)) else (none)) else (some true)
def caesuraref01_Ints.f (k : Nat) (l0 : List Int) (l1 : List Int) : Option (Bool) := if (l0.length : Int) = (l1.length : Int) then (caesuraref01_Ints.l0 k l0 l1 0) else (some false)
theorem caesuraref01_Ints.mono_l : ∀ k, (∀ y0 y1 y2, LeO (caesuraref01_Ints.l0 k y0 y1 y2) (caesuraref01_Ints.l0 (k + 1) y0 y1 y2))
  | 0 => fun _ _ _ r h => by simp [caesuraref01_Ints.l0] at h
  | k + 1 => by
    have ih0 := caesuraref01_Ints.mono_l k
    · intro y0 y1 y2
      unfold caesuraref01_Ints.l0
      repeat' first
      | (with_reducible exact ih0 _ _ _)
      | (with_reducible exact LeO.refl _)
      | (with_reducible exact LeO.none _)
      | (with_reducible refine LeO.ite ?_ ?_)
      | (with_reducible refine LeO.bind ?_ (fun _ => ?_))
      | exact ih0 _ _ _
      | exact LeO.none _
      | refine LeO.ite ?_ ?_
      | refine LeO.bind ?_ (fun _ => ?_)
theorem caesuraref01_Ints.mono : ∀ a0 a1 k, LeO (caesuraref01_Ints.f k a0 a1) (caesuraref01_Ints.f (k + 1) a0 a1) := by
  intro a0 a1 k
  have ih0 := caesuraref01_Ints.mono_l k
  unfold caesuraref01_Ints.f
  repeat' first
      | (with_reducible exact ih0 _ _ _)
      | (with_reducible exact LeO.refl _)
      | (with_reducible exact LeO.none _)
      | (with_reducible refine LeO.ite ?_ ?_)
      | (with_reducible refine LeO.bind ?_ (fun _ => ?_))
      | exact ih0 _ _ _
      | exact LeO.none _
      | refine LeO.ite ?_ ?_
      | refine LeO.bind ?_ (fun _ => ?_)
set_option maxHeartbeats 8000000 in
set_option maxRecDepth 100000 in
theorem caesuraref01_Ints.calls (k : Nat) (A0 : Option Addr) (c0 : Nat) (l0 : List Int) (A1 : Option Addr) (c1 : Nat) (l1 : List Int) (r : Bool) (w : World) (hr0 : Kd.C (Kd.int .i64) w A0 l0.length l0) (hc0 : l0.length ≤ c0) (hr1 : Kd.C (Kd.int .i64) w A1 l1.length l1) (hc1 : l1.length ≤ c1) (h : caesuraref01_Ints.f k l0 l1 = some r) :
    Calls Tryz.prog 11 #[.slice A0 l0.length c0, .slice A1 l1.length c1] w fun e w' => e = .returned (.bool r) ∧ Drawn0 w w' := by
  have HR0 := Aside0.mk hr0
  have HC0 := Aside0.mk hc0
  clear hr0 hc0
  have HR1 := Aside0.mk hr1
  have HC1 := Aside0.mk hc1
  clear hr1 hc1
  have H : (if (l0.length : Int) = (l1.length : Int) then (caesuraref01_Ints.l0 k l0 l1 0) else (some false)) = some r := h
  clear h
  by_cases c3 : (l0.length : Int) = (l1.length : Int)
  · rw [if_pos c3] at H
    have c3b0 : ((l0.length : Int) == (l1.length : Int)) = true := beq_iff_eq.mpr c3
    have c3b1 : ((l0.length : Int) != (l1.length : Int)) = false := bne_eq_false_iff_eq.mpr c3
    have c3b2 : (l0.length == l1.length) = true := by first | simpa using c3 | (simp at c3 ⊢; omega)
    clear c3
    have H' := Aside0.mk H
    clear H
    go_enter Tryz.func11, Tryz.ntmps11
    go_wp2
    repeat (go_quiet (fail); try go_wp2)
    go_loopg [5] k (fun kq v5 w' => ∃ (x5_1 : Int), v5 = .int .i64 x5_1 ∧ Aside0 (caesuraref01_Ints.l0 kq l0 l1 x5_1 = some r) ∧ Aside0 (kq ≤ k) ∧ Drawn0 w w')
    case atStart => exact ⟨(0), (by first | rfl | (simp; done) | (simp [*]; done)), H', ⟨Nat.le_refl _⟩, by repeat (first | exact Drawn0.refl _ | apply Drawn0.step)⟩
    case round =>
      clear H'
      try clear c1
      try clear p2
      try clear c3
      try clear c3b0
      try clear c3b1
      try clear c3b2
      obtain ⟨x5_1, rfl, HA, HK1, ⟨m1, rfl⟩⟩ := hrel
      cases gk with
      | zero => exact absurd HA.out (by simp [caesuraref01_Ints.l0])
      | succ k1 =>
        have H := HA.out
        clear HA
        simp only [caesuraref01_Ints.l0] at H
        by_cases c4 : x5_1 < (l0.length : Int)
        · rw [if_pos c4] at H
          have c4b0 : decide (x5_1 < (l0.length : Int)) = true := decide_eq_true c4
          clear c4
          by_cases c5 : 0 ≤ x5_1
          · rw [if_pos c5] at H
            have c5b0 : decide (0 ≤ x5_1) = true := decide_eq_true c5
            clear c5
            by_cases c6 : x5_1 < (l1.length : Int)
            · rw [if_pos c6] at H
              have c6b0 : decide (x5_1 < (l1.length : Int)) = true := decide_eq_true c6
              clear c6
              by_cases c7 : (rd l0 x5_1) = (rd l1 x5_1)
              · rw [if_pos c7] at H
                have c7b0 : ((rd l0 x5_1) == (rd l1 x5_1)) = true := beq_iff_eq.mpr c7
                have c7b1 : ((rd l0 x5_1) != (rd l1 x5_1)) = false := bne_eq_false_iff_eq.mpr c7
                clear c7
                have H' := Aside0.mk H
                clear H
                have p119 : 0 ≤ (x5_1 : Int) := of_decide_eq_true (by first | (with_reducible assumption) | assumption)
                have q119 : x5_1 < (l0.length : Int) := of_decide_eq_true (by first | (with_reducible assumption) | assumption)
                obtain ⟨ad119, e119, hx119_0⟩ := Kd.at_int HR0.out x5_1 p119 q119
                cases e119
                replace p119 := eq_true p119
                replace q119 := eq_true q119
                have p120 : 0 ≤ (x5_1 : Int) := of_decide_eq_true (by first | (with_reducible assumption) | assumption)
                have q120 : x5_1 < (l1.length : Int) := of_decide_eq_true (by first | (with_reducible assumption) | assumption)
                obtain ⟨ad120, e120, hx120_0⟩ := Kd.at_int HR1.out x5_1 p120 q120
                cases e120
                replace p120 := eq_true p120
                replace q120 := eq_true q120
                go_wp2
                repeat (go_quiet (fail); try go_wp2)
                go_roundg k1
                case measure => have := HK1.out; omega
                case rel => exact ⟨(wrap64 (x5_1 + 1)), (by first | rfl | (simp; done) | (simp [*]; done)), H', ⟨by have := HK1.out; omega⟩, by repeat (first | exact Drawn0.refl _ | apply Drawn0.step)⟩
              · rw [if_neg c7] at H
                have c7b0 : ((rd l0 x5_1) == (rd l1 x5_1)) = false := beq_eq_false_iff_ne.mpr c7
                have c7b1 : ((rd l0 x5_1) != (rd l1 x5_1)) = true := bne_iff_ne.mpr c7
                obtain rfl := Option.some.inj H
                have p119 : 0 ≤ (x5_1 : Int) := of_decide_eq_true (by first | (with_reducible assumption) | assumption)
                have q119 : x5_1 < (l0.length : Int) := of_decide_eq_true (by first | (with_reducible assumption) | assumption)
                obtain ⟨ad119, e119, hx119_0⟩ := Kd.at_int HR0.out x5_1 p119 q119
                cases e119
                replace p119 := eq_true p119
                replace q119 := eq_true q119
                have p120 : 0 ≤ (x5_1 : Int) := of_decide_eq_true (by first | (with_reducible assumption) | assumption)
                have q120 : x5_1 < (l1.length : Int) := of_decide_eq_true (by first | (with_reducible assumption) | assumption)
                obtain ⟨ad120, e120, hx120_0⟩ := Kd.at_int HR1.out x5_1 p120 q120
                cases e120
                replace p120 := eq_true p120
                replace q120 := eq_true q120
                go_wp2
                repeat (go_quiet (fail); try go_wp2)
                go_ret
                exact ⟨by first | rfl | (simp; done) | (simp [*]; done), by repeat (first | exact Drawn0.refl _ | apply Drawn0.step)⟩
            · rw [if_neg c6] at H
              exact absurd H (by simp)
          · rw [if_neg c5] at H
            exact absurd H (by simp)
        · rw [if_neg c4] at H
          have c4b0 : decide (x5_1 < (l0.length : Int)) = false := decide_eq_false c4
          clear c4
          obtain rfl := Option.some.inj H
          go_wp2
          repeat (go_quiet (fail); try go_wp2)
          go_ret
          exact ⟨by first | rfl | (simp; done) | (simp [*]; done), by repeat (first | exact Drawn0.refl _ | apply Drawn0.step)⟩
  · rw [if_neg c3] at H
    have c3b0 : ((l0.length : Int) == (l1.length : Int)) = false := beq_eq_false_iff_ne.mpr c3
    have c3b1 : ((l0.length : Int) != (l1.length : Int)) = true := bne_iff_ne.mpr c3
    have c3b2 : (l0.length == l1.length) = false := by first | simpa using c3 | (simp at c3 ⊢; omega)
    obtain rfl := Option.some.inj H
    go_enter Tryz.func11, Tryz.ntmps11
    go_wp2
    repeat (go_quiet (fail); try go_wp2)
    go_ret
    exact ⟨by first | rfl | (simp; done) | (simp [*]; done), by repeat (first | exact Drawn0.refl _ | apply Drawn0.step)⟩
end Go.Proofs.YtippkbgeeeimjaaGreat.A
/- caesuraref01.put: a number among rising ones, once. -/
namespace Go.Proofs.YtippkbgeeeimjaaGreat.L
open Go.RowKit Go.Proofs.YtippkbgeeeimjaaGreatW.PrintWords Go.Proofs.YtippkbgeeeimjaaGreatW.PrintLast Go.Proofs.YtippkbgeeeimjaaGreatW.PrintMore Go.Proofs.YtippkbgeeeimjaaGreat.A
set_option linter.unusedVariables false
set_option linter.unusedSimpArgs false
def putF : List Int → Int → List Int
  | [], n => [n]
  | x :: t, n => if x < n then x :: putF t n else if x = n then x :: t else n :: x :: t
theorem putF_at : ∀ (l : List Int) (n : Int) (k : Nat), k ≤ l.length → (∀ i, i < k → l.getD i 0 < n) → (k < l.length → ¬ l.getD k 0 < n) → putF l n = if k < l.length ∧ l.getD k 0 = n then l else l.take k ++ [n] ++ l.drop k
  | [], n, k, hk, _, _ => by
    obtain rfl : k = 0 := by simpa using hk
    simp [putF]
  | x :: t, n, 0, hk, _, h2 => by
    have hx : ¬ x < n := by simpa using h2 (by simp)
    unfold putF
    rw [if_neg hx]
    by_cases e : x = n
    · rw [if_pos e, if_pos ⟨by simp, by simpa using e⟩]
    · rw [if_neg e, if_neg (fun q => e (by simpa using q.2))]
      simp
  | x :: t, n, k + 1, hk, h1, h2 => by
    have hx : x < n := by simpa using h1 0 (by omega)
    have ih := putF_at t n k (by simpa using hk) (fun i hi => by simpa using h1 (i + 1) (by omega)) (fun hl => by simpa using h2 (by simpa using hl))
    unfold putF
    rw [if_pos hx, ih]
    by_cases e : k < t.length ∧ t.getD k 0 = n
    · rw [if_pos e, if_pos ⟨by simpa using e.1, by simpa using e.2⟩]
    · rw [if_neg e, if_neg (fun q => e ⟨by simpa using q.1, by simpa using q.2⟩)]
      simp
theorem putF_len (l : List Int) (n : Int) : (putF l n).length ≤ l.length + 1 := by
  induction l with
  | nil => simp [putF]
  | cons x t ih =>
    unfold putF
    split
    · simp; omega
    · split <;> simp
theorem R_empty (W : World) (B : Nat) (h : B ≤ W.heap.size) : Kd.R (Kd.int .i64) 3 (W.alloc (.cells #[] 3)) B (fun _ => True) (.slice (some ⟨W.heap.size, 0, none⟩) 0 0) [] :=
  ⟨fun _ _ => trivial, [], ⟨by simp, .inr ⟨W.heap.size, 0, #[], rfl, h, blk_new _ _, Nat.le_refl _, Nat.zero_le _, by simp, by simp⟩⟩, Reps.none _ _⟩
theorem C_box {α : Type} {d : Kd α} {W : World} {g t : Nat} {inner : List Value} {xs : List α} (hb : W.heap[g]? = some (.cells inner.toArray t (0, 0))) (hr : Reps (d.K W) d.sz xs inner) (hm : xs.length ≤ 9223372036854775807) : d.C W (some ⟨g, 0, none⟩) xs.length xs := by
  refine ⟨rfl, hm, fun _ => ⟨_, rfl, fun j p hp => ⟨(inner.drop (j * d.sz)).take d.sz, d.K_len (hr.2 j p hp), hr.2 j p hp, fun i u hu => ?_⟩⟩⟩
  rw [add_plain, blk_cell hb]
  rw [List.getElem?_take] at hu
  split at hu
  · rw [List.getElem?_drop] at hu
    simpa using hu
  · cases hu
theorem C_ints {W : World} {g t : Nat} {xs : List Int} (hb : W.heap[g]? = some (.cells (xs.map (Value.int .i64)).toArray t (0, 0))) (hm : xs.length ≤ 9223372036854775807) : Kd.C (Kd.int .i64) W (some ⟨g, 0, none⟩) xs.length xs :=
  C_box hb (Kd.reps_scalar xs) hm
/-- The row's block is not g. -/
theorem R_apart {e base g : Nat} {W : World} {v : Value} {xs : List Int} (h : Kd.R (Kd.int .i64) e W base (fun _ => True) v xs) (hg : ∀ k, v.ownBlock = some k → k ≠ g) : Kd.R (Kd.int .i64) e W base (fun k => k ≠ g) v xs := by
  obtain ⟨_, inner, ho, hr⟩ := h
  exact ⟨hg, inner, ho, hr.imp_ (fun _ _ hp => hp)⟩
theorem info3 : (Tryz.prog.info? 3).map (fun i => (i.zero, i.size, i.bytes)) = some (some (.int .i64 0), 1, 8) := by kernel_rfl
set_option maxHeartbeats 8000000 in
set_option maxRecDepth 100000 in
theorem put_new (A : Option Addr) (c : Nat) (l : List Int) (n : Int) (w : World) (hr : Kd.C (Kd.int .i64) w A l.length l) (hc : l.length ≤ c) (hz : l.length ≤ 100000) :
    Calls Tryz.prog 50 #[.slice A l.length c, .int .i64 n] w fun e w' => ∃ v, e = .returned v ∧ Below w.heap.size w w' ∧ ((v = .slice A l.length c ∧ putF l n = l) ∨ Kd.R (Kd.int .i64) 3 w' w.heap.size (fun _ => True) v (putF l n)) := by
  have HR := Aside0.mk hr
  clear hr
  go_enter Tryz.func50, Tryz.ntmps50
  go_wp2_with fail
  go_loop [5] (fun u => ∃ j : Nat, j ≤ l.length ∧ u = .int .i64 j ∧ Aside0 (∀ i, i < j → l.getD i 0 < n)) (fun u => l.length - (intOf u).toNat)
  case atStart => exact ⟨0, Nat.zero_le _, rfl, ⟨fun i hi => by omega⟩⟩
  case round =>
    obtain ⟨j, hj, rfl, HN⟩ := hrel
    have fin : (j < l.length → ¬ l.getD j 0 < n) → putF l n = if j < l.length ∧ l.getD j 0 = n then l else l.take j ++ [n] ++ l.drop j := putF_at l n j hj HN.out
    have HF := Aside0.mk fin
    clear fin
    by_cases hlt : j < l.length
    · have b1 : decide ((j : Int) < (l.length : Int)) = true := decide_eq_true (by omega)
      have b2 : decide (j < l.length) = true := decide_eq_true hlt
      have q0 : 0 ≤ (j : Int) := by omega
      have q1 : (j : Int) < (l.length : Int) := by omega
      have w2 : IntKind.i64.wrap ((j : Int) + 1) = (j : Int) + 1 := IntWalk.i64_in _ (by omega)
      obtain ⟨ad, rfl, k0⟩ := Kd.at_int HR.out (j : Int) (by omega) (by omega)
      have hrd : rd l (j : Int) = l.getD j 0 := by unfold rd; rw [Int.toNat_natCast]
      rw [hrd, Int.toNat_natCast] at k0
      clear hrd
      obtain ⟨x, hx⟩ : ∃ x, x = l.getD j 0 := ⟨_, rfl⟩
      have HX := Aside0.mk hx
      rw [← hx] at k0
      clear hx
      by_cases hxn : x < n
      · have b3 : decide (x < n) = true := decide_eq_true hxn
        clear hxn
        go_wp2_with fail
        go_round
        case rel => exact ⟨j + 1, hlt, by go_num, ⟨fun i hi => by
          rcases Nat.lt_or_ge i j with h | h
          · exact HN.out i h
          · obtain rfl : i = j := by omega
            rw [← HX.out]
            exact of_decide_eq_true b3⟩⟩
        case measure => simp [intOf]; omega
      · have b3 : decide (x < n) = false := decide_eq_false hxn
        by_cases hxe : x = n
        · have b4 : (x == n) = true := beq_iff_eq.2 hxe
          have hput : putF l n = l := by rw [HF.out (fun _ => by rw [← HX.out]; exact hxn), if_pos ⟨hlt, by rw [← HX.out]; exact hxe⟩]
          have HP := Aside0.mk hput
          clear hxn hxe hput
          go_wp2_with fail
          go_ret
          exact ⟨_, rfl, Below.refl _ _, .inl ⟨rfl, HP.out⟩⟩
        · have b4 : (x == n) = false := beq_eq_false_iff_ne.2 hxe
          have hput : putF l n = l.take j ++ [n] ++ l.drop j := by rw [HF.out (fun _ => by rw [← HX.out]; exact hxn), if_neg (fun q => hxe (by rw [HX.out]; exact q.2))]
          have HP := Aside0.mk hput
          clear hxn hxe hput HF
          go_wp2_with fail
          obtain ⟨i3, hi3, _, hsz3, _⟩ := info_parts info3
          obtain ⟨kk, hkk⟩ : ∃ kk, kk = j := ⟨_, rfl⟩
          have hkl : kk ≤ l.length := by omega
          obtain ⟨hcutT, hAT, _⟩ := print_take_int (P := Tryz.prog) (k := .i64) 32 3 Tryz.underlying32 hi3 hsz3 (some ad) c l (kk : Int) (by omega) (by omega) hc
          obtain ⟨A2, hcutD, hAD, _⟩ := print_drop_of (P := Tryz.prog) (Value.int .i64) 0 32 3 .i64 Tryz.underlying32 hi3 hsz3 (some ad) c l (kk : Int) (by omega) (by omega) hc
          rw [Int.toNat_natCast] at hcutT hAT hcutD hAD
          have lt_ : (l.take kk).length = kk := List.length_take_of_le hkl
          have hdC := Kd.C_of_reads (h1 := fun _ => rfl) (hAD w (Kd.reads_of_C HR.out))
          obtain ⟨dl, hdl⟩ : ∃ dl, dl = (l.drop kk).length := ⟨_, rfl⟩
          have hdl2 : dl ≤ l.length := by rw [hdl, List.length_drop]; omega
          rw [lt_] at hcutT
          rw [← hdl] at hcutD hdC
          have htC := Kd.C_of_reads (h1 := fun _ => rfl) (hAT w (Kd.reads_of_C HR.out))
          rw [lt_] at htC
          have HT := Aside0.mk htC
          have HD := Aside0.mk hdC
          have QQ : Aside0 (Below w.heap.size w w.drew) := ⟨below_drew (Below.refl _ _)⟩
          rw [← hkk] at HP ⊢
          clear hkk hAT hAD lt_ hdC htC hi3 hsz3 hdl
          refine start_ (n := 13) (S := fun w' => True) (ds := []) #[false, false, false, false, false, false, false, false, false, false, false, false, false] (by kernel_rfl) rfl rfl trivial (fun hHeld => ?_)
          generalize w.drew = Wd at QQ hHeld ⊢
          refine pure_ (i := 1) (N := some 34) (v := ?_) (a' := ?_) #[false, true, false, false, false, false, false, false, false, false, false, false, false] rfl rfl (by kernel_rfl) (fun _ _ _ h => h) (Or.inl ⟨by rfl, ?_⟩) ?_ ?_
          rotate_left
          · intro w'
            go_simp
            with_reducible rfl
          rotate_left
          · simp only [Act.put, List.setIfInBounds_toArray, List.set_cons_zero, List.set_cons_succ, i64_w, i32_w]
            rfl
          refine pure_ (i := 2) (N := some 35) (v := ?_) (a' := ?_) #[false, true, true, false, false, false, false, false, false, false, false, false, false] rfl rfl (by kernel_rfl) (fun _ _ _ h => h) (Or.inl ⟨by rfl, ?_⟩) ?_ ?_
          rotate_left
          · intro w'
            go_simp
            with_reducible rfl
          rotate_left
          · simp only [Act.put, List.setIfInBounds_toArray, List.set_cons_zero, List.set_cons_succ, i64_w, i32_w]
            rfl
          refine pure_ (i := 3) (N := some 36) (v := ?_) (a' := ?_) #[false, true, true, true, false, false, false, false, false, false, false, false, false] rfl rfl (by kernel_rfl) (fun _ _ _ h => h) (Or.inl ⟨by rfl, ?_⟩) ?_ ?_
          rotate_left
          · intro w'
            go_simp
            with_reducible rfl
          rotate_left
          · simp only [Act.put, List.setIfInBounds_toArray, List.set_cons_zero, List.set_cons_succ, i64_w, i32_w]
            rfl
          refine pure_ (i := 5) (N := some 38) (v := ?_) (a' := ?_) #[false, true, true, true, false, true, false, false, false, false, false, false, false] rfl rfl (by kernel_rfl) (fun _ _ _ h => h) (Or.inl ⟨by rfl, ?_⟩) ?_ ?_
          rotate_left
          · intro w'
            go_simp
            with_reducible rfl
          rotate_left
          · simp only [Act.put, List.setIfInBounds_toArray, List.set_cons_zero, List.set_cons_succ, i64_w, i32_w]
            rfl
          refine pure_ (i := 8) (N := some 41) (v := ?_) (a' := ?_) #[false, true, true, true, false, true, false, false, true, false, false, false, false] rfl rfl (by kernel_rfl) (fun _ _ _ h => h) (Or.inl ⟨by rfl, ?_⟩) ?_ ?_
          rotate_left
          · intro w'
            go_simp
            with_reducible rfl
          rotate_left
          · simp only [Act.put, List.setIfInBounds_toArray, List.set_cons_zero, List.set_cons_succ, i64_w, i32_w]
            rfl
          refine pure_ (i := 9) (N := some 42) (v := ?_) (a' := ?_) #[false, true, true, true, false, true, false, false, true, true, false, false, false] rfl rfl (by kernel_rfl) (fun _ _ _ h => h) (Or.inl ⟨by rfl, ?_⟩) ?_ ?_
          rotate_left
          · intro w'
            go_simp
            with_reducible rfl
          rotate_left
          · simp only [Act.put, List.setIfInBounds_toArray, List.set_cons_zero, List.set_cons_succ, i64_w, i32_w]
            rfl
          refine pure_ (i := 10) (N := some 43) (v := ?_) (a' := ?_) #[false, true, true, true, false, true, false, false, true, true, true, false, false] rfl rfl (by kernel_rfl) (fun _ _ _ h => h) (Or.inl ⟨by rfl, ?_⟩) ?_ ?_
          rotate_left
          · intro w'
            go_simp
            with_reducible rfl
          rotate_left
          · simp only [Act.put, List.setIfInBounds_toArray, List.set_cons_zero, List.set_cons_succ, i64_w, i32_w]
            rfl
          refine join_ (σ := Nat × Value × Nat) 3 #[true, true, true, true, true, true, true, false, true, true, true, false, false] (fun s_ => [(33, .slice (some ⟨s_.1, 0, none⟩) 0 0), (37, s_.2.1), (39, .slice (some ⟨s_.2.2, 0, none⟩) 1 1)]) (fun s_ w' => Below w.heap.size w w' ∧ Kd.R (Kd.int .i64) 3 w' w.heap.size (fun k => k ≠ s_.2.2) s_.2.1 (l.take kk) ∧ w'.heap[s_.2.2]? = some (.cells #[.int .i64 n] 3 (0, 0)) ∧ w.heap.size ≤ s_.2.2) ?_ ?_
          rotate_left
          · intro hCont
            refine two_ (i := 0) (j := 6) (Ni := some 33) (Nj := some 39) #[true, true, true, true, false, true, false, false, true, true, true, false, false] #[false, true, true, true, false, true, true, false, true, true, true, false, false] rfl rfl rfl rfl (by kernel_rfl) (by decide) (by decide) (fun K hK => ?_) (fun K hK => ?_)
            · skip
              refine value_ (w1 := ?_) (v := ?_) (by rfl) rfl ?_ ?_
              rotate_left 2
              · go_simp
                constructor
                · rfl
                · rfl
              have r_ := R_empty Wd w.heap.size QQ.out.size
              have m_ := below_alloc QQ.out (.cells #[] 3)
              obtain ⟨g0, hz_⟩ : ∃ z_, z_ = Wd.heap.size := ⟨_, rfl⟩
              rw [← hz_] at r_ ⊢
              generalize Wd.alloc (.cells #[] 3) = We1 at m_ r_ ⊢
              clear hz_ QQ
              have QQ := Aside0.mk m_
              have R0 := Aside0.mk r_
              clear m_ r_
              refine hK.out _ _ trivial (fun hHeld => ?_)
              clear hK K
              refine norm_ (a' := ?_) ?_ ?_
              rotate_left
              · show Act.put _ (some 33) _ = _
                simp only [Act.put, List.setIfInBounds_toArray, List.set_cons_zero, List.set_cons_succ, i64_w, i32_w]
                rfl
              refine two_ (i := 4) (j := 6) (Ni := some 37) (Nj := some 39) #[true, true, true, true, true, true, false, false, true, true, true, false, false] #[true, true, true, true, false, true, true, false, true, true, true, false, false] rfl rfl rfl rfl (by kernel_rfl) (by decide) (by decide) (fun K hK => ?_) (fun K hK => ?_)
              · skip
                refine Kd.R_append_rows_step (Kd.int .i64) (Rr := (Kd.int .i64).K We1) (w0 := w) w.heap.size (by rfl) (.tmp 33) (.tmp 36) 32 3 (.int .i64 0) 8 rfl Tryz.underlying32 info3 rfl (by decide) (by omega) (.slice (some ⟨g0, 0, none⟩) 0 0) [] (l.take kk) (some ad) kk c (fun _ => True) (fun _ => False) rfl rfl R0.out (Kd.C_below HT.out QQ.out) (fun x cs hx => hx) (fun k hk => hk.elim) (fun _ _ => trivial) QQ.out QQ.out.size (by simp only [List.length_nil]; omega) ?_
                intro v37 We2 r_ m_ hg_ hat_
                rw [List.nil_append] at r_
                clear QQ R0 hg_ hat_
                have QQ := Aside0.mk m_
                have R0 := Aside0.mk r_
                clear m_ r_
                refine hK.out _ _ trivial (fun hHeld => ?_)
                clear hK K
                refine norm_ (a' := ?_) ?_ ?_
                rotate_left
                · show Act.put _ (some 37) _ = _
                  simp only [Act.put, List.setIfInBounds_toArray, List.set_cons_zero, List.set_cons_succ, i64_w, i32_w]
                  rfl
                refine one_ (i := 6) (N := some 39) #[true, true, true, true, true, true, true, false, true, true, true, false, false] rfl rfl (by kernel_rfl) (by decide) (fun K hK => ?_)
                refine value_ (w1 := ?_) (v := ?_) (by rfl) rfl ?_ ?_
                rotate_left 2
                · go_simp
                  constructor
                  · rfl
                  · rfl
                have m_ := below_alloc QQ.out (.cells #[.int .i64 n] 3)
                have b_ := blk_new We2 (.cells #[.int .i64 n] 3)
                have lt_ := Kd.R_lt R0.out
                have r_ := Kd.R_alloc R0.out (.cells #[.int .i64 n] 3)
                clear R0
                have le_ := QQ.out.size
                obtain ⟨g6, hz_⟩ : ∃ z_, z_ = We2.heap.size := ⟨_, rfl⟩
                rw [← hz_] at b_ le_ lt_ ⊢
                generalize We2.alloc (.cells #[.int .i64 n] 3) = We3 at m_ b_ r_ ⊢
                clear hz_ QQ
                have QQ := Aside0.mk m_
                have B6 := Aside0.mk b_
                have L6 := Aside0.mk le_
                have R0 := Aside0.mk (R_apart r_ (g := g6) (by intro k hk; have := lt_ k hk; omega))
                clear m_ b_ le_ r_ lt_
                refine hK.out _ _ trivial (fun hHeld => ?_)
                clear hK K
                refine norm_ (a' := ?_) ?_ ?_
                rotate_left
                · show Act.put _ (some 39) _ = _
                  simp only [Act.put, List.setIfInBounds_toArray, List.set_cons_zero, List.set_cons_succ, i64_w, i32_w]
                  rfl
                exact norm_ (by simp only [putAll, Act.put, List.setIfInBounds_toArray, List.set_cons_zero, List.set_cons_succ]) (hCont (g0, v37, g6) _ ⟨QQ.out, R0.out, B6.out, L6.out⟩)
              · skip
                refine value_ (w1 := ?_) (v := ?_) (by rfl) rfl ?_ ?_
                rotate_left 2
                · go_simp
                  constructor
                  · rfl
                  · rfl
                have m_ := below_alloc QQ.out (.cells #[.int .i64 n] 3)
                have b_ := blk_new We1 (.cells #[.int .i64 n] 3)
                have lt_ := Kd.R_lt R0.out
                have r_ := Kd.R_alloc R0.out (.cells #[.int .i64 n] 3)
                clear R0
                have le_ := QQ.out.size
                obtain ⟨g6, hz_⟩ : ∃ z_, z_ = We1.heap.size := ⟨_, rfl⟩
                rw [← hz_] at b_ le_ lt_ ⊢
                generalize We1.alloc (.cells #[.int .i64 n] 3) = We2 at m_ b_ r_ ⊢
                clear hz_ QQ
                have QQ := Aside0.mk m_
                have B6 := Aside0.mk b_
                have L6 := Aside0.mk le_
                have R0 := Aside0.mk (R_apart r_ (g := g6) (by intro k hk; have := lt_ k hk; omega))
                clear m_ b_ le_ r_ lt_
                refine hK.out _ _ trivial (fun hHeld => ?_)
                clear hK K
                refine norm_ (a' := ?_) ?_ ?_
                rotate_left
                · show Act.put _ (some 39) _ = _
                  simp only [Act.put, List.setIfInBounds_toArray, List.set_cons_zero, List.set_cons_succ, i64_w, i32_w]
                  rfl
                refine one_ (i := 4) (N := some 37) #[true, true, true, true, true, true, true, false, true, true, true, false, false] rfl rfl (by kernel_rfl) (by decide) (fun K hK => ?_)
                refine Kd.R_append_rows_step (Kd.int .i64) (Rr := (Kd.int .i64).K We2) (w0 := w) w.heap.size (by rfl) (.tmp 33) (.tmp 36) 32 3 (.int .i64 0) 8 rfl Tryz.underlying32 info3 rfl (by decide) (by omega) (.slice (some ⟨g0, 0, none⟩) 0 0) [] (l.take kk) (some ad) kk c (fun k => k ≠ g6) (fun _ => False) rfl rfl R0.out (Kd.C_below HT.out QQ.out) (fun x cs hx => hx) (fun k hk => hk.elim) (fun k hk => by have := blk_lt B6.out; omega) QQ.out QQ.out.size (by simp only [List.length_nil]; omega) ?_
                intro v37 We3 r_ m_ hg_ hat_
                have b_ := blk_grown B6.out hg_ (by intro he; exact R0.out.1 _ he.symm rfl)
                clear B6
                have B6 := Aside0.mk b_
                clear b_
                rw [List.nil_append] at r_
                clear QQ R0 hg_ hat_
                have QQ := Aside0.mk m_
                have R0 := Aside0.mk r_
                clear m_ r_
                refine hK.out _ _ trivial (fun hHeld => ?_)
                clear hK K
                refine norm_ (a' := ?_) ?_ ?_
                rotate_left
                · show Act.put _ (some 37) _ = _
                  simp only [Act.put, List.setIfInBounds_toArray, List.set_cons_zero, List.set_cons_succ, i64_w, i32_w]
                  rfl
                exact norm_ (by simp only [putAll, Act.put, List.setIfInBounds_toArray, List.set_cons_zero, List.set_cons_succ]) (hCont (g0, v37, g6) _ ⟨QQ.out, R0.out, B6.out, L6.out⟩)
            · skip
              refine value_ (w1 := ?_) (v := ?_) (by rfl) rfl ?_ ?_
              rotate_left 2
              · go_simp
                constructor
                · rfl
                · rfl
              have m_ := below_alloc QQ.out (.cells #[.int .i64 n] 3)
              have b_ := blk_new Wd (.cells #[.int .i64 n] 3)
              have le_ := QQ.out.size
              obtain ⟨g6, hz_⟩ : ∃ z_, z_ = Wd.heap.size := ⟨_, rfl⟩
              rw [← hz_] at b_ le_ ⊢
              generalize Wd.alloc (.cells #[.int .i64 n] 3) = We1 at m_ b_ ⊢
              clear hz_ QQ
              have QQ := Aside0.mk m_
              have B6 := Aside0.mk b_
              have L6 := Aside0.mk le_
              clear m_ b_ le_
              refine hK.out _ _ trivial (fun hHeld => ?_)
              clear hK K
              refine norm_ (a' := ?_) ?_ ?_
              rotate_left
              · show Act.put _ (some 39) _ = _
                simp only [Act.put, List.setIfInBounds_toArray, List.set_cons_zero, List.set_cons_succ, i64_w, i32_w]
                rfl
              refine one_ (i := 0) (N := some 33) #[true, true, true, true, false, true, true, false, true, true, true, false, false] rfl rfl (by kernel_rfl) (by decide) (fun K hK => ?_)
              refine value_ (w1 := ?_) (v := ?_) (by rfl) rfl ?_ ?_
              rotate_left 2
              · go_simp
                constructor
                · rfl
                · rfl
              have r_ := R_empty We1 w.heap.size QQ.out.size
              have m_ := below_alloc QQ.out (.cells #[] 3)
              have b_ := blk_alloc B6.out (.cells #[] 3)
              have ne_ : g6 ≠ We1.heap.size := by have := blk_lt B6.out; omega
              clear B6
              obtain ⟨g0, hz_⟩ : ∃ z_, z_ = We1.heap.size := ⟨_, rfl⟩
              rw [← hz_] at r_ ne_ ⊢
              generalize We1.alloc (.cells #[] 3) = We2 at m_ r_ b_ ⊢
              clear hz_ QQ
              have QQ := Aside0.mk m_
              have B6 := Aside0.mk b_
              have R0 := Aside0.mk (R_apart r_ (g := g6) (by intro k hk; simp [Value.ownBlock] at hk; omega))
              clear m_ r_ b_ ne_
              refine hK.out _ _ trivial (fun hHeld => ?_)
              clear hK K
              refine norm_ (a' := ?_) ?_ ?_
              rotate_left
              · show Act.put _ (some 33) _ = _
                simp only [Act.put, List.setIfInBounds_toArray, List.set_cons_zero, List.set_cons_succ, i64_w, i32_w]
                rfl
              refine one_ (i := 4) (N := some 37) #[true, true, true, true, true, true, true, false, true, true, true, false, false] rfl rfl (by kernel_rfl) (by decide) (fun K hK => ?_)
              refine Kd.R_append_rows_step (Kd.int .i64) (Rr := (Kd.int .i64).K We2) (w0 := w) w.heap.size (by rfl) (.tmp 33) (.tmp 36) 32 3 (.int .i64 0) 8 rfl Tryz.underlying32 info3 rfl (by decide) (by omega) (.slice (some ⟨g0, 0, none⟩) 0 0) [] (l.take kk) (some ad) kk c (fun k => k ≠ g6) (fun _ => False) rfl rfl R0.out (Kd.C_below HT.out QQ.out) (fun x cs hx => hx) (fun k hk => hk.elim) (fun k hk => by have := blk_lt B6.out; omega) QQ.out QQ.out.size (by simp only [List.length_nil]; omega) ?_
              intro v37 We3 r_ m_ hg_ hat_
              have b_ := blk_grown B6.out hg_ (by intro he; exact R0.out.1 _ he.symm rfl)
              clear B6
              have B6 := Aside0.mk b_
              clear b_
              rw [List.nil_append] at r_
              clear QQ R0 hg_ hat_
              have QQ := Aside0.mk m_
              have R0 := Aside0.mk r_
              clear m_ r_
              refine hK.out _ _ trivial (fun hHeld => ?_)
              clear hK K
              refine norm_ (a' := ?_) ?_ ?_
              rotate_left
              · show Act.put _ (some 37) _ = _
                simp only [Act.put, List.setIfInBounds_toArray, List.set_cons_zero, List.set_cons_succ, i64_w, i32_w]
                rfl
              exact norm_ (by simp only [putAll, Act.put, List.setIfInBounds_toArray, List.set_cons_zero, List.set_cons_succ]) (hCont (g0, v37, g6) _ ⟨QQ.out, R0.out, B6.out, L6.out⟩)
          rintro ⟨g0, v37, g6⟩ Wf ⟨qq_, r_, b_, le_⟩
          clear QQ
          have QQ := Aside0.mk qq_
          have R0 : Aside0 (Kd.R (Kd.int .i64) 3 Wf w.heap.size (fun k => k ≠ g6) v37 (l.take kk)) := ⟨r_⟩
          have B6 : Aside0 (Wf.heap[g6]? = some (.cells #[.int .i64 n] 3 (0, 0))) := ⟨b_⟩
          have L6 : Aside0 (w.heap.size ≤ g6) := ⟨le_⟩
          clear qq_ r_ b_ le_
          have hHeld : True := trivial
          refine norm_ (a' := ?_) ?_ ?_
          rotate_left
          · simp only [putAll, Act.put, List.setIfInBounds_toArray, List.set_cons_zero, List.set_cons_succ]
            rfl
          refine one_ (i := 7) (N := some 40) #[true, true, true, true, true, true, true, true, true, true, true, false, false] rfl rfl (by kernel_rfl) (by decide) (fun K hK => ?_)
          refine Kd.R_append_rows_step (Kd.int .i64) (Rr := (Kd.int .i64).K Wf) (w0 := w) w.heap.size (by rfl) (.tmp 37) (.tmp 39) 32 3 (.int .i64 0) 8 rfl Tryz.underlying32 info3 rfl (by decide) (by omega) v37 (l.take kk) [n] (some ⟨g6, 0, none⟩) 1 1 (fun k => k ≠ g6) (fun _ => False) rfl rfl R0.out (C_ints (xs := [n]) B6.out (by simp)) (fun x cs hx => hx) (fun k hk => hk.elim) (fun k hk => by have := blk_lt B6.out; omega) QQ.out QQ.out.size (by simp only [List.length_take]; omega) ?_
          intro v40 We9 r_ m_ hg_ hat_
          clear QQ R0 hg_ hat_ B6
          have QQ := Aside0.mk m_
          have R0 := Aside0.mk (Kd.R_mono r_ (ok' := fun _ => True) (fun _ _ => trivial))
          clear m_ r_
          refine hK.out _ _ trivial (fun hHeld => ?_)
          clear hK K
          refine norm_ (a' := ?_) ?_ ?_
          rotate_left
          · show Act.put _ (some 40) _ = _
            simp only [Act.put, List.setIfInBounds_toArray, List.set_cons_zero, List.set_cons_succ, i64_w, i32_w]
            rfl
          refine one_ (i := 11) (N := some 44) #[true, true, true, true, true, true, true, true, true, true, true, true, false] rfl rfl (by kernel_rfl) (by decide) (fun K hK => ?_)
          refine Kd.R_append_rows_step (Kd.int .i64) (Rr := (Kd.int .i64).K We9) (w0 := w) w.heap.size (by rfl) (.tmp 40) (.tmp 43) 32 3 (.int .i64 0) 8 rfl Tryz.underlying32 info3 rfl (by decide) (by omega) v40 (l.take kk ++ [n]) (l.drop kk) A2 dl (c - kk) (fun _ => True) (fun _ => False) rfl rfl R0.out (Kd.C_below HD.out QQ.out) (fun x cs hx => hx) (fun k hk => hk.elim) (fun _ _ => trivial) QQ.out QQ.out.size (by simp only [List.length_append, List.length_take, List.length_singleton]; omega) ?_
          intro v44 We10 r_ m_ hg_ hat_
          clear QQ R0 hg_ hat_
          have QQ := Aside0.mk m_
          have R0 := Aside0.mk r_
          clear m_ r_
          refine hK.out _ _ trivial (fun hHeld => ?_)
          clear hK K
          refine norm_ (a' := ?_) ?_ ?_
          rotate_left
          · show Act.put _ (some 44) _ = _
            simp only [Act.put, List.setIfInBounds_toArray, List.set_cons_zero, List.set_cons_succ, i64_w, i32_w]
            rfl
          refine pure_ (i := 12) (N := some 4) (v := ?_) (a' := ?_) #[true, true, true, true, true, true, true, true, true, true, true, true, true] rfl rfl (by kernel_rfl) (fun _ _ _ h => h) (Or.inl ⟨by rfl, ?_⟩) ?_ ?_
          rotate_left
          · intro w'
            go_simp
            with_reducible rfl
          rotate_left
          · simp only [Act.put, List.setIfInBounds_toArray, List.set_cons_zero, List.set_cons_succ, i64_w, i32_w]
            rfl
          refine done_ (by kernel_rfl) ?_
          go_wp2_with fail
          go_ret
          exact ⟨_, rfl, QQ.out, .inr (by rw [HP.out]; exact R0.out)⟩
    · have b1 : decide ((j : Int) < (l.length : Int)) = false := decide_eq_false (by omega)
      have b2 : decide (j < l.length) = false := decide_eq_false hlt
      have q0 : 0 ≤ (j : Int) := by omega
      have hput : putF l n = l.take j ++ [n] ++ l.drop j := by rw [HF.out (fun h => absurd h hlt), if_neg (fun q => hlt q.1)]
      have HP := Aside0.mk hput
      clear hput HF
      go_wp2_with fail
      obtain ⟨i3, hi3, _, hsz3, _⟩ := info_parts info3
      obtain ⟨kk, hkk⟩ : ∃ kk, kk = j := ⟨_, rfl⟩
      have hkl : kk ≤ l.length := by omega
      obtain ⟨hcutT, hAT, _⟩ := print_take_int (P := Tryz.prog) (k := .i64) 32 3 Tryz.underlying32 hi3 hsz3 A c l (kk : Int) (by omega) (by omega) hc
      obtain ⟨A2, hcutD, hAD, _⟩ := print_drop_of (P := Tryz.prog) (Value.int .i64) 0 32 3 .i64 Tryz.underlying32 hi3 hsz3 A c l (kk : Int) (by omega) (by omega) hc
      rw [Int.toNat_natCast] at hcutT hAT hcutD hAD
      have lt_ : (l.take kk).length = kk := List.length_take_of_le hkl
      have hdC := Kd.C_of_reads (h1 := fun _ => rfl) (hAD w (Kd.reads_of_C HR.out))
      obtain ⟨dl, hdl⟩ : ∃ dl, dl = (l.drop kk).length := ⟨_, rfl⟩
      have hdl2 : dl ≤ l.length := by rw [hdl, List.length_drop]; omega
      rw [lt_] at hcutT
      rw [← hdl] at hcutD hdC
      have htC := Kd.C_of_reads (h1 := fun _ => rfl) (hAT w (Kd.reads_of_C HR.out))
      rw [lt_] at htC
      have HT := Aside0.mk htC
      have HD := Aside0.mk hdC
      have QQ : Aside0 (Below w.heap.size w w.drew) := ⟨below_drew (Below.refl _ _)⟩
      rw [← hkk] at HP ⊢
      clear hkk hAT hAD lt_ hdC htC hi3 hsz3 hdl
      refine start_ (n := 13) (S := fun w' => True) (ds := []) #[false, false, false, false, false, false, false, false, false, false, false, false, false] (by kernel_rfl) rfl rfl trivial (fun hHeld => ?_)
      generalize w.drew = Wd at QQ hHeld ⊢
      refine pure_ (i := 1) (N := some 34) (v := ?_) (a' := ?_) #[false, true, false, false, false, false, false, false, false, false, false, false, false] rfl rfl (by kernel_rfl) (fun _ _ _ h => h) (Or.inl ⟨by rfl, ?_⟩) ?_ ?_
      rotate_left
      · intro w'
        go_simp
        with_reducible rfl
      rotate_left
      · simp only [Act.put, List.setIfInBounds_toArray, List.set_cons_zero, List.set_cons_succ, i64_w, i32_w]
        rfl
      refine pure_ (i := 2) (N := some 35) (v := ?_) (a' := ?_) #[false, true, true, false, false, false, false, false, false, false, false, false, false] rfl rfl (by kernel_rfl) (fun _ _ _ h => h) (Or.inl ⟨by rfl, ?_⟩) ?_ ?_
      rotate_left
      · intro w'
        go_simp
        with_reducible rfl
      rotate_left
      · simp only [Act.put, List.setIfInBounds_toArray, List.set_cons_zero, List.set_cons_succ, i64_w, i32_w]
        rfl
      refine pure_ (i := 3) (N := some 36) (v := ?_) (a' := ?_) #[false, true, true, true, false, false, false, false, false, false, false, false, false] rfl rfl (by kernel_rfl) (fun _ _ _ h => h) (Or.inl ⟨by rfl, ?_⟩) ?_ ?_
      rotate_left
      · intro w'
        go_simp
        with_reducible rfl
      rotate_left
      · simp only [Act.put, List.setIfInBounds_toArray, List.set_cons_zero, List.set_cons_succ, i64_w, i32_w]
        rfl
      refine pure_ (i := 5) (N := some 38) (v := ?_) (a' := ?_) #[false, true, true, true, false, true, false, false, false, false, false, false, false] rfl rfl (by kernel_rfl) (fun _ _ _ h => h) (Or.inl ⟨by rfl, ?_⟩) ?_ ?_
      rotate_left
      · intro w'
        go_simp
        with_reducible rfl
      rotate_left
      · simp only [Act.put, List.setIfInBounds_toArray, List.set_cons_zero, List.set_cons_succ, i64_w, i32_w]
        rfl
      refine pure_ (i := 8) (N := some 41) (v := ?_) (a' := ?_) #[false, true, true, true, false, true, false, false, true, false, false, false, false] rfl rfl (by kernel_rfl) (fun _ _ _ h => h) (Or.inl ⟨by rfl, ?_⟩) ?_ ?_
      rotate_left
      · intro w'
        go_simp
        with_reducible rfl
      rotate_left
      · simp only [Act.put, List.setIfInBounds_toArray, List.set_cons_zero, List.set_cons_succ, i64_w, i32_w]
        rfl
      refine pure_ (i := 9) (N := some 42) (v := ?_) (a' := ?_) #[false, true, true, true, false, true, false, false, true, true, false, false, false] rfl rfl (by kernel_rfl) (fun _ _ _ h => h) (Or.inl ⟨by rfl, ?_⟩) ?_ ?_
      rotate_left
      · intro w'
        go_simp
        with_reducible rfl
      rotate_left
      · simp only [Act.put, List.setIfInBounds_toArray, List.set_cons_zero, List.set_cons_succ, i64_w, i32_w]
        rfl
      refine pure_ (i := 10) (N := some 43) (v := ?_) (a' := ?_) #[false, true, true, true, false, true, false, false, true, true, true, false, false] rfl rfl (by kernel_rfl) (fun _ _ _ h => h) (Or.inl ⟨by rfl, ?_⟩) ?_ ?_
      rotate_left
      · intro w'
        go_simp
        with_reducible rfl
      rotate_left
      · simp only [Act.put, List.setIfInBounds_toArray, List.set_cons_zero, List.set_cons_succ, i64_w, i32_w]
        rfl
      refine join_ (σ := Nat × Value × Nat) 3 #[true, true, true, true, true, true, true, false, true, true, true, false, false] (fun s_ => [(33, .slice (some ⟨s_.1, 0, none⟩) 0 0), (37, s_.2.1), (39, .slice (some ⟨s_.2.2, 0, none⟩) 1 1)]) (fun s_ w' => Below w.heap.size w w' ∧ Kd.R (Kd.int .i64) 3 w' w.heap.size (fun k => k ≠ s_.2.2) s_.2.1 (l.take kk) ∧ w'.heap[s_.2.2]? = some (.cells #[.int .i64 n] 3 (0, 0)) ∧ w.heap.size ≤ s_.2.2) ?_ ?_
      rotate_left
      · intro hCont
        refine two_ (i := 0) (j := 6) (Ni := some 33) (Nj := some 39) #[true, true, true, true, false, true, false, false, true, true, true, false, false] #[false, true, true, true, false, true, true, false, true, true, true, false, false] rfl rfl rfl rfl (by kernel_rfl) (by decide) (by decide) (fun K hK => ?_) (fun K hK => ?_)
        · skip
          refine value_ (w1 := ?_) (v := ?_) (by rfl) rfl ?_ ?_
          rotate_left 2
          · go_simp
            constructor
            · rfl
            · rfl
          have r_ := R_empty Wd w.heap.size QQ.out.size
          have m_ := below_alloc QQ.out (.cells #[] 3)
          obtain ⟨g0, hz_⟩ : ∃ z_, z_ = Wd.heap.size := ⟨_, rfl⟩
          rw [← hz_] at r_ ⊢
          generalize Wd.alloc (.cells #[] 3) = We1 at m_ r_ ⊢
          clear hz_ QQ
          have QQ := Aside0.mk m_
          have R0 := Aside0.mk r_
          clear m_ r_
          refine hK.out _ _ trivial (fun hHeld => ?_)
          clear hK K
          refine norm_ (a' := ?_) ?_ ?_
          rotate_left
          · show Act.put _ (some 33) _ = _
            simp only [Act.put, List.setIfInBounds_toArray, List.set_cons_zero, List.set_cons_succ, i64_w, i32_w]
            rfl
          refine two_ (i := 4) (j := 6) (Ni := some 37) (Nj := some 39) #[true, true, true, true, true, true, false, false, true, true, true, false, false] #[true, true, true, true, false, true, true, false, true, true, true, false, false] rfl rfl rfl rfl (by kernel_rfl) (by decide) (by decide) (fun K hK => ?_) (fun K hK => ?_)
          · skip
            refine Kd.R_append_rows_step (Kd.int .i64) (Rr := (Kd.int .i64).K We1) (w0 := w) w.heap.size (by rfl) (.tmp 33) (.tmp 36) 32 3 (.int .i64 0) 8 rfl Tryz.underlying32 info3 rfl (by decide) (by omega) (.slice (some ⟨g0, 0, none⟩) 0 0) [] (l.take kk) A kk c (fun _ => True) (fun _ => False) rfl rfl R0.out (Kd.C_below HT.out QQ.out) (fun x cs hx => hx) (fun k hk => hk.elim) (fun _ _ => trivial) QQ.out QQ.out.size (by simp only [List.length_nil]; omega) ?_
            intro v37 We2 r_ m_ hg_ hat_
            rw [List.nil_append] at r_
            clear QQ R0 hg_ hat_
            have QQ := Aside0.mk m_
            have R0 := Aside0.mk r_
            clear m_ r_
            refine hK.out _ _ trivial (fun hHeld => ?_)
            clear hK K
            refine norm_ (a' := ?_) ?_ ?_
            rotate_left
            · show Act.put _ (some 37) _ = _
              simp only [Act.put, List.setIfInBounds_toArray, List.set_cons_zero, List.set_cons_succ, i64_w, i32_w]
              rfl
            refine one_ (i := 6) (N := some 39) #[true, true, true, true, true, true, true, false, true, true, true, false, false] rfl rfl (by kernel_rfl) (by decide) (fun K hK => ?_)
            refine value_ (w1 := ?_) (v := ?_) (by rfl) rfl ?_ ?_
            rotate_left 2
            · go_simp
              constructor
              · rfl
              · rfl
            have m_ := below_alloc QQ.out (.cells #[.int .i64 n] 3)
            have b_ := blk_new We2 (.cells #[.int .i64 n] 3)
            have lt_ := Kd.R_lt R0.out
            have r_ := Kd.R_alloc R0.out (.cells #[.int .i64 n] 3)
            clear R0
            have le_ := QQ.out.size
            obtain ⟨g6, hz_⟩ : ∃ z_, z_ = We2.heap.size := ⟨_, rfl⟩
            rw [← hz_] at b_ le_ lt_ ⊢
            generalize We2.alloc (.cells #[.int .i64 n] 3) = We3 at m_ b_ r_ ⊢
            clear hz_ QQ
            have QQ := Aside0.mk m_
            have B6 := Aside0.mk b_
            have L6 := Aside0.mk le_
            have R0 := Aside0.mk (R_apart r_ (g := g6) (by intro k hk; have := lt_ k hk; omega))
            clear m_ b_ le_ r_ lt_
            refine hK.out _ _ trivial (fun hHeld => ?_)
            clear hK K
            refine norm_ (a' := ?_) ?_ ?_
            rotate_left
            · show Act.put _ (some 39) _ = _
              simp only [Act.put, List.setIfInBounds_toArray, List.set_cons_zero, List.set_cons_succ, i64_w, i32_w]
              rfl
            exact norm_ (by simp only [putAll, Act.put, List.setIfInBounds_toArray, List.set_cons_zero, List.set_cons_succ]) (hCont (g0, v37, g6) _ ⟨QQ.out, R0.out, B6.out, L6.out⟩)
          · skip
            refine value_ (w1 := ?_) (v := ?_) (by rfl) rfl ?_ ?_
            rotate_left 2
            · go_simp
              constructor
              · rfl
              · rfl
            have m_ := below_alloc QQ.out (.cells #[.int .i64 n] 3)
            have b_ := blk_new We1 (.cells #[.int .i64 n] 3)
            have lt_ := Kd.R_lt R0.out
            have r_ := Kd.R_alloc R0.out (.cells #[.int .i64 n] 3)
            clear R0
            have le_ := QQ.out.size
            obtain ⟨g6, hz_⟩ : ∃ z_, z_ = We1.heap.size := ⟨_, rfl⟩
            rw [← hz_] at b_ le_ lt_ ⊢
            generalize We1.alloc (.cells #[.int .i64 n] 3) = We2 at m_ b_ r_ ⊢
            clear hz_ QQ
            have QQ := Aside0.mk m_
            have B6 := Aside0.mk b_
            have L6 := Aside0.mk le_
            have R0 := Aside0.mk (R_apart r_ (g := g6) (by intro k hk; have := lt_ k hk; omega))
            clear m_ b_ le_ r_ lt_
            refine hK.out _ _ trivial (fun hHeld => ?_)
            clear hK K
            refine norm_ (a' := ?_) ?_ ?_
            rotate_left
            · show Act.put _ (some 39) _ = _
              simp only [Act.put, List.setIfInBounds_toArray, List.set_cons_zero, List.set_cons_succ, i64_w, i32_w]
              rfl
            refine one_ (i := 4) (N := some 37) #[true, true, true, true, true, true, true, false, true, true, true, false, false] rfl rfl (by kernel_rfl) (by decide) (fun K hK => ?_)
            refine Kd.R_append_rows_step (Kd.int .i64) (Rr := (Kd.int .i64).K We2) (w0 := w) w.heap.size (by rfl) (.tmp 33) (.tmp 36) 32 3 (.int .i64 0) 8 rfl Tryz.underlying32 info3 rfl (by decide) (by omega) (.slice (some ⟨g0, 0, none⟩) 0 0) [] (l.take kk) A kk c (fun k => k ≠ g6) (fun _ => False) rfl rfl R0.out (Kd.C_below HT.out QQ.out) (fun x cs hx => hx) (fun k hk => hk.elim) (fun k hk => by have := blk_lt B6.out; omega) QQ.out QQ.out.size (by simp only [List.length_nil]; omega) ?_
            intro v37 We3 r_ m_ hg_ hat_
            have b_ := blk_grown B6.out hg_ (by intro he; exact R0.out.1 _ he.symm rfl)
            clear B6
            have B6 := Aside0.mk b_
            clear b_
            rw [List.nil_append] at r_
            clear QQ R0 hg_ hat_
            have QQ := Aside0.mk m_
            have R0 := Aside0.mk r_
            clear m_ r_
            refine hK.out _ _ trivial (fun hHeld => ?_)
            clear hK K
            refine norm_ (a' := ?_) ?_ ?_
            rotate_left
            · show Act.put _ (some 37) _ = _
              simp only [Act.put, List.setIfInBounds_toArray, List.set_cons_zero, List.set_cons_succ, i64_w, i32_w]
              rfl
            exact norm_ (by simp only [putAll, Act.put, List.setIfInBounds_toArray, List.set_cons_zero, List.set_cons_succ]) (hCont (g0, v37, g6) _ ⟨QQ.out, R0.out, B6.out, L6.out⟩)
        · skip
          refine value_ (w1 := ?_) (v := ?_) (by rfl) rfl ?_ ?_
          rotate_left 2
          · go_simp
            constructor
            · rfl
            · rfl
          have m_ := below_alloc QQ.out (.cells #[.int .i64 n] 3)
          have b_ := blk_new Wd (.cells #[.int .i64 n] 3)
          have le_ := QQ.out.size
          obtain ⟨g6, hz_⟩ : ∃ z_, z_ = Wd.heap.size := ⟨_, rfl⟩
          rw [← hz_] at b_ le_ ⊢
          generalize Wd.alloc (.cells #[.int .i64 n] 3) = We1 at m_ b_ ⊢
          clear hz_ QQ
          have QQ := Aside0.mk m_
          have B6 := Aside0.mk b_
          have L6 := Aside0.mk le_
          clear m_ b_ le_
          refine hK.out _ _ trivial (fun hHeld => ?_)
          clear hK K
          refine norm_ (a' := ?_) ?_ ?_
          rotate_left
          · show Act.put _ (some 39) _ = _
            simp only [Act.put, List.setIfInBounds_toArray, List.set_cons_zero, List.set_cons_succ, i64_w, i32_w]
            rfl
          refine one_ (i := 0) (N := some 33) #[true, true, true, true, false, true, true, false, true, true, true, false, false] rfl rfl (by kernel_rfl) (by decide) (fun K hK => ?_)
          refine value_ (w1 := ?_) (v := ?_) (by rfl) rfl ?_ ?_
          rotate_left 2
          · go_simp
            constructor
            · rfl
            · rfl
          have r_ := R_empty We1 w.heap.size QQ.out.size
          have m_ := below_alloc QQ.out (.cells #[] 3)
          have b_ := blk_alloc B6.out (.cells #[] 3)
          have ne_ : g6 ≠ We1.heap.size := by have := blk_lt B6.out; omega
          clear B6
          obtain ⟨g0, hz_⟩ : ∃ z_, z_ = We1.heap.size := ⟨_, rfl⟩
          rw [← hz_] at r_ ne_ ⊢
          generalize We1.alloc (.cells #[] 3) = We2 at m_ r_ b_ ⊢
          clear hz_ QQ
          have QQ := Aside0.mk m_
          have B6 := Aside0.mk b_
          have R0 := Aside0.mk (R_apart r_ (g := g6) (by intro k hk; simp [Value.ownBlock] at hk; omega))
          clear m_ r_ b_ ne_
          refine hK.out _ _ trivial (fun hHeld => ?_)
          clear hK K
          refine norm_ (a' := ?_) ?_ ?_
          rotate_left
          · show Act.put _ (some 33) _ = _
            simp only [Act.put, List.setIfInBounds_toArray, List.set_cons_zero, List.set_cons_succ, i64_w, i32_w]
            rfl
          refine one_ (i := 4) (N := some 37) #[true, true, true, true, true, true, true, false, true, true, true, false, false] rfl rfl (by kernel_rfl) (by decide) (fun K hK => ?_)
          refine Kd.R_append_rows_step (Kd.int .i64) (Rr := (Kd.int .i64).K We2) (w0 := w) w.heap.size (by rfl) (.tmp 33) (.tmp 36) 32 3 (.int .i64 0) 8 rfl Tryz.underlying32 info3 rfl (by decide) (by omega) (.slice (some ⟨g0, 0, none⟩) 0 0) [] (l.take kk) A kk c (fun k => k ≠ g6) (fun _ => False) rfl rfl R0.out (Kd.C_below HT.out QQ.out) (fun x cs hx => hx) (fun k hk => hk.elim) (fun k hk => by have := blk_lt B6.out; omega) QQ.out QQ.out.size (by simp only [List.length_nil]; omega) ?_
          intro v37 We3 r_ m_ hg_ hat_
          have b_ := blk_grown B6.out hg_ (by intro he; exact R0.out.1 _ he.symm rfl)
          clear B6
          have B6 := Aside0.mk b_
          clear b_
          rw [List.nil_append] at r_
          clear QQ R0 hg_ hat_
          have QQ := Aside0.mk m_
          have R0 := Aside0.mk r_
          clear m_ r_
          refine hK.out _ _ trivial (fun hHeld => ?_)
          clear hK K
          refine norm_ (a' := ?_) ?_ ?_
          rotate_left
          · show Act.put _ (some 37) _ = _
            simp only [Act.put, List.setIfInBounds_toArray, List.set_cons_zero, List.set_cons_succ, i64_w, i32_w]
            rfl
          exact norm_ (by simp only [putAll, Act.put, List.setIfInBounds_toArray, List.set_cons_zero, List.set_cons_succ]) (hCont (g0, v37, g6) _ ⟨QQ.out, R0.out, B6.out, L6.out⟩)
      rintro ⟨g0, v37, g6⟩ Wf ⟨qq_, r_, b_, le_⟩
      clear QQ
      have QQ := Aside0.mk qq_
      have R0 : Aside0 (Kd.R (Kd.int .i64) 3 Wf w.heap.size (fun k => k ≠ g6) v37 (l.take kk)) := ⟨r_⟩
      have B6 : Aside0 (Wf.heap[g6]? = some (.cells #[.int .i64 n] 3 (0, 0))) := ⟨b_⟩
      have L6 : Aside0 (w.heap.size ≤ g6) := ⟨le_⟩
      clear qq_ r_ b_ le_
      have hHeld : True := trivial
      refine norm_ (a' := ?_) ?_ ?_
      rotate_left
      · simp only [putAll, Act.put, List.setIfInBounds_toArray, List.set_cons_zero, List.set_cons_succ]
        rfl
      refine one_ (i := 7) (N := some 40) #[true, true, true, true, true, true, true, true, true, true, true, false, false] rfl rfl (by kernel_rfl) (by decide) (fun K hK => ?_)
      refine Kd.R_append_rows_step (Kd.int .i64) (Rr := (Kd.int .i64).K Wf) (w0 := w) w.heap.size (by rfl) (.tmp 37) (.tmp 39) 32 3 (.int .i64 0) 8 rfl Tryz.underlying32 info3 rfl (by decide) (by omega) v37 (l.take kk) [n] (some ⟨g6, 0, none⟩) 1 1 (fun k => k ≠ g6) (fun _ => False) rfl rfl R0.out (C_ints (xs := [n]) B6.out (by simp)) (fun x cs hx => hx) (fun k hk => hk.elim) (fun k hk => by have := blk_lt B6.out; omega) QQ.out QQ.out.size (by simp only [List.length_take]; omega) ?_
      intro v40 We9 r_ m_ hg_ hat_
      clear QQ R0 hg_ hat_ B6
      have QQ := Aside0.mk m_
      have R0 := Aside0.mk (Kd.R_mono r_ (ok' := fun _ => True) (fun _ _ => trivial))
      clear m_ r_
      refine hK.out _ _ trivial (fun hHeld => ?_)
      clear hK K
      refine norm_ (a' := ?_) ?_ ?_
      rotate_left
      · show Act.put _ (some 40) _ = _
        simp only [Act.put, List.setIfInBounds_toArray, List.set_cons_zero, List.set_cons_succ, i64_w, i32_w]
        rfl
      refine one_ (i := 11) (N := some 44) #[true, true, true, true, true, true, true, true, true, true, true, true, false] rfl rfl (by kernel_rfl) (by decide) (fun K hK => ?_)
      refine Kd.R_append_rows_step (Kd.int .i64) (Rr := (Kd.int .i64).K We9) (w0 := w) w.heap.size (by rfl) (.tmp 40) (.tmp 43) 32 3 (.int .i64 0) 8 rfl Tryz.underlying32 info3 rfl (by decide) (by omega) v40 (l.take kk ++ [n]) (l.drop kk) A2 dl (c - kk) (fun _ => True) (fun _ => False) rfl rfl R0.out (Kd.C_below HD.out QQ.out) (fun x cs hx => hx) (fun k hk => hk.elim) (fun _ _ => trivial) QQ.out QQ.out.size (by simp only [List.length_append, List.length_take, List.length_singleton]; omega) ?_
      intro v44 We10 r_ m_ hg_ hat_
      clear QQ R0 hg_ hat_
      have QQ := Aside0.mk m_
      have R0 := Aside0.mk r_
      clear m_ r_
      refine hK.out _ _ trivial (fun hHeld => ?_)
      clear hK K
      refine norm_ (a' := ?_) ?_ ?_
      rotate_left
      · show Act.put _ (some 44) _ = _
        simp only [Act.put, List.setIfInBounds_toArray, List.set_cons_zero, List.set_cons_succ, i64_w, i32_w]
        rfl
      refine pure_ (i := 12) (N := some 4) (v := ?_) (a' := ?_) #[true, true, true, true, true, true, true, true, true, true, true, true, true] rfl rfl (by kernel_rfl) (fun _ _ _ h => h) (Or.inl ⟨by rfl, ?_⟩) ?_ ?_
      rotate_left
      · intro w'
        go_simp
        with_reducible rfl
      rotate_left
      · simp only [Act.put, List.setIfInBounds_toArray, List.set_cons_zero, List.set_cons_succ, i64_w, i32_w]
        rfl
      refine done_ (by kernel_rfl) ?_
      go_wp2_with fail
      go_ret
      exact ⟨_, rfl, QQ.out, .inr (by rw [HP.out]; exact R0.out)⟩
end Go.Proofs.YtippkbgeeeimjaaGreat.L
/- caesuraref01.Edges: where ranges may begin, or end. -/
namespace Go.Proofs.YtippkbgeeeimjaaGreat.L
open Go.RowKit Go.Proofs.YtippkbgeeeimjaaGreatW.PrintWords Go.Proofs.YtippkbgeeeimjaaGreatW.PrintLast Go.Proofs.YtippkbgeeeimjaaGreatW.PrintMore Go.Proofs.YtippkbgeeeimjaaGreat.A
set_option linter.unusedVariables false
set_option linter.unusedSimpArgs false
def edge1 (out : List Int) (r : S38) : List Int := if 0 ≤ r.f0 ∧ r.f0 ≤ 1114111 then putF out r.f0 else out
def edge2 (out : List Int) (r : S38) : List Int := if -1 ≤ r.f1 ∧ r.f1 < 1114111 then putF out (r.f1 + 1) else out
def edgeS (out : List Int) (l : List S38) : List Int := if l.length ≤ 400 then l.foldl (fun o r => edge2 (edge1 o r) r) out else out
def edgesF (sets : List (List S38)) : List Int := sets.foldl edgeS [0]
theorem edge1_len (o : List Int) (r : S38) : (edge1 o r).length ≤ o.length + 1 := by unfold edge1; split; exact putF_len _ _; omega
theorem edge_len (o : List Int) (r : S38) : (edge2 (edge1 o r) r).length ≤ o.length + 2 := by
  have h1 := edge1_len o r
  have h2 : (edge2 (edge1 o r) r).length ≤ (edge1 o r).length + 1 := by unfold edge2; split; exact putF_len _ _; omega
  omega
theorem edges_len (l : List S38) : ∀ o : List Int, (l.foldl (fun o r => edge2 (edge1 o r) r) o).length ≤ o.length + 2 * l.length := by
  induction l with
  | nil => intro o; simp
  | cons r l ih =>
    intro o
    have := ih (edge2 (edge1 o r) r)
    have := edge_len o r
    simp only [List.foldl_cons, List.length_cons]
    omega
theorem edgeS_len (o : List Int) (l : List S38) : (edgeS o l).length ≤ o.length + 800 := by
  unfold edgeS
  split
  · have := edges_len l o
    omega
  · omega
theorem edgesF_len (sets : List (List S38)) : (edgesF sets).length ≤ 1 + 800 * sets.length := by
  have : ∀ (sets : List (List S38)) (o : List Int), (sets.foldl edgeS o).length ≤ o.length + 800 * sets.length := by
    intro sets
    induction sets with
    | nil => intro o; simp
    | cons l s ih =>
      intro o
      have := ih (edgeS o l)
      have := edgeS_len o l
      simp only [List.foldl_cons, List.length_cons]
      omega
  have := this sets [0]
  simpa [edgesF] using this
/-- put of a row of one's own. -/
theorem put_own {base : Nat} (v : Value) (l : List Int) (n : Int) (w : World) (hr : Kd.R (Kd.int .i64) 3 w base (fun _ => True) v l) (hb : base ≤ w.heap.size) (hz : l.length ≤ 100000) :
    Calls Tryz.prog 50 #[v, .int .i64 n] w fun e w' => ∃ v', e = .returned v' ∧ Kd.R (Kd.int .i64) 3 w' base (fun _ => True) v' (putF l n) ∧ Below w.heap.size w w' := by
  obtain ⟨A, c, rfl⟩ := Kd.R_slice hr
  obtain ⟨_, hc, hC⟩ := Kd.R_reads' hr
  refine (put_new A c l n w hC hc hz).mono ?_
  rintro e w' ⟨v', rfl, hb', h⟩
  refine ⟨v', rfl, ?_, hb'⟩
  rcases h with ⟨rfl, h⟩ | h
  · rw [h]
    exact Kd.R_below hr hb'
  · exact Kd.R_lower h hb
def rdS (xs : List (List S38)) (i : Nat) : List S38 := xs.getD i []
theorem at_sets {w : World} {A : Option Addr} {n : Nat} {xs : List (List S38)} (h : Kd.C (Kd.slice 38 k38) w A n xs) (i : Nat) (h1 : i < n) : ∃ ad A0 c0, A = some ad ∧ w.cell? (ad.add i) = some (.slice A0 (rdS xs i).length c0) ∧ (rdS xs i).length ≤ c0 ∧ k38.C w A0 (rdS xs i).length (rdS xs i) := by
  obtain ⟨ad, c, e, _, hK, hc0⟩ := Kd.C_get h ([] : List S38) (i : Int) (by omega) (by omega)
  rw [Int.toNat_natCast] at hK hc0
  have hc : ∀ j u, c[j]? = some u → w.cell? (ad.add (i * 1 + j)) = some u := hc0
  obtain ⟨A0, c0, rfl, l0, g0⟩ := hK
  exact ⟨ad, A0, c0, e, by have hq := hc 0 _ rfl; rwa [Nat.mul_one, Nat.add_zero] at hq, l0, g0⟩
theorem take_rd (l : List S38) {j : Nat} (h : j < l.length) : l.take (j + 1) = l.take j ++ [rd_T38 l j] := by
  rw [List.take_succ_eq_append_getElem h]
  unfold rd_T38
  rw [Int.toNat_natCast, List.getD_eq_getElem?_getD, List.getElem?_eq_getElem h]
  rfl
theorem take_rdS (l : List (List S38)) {j : Nat} (h : j < l.length) : l.take (j + 1) = l.take j ++ [rdS l j] := by
  rw [List.take_succ_eq_append_getElem h]
  unfold rdS
  rw [List.getD_eq_getElem?_getD, List.getElem?_eq_getElem h]
  rfl
def Lo (w : World) (sets : List (List S38)) (t3 t4 : Value) (W : World) : Prop := ∃ (i : Nat), i ≤ sets.length ∧ t4 = .int .i64 i ∧ Kd.R (Kd.int .i64) 3 W w.heap.size (fun _ => True) t3 (edgesF (sets.take i)) ∧ Below w.heap.size w W
def Li (w : World) (l : List S38) (o : List Int) (t3 t5 : Value) (W : World) : Prop := ∃ (j : Nat), j ≤ l.length ∧ (j = 0 ∨ l.length ≤ 400) ∧ t5 = .int .i64 j ∧ Kd.R (Kd.int .i64) 3 W w.heap.size (fun _ => True) t3 ((l.take j).foldl (fun o r => edge2 (edge1 o r) r) o) ∧ Below w.heap.size w W
set_option maxHeartbeats 16000000 in
set_option maxRecDepth 100000 in
theorem edges_calls (A : Option Addr) (c : Nat) (sets : List (List S38)) (w : World) (hr : Kd.C (Kd.slice 38 k38) w A sets.length sets) (hc : sets.length ≤ c) (hz : sets.length ≤ 100) :
    Calls Tryz.prog 25 #[.slice A sets.length c] w fun e w' => ∃ v, e = .returned v ∧ Kd.R (Kd.int .i64) 3 w' w.heap.size (fun _ => True) v (edgesF sets) ∧ Below w.heap.size w w' := by
  have HR := Aside0.mk hr
  clear hr
  go_enter Tryz.func25, Tryz.ntmps25
  go_wp2_with fail
  obtain ⟨W0, hW0⟩ : ∃ W0, W0 = w.alloc (.cells #[.int .i64 0] 3) := ⟨_, rfl⟩
  have R0 : Kd.R (Kd.int .i64) 3 W0 w.heap.size (fun _ => True) (.slice (some ⟨w.heap.size, 0, none⟩) 1 1) [0] := by
    rw [hW0]
    exact ⟨fun _ _ => trivial, [.int .i64 0], ⟨rfl, .inr ⟨w.heap.size, 1, #[.int .i64 0], rfl, Nat.le_refl _, blk_new _ _, Nat.le_refl _, by unfold maxLen; omega, rfl, rfl⟩⟩, Kd.reps_scalar [0]⟩
  have B0 : Below w.heap.size w W0 := by rw [hW0]; exact below_alloc (Below.refl _ _) _
  rw [← hW0]
  clear hW0
  have RR0 := Aside0.mk R0
  have BB0 := Aside0.mk B0
  clear R0 B0
  go_loopw [3, 4] (fun t3 t4 W => Lo w sets t3 t4 W) (fun _ t4 _ => sets.length - (intOf t4).toNat)
  case atStart => exact ⟨0, Nat.zero_le _, rfl, RR0.out, BB0.out⟩
  case round =>
    obtain ⟨i, hi, rfl, hR, hB⟩ := hrel
    obtain ⟨wo, hwo⟩ : ∃ wo : World, wo = wr := ⟨_, rfl⟩
    subst hwo
    have ORR := Aside0.mk hR
    have OB := Aside0.mk hB
    clear hR hB RR0 BB0
    by_cases hlt : i < sets.length
    · have b1 : decide ((i : Int) < (sets.length : Int)) = true := decide_eq_true (by omega)
      have b2 : decide (i < sets.length) = true := decide_eq_true hlt
      have q0 : 0 ≤ (i : Int) := by omega
      have q1 : (i : Int) < (sets.length : Int) := by omega
      have w2 : IntKind.i64.wrap ((i : Int) + 1) = (i : Int) + 1 := IntWalk.i64_in _ (by omega)
      obtain ⟨ad, A0, c0, rfl, k0, hl0, hC0⟩ := at_sets (Kd.C_below HR.out OB.out) i hlt
      have hmax : (rdS sets i).length ≤ 9223372036854775807 := Kd.C_max hC0
      have htk : edgesF (sets.take (i + 1)) = edgeS (edgesF (sets.take i)) (rdS sets i) := by
        rw [take_rdS sets hlt]
        unfold edgesF
        rw [List.foldl_append]
        rfl
      have hol := edgesF_len (sets.take i)
      rw [List.length_take] at hol
      have hol2 : (edgesF (sets.take i)).length ≤ 80001 := by omega
      obtain ⟨o, ho⟩ : ∃ o, o = edgesF (sets.take i) := ⟨_, rfl⟩
      obtain ⟨l, hl⟩ : ∃ l, l = rdS sets i := ⟨_, rfl⟩
      rw [← ho, ← hl] at htk
      rw [← ho] at ORR hol2
      rw [← hl] at k0 hl0 hC0 hmax
      have HT := Aside0.mk htk
      have HC0 := Aside0.mk hC0
      have HK0 := Aside0.mk k0
      clear hol ho hl htk hC0
      go_wp2_with fail
      clear k0
      go_loopw [3, 5] (fun t3 t5 W => Li w l o t3 t5 W ∧ Below wo.heap.size wo W) (fun _ t5 _ => l.length - (intOf t5).toNat)
      case atStart => exact ⟨⟨0, Nat.zero_le _, .inl rfl, rfl, ORR.out, OB.out⟩, Below.refl _ _⟩
      case round =>
        obtain ⟨⟨j, hj, hj4, rfl, hR, hB⟩, hBo⟩ := hrel
        have k1 : wr.cell? (ad.add i) = some (.slice A0 l.length c0) := pw_cell_below hBo HK0.out
        have IR := Aside0.mk hR
        have IB := Aside0.mk hB
        have IBo := Aside0.mk hBo
        clear hR hB hBo
        by_cases hlj : j < l.length
        · have e1 : decide ((j : Int) < (l.length : Int)) = true := decide_eq_true (by omega)
          have e2 : decide (j < l.length) = true := decide_eq_true hlj
          by_cases h4 : l.length ≤ 400
          · have e3 : decide ((l.length : Int) ≤ 400) = true := decide_eq_true (by omega)
            have e4 : decide (l.length ≤ 400) = true := decide_eq_true h4
            have p0 : 0 ≤ (j : Int) := by omega
            have p1 : (j : Int) < (l.length : Int) := by omega
            have w3 : IntKind.i64.wrap ((j : Int) + 1) = (j : Int) + 1 := IntWalk.i64_in _ (by omega)
            obtain ⟨al, rfl, c1, c2⟩ := at_T38 (Kd.C_below HC0.out IBo.out) (j : Int) (by omega) (by omega)
            rw [Int.toNat_natCast] at c1 c2
            have htk2 : (l.take (j + 1)).foldl (fun o r => edge2 (edge1 o r) r) o = edge2 (edge1 ((l.take j).foldl (fun o r => edge2 (edge1 o r) r) o) (rd_T38 l j)) (rd_T38 l j) := by
              rw [take_rd l hlj, List.foldl_append]
              rfl
            have hm := edges_len (l.take j) o
            rw [List.length_take] at hm
            obtain ⟨m, hmm⟩ : ∃ m, m = (l.take j).foldl (fun o r => edge2 (edge1 o r) r) o := ⟨_, rfl⟩
            rw [← hmm] at htk2 hm
            rw [← hmm] at IR
            obtain ⟨r, hr⟩ : ∃ r, r = rd_T38 l j := ⟨_, rfl⟩
            rw [← hr] at htk2 c1 c2
            have hm2 : m.length ≤ 90000 := by omega
            have HT2 := Aside0.mk htk2
            clear hmm hr htk2 hm
            obtain ⟨f0, f1⟩ := r
            simp only at c1 c2
            have hm3 := edge1_len m ⟨f0, f1⟩
            have hm4 : (edge1 m ⟨f0, f1⟩).length ≤ 90001 := by omega
            clear hm3
            go_upto_region 9 with (fail)
            obtain ⟨W1, hW1⟩ : ∃ W1, W1 = wr.alloc (.cells #[.int .i64 f0, .int .i64 f1] 38) := ⟨_, rfl⟩
            have X1 : W1.heap[wr.heap.size]? = some (.cells #[.int .i64 f0, .int .i64 f1] 38 (0, 0)) := by rw [hW1]; exact blk_new _ _
            have B1 : Below w.heap.size w W1 := by rw [hW1]; exact below_alloc IB.out _
            have B1o : Below wo.heap.size wo W1 := by rw [hW1]; exact below_alloc IBo.out _
            have R1 : Kd.R (Kd.int .i64) 3 W1 w.heap.size (fun _ => True) u3 m := by rw [hW1]; exact Kd.R_alloc IR.out _
            rw [← hW1]
            clear hW1 c1 c2 k1
            obtain ⟨gb, hgb⟩ : ∃ gb, gb = wr.heap.size := ⟨_, rfl⟩
            rw [← hgb] at X1 ⊢
            clear hgb
            have HX := Aside0.mk X1
            have HB1 := Aside0.mk B1
            have HBo := Aside0.mk B1o
            have HR1 := Aside0.mk R1
            clear X1 B1 B1o R1 IR IB IBo
            have x0 : W1.cell? ⟨gb, 0, none⟩ = some (.int .i64 f0) := (blk_cell HX.out 0).trans rfl
            have x1 : W1.cell? ⟨gb, 1, none⟩ = some (.int .i64 f1) := (blk_cell HX.out 1).trans rfl
            by_cases g1 : 0 ≤ f0
            · have a1 : decide (0 ≤ f0) = true := decide_eq_true g1
              by_cases g2 : f0 ≤ 1114111
              · have a2 : decide (f0 ≤ 1114111) = true := decide_eq_true g2
                go_wp2_with fail
                refine (put_own _ _ _ _ HR1.out HB1.out.size (by omega)).mono ?_
                rintro e W2 ⟨v2, rfl, r2, b2'⟩
                have HR1' : Aside0 (Kd.R (Kd.int .i64) 3 W2 w.heap.size (fun _ => True) v2 (edge1 m ⟨f0, f1⟩)) := ⟨by unfold edge1; rw [if_pos ⟨g1, g2⟩]; exact r2⟩
                have HX' := Aside0.mk (blk_below HX.out b2')
                have HB' := Aside0.mk (HB1.out.trans (b2'.mono HB1.out.size))
                have HBo' := Aside0.mk (HBo.out.trans (b2'.mono HBo.out.size))
                clear HR1 HX HB1 HBo r2 b2' x0 x1
                have HR1 := HR1'
                have HX := HX'
                have HB1 := HB'
                have HBo := HBo'
                clear HR1' HX' HB' HBo'
                have x0 : W2.cell? ⟨gb, 0, none⟩ = some (.int .i64 f0) := (blk_cell HX.out 0).trans rfl
                have x1 : W2.cell? ⟨gb, 1, none⟩ = some (.int .i64 f1) := (blk_cell HX.out 1).trans rfl
                by_cases h1 : -1 ≤ f1
                · have d1 : decide (-1 ≤ f1) = true := decide_eq_true h1
                  by_cases h2 : f1 < 1114111
                  · have d2 : decide (f1 < 1114111) = true := decide_eq_true h2
                    have w4 : IntKind.i64.wrap (f1 + 1) = f1 + 1 := IntWalk.i64_in _ (by omega)
                    go_wp2_with fail
                    refine (put_own _ _ _ _ HR1.out HB1.out.size (by omega)).mono ?_
                    rintro e W3 ⟨v3, rfl, r3, b3⟩
                    have HRf : Aside0 (Kd.R (Kd.int .i64) 3 W3 w.heap.size (fun _ => True) v3 (edge2 (edge1 m ⟨f0, f1⟩) ⟨f0, f1⟩)) := ⟨by unfold edge2; rw [if_pos ⟨h1, h2⟩]; exact r3⟩
                    have HB3 := Aside0.mk (HB1.out.trans (b3.mono HB1.out.size))
                    have HBo3 := Aside0.mk (HBo.out.trans (b3.mono HBo.out.size))
                    clear r3 b3 x0 x1
                    go_wp2_with fail
                    go_roundw
                    case rel => exact ⟨⟨j + 1, hlj, .inr h4, by go_num, by rw [HT2.out]; exact HRf.out, HB3.out⟩, HBo3.out⟩
                    case measure => simp [intOf]; omega
                  · have d2 : decide (f1 < 1114111) = false := decide_eq_false h2
                    have HRf : Aside0 (Kd.R (Kd.int .i64) 3 W2 w.heap.size (fun _ => True) _ (edge2 (edge1 m ⟨f0, f1⟩) ⟨f0, f1⟩)) := ⟨by unfold edge2; rw [if_neg (fun q => h2 q.2)]; exact HR1.out⟩
                    go_wp2_with fail
                    go_roundw
                    case rel => exact ⟨⟨j + 1, hlj, .inr h4, by go_num, by rw [HT2.out]; exact HRf.out, HB1.out⟩, HBo.out⟩
                    case measure => simp [intOf]; omega
                · have d1 : decide (-1 ≤ f1) = false := decide_eq_false h1
                  have HRf : Aside0 (Kd.R (Kd.int .i64) 3 W2 w.heap.size (fun _ => True) _ (edge2 (edge1 m ⟨f0, f1⟩) ⟨f0, f1⟩)) := ⟨by unfold edge2; rw [if_neg (fun q => h1 q.1)]; exact HR1.out⟩
                  go_wp2_with fail
                  go_roundw
                  case rel => exact ⟨⟨j + 1, hlj, .inr h4, by go_num, by rw [HT2.out]; exact HRf.out, HB1.out⟩, HBo.out⟩
                  case measure => simp [intOf]; omega
              · have a2 : decide (f0 ≤ 1114111) = false := decide_eq_false g2
                have HR1' : Aside0 (Kd.R (Kd.int .i64) 3 W1 w.heap.size (fun _ => True) u3 (edge1 m ⟨f0, f1⟩)) := ⟨by unfold edge1; rw [if_neg (fun q => g2 q.2)]; exact HR1.out⟩
                clear HR1
                have HR1 := HR1'
                clear HR1'
                by_cases h1 : -1 ≤ f1
                · have d1 : decide (-1 ≤ f1) = true := decide_eq_true h1
                  by_cases h2 : f1 < 1114111
                  · have d2 : decide (f1 < 1114111) = true := decide_eq_true h2
                    have w4 : IntKind.i64.wrap (f1 + 1) = f1 + 1 := IntWalk.i64_in _ (by omega)
                    go_wp2_with fail
                    refine (put_own _ _ _ _ HR1.out HB1.out.size (by omega)).mono ?_
                    rintro e W3 ⟨v3, rfl, r3, b3⟩
                    have HRf : Aside0 (Kd.R (Kd.int .i64) 3 W3 w.heap.size (fun _ => True) v3 (edge2 (edge1 m ⟨f0, f1⟩) ⟨f0, f1⟩)) := ⟨by unfold edge2; rw [if_pos ⟨h1, h2⟩]; exact r3⟩
                    have HB3 := Aside0.mk (HB1.out.trans (b3.mono HB1.out.size))
                    have HBo3 := Aside0.mk (HBo.out.trans (b3.mono HBo.out.size))
                    clear r3 b3 x0 x1
                    go_wp2_with fail
                    go_roundw
                    case rel => exact ⟨⟨j + 1, hlj, .inr h4, by go_num, by rw [HT2.out]; exact HRf.out, HB3.out⟩, HBo3.out⟩
                    case measure => simp [intOf]; omega
                  · have d2 : decide (f1 < 1114111) = false := decide_eq_false h2
                    have HRf : Aside0 (Kd.R (Kd.int .i64) 3 W1 w.heap.size (fun _ => True) _ (edge2 (edge1 m ⟨f0, f1⟩) ⟨f0, f1⟩)) := ⟨by unfold edge2; rw [if_neg (fun q => h2 q.2)]; exact HR1.out⟩
                    go_wp2_with fail
                    go_roundw
                    case rel => exact ⟨⟨j + 1, hlj, .inr h4, by go_num, by rw [HT2.out]; exact HRf.out, HB1.out⟩, HBo.out⟩
                    case measure => simp [intOf]; omega
                · have d1 : decide (-1 ≤ f1) = false := decide_eq_false h1
                  have HRf : Aside0 (Kd.R (Kd.int .i64) 3 W1 w.heap.size (fun _ => True) _ (edge2 (edge1 m ⟨f0, f1⟩) ⟨f0, f1⟩)) := ⟨by unfold edge2; rw [if_neg (fun q => h1 q.1)]; exact HR1.out⟩
                  go_wp2_with fail
                  go_roundw
                  case rel => exact ⟨⟨j + 1, hlj, .inr h4, by go_num, by rw [HT2.out]; exact HRf.out, HB1.out⟩, HBo.out⟩
                  case measure => simp [intOf]; omega
            · have a1 : decide (0 ≤ f0) = false := decide_eq_false g1
              have HR1' : Aside0 (Kd.R (Kd.int .i64) 3 W1 w.heap.size (fun _ => True) u3 (edge1 m ⟨f0, f1⟩)) := ⟨by unfold edge1; rw [if_neg (fun q => g1 q.1)]; exact HR1.out⟩
              clear HR1
              have HR1 := HR1'
              clear HR1'
              by_cases h1 : -1 ≤ f1
              · have d1 : decide (-1 ≤ f1) = true := decide_eq_true h1
                by_cases h2 : f1 < 1114111
                · have d2 : decide (f1 < 1114111) = true := decide_eq_true h2
                  have w4 : IntKind.i64.wrap (f1 + 1) = f1 + 1 := IntWalk.i64_in _ (by omega)
                  go_wp2_with fail
                  refine (put_own _ _ _ _ HR1.out HB1.out.size (by omega)).mono ?_
                  rintro e W3 ⟨v3, rfl, r3, b3⟩
                  have HRf : Aside0 (Kd.R (Kd.int .i64) 3 W3 w.heap.size (fun _ => True) v3 (edge2 (edge1 m ⟨f0, f1⟩) ⟨f0, f1⟩)) := ⟨by unfold edge2; rw [if_pos ⟨h1, h2⟩]; exact r3⟩
                  have HB3 := Aside0.mk (HB1.out.trans (b3.mono HB1.out.size))
                  have HBo3 := Aside0.mk (HBo.out.trans (b3.mono HBo.out.size))
                  clear r3 b3 x0 x1
                  go_wp2_with fail
                  go_roundw
                  case rel => exact ⟨⟨j + 1, hlj, .inr h4, by go_num, by rw [HT2.out]; exact HRf.out, HB3.out⟩, HBo3.out⟩
                  case measure => simp [intOf]; omega
                · have d2 : decide (f1 < 1114111) = false := decide_eq_false h2
                  have HRf : Aside0 (Kd.R (Kd.int .i64) 3 W1 w.heap.size (fun _ => True) _ (edge2 (edge1 m ⟨f0, f1⟩) ⟨f0, f1⟩)) := ⟨by unfold edge2; rw [if_neg (fun q => h2 q.2)]; exact HR1.out⟩
                  go_wp2_with fail
                  go_roundw
                  case rel => exact ⟨⟨j + 1, hlj, .inr h4, by go_num, by rw [HT2.out]; exact HRf.out, HB1.out⟩, HBo.out⟩
                  case measure => simp [intOf]; omega
              · have d1 : decide (-1 ≤ f1) = false := decide_eq_false h1
                have HRf : Aside0 (Kd.R (Kd.int .i64) 3 W1 w.heap.size (fun _ => True) _ (edge2 (edge1 m ⟨f0, f1⟩) ⟨f0, f1⟩)) := ⟨by unfold edge2; rw [if_neg (fun q => h1 q.1)]; exact HR1.out⟩
                go_wp2_with fail
                go_roundw
                case rel => exact ⟨⟨j + 1, hlj, .inr h4, by go_num, by rw [HT2.out]; exact HRf.out, HB1.out⟩, HBo.out⟩
                case measure => simp [intOf]; omega
          · have e3 : decide ((l.length : Int) ≤ 400) = false := decide_eq_false (by omega)
            have e4 : decide (l.length ≤ 400) = false := decide_eq_false h4
            obtain rfl : j = 0 := hj4.resolve_right h4
            have HF : Aside0 ((l.take 0).foldl (fun o r => edge2 (edge1 o r) r) o = edgesF (sets.take (i + 1))) := ⟨by rw [HT.out]; unfold edgeS; rw [if_neg h4]; rfl⟩
            go_wp2_with fail
            go_roundw
            case rel => exact ⟨i + 1, hlt, by go_num, by rw [← HF.out]; exact IR.out, IB.out⟩
            case measure => simp [intOf]; omega
        · have e1 : decide ((j : Int) < (l.length : Int)) = false := decide_eq_false (by omega)
          have e2 : decide (j < l.length) = false := decide_eq_false hlj
          have HF : Aside0 ((l.take j).foldl (fun o r => edge2 (edge1 o r) r) o = edgesF (sets.take (i + 1))) := ⟨by
            rw [HT.out]
            unfold edgeS
            by_cases h4 : l.length ≤ 400
            · rw [if_pos h4, List.take_of_length_le (by omega)]
            · rw [if_neg h4]
              obtain rfl : j = 0 := hj4.resolve_right h4
              rfl⟩
          go_wp2_with fail
          go_roundw
          case rel => exact ⟨i + 1, hlt, by go_num, by rw [← HF.out]; exact IR.out, IB.out⟩
          case measure => simp [intOf]; omega
    · have b1 : decide ((i : Int) < (sets.length : Int)) = false := decide_eq_false (by omega)
      have b2 : decide (i < sets.length) = false := decide_eq_false hlt
      have HF : Aside0 (edgesF (sets.take i) = edgesF sets) := ⟨by rw [List.take_of_length_le (by omega)]⟩
      go_wp2_with fail
      go_ret
      exact ⟨_, rfl, by rw [← HF.out]; exact ORR.out, OB.out⟩
end Go.Proofs.YtippkbgeeeimjaaGreat.L
