/- The contracts of mark.One and of alive; MarkMakes walked; arguments opened. -/
import Derived.Test.YtpedenbcfbflbaaYB
import Derived.Test.YtpedenbcfbflbaaYC
import Derived.Test.YtpedenbcfbflbaaPMarkMakesx5
import Derived.Test.YtpedenbcfbflbaaPMarkMakesx1
import Derived.Test.YtpedenbcfbflbaaPMarkMakesx3
import Derived.WideShapes
import Derived.Lib.SmallJoins
import Derived.Deep.Slices
import Derived.ChangeArms
/- The contracts of mark.Of and of the reference's Of, in one form. -/
namespace Go.Proofs.Ytpedenbcfbflbaa.E
set_option linter.unusedVariables false
open Go.RowKit Go.Proofs.YtpedenbcfbflbaaW.PrintWords Go.Proofs.Ytpedenbcfbflbaa.X

def mark_Of.f (a0_0 : Int) (l0_1 : List (List Int)) (l0_2 : List Bool) (a1_0 : Int) (l1_1 : List (List Int)) (l1_2 : List Bool) (a2 : Int) : Option (Int × (List (List Int)) × List Bool × Int) := some (markF a0_0 l0_1 l0_2 a1_0 l1_1 l1_2 a2)
theorem mark_Of.calls (a0_0 : Int) (A0_1 : Option Addr) (c0_1 : Nat) (l0_1 : List (List Int)) (A0_2 : Option Addr) (c0_2 : Nat) (l0_2 : List Bool) (a1_0 : Int) (A1_1 : Option Addr) (c1_1 : Nat) (l1_1 : List (List Int)) (A1_2 : Option Addr) (c1_2 : Nat) (l1_2 : List Bool) (a2 : Int) (r1 : Int) (r2 : List (List Int)) (r3 : List Bool) (r4 : Int) (w : World) (hr0_1 : Kd.C (Kd.slice 3 (Kd.int .i64)) w A0_1 l0_1.length l0_1) (hc0_1 : l0_1.length ≤ c0_1) (hr0_2 : Kd.C Kd.bool w A0_2 l0_2.length l0_2) (hc0_2 : l0_2.length ≤ c0_2) (hr1_1 : Kd.C (Kd.slice 3 (Kd.int .i64)) w A1_1 l1_1.length l1_1) (hc1_1 : l1_1.length ≤ c1_1) (hr1_2 : Kd.C Kd.bool w A1_2 l1_2.length l1_2) (hc1_2 : l1_2.length ≤ c1_2) (h : mark_Of.f a0_0 l0_1 l0_2 a1_0 l1_1 l1_2 a2 = some (r1, r2, r3, r4)) :
    Calls Try.prog 14 #[.agg #[.int .i64 a0_0, .slice A0_1 l0_1.length c0_1, .slice A0_2 l0_2.length c0_2], .agg #[.int .i64 a1_0, .slice A1_1 l1_1.length c1_1, .slice A1_2 l1_2.length c1_2], .int .i64 a2] w fun e w' => ∃ v1_ v2_ : Value, e = .returned (.tuple #[.agg #[.int .i64 r1, v1_, v2_], .int .i64 r4]) ∧ Kd.S (Kd.slice 3 (Kd.int .i64)) 33 w' w.heap.size (fun k_ => some k_ ≠ (v2_ : Value).ownBlock) v1_ r2 ∧ Kd.R Kd.bool 4 w' w.heap.size (fun k_ => True) v2_ r3 ∧ Below w.heap.size w w' :=
  X.mark_of a0_0 A0_1 c0_1 l0_1 A0_2 c0_2 l0_2 a1_0 A1_1 c1_1 l1_1 A1_2 c1_2 l1_2 a2 w hr0_1 hc0_1 hr0_2 hc0_2 hr1_1 hc1_1 hr1_2 hc1_2 r1 r2 r3 r4 (Option.some.inj h)

def caesuraref19_Of.f (a0_0 : Int) (l0_1 : List (List Int)) (l0_2 : List Bool) (a1_0 : Int) (l1_1 : List (List Int)) (l1_2 : List Bool) (a2 : Int) : Option (Int × (List (List Int)) × List Bool × Int) := some (markF a0_0 l0_1 l0_2 a1_0 l1_1 l1_2 a2)
theorem caesuraref19_Of.calls (a0_0 : Int) (A0_1 : Option Addr) (c0_1 : Nat) (l0_1 : List (List Int)) (A0_2 : Option Addr) (c0_2 : Nat) (l0_2 : List Bool) (a1_0 : Int) (A1_1 : Option Addr) (c1_1 : Nat) (l1_1 : List (List Int)) (A1_2 : Option Addr) (c1_2 : Nat) (l1_2 : List Bool) (a2 : Int) (r1 : Int) (r2 : List (List Int)) (r3 : List Bool) (r4 : Int) (w : World) (hr0_1 : Kd.C (Kd.slice 3 (Kd.int .i64)) w A0_1 l0_1.length l0_1) (hc0_1 : l0_1.length ≤ c0_1) (hr0_2 : Kd.C Kd.bool w A0_2 l0_2.length l0_2) (hc0_2 : l0_2.length ≤ c0_2) (hr1_1 : Kd.C (Kd.slice 3 (Kd.int .i64)) w A1_1 l1_1.length l1_1) (hc1_1 : l1_1.length ≤ c1_1) (hr1_2 : Kd.C Kd.bool w A1_2 l1_2.length l1_2) (hc1_2 : l1_2.length ≤ c1_2) (h : caesuraref19_Of.f a0_0 l0_1 l0_2 a1_0 l1_1 l1_2 a2 = some (r1, r2, r3, r4)) :
    Calls Try.prog 15 #[.agg #[.int .i64 a0_0, .slice A0_1 l0_1.length c0_1, .slice A0_2 l0_2.length c0_2], .agg #[.int .i64 a1_0, .slice A1_1 l1_1.length c1_1, .slice A1_2 l1_2.length c1_2], .int .i64 a2] w fun e w' => ∃ v1_ v2_ : Value, e = .returned (.tuple #[.agg #[.int .i64 r1, v1_, v2_], .int .i64 r4]) ∧ Kd.S (Kd.slice 3 (Kd.int .i64)) 33 w' w.heap.size (fun k_ => some k_ ≠ (v2_ : Value).ownBlock) v1_ r2 ∧ Kd.R Kd.bool 4 w' w.heap.size (fun k_ => True) v2_ r3 ∧ Below w.heap.size w w' :=
  X.ref_of a0_0 A0_1 c0_1 l0_1 A0_2 c0_2 l0_2 a1_0 A1_1 c1_1 l1_1 A1_2 c1_2 l1_2 a2 w hr0_1 hc0_1 hr0_2 hc0_2 hr1_1 hc1_1 hr1_2 hc1_2 r1 r2 r3 r4 (Option.some.inj h)

def caesuraref15_Right.f (a0_0 : Int) (l0_1 : List (List Int)) (l0_2 : List Bool) : Option (Bool) := some (rightB a0_0 l0_1 l0_2)
theorem caesuraref15_Right.calls (a0_0 : Int) (A0_1 : Option Addr) (c0_1 : Nat) (l0_1 : List (List Int)) (A0_2 : Option Addr) (c0_2 : Nat) (l0_2 : List Bool) (r : Bool) (w : World) (hr0_1 : Kd.C (Kd.slice 3 (Kd.int .i64)) w A0_1 l0_1.length l0_1) (hc0_1 : l0_1.length ≤ c0_1) (hr0_2 : Kd.C Kd.bool w A0_2 l0_2.length l0_2) (hc0_2 : l0_2.length ≤ c0_2) (h : caesuraref15_Right.f a0_0 l0_1 l0_2 = some r) :
    Calls Try.prog 24 #[.agg #[.int .i64 a0_0, .slice A0_1 l0_1.length c0_1, .slice A0_2 l0_2.length c0_2]] w fun e w' => e = .returned (.bool r) ∧ Below w.heap.size w w' := by
  obtain ⟨k, hk⟩ := right_f a0_0 l0_1 l0_2
  exact PMarkMakes.caesuraref15_Right.calls k a0_0 A0_1 c0_1 l0_1 A0_2 c0_2 l0_2 r w hr0_1 hc0_1 hr0_2 hc0_2 (hk.trans h)
end Go.Proofs.Ytpedenbcfbflbaa.E
namespace Go.Proofs.Ytpedenbcfbflbaa.X
open Go.RowKit Go.Proofs.YtpedenbcfbflbaaW.PrintWords Go.Proofs.YtpedenbcfbflbaaW.PrintLast Go.Proofs.YtpedenbcfbflbaaW.PrintMore Go.Maps Num
set_option linter.unusedVariables false
set_option linter.unusedSimpArgs false

/-- The automaton of all marked ones. -/
def oneF (n : Int) : Int × List (List Int) × List Bool × Int :=
  if 200 < n ∨ n < 1 then (0, [], [], 1) else markF n [List.replicate n.toNat 0] [true] n [List.replicate n.toNat 0] [true] 3000

/-- A box of the call's own: what a struct is returned in. -/
theorem put3_blk {W : World} {g : Nat} {c0 c1 c2 : Value} (hb : W.heap[g]? = some (.cells #[c0, c1, c2] 25 (0, 0))) (u0 u1 u2 : Value) : (((W.setCell ⟨g, 0, none⟩ u0).setCell ⟨g, 1, none⟩ u1).setCell ⟨g, 2, none⟩ u2).heap[g]? = some (.cells #[u0, u1, u2] 25 (0, 0)) :=
  blk_put (blk_put (blk_put hb 0 u0 rfl) 1 u1 rfl) 2 u2 rfl

set_option maxHeartbeats 2000000 in
theorem mark_one (n : Int) (w : World) (r1 : Int) (r2 : List (List Int)) (r3 : List Bool) (r4 : Int) (h : oneF n = (r1, r2, r3, r4)) :
    Calls Try.prog 19 #[.int .i64 n] w fun e w' => ∃ v1_ v2_ : Value, e = .returned (.tuple #[.agg #[.int .i64 r1, v1_, v2_], .int .i64 r4]) ∧ Kd.S (Kd.slice 3 (Kd.int .i64)) 33 w' w.heap.size (fun k_ => some k_ ≠ (v2_ : Value).ownBlock) v1_ r2 ∧ Kd.R Kd.bool 4 w' w.heap.size (fun k_ => True) v2_ r3 ∧ Below w.heap.size w w' := by
  have hu25 := Try.underlying25
  have H := Aside0.mk h
  clear h
  go_enter Try.func19, Try.ntmps19
  go_upto_region 1 with (fail)
  obtain ⟨W, hW⟩ : ∃ W, W = w.alloc (.cells #[.int .i64 0, .slice none 0 0, .slice none 0 0] 25) := ⟨_, rfl⟩
  have hbx : W.heap[w.heap.size]? = some (.cells #[.int .i64 0, .slice none 0 0, .slice none 0 0] 25 (0, 0)) := by rw [hW]; exact blk_new _ _
  have hbl : Below w.heap.size w W := by rw [hW]; exact below_alloc (Below.refl _ _) _
  rw [← hW]
  clear hW
  have BX := Aside0.mk hbx
  have BL := Aside0.mk hbl
  clear hbx hbl
  by_cases h1 : 200 < n
  · have hb1 : decide (200 < n) = true := decide_eq_true h1
    have e : r1 = 0 ∧ r2 = [] ∧ r3 = [] ∧ r4 = 1 := by
      have := H.out
      simp only [oneF, h1, true_or, if_true, Prod.mk.injEq] at this
      exact ⟨this.1.symm, this.2.1.symm, this.2.2.1.symm, this.2.2.2.symm⟩
    obtain ⟨rfl, rfl, rfl, rfl⟩ := e
    clear H h1
    have k6 := blk_cell BX.out 0
    have k7 := blk_cell BX.out 1
    have k8 := blk_cell BX.out 2
    have m6 := blk_frozen BX.out 0
    have m7 := blk_frozen BX.out 1
    have m8 := blk_frozen BX.out 2
    go_wp2_with fail
    refine bodyPost_ret (results_ct rfl _ _ w.heap.size 25 #[.int .i64 0, .slice none 0 0, .slice none 0 0] (0, 0) _ rfl (put3_blk BX.out _ _ _) Try.underlying25 rfl (by kernel_rfl)) rfl ?_
    exact ⟨_, _, rfl, Kd.S_nil _ _ _ _ _, Kd.R_nil _ _ _ _ _, below_put3 BL.out (Nat.le_refl _) _ _ _⟩
  · have hb1 : decide (200 < n) = false := decide_eq_false h1
    by_cases h2 : n < 1
    · have e : r1 = 0 ∧ r2 = [] ∧ r3 = [] ∧ r4 = 1 := by
        have := H.out
        simp only [oneF, h2, or_true, if_true, Prod.mk.injEq] at this
        exact ⟨this.1.symm, this.2.1.symm, this.2.2.1.symm, this.2.2.2.symm⟩
      obtain ⟨rfl, rfl, rfl, rfl⟩ := e
      have ha : PMarkMakes.calc_All.f n = some (0, [], [], 1) := by unfold PMarkMakes.calc_All.f; rw [if_pos h2]
      clear H h1 h2
      go_wp2_with fail
      refine (PMarkMakes.calc_All.calls n 0 [] [] 1 W ha).mono ?_
      rintro e W2 ⟨v1, v2, rfl, hn, hr, hb⟩
      obtain ⟨A1, a1, rfl⟩ := Kd.N_slice hn
      obtain ⟨A2, a2, rfl⟩ := Kd.R_slice hr
      have B2 := Aside0.mk (blk_below BX.out hb)
      have L2 := Aside0.mk (BL.out.trans (hb.mono BL.out.size))
      clear hn hr hb ha
      go_upto_region 4 with (fail)
      obtain ⟨W3, hW3⟩ : ∃ W3, W3 = W2.alloc (.cells #[.int .i64 0, .slice A1 0 a1, .slice A2 0 a2] 25) := ⟨_, rfl⟩
      have hb3 : Below W2.heap.size W2 W3 := by rw [hW3]; exact below_alloc (Below.refl _ _) _
      have hW3' : W2.alloc (.cells #[.int .i64 0, .slice A1 ([] : List (List Int)).length a1, .slice A2 ([] : List Bool).length a2] 25) = W3 := hW3.symm
      first | rw [← hW3] | rw [hW3']
      have B3 := Aside0.mk (blk_below B2.out hb3)
      have L3 := Aside0.mk (L2.out.trans (hb3.mono L2.out.size))
      clear hb3 hW3 hW3'
      have k6 := blk_cell B3.out 0
      have k7 := blk_cell B3.out 1
      have k8 := blk_cell B3.out 2
      have m6 := blk_frozen B3.out 0
      have m7 := blk_frozen B3.out 1
      have m8 := blk_frozen B3.out 2
      go_wp2_with fail
      refine bodyPost_ret (results_ct rfl _ _ w.heap.size 25 #[.int .i64 0, .slice none 0 0, .slice none 0 0] (0, 0) _ rfl (put3_blk B3.out _ _ _) Try.underlying25 rfl (by kernel_rfl)) rfl ?_
      exact ⟨_, _, rfl, Kd.S_nil _ _ _ _ _, Kd.R_nil _ _ _ _ _, below_put3 L3.out (Nat.le_refl _) _ _ _⟩
    · have HM : Aside0 (markF n [List.replicate n.toNat 0] [true] n [List.replicate n.toNat 0] [true] 3000 = (r1, r2, r3, r4)) := ⟨by
        have := H.out
        simp only [oneF, h1, h2, or_self, if_false] at this
        exact this⟩
      have ha : PMarkMakes.calc_All.f n = some (n, [List.replicate n.toNat 0], [true], 0) := by
        unfold PMarkMakes.calc_All.f
        rw [if_neg h2, if_neg (by omega), if_pos (by omega), if_pos (by omega)]
      clear H h1 h2
      go_wp2_with fail
      refine (PMarkMakes.calc_All.calls n n _ _ 0 W ha).mono ?_
      rintro e W2 ⟨v1, v2, rfl, hn, hr, hb⟩
      obtain ⟨A1, a1, rfl⟩ := Kd.N_slice hn
      obtain ⟨A2, a2, rfl⟩ := Kd.R_slice hr
      obtain ⟨_, n2, n3⟩ := Kd.N_reads' hn
      obtain ⟨_, m2, m3⟩ := Kd.R_reads' hr
      have B2 := Aside0.mk (blk_below BX.out hb)
      have L2 := Aside0.mk (BL.out.trans (hb.mono BL.out.size))
      have N2 := Aside0.mk n2
      have N3 := Aside0.mk n3
      have M2 := Aside0.mk m2
      have M3 := Aside0.mk m3
      clear hn hr hb ha n2 n3 m2 m3
      go_upto_region 4 with (fail)
      obtain ⟨W3, hW3⟩ : ∃ W3, W3 = W2.alloc (.cells #[.int .i64 n, .slice A1 1 a1, .slice A2 1 a2] 25) := ⟨_, rfl⟩
      have hb3 : Below W2.heap.size W2 W3 := by rw [hW3]; exact below_alloc (Below.refl _ _) _
      have X3 : Aside0 (W3.heap[W2.heap.size]? = some (.cells #[.int .i64 n, .slice A1 1 a1, .slice A2 1 a2] 25 (0, 0))) := ⟨by rw [hW3]; exact blk_new _ _⟩
      rw [← hW3]
      have B3 := Aside0.mk (blk_below B2.out hb3)
      have L3 := Aside0.mk (L2.out.trans (hb3.mono L2.out.size))
      have C1 := Aside0.mk (Kd.C_below N3.out hb3)
      have C2 := Aside0.mk (Kd.C_below M3.out hb3)
      clear hb3 hW3
      have k6 := (blk_cell X3.out 0).trans rfl
      have k7 := (blk_cell X3.out 1).trans rfl
      have k8 := (blk_cell X3.out 2).trans rfl
      go_wp2_with fail
      refine (mark_of n A1 a1 [List.replicate n.toNat 0] A2 a2 [true] n A1 a1 [List.replicate n.toNat 0] A2 a2 [true] 3000 W3 C1.out N2.out C2.out M2.out C1.out N2.out C2.out M2.out r1 r2 r3 r4 HM.out).mono ?_
      rintro e W4 ⟨v1, v2, rfl, hs4, hr4, hb4⟩
      obtain ⟨D1, d1, rfl⟩ := Kd.S_slice hs4
      obtain ⟨D2, d2, rfl⟩ := Kd.R_slice hr4
      have B4 := Aside0.mk (blk_below B3.out hb4)
      have L4 := Aside0.mk (L3.out.trans (hb4.mono L3.out.size))
      have S4 := Aside0.mk (Kd.S_lower hs4 L3.out.size)
      have R4 := Aside0.mk (Kd.R_lower hr4 L3.out.size)
      clear hs4 hr4 hb4 k6 k7 k8
      have k6 := blk_cell B4.out 0
      have k7 := blk_cell B4.out 1
      have k8 := blk_cell B4.out 2
      have m6 := blk_frozen B4.out 0
      have m7 := blk_frozen B4.out 1
      have m8 := blk_frozen B4.out 2
      obtain ⟨kp3, hb3, bl3⟩ := keeps_put3 L4.out (Nat.le_refl _) B4.out (.int .i64 r1) (.slice D1 r2.length d1) (.slice D2 r3.length d2)
      have FIN := Aside0.mk (And.intro hb3 (And.intro (S_keeps S4.out kp3 (by decide)) (And.intro (R_keeps R4.out kp3 (by decide)) bl3)))
      clear kp3 hb3 bl3
      go_wp2_with fail
      refine bodyPost_ret (results_ct rfl _ _ w.heap.size 25 #[.int .i64 r1, _, _] (0, 0) _ rfl FIN.out.1 Try.underlying25 rfl (by kernel_rfl)) rfl ?_
      exact ⟨_, _, rfl, FIN.out.2.1, FIN.out.2.2.1, FIN.out.2.2.2⟩
end Go.Proofs.Ytpedenbcfbflbaa.X
namespace Go.Proofs.Ytpedenbcfbflbaa.X
open Go.RowKit Go.Proofs.YtpedenbcfbflbaaW.PrintWords Go.Proofs.YtpedenbcfbflbaaW.PrintLast Go.Proofs.YtpedenbcfbflbaaW.PrintMore Go.Maps Num
set_option linter.unusedVariables false
set_option linter.unusedSimpArgs false

theorem C_box {α : Type} {d : Kd α} {W : World} {g t : Nat} {inner : List Value} {xs : List α} (hb : W.heap[g]? = some (.cells inner.toArray t (0, 0))) (hr : Reps (d.K W) d.sz xs inner) (hm : xs.length ≤ 9223372036854775807) : d.C W (some ⟨g, 0, none⟩) xs.length xs := by
  refine ⟨rfl, hm, fun _ => ⟨_, rfl, fun j p hp => ⟨(inner.drop (j * d.sz)).take d.sz, d.K_len (hr.2 j p hp), hr.2 j p hp, fun i u hu => ?_⟩⟩⟩
  rw [add_plain, blk_cell hb]
  rw [List.getElem?_take] at hu
  split at hu
  · rw [List.getElem?_drop] at hu
    simpa using hu
  · cases hu
theorem C_ints {W : World} {g t : Nat} {xs : List Int} (hb : W.heap[g]? = some (.cells (xs.map (Value.int .i64)).toArray t (0, 0))) (hm : xs.length ≤ 9223372036854775807) : Kd.C (Kd.int .i64) W (some ⟨g, 0, none⟩) xs.length xs :=
  C_box hb (Kd.reps_scalar xs) hm
theorem C_bools {W : World} {g t : Nat} {xs : List Bool} (hb : W.heap[g]? = some (.cells (xs.map Value.bool).toArray t (0, 0))) (hm : xs.length ≤ 9223372036854775807) : Kd.C Kd.bool W (some ⟨g, 0, none⟩) xs.length xs :=
  C_box hb (Kd.reps_scalar xs) hm

def allocs (w : World) : List Obj → World
  | [] => w
  | o :: r => allocs (w.alloc o) r
theorem allocs_below (os : List Obj) : ∀ w : World, Below w.heap.size w (allocs w os) := by
  induction os with
  | nil => exact fun w => Below.refl _ _
  | cons o r ih => exact fun w => (below_alloc (Below.refl _ _) o).trans ((ih (w.alloc o)).mono (by simp))
theorem allocs_get (os : List Obj) : ∀ (w : World) (i : Nat) (o : Obj), os[i]? = some o → (allocs w os).heap[w.heap.size + i]? = some o := by
  induction os with
  | nil => intro w i o h; simp at h
  | cons p r ih =>
    intro w i o h
    cases i with
    | zero =>
      simp at h; subst h
      exact blk_below (blk_new w p) (allocs_below r (w.alloc p))
    | succ i =>
      have := ih (w.alloc p) i o (by simpa using h)
      rw [show (w.alloc p).heap.size = w.heap.size + 1 by simp] at this
      rw [show w.heap.size + (i + 1) = w.heap.size + 1 + i by omega]
      exact this
/-- The first automaton's rows, ends; the second's. -/
def bN : List (List Int) := [[1, 0], [1, 0]]
def bE : List Bool := [false, true]
def aN : List (List Int) := [[1, 2], [1, 1], [2, 2]]
def aE : List Bool := [false, false, true]
/-- What the two make; what all marked ones are. -/
def dN : List (List Int) := [[1, 2, 3, 2], [1, 4, 3, 5], [2, 2, 2, 2], [1, 2, 3, 2], [4, 2, 4, 2], [5, 2, 5, 2]]
def dE : List Bool := [false, false, false, false, false, true]
def oN : List (List Int) := [[1, 2, 1, 2], [1, 3, 1, 3], [2, 2, 2, 2], [3, 2, 3, 2]]
def oE : List Bool := [false, false, false, true]
theorem fOf1 : markF 2 bN bE 2 aN aE 20 = (4, dN, dE, 0) := by kernel_rfl
theorem fOf2 : markF 2 bN bE 2 aN aE 2 = (0, [], [], 13) := by kernel_rfl
theorem fOne : oneF 2 = (4, oN, oE, 0) := by kernel_rfl
theorem fS1 : PMarkMakes.mark_Signs.f 10 [0, 3, 2] = some ([0, 1, 1], 1, true) := by kernel_rfl
theorem fS2 : PMarkMakes.mark_Signs.f 10 [1, 2] = some ([], 0, false) := by kernel_rfl
theorem fT : PMarkMakes.mark_Times.f 10 [1, 3, 2] = some 2 := by kernel_rfl
theorem fI : PMarkMakes.caesuraref01_Ints.f 10 [0, 1, 1] [0, 1, 1] = some true := by kernel_rfl
theorem fA1 : PMarkMakes.caesuraref15_Accepts.f 60 4 dN dE [2, 0, 3, 0] = some true := by kernel_rfl
theorem fA2 : PMarkMakes.caesuraref15_Accepts.f 60 4 dN dE [0, 1] = some false := by kernel_rfl
theorem fA3 : PMarkMakes.caesuraref15_Accepts.f 60 4 dN dE [3] = some false := by kernel_rfl
theorem fA4 : PMarkMakes.caesuraref15_Accepts.f 60 4 oN oE [0, 3] = some true := by kernel_rfl
theorem fA5 : PMarkMakes.caesuraref15_Accepts.f 60 4 oN oE [1] = some false := by kernel_rfl
/-- What a call has returned, to be read from then on. -/
structure Got (base : Nat) (A : Option Addr) (c : Nat) (n : List (List Int)) (B : Option Addr) (d : Nat) (e : List Bool) (W : World) : Prop where
  n1 : n.length ≤ c
  n2 : Kd.C (Kd.slice 3 (Kd.int .i64)) W A n.length n
  e1 : e.length ≤ d
  e2 : Kd.C Kd.bool W B e.length e
theorem Got.below {base : Nat} {A : Option Addr} {c : Nat} {n : List (List Int)} {B : Option Addr} {d : Nat} {e : List Bool} {W W' : World} (h : Got base A c n B d e W) (hb : Below W.heap.size W W') : Got base A c n B d e W' := ⟨h.n1, Kd.C_below h.n2 hb, h.e1, Kd.C_below h.e2 hb⟩
set_option maxHeartbeats 2000000 in
theorem alive12 (w : World) : Calls Try.prog 12 #[] w fun e w' => e = .returned (.bool true) ∧ Below w.heap.size w w' := by
  have hu25 := Try.underlying25
  go_enter Try.func12, Try.ntmps12
  go_upto_region 3 with (fail)
  obtain ⟨W, hW⟩ : ∃ W, W = (((((((((((w.alloc (.cells #[.int .i64 1, .int .i64 0] 3)).alloc (.cells #[.int .i64 1, .int .i64 0] 3)).alloc (.cells #[.slice (some ⟨w.heap.size, 0, none⟩) 2 2, .slice (some ⟨w.heap.size + 1, 0, none⟩) 2 2] 33)).alloc (.cells #[.bool false, .bool true] 4)).alloc (.cells #[.int .i64 2, .slice (some ⟨w.heap.size + 1 + 1, 0, none⟩) 2 2, .slice (some ⟨w.heap.size + 1 + 1 + 1, 0, none⟩) 2 2] 25)).alloc (.cells #[.int .i64 1, .int .i64 2] 3)).alloc (.cells #[.int .i64 1, .int .i64 1] 3)).alloc (.cells #[.int .i64 2, .int .i64 2] 3)).alloc (.cells #[.slice (some ⟨w.heap.size + 1 + 1 + 1 + 1 + 1, 0, none⟩) 2 2, .slice (some ⟨w.heap.size + 1 + 1 + 1 + 1 + 1 + 1, 0, none⟩) 2 2, .slice (some ⟨w.heap.size + 1 + 1 + 1 + 1 + 1 + 1 + 1, 0, none⟩) 2 2] 33)).alloc (.cells #[.bool false, .bool false, .bool true] 4)).alloc (.cells #[.int .i64 2, .slice (some ⟨w.heap.size + 1 + 1 + 1 + 1 + 1 + 1 + 1 + 1, 0, none⟩) 3 3, .slice (some ⟨w.heap.size + 1 + 1 + 1 + 1 + 1 + 1 + 1 + 1 + 1, 0, none⟩) 3 3] 25)) := ⟨_, rfl⟩
  rw [← hW]
  have hA : W = allocs w [(.cells #[.int .i64 1, .int .i64 0] 3), (.cells #[.int .i64 1, .int .i64 0] 3), (.cells #[.slice (some ⟨w.heap.size, 0, none⟩) 2 2, .slice (some ⟨w.heap.size + 1, 0, none⟩) 2 2] 33), (.cells #[.bool false, .bool true] 4), (.cells #[.int .i64 2, .slice (some ⟨w.heap.size + 1 + 1, 0, none⟩) 2 2, .slice (some ⟨w.heap.size + 1 + 1 + 1, 0, none⟩) 2 2] 25), (.cells #[.int .i64 1, .int .i64 2] 3), (.cells #[.int .i64 1, .int .i64 1] 3), (.cells #[.int .i64 2, .int .i64 2] 3), (.cells #[.slice (some ⟨w.heap.size + 1 + 1 + 1 + 1 + 1, 0, none⟩) 2 2, .slice (some ⟨w.heap.size + 1 + 1 + 1 + 1 + 1 + 1, 0, none⟩) 2 2, .slice (some ⟨w.heap.size + 1 + 1 + 1 + 1 + 1 + 1 + 1, 0, none⟩) 2 2] 33), (.cells #[.bool false, .bool false, .bool true] 4), (.cells #[.int .i64 2, .slice (some ⟨w.heap.size + 1 + 1 + 1 + 1 + 1 + 1 + 1 + 1, 0, none⟩) 3 3, .slice (some ⟨w.heap.size + 1 + 1 + 1 + 1 + 1 + 1 + 1 + 1 + 1, 0, none⟩) 3 3] 25)] := hW
  have G := fun i o h => hA ▸ allocs_get [(.cells #[.int .i64 1, .int .i64 0] 3), (.cells #[.int .i64 1, .int .i64 0] 3), (.cells #[.slice (some ⟨w.heap.size, 0, none⟩) 2 2, .slice (some ⟨w.heap.size + 1, 0, none⟩) 2 2] 33), (.cells #[.bool false, .bool true] 4), (.cells #[.int .i64 2, .slice (some ⟨w.heap.size + 1 + 1, 0, none⟩) 2 2, .slice (some ⟨w.heap.size + 1 + 1 + 1, 0, none⟩) 2 2] 25), (.cells #[.int .i64 1, .int .i64 2] 3), (.cells #[.int .i64 1, .int .i64 1] 3), (.cells #[.int .i64 2, .int .i64 2] 3), (.cells #[.slice (some ⟨w.heap.size + 1 + 1 + 1 + 1 + 1, 0, none⟩) 2 2, .slice (some ⟨w.heap.size + 1 + 1 + 1 + 1 + 1 + 1, 0, none⟩) 2 2, .slice (some ⟨w.heap.size + 1 + 1 + 1 + 1 + 1 + 1 + 1, 0, none⟩) 2 2] 33), (.cells #[.bool false, .bool false, .bool true] 4), (.cells #[.int .i64 2, .slice (some ⟨w.heap.size + 1 + 1 + 1 + 1 + 1 + 1 + 1 + 1, 0, none⟩) 3 3, .slice (some ⟨w.heap.size + 1 + 1 + 1 + 1 + 1 + 1 + 1 + 1 + 1, 0, none⟩) 3 3] 25)] w i o h
  have hbl : Below w.heap.size w W := by rw [hA]; exact allocs_below _ w
  clear hW hA
  have CB1 : Aside0 (Kd.C (Kd.slice 3 (Kd.int .i64)) W (some ⟨w.heap.size + 1 + 1, 0, none⟩) bN.length bN) := ⟨C_box (G 2 _ rfl) (Reps.one ⟨some ⟨w.heap.size, 0, none⟩, 2, rfl, by decide, C_ints (xs := [1, 0]) (G 0 _ rfl) (by decide)⟩ (Reps.one ⟨some ⟨w.heap.size + 1, 0, none⟩, 2, rfl, by decide, C_ints (xs := [1, 0]) (G 1 _ rfl) (by decide)⟩ (Reps.none _ _))) (by decide)⟩
  have CB2 : Aside0 (Kd.C Kd.bool W (some ⟨w.heap.size + 1 + 1 + 1, 0, none⟩) bE.length bE) := ⟨C_bools (G 3 _ rfl) (by decide)⟩
  have CA1 : Aside0 (Kd.C (Kd.slice 3 (Kd.int .i64)) W (some ⟨w.heap.size + 1 + 1 + 1 + 1 + 1 + 1 + 1 + 1, 0, none⟩) aN.length aN) := ⟨C_box (G 8 _ rfl) (Reps.one ⟨some ⟨w.heap.size + 1 + 1 + 1 + 1 + 1, 0, none⟩, 2, rfl, by decide, C_ints (xs := [1, 2]) (G 5 _ rfl) (by decide)⟩ (Reps.one ⟨some ⟨w.heap.size + 1 + 1 + 1 + 1 + 1 + 1, 0, none⟩, 2, rfl, by decide, C_ints (xs := [1, 1]) (G 6 _ rfl) (by decide)⟩ (Reps.one ⟨some ⟨w.heap.size + 1 + 1 + 1 + 1 + 1 + 1 + 1, 0, none⟩, 2, rfl, by decide, C_ints (xs := [2, 2]) (G 7 _ rfl) (by decide)⟩ (Reps.none _ _)))) (by decide)⟩
  have CA2 : Aside0 (Kd.C Kd.bool W (some ⟨w.heap.size + 1 + 1 + 1 + 1 + 1 + 1 + 1 + 1 + 1, 0, none⟩) aE.length aE) := ⟨C_bools (G 9 _ rfl) (by decide)⟩
  have X1 := Aside0.mk (G 4 _ rfl)
  have X2 := Aside0.mk (G 10 _ rfl)
  have BL := Aside0.mk hbl
  clear G hbl
  have k0 := (blk_cell X1.out 0).trans rfl
  have k1 := (blk_cell X1.out 1).trans rfl
  have k2 := (blk_cell X1.out 2).trans rfl
  have k3 := (blk_cell X2.out 0).trans rfl
  have k4 := (blk_cell X2.out 1).trans rfl
  have k5 := (blk_cell X2.out 2).trans rfl
  go_wp2_with fail
  refine (mark_of 2 _ 2 bN _ 2 bE 2 _ 3 aN _ 3 aE 20 W CB1.out (by decide) CB2.out (by decide) CA1.out (by decide) CA2.out (by decide) 4 dN dE 0 fOf1).mono ?_
  rintro e W2 ⟨v1, v2, rfl, hs, hr, hb⟩
  obtain ⟨D1, d1, rfl⟩ := Kd.S_slice hs
  obtain ⟨D2, d2, rfl⟩ := Kd.R_slice hr
  have GD : Aside0 (Got 0 D1 d1 dN D2 d2 dE W2) := ⟨⟨(Kd.S_reads' hs).2.1, (Kd.S_reads' hs).2.2, (Kd.R_reads' hr).2.1, (Kd.R_reads' hr).2.2⟩⟩
  have Y1 := Aside0.mk (blk_below X1.out hb)
  have Y2 := Aside0.mk (blk_below X2.out hb)
  have BL2 := Aside0.mk (BL.out.trans (hb.mono BL.out.size))
  have CB1' := Aside0.mk (Kd.C_below CB1.out hb)
  have CB2' := Aside0.mk (Kd.C_below CB2.out hb)
  have CA1' := Aside0.mk (Kd.C_below CA1.out hb)
  have CA2' := Aside0.mk (Kd.C_below CA2.out hb)
  clear hs hr hb k0 k1 k2 k3 k4 k5 X1 X2 BL CB1 CB2 CA1 CA2
  go_upto_region 4 with (fail)
  have CB1p := CB1'
  have CB2p := CB2'
  have CA1p := CA1'
  have CA2p := CA2'
  clear CB1' CB2' CA1' CA2'
  obtain ⟨W3, h_⟩ : ∃ W_, W_ = W2.alloc (.cells #[.int .i64 4, .slice D1 dN.length d1, .slice D2 dE.length d2] 25) := ⟨_, rfl⟩
  have hb_ : Below W2.heap.size W2 W3 := by rw [h_]; exact below_alloc (Below.refl _ _) _
  have hx_ : W3.heap[W2.heap.size]? = some (.cells #[.int .i64 4, .slice D1 dN.length d1, .slice D2 dE.length d2] 25 (0, 0)) := by rw [h_]; exact blk_new _ _
  rw [← h_]
  clear h_
  have n_BL2 := Aside0.mk (BL2.out.trans (Below.mono hb_ BL2.out.size))
  have n_GD := Aside0.mk (Got.below GD.out hb_)
  have n_Y1 := Aside0.mk (blk_below Y1.out hb_)
  have n_Y2 := Aside0.mk (blk_below Y2.out hb_)
  have n_CB1p := Aside0.mk (Kd.C_below CB1p.out hb_)
  have n_CB2p := Aside0.mk (Kd.C_below CB2p.out hb_)
  have n_CA1p := Aside0.mk (Kd.C_below CA1p.out hb_)
  have n_CA2p := Aside0.mk (Kd.C_below CA2p.out hb_)
  clear BL2
  have BL2 := n_BL2
  clear n_BL2
  clear GD
  have GD := n_GD
  clear n_GD
  clear Y1
  have Y1 := n_Y1
  clear n_Y1
  clear Y2
  have Y2 := n_Y2
  clear n_Y2
  clear CB1p
  have CB1p := n_CB1p
  clear n_CB1p
  clear CB2p
  have CB2p := n_CB2p
  clear n_CB2p
  clear CA1p
  have CA1p := n_CA1p
  clear n_CA1p
  clear CA2p
  have CA2p := n_CA2p
  clear n_CA2p
  clear hb_
  obtain ⟨gd, e_⟩ : ∃ g_, g_ = W2.heap.size := ⟨_, rfl⟩
  rw [← e_] at hx_ ⊢
  clear e_
  have XD := Aside0.mk hx_
  have p0 := (blk_cell Y1.out 0).trans rfl
  have p1 := (blk_cell Y1.out 1).trans rfl
  have p2 := (blk_cell Y1.out 2).trans rfl
  have q0 := (blk_cell Y2.out 0).trans rfl
  have q1 := (blk_cell Y2.out 1).trans rfl
  have q2 := (blk_cell Y2.out 2).trans rfl
  go_wp2_with fail
  refine (mark_of 2 _ 2 bN _ 2 bE 2 _ 3 aN _ 3 aE 2 W3 CB1p.out (by decide) CB2p.out (by decide) CA1p.out (by decide) CA2p.out (by decide) 0 [] [] 13 fOf2).mono ?_
  rintro e W4 ⟨v1, v2, rfl, hs, hr, hb⟩
  obtain ⟨Z1, z1, rfl⟩ := Kd.S_slice hs
  obtain ⟨Z2, z2, rfl⟩ := Kd.R_slice hr
  have GZ : Aside0 (Got 0 Z1 z1 ([] : List (List Int)) Z2 z2 ([] : List Bool) W4) := ⟨⟨(Kd.S_reads' hs).2.1, (Kd.S_reads' hs).2.2, (Kd.R_reads' hr).2.1, (Kd.R_reads' hr).2.2⟩⟩
  have n_BL2 := Aside0.mk (BL2.out.trans (Below.mono hb BL2.out.size))
  have n_GD := Aside0.mk (Got.below GD.out hb)
  have n_Y1 := Aside0.mk (blk_below Y1.out hb)
  have n_Y2 := Aside0.mk (blk_below Y2.out hb)
  have n_CB1p := Aside0.mk (Kd.C_below CB1p.out hb)
  have n_CB2p := Aside0.mk (Kd.C_below CB2p.out hb)
  have n_CA1p := Aside0.mk (Kd.C_below CA1p.out hb)
  have n_CA2p := Aside0.mk (Kd.C_below CA2p.out hb)
  have n_XD := Aside0.mk (blk_below XD.out hb)
  clear BL2
  have BL2 := n_BL2
  clear n_BL2
  clear GD
  have GD := n_GD
  clear n_GD
  clear Y1
  have Y1 := n_Y1
  clear n_Y1
  clear Y2
  have Y2 := n_Y2
  clear n_Y2
  clear CB1p
  have CB1p := n_CB1p
  clear n_CB1p
  clear CB2p
  have CB2p := n_CB2p
  clear n_CB2p
  clear CA1p
  have CA1p := n_CA1p
  clear n_CA1p
  clear CA2p
  have CA2p := n_CA2p
  clear n_CA2p
  clear XD
  have XD := n_XD
  clear n_XD
  clear hs hr hb
  clear p0 p1 p2
  clear q0 q1 q2
  clear Y1 Y2 CB1p CB2p CA1p CA2p GZ
  go_upto_region 5 with (fail)
  obtain ⟨W5, h_⟩ : ∃ W_, W_ = W4.alloc (.cells #[.int .i64 0, .slice Z1 0 z1, .slice Z2 0 z2] 25) := ⟨_, rfl⟩
  have hb_ : Below W4.heap.size W4 W5 := by rw [h_]; exact below_alloc (Below.refl _ _) _
  have hx_ : W5.heap[W4.heap.size]? = some (.cells #[.int .i64 0, .slice Z1 0 z1, .slice Z2 0 z2] 25 (0, 0)) := by rw [h_]; exact blk_new _ _
  rw [← h_]
  clear h_
  have n_BL2 := Aside0.mk (BL2.out.trans (Below.mono hb_ BL2.out.size))
  have n_GD := Aside0.mk (Got.below GD.out hb_)
  have n_XD := Aside0.mk (blk_below XD.out hb_)
  clear BL2
  have BL2 := n_BL2
  clear n_BL2
  clear GD
  have GD := n_GD
  clear n_GD
  clear XD
  have XD := n_XD
  clear n_XD
  clear hb_
  clear hx_
  go_wp2_with fail
  refine (mark_one 2 W5 4 oN oE 0 fOne).mono ?_
  rintro e W6 ⟨v1, v2, rfl, hs, hr, hb⟩
  obtain ⟨O1, o1, rfl⟩ := Kd.S_slice hs
  obtain ⟨O2, o2, rfl⟩ := Kd.R_slice hr
  have GO : Aside0 (Got 0 O1 o1 oN O2 o2 oE W6) := ⟨⟨(Kd.S_reads' hs).2.1, (Kd.S_reads' hs).2.2, (Kd.R_reads' hr).2.1, (Kd.R_reads' hr).2.2⟩⟩
  have n_BL2 := Aside0.mk (BL2.out.trans (Below.mono hb BL2.out.size))
  have n_GD := Aside0.mk (Got.below GD.out hb)
  have n_XD := Aside0.mk (blk_below XD.out hb)
  clear BL2
  have BL2 := n_BL2
  clear n_BL2
  clear GD
  have GD := n_GD
  clear n_GD
  clear XD
  have XD := n_XD
  clear n_XD
  clear hs hr hb
  go_upto_region 6 with (fail)
  obtain ⟨W7, h_⟩ : ∃ W_, W_ = W6.alloc (.cells #[.int .i64 4, .slice O1 oN.length o1, .slice O2 oE.length o2] 25) := ⟨_, rfl⟩
  have hb_ : Below W6.heap.size W6 W7 := by rw [h_]; exact below_alloc (Below.refl _ _) _
  have hx_ : W7.heap[W6.heap.size]? = some (.cells #[.int .i64 4, .slice O1 oN.length o1, .slice O2 oE.length o2] 25 (0, 0)) := by rw [h_]; exact blk_new _ _
  rw [← h_]
  clear h_
  have n_BL2 := Aside0.mk (BL2.out.trans (Below.mono hb_ BL2.out.size))
  have n_GD := Aside0.mk (Got.below GD.out hb_)
  have n_XD := Aside0.mk (blk_below XD.out hb_)
  have n_GO := Aside0.mk (Got.below GO.out hb_)
  clear BL2
  have BL2 := n_BL2
  clear n_BL2
  clear GD
  have GD := n_GD
  clear n_GD
  clear XD
  have XD := n_XD
  clear n_XD
  clear GO
  have GO := n_GO
  clear n_GO
  clear hb_
  obtain ⟨go, e_⟩ : ∃ g_, g_ = W6.heap.size := ⟨_, rfl⟩
  rw [← e_] at hx_ ⊢
  clear e_
  have XO := Aside0.mk hx_
  have xd0 := (blk_cell XD.out 0).trans rfl
  have xd1 := (blk_cell XD.out 1).trans rfl
  have xd2 := (blk_cell XD.out 2).trans rfl
  have xo0 := (blk_cell XO.out 0).trans rfl
  have xo1 := (blk_cell XO.out 1).trans rfl
  have xo2 := (blk_cell XO.out 2).trans rfl
  go_wp2_with fail
  obtain ⟨W8, h_⟩ : ∃ W_, W_ = W7.alloc (.cells #[.int .i64 0, .int .i64 3, .int .i64 2] 3) := ⟨_, rfl⟩
  have hb_ : Below W7.heap.size W7 W8 := by rw [h_]; exact below_alloc (Below.refl _ _) _
  have hx_ : W8.heap[W7.heap.size]? = some (.cells #[.int .i64 0, .int .i64 3, .int .i64 2] 3 (0, 0)) := by rw [h_]; exact blk_new _ _
  rw [← h_]
  clear h_
  have n_BL2 := Aside0.mk (BL2.out.trans (Below.mono hb_ BL2.out.size))
  have n_GD := Aside0.mk (Got.below GD.out hb_)
  have n_XD := Aside0.mk (blk_below XD.out hb_)
  have n_GO := Aside0.mk (Got.below GO.out hb_)
  have n_XO := Aside0.mk (blk_below XO.out hb_)
  clear BL2
  have BL2 := n_BL2
  clear n_BL2
  clear GD
  have GD := n_GD
  clear n_GD
  clear XD
  have XD := n_XD
  clear n_XD
  clear GO
  have GO := n_GO
  clear n_GO
  clear XO
  have XO := n_XO
  clear n_XO
  clear hb_
  obtain ⟨gl1, e_⟩ : ∃ g_, g_ = W7.heap.size := ⟨_, rfl⟩
  rw [← e_] at hx_ ⊢
  clear e_
  have LX1 := Aside0.mk hx_
  clear hx_
  clear xd0 xd1 xd2
  have xd0 := (blk_cell XD.out 0).trans rfl
  have xd1 := (blk_cell XD.out 1).trans rfl
  have xd2 := (blk_cell XD.out 2).trans rfl
  clear xo0 xo1 xo2
  have xo0 := (blk_cell XO.out 0).trans rfl
  have xo1 := (blk_cell XO.out 1).trans rfl
  have xo2 := (blk_cell XO.out 2).trans rfl
  refine (PMarkMakes.mark_Signs.calls 10 (some ⟨gl1, 0, none⟩) 3 [0, 3, 2] [0, 1, 1] 1 true W8 (C_ints (xs := [0, 3, 2]) LX1.out (by decide)) (by decide) fS1).mono ?_
  rintro e W9 ⟨v1, rfl, hr, hb⟩
  obtain ⟨S1, s1, rfl⟩ := Kd.R_slice hr
  have n_BL2 := Aside0.mk (BL2.out.trans (Below.mono hb BL2.out.size))
  have n_GD := Aside0.mk (Got.below GD.out hb)
  have n_XD := Aside0.mk (blk_below XD.out hb)
  have n_GO := Aside0.mk (Got.below GO.out hb)
  have n_XO := Aside0.mk (blk_below XO.out hb)
  have n_LX1 := Aside0.mk (blk_below LX1.out hb)
  clear BL2
  have BL2 := n_BL2
  clear n_BL2
  clear GD
  have GD := n_GD
  clear n_GD
  clear XD
  have XD := n_XD
  clear n_XD
  clear GO
  have GO := n_GO
  clear n_GO
  clear XO
  have XO := n_XO
  clear n_XO
  clear LX1
  have LX1 := n_LX1
  clear n_LX1
  have RS := Aside0.mk (Kd.R_reads' hr)
  clear hr hb
  clear xd0 xd1 xd2
  have xd0 := (blk_cell XD.out 0).trans rfl
  have xd1 := (blk_cell XD.out 1).trans rfl
  have xd2 := (blk_cell XD.out 2).trans rfl
  clear xo0 xo1 xo2
  have xo0 := (blk_cell XO.out 0).trans rfl
  have xo1 := (blk_cell XO.out 1).trans rfl
  have xo2 := (blk_cell XO.out 2).trans rfl
  have RC := Aside0.mk RS.out.2.2
  clear LX1
  go_wp2_with fail
  obtain ⟨W10, h_⟩ : ∃ W_, W_ = W9.alloc (.cells #[.int .i64 1, .int .i64 2] 3) := ⟨_, rfl⟩
  have hb_ : Below W9.heap.size W9 W10 := by rw [h_]; exact below_alloc (Below.refl _ _) _
  have hx_ : W10.heap[W9.heap.size]? = some (.cells #[.int .i64 1, .int .i64 2] 3 (0, 0)) := by rw [h_]; exact blk_new _ _
  rw [← h_]
  clear h_
  have n_BL2 := Aside0.mk (BL2.out.trans (Below.mono hb_ BL2.out.size))
  have n_GD := Aside0.mk (Got.below GD.out hb_)
  have n_XD := Aside0.mk (blk_below XD.out hb_)
  have n_GO := Aside0.mk (Got.below GO.out hb_)
  have n_XO := Aside0.mk (blk_below XO.out hb_)
  have n_RC := Aside0.mk (Kd.C_below RC.out hb_)
  clear BL2
  have BL2 := n_BL2
  clear n_BL2
  clear GD
  have GD := n_GD
  clear n_GD
  clear XD
  have XD := n_XD
  clear n_XD
  clear GO
  have GO := n_GO
  clear n_GO
  clear XO
  have XO := n_XO
  clear n_XO
  clear RC
  have RC := n_RC
  clear n_RC
  clear hb_
  obtain ⟨gl2, e_⟩ : ∃ g_, g_ = W9.heap.size := ⟨_, rfl⟩
  rw [← e_] at hx_ ⊢
  clear e_
  have LX2 := Aside0.mk hx_
  clear hx_
  clear xd0 xd1 xd2
  have xd0 := (blk_cell XD.out 0).trans rfl
  have xd1 := (blk_cell XD.out 1).trans rfl
  have xd2 := (blk_cell XD.out 2).trans rfl
  clear xo0 xo1 xo2
  have xo0 := (blk_cell XO.out 0).trans rfl
  have xo1 := (blk_cell XO.out 1).trans rfl
  have xo2 := (blk_cell XO.out 2).trans rfl
  refine (PMarkMakes.mark_Signs.calls 10 (some ⟨gl2, 0, none⟩) 2 [1, 2] [] 0 false W10 (C_ints (xs := [1, 2]) LX2.out (by decide)) (by decide) fS2).mono ?_
  rintro e W11 ⟨v1, rfl, hr, hb⟩
  obtain ⟨T1, t1, rfl⟩ := Kd.R_slice hr
  have n_BL2 := Aside0.mk (BL2.out.trans (Below.mono hb BL2.out.size))
  have n_GD := Aside0.mk (Got.below GD.out hb)
  have n_XD := Aside0.mk (blk_below XD.out hb)
  have n_GO := Aside0.mk (Got.below GO.out hb)
  have n_XO := Aside0.mk (blk_below XO.out hb)
  have n_RC := Aside0.mk (Kd.C_below RC.out hb)
  have n_LX2 := Aside0.mk (blk_below LX2.out hb)
  clear BL2
  have BL2 := n_BL2
  clear n_BL2
  clear GD
  have GD := n_GD
  clear n_GD
  clear XD
  have XD := n_XD
  clear n_XD
  clear GO
  have GO := n_GO
  clear n_GO
  clear XO
  have XO := n_XO
  clear n_XO
  clear RC
  have RC := n_RC
  clear n_RC
  clear LX2
  have LX2 := n_LX2
  clear n_LX2
  have RZ := Aside0.mk (Kd.R_reads' hr)
  clear hr hb
  clear xd0 xd1 xd2
  have xd0 := (blk_cell XD.out 0).trans rfl
  have xd1 := (blk_cell XD.out 1).trans rfl
  have xd2 := (blk_cell XD.out 2).trans rfl
  clear xo0 xo1 xo2
  have xo0 := (blk_cell XO.out 0).trans rfl
  have xo1 := (blk_cell XO.out 1).trans rfl
  have xo2 := (blk_cell XO.out 2).trans rfl
  clear RZ
  clear LX2
  go_wp2_with fail
  obtain ⟨W12, h_⟩ : ∃ W_, W_ = W11.alloc (.cells #[.int .i64 2, .int .i64 0, .int .i64 3, .int .i64 0] 3) := ⟨_, rfl⟩
  have hb_ : Below W11.heap.size W11 W12 := by rw [h_]; exact below_alloc (Below.refl _ _) _
  have hx_ : W12.heap[W11.heap.size]? = some (.cells #[.int .i64 2, .int .i64 0, .int .i64 3, .int .i64 0] 3 (0, 0)) := by rw [h_]; exact blk_new _ _
  rw [← h_]
  clear h_
  have n_BL2 := Aside0.mk (BL2.out.trans (Below.mono hb_ BL2.out.size))
  have n_GD := Aside0.mk (Got.below GD.out hb_)
  have n_XD := Aside0.mk (blk_below XD.out hb_)
  have n_GO := Aside0.mk (Got.below GO.out hb_)
  have n_XO := Aside0.mk (blk_below XO.out hb_)
  have n_RC := Aside0.mk (Kd.C_below RC.out hb_)
  clear BL2
  have BL2 := n_BL2
  clear n_BL2
  clear GD
  have GD := n_GD
  clear n_GD
  clear XD
  have XD := n_XD
  clear n_XD
  clear GO
  have GO := n_GO
  clear n_GO
  clear XO
  have XO := n_XO
  clear n_XO
  clear RC
  have RC := n_RC
  clear n_RC
  clear hb_
  obtain ⟨gl3, e_⟩ : ∃ g_, g_ = W11.heap.size := ⟨_, rfl⟩
  rw [← e_] at hx_ ⊢
  clear e_
  have LX3 := Aside0.mk hx_
  clear hx_
  clear xd0 xd1 xd2
  have xd0 := (blk_cell XD.out 0).trans rfl
  have xd1 := (blk_cell XD.out 1).trans rfl
  have xd2 := (blk_cell XD.out 2).trans rfl
  clear xo0 xo1 xo2
  have xo0 := (blk_cell XO.out 0).trans rfl
  have xo1 := (blk_cell XO.out 1).trans rfl
  have xo2 := (blk_cell XO.out 2).trans rfl
  refine (PMarkMakes.caesuraref15_Accepts.calls 60 4 D1 d1 dN D2 d2 dE (some ⟨gl3, 0, none⟩) 4 [2, 0, 3, 0] true W12 GD.out.n2 GD.out.n1 GD.out.e2 GD.out.e1 (C_ints (xs := [2, 0, 3, 0]) LX3.out (by decide)) (by decide) fA1).mono ?_
  rintro e W13 ⟨rfl, hb⟩
  have n_BL2 := Aside0.mk (BL2.out.trans (Below.mono hb BL2.out.size))
  have n_GD := Aside0.mk (Got.below GD.out hb)
  have n_XD := Aside0.mk (blk_below XD.out hb)
  have n_GO := Aside0.mk (Got.below GO.out hb)
  have n_XO := Aside0.mk (blk_below XO.out hb)
  have n_RC := Aside0.mk (Kd.C_below RC.out hb)
  have n_LX3 := Aside0.mk (blk_below LX3.out hb)
  clear BL2
  have BL2 := n_BL2
  clear n_BL2
  clear GD
  have GD := n_GD
  clear n_GD
  clear XD
  have XD := n_XD
  clear n_XD
  clear GO
  have GO := n_GO
  clear n_GO
  clear XO
  have XO := n_XO
  clear n_XO
  clear RC
  have RC := n_RC
  clear n_RC
  clear LX3
  have LX3 := n_LX3
  clear n_LX3
  clear hb
  clear xd0 xd1 xd2
  have xd0 := (blk_cell XD.out 0).trans rfl
  have xd1 := (blk_cell XD.out 1).trans rfl
  have xd2 := (blk_cell XD.out 2).trans rfl
  clear xo0 xo1 xo2
  have xo0 := (blk_cell XO.out 0).trans rfl
  have xo1 := (blk_cell XO.out 1).trans rfl
  have xo2 := (blk_cell XO.out 2).trans rfl
  clear LX3
  go_wp2_with fail
  obtain ⟨W14, h_⟩ : ∃ W_, W_ = W13.alloc (.cells #[.int .i64 0, .int .i64 1] 3) := ⟨_, rfl⟩
  have hb_ : Below W13.heap.size W13 W14 := by rw [h_]; exact below_alloc (Below.refl _ _) _
  have hx_ : W14.heap[W13.heap.size]? = some (.cells #[.int .i64 0, .int .i64 1] 3 (0, 0)) := by rw [h_]; exact blk_new _ _
  rw [← h_]
  clear h_
  have n_BL2 := Aside0.mk (BL2.out.trans (Below.mono hb_ BL2.out.size))
  have n_GD := Aside0.mk (Got.below GD.out hb_)
  have n_XD := Aside0.mk (blk_below XD.out hb_)
  have n_GO := Aside0.mk (Got.below GO.out hb_)
  have n_XO := Aside0.mk (blk_below XO.out hb_)
  have n_RC := Aside0.mk (Kd.C_below RC.out hb_)
  clear BL2
  have BL2 := n_BL2
  clear n_BL2
  clear GD
  have GD := n_GD
  clear n_GD
  clear XD
  have XD := n_XD
  clear n_XD
  clear GO
  have GO := n_GO
  clear n_GO
  clear XO
  have XO := n_XO
  clear n_XO
  clear RC
  have RC := n_RC
  clear n_RC
  clear hb_
  obtain ⟨gl4, e_⟩ : ∃ g_, g_ = W13.heap.size := ⟨_, rfl⟩
  rw [← e_] at hx_ ⊢
  clear e_
  have LX4 := Aside0.mk hx_
  clear hx_
  clear xd0 xd1 xd2
  have xd0 := (blk_cell XD.out 0).trans rfl
  have xd1 := (blk_cell XD.out 1).trans rfl
  have xd2 := (blk_cell XD.out 2).trans rfl
  clear xo0 xo1 xo2
  have xo0 := (blk_cell XO.out 0).trans rfl
  have xo1 := (blk_cell XO.out 1).trans rfl
  have xo2 := (blk_cell XO.out 2).trans rfl
  refine (PMarkMakes.caesuraref15_Accepts.calls 60 4 D1 d1 dN D2 d2 dE (some ⟨gl4, 0, none⟩) 2 [0, 1] false W14 GD.out.n2 GD.out.n1 GD.out.e2 GD.out.e1 (C_ints (xs := [0, 1]) LX4.out (by decide)) (by decide) fA2).mono ?_
  rintro e W15 ⟨rfl, hb⟩
  have n_BL2 := Aside0.mk (BL2.out.trans (Below.mono hb BL2.out.size))
  have n_GD := Aside0.mk (Got.below GD.out hb)
  have n_XD := Aside0.mk (blk_below XD.out hb)
  have n_GO := Aside0.mk (Got.below GO.out hb)
  have n_XO := Aside0.mk (blk_below XO.out hb)
  have n_RC := Aside0.mk (Kd.C_below RC.out hb)
  have n_LX4 := Aside0.mk (blk_below LX4.out hb)
  clear BL2
  have BL2 := n_BL2
  clear n_BL2
  clear GD
  have GD := n_GD
  clear n_GD
  clear XD
  have XD := n_XD
  clear n_XD
  clear GO
  have GO := n_GO
  clear n_GO
  clear XO
  have XO := n_XO
  clear n_XO
  clear RC
  have RC := n_RC
  clear n_RC
  clear LX4
  have LX4 := n_LX4
  clear n_LX4
  clear hb
  clear xd0 xd1 xd2
  have xd0 := (blk_cell XD.out 0).trans rfl
  have xd1 := (blk_cell XD.out 1).trans rfl
  have xd2 := (blk_cell XD.out 2).trans rfl
  clear xo0 xo1 xo2
  have xo0 := (blk_cell XO.out 0).trans rfl
  have xo1 := (blk_cell XO.out 1).trans rfl
  have xo2 := (blk_cell XO.out 2).trans rfl
  clear LX4
  go_wp2_with fail
  obtain ⟨W16, h_⟩ : ∃ W_, W_ = W15.alloc (.cells #[.int .i64 3] 3) := ⟨_, rfl⟩
  have hb_ : Below W15.heap.size W15 W16 := by rw [h_]; exact below_alloc (Below.refl _ _) _
  have hx_ : W16.heap[W15.heap.size]? = some (.cells #[.int .i64 3] 3 (0, 0)) := by rw [h_]; exact blk_new _ _
  rw [← h_]
  clear h_
  have n_BL2 := Aside0.mk (BL2.out.trans (Below.mono hb_ BL2.out.size))
  have n_GD := Aside0.mk (Got.below GD.out hb_)
  have n_XD := Aside0.mk (blk_below XD.out hb_)
  have n_GO := Aside0.mk (Got.below GO.out hb_)
  have n_XO := Aside0.mk (blk_below XO.out hb_)
  have n_RC := Aside0.mk (Kd.C_below RC.out hb_)
  clear BL2
  have BL2 := n_BL2
  clear n_BL2
  clear GD
  have GD := n_GD
  clear n_GD
  clear XD
  have XD := n_XD
  clear n_XD
  clear GO
  have GO := n_GO
  clear n_GO
  clear XO
  have XO := n_XO
  clear n_XO
  clear RC
  have RC := n_RC
  clear n_RC
  clear hb_
  obtain ⟨gl5, e_⟩ : ∃ g_, g_ = W15.heap.size := ⟨_, rfl⟩
  rw [← e_] at hx_ ⊢
  clear e_
  have LX5 := Aside0.mk hx_
  clear hx_
  clear xd0 xd1 xd2
  have xd0 := (blk_cell XD.out 0).trans rfl
  have xd1 := (blk_cell XD.out 1).trans rfl
  have xd2 := (blk_cell XD.out 2).trans rfl
  clear xo0 xo1 xo2
  have xo0 := (blk_cell XO.out 0).trans rfl
  have xo1 := (blk_cell XO.out 1).trans rfl
  have xo2 := (blk_cell XO.out 2).trans rfl
  refine (PMarkMakes.caesuraref15_Accepts.calls 60 4 D1 d1 dN D2 d2 dE (some ⟨gl5, 0, none⟩) 1 [3] false W16 GD.out.n2 GD.out.n1 GD.out.e2 GD.out.e1 (C_ints (xs := [3]) LX5.out (by decide)) (by decide) fA3).mono ?_
  rintro e W17 ⟨rfl, hb⟩
  have n_BL2 := Aside0.mk (BL2.out.trans (Below.mono hb BL2.out.size))
  have n_GD := Aside0.mk (Got.below GD.out hb)
  have n_XD := Aside0.mk (blk_below XD.out hb)
  have n_GO := Aside0.mk (Got.below GO.out hb)
  have n_XO := Aside0.mk (blk_below XO.out hb)
  have n_RC := Aside0.mk (Kd.C_below RC.out hb)
  have n_LX5 := Aside0.mk (blk_below LX5.out hb)
  clear BL2
  have BL2 := n_BL2
  clear n_BL2
  clear GD
  have GD := n_GD
  clear n_GD
  clear XD
  have XD := n_XD
  clear n_XD
  clear GO
  have GO := n_GO
  clear n_GO
  clear XO
  have XO := n_XO
  clear n_XO
  clear RC
  have RC := n_RC
  clear n_RC
  clear LX5
  have LX5 := n_LX5
  clear n_LX5
  clear hb
  clear xd0 xd1 xd2
  have xd0 := (blk_cell XD.out 0).trans rfl
  have xd1 := (blk_cell XD.out 1).trans rfl
  have xd2 := (blk_cell XD.out 2).trans rfl
  clear xo0 xo1 xo2
  have xo0 := (blk_cell XO.out 0).trans rfl
  have xo1 := (blk_cell XO.out 1).trans rfl
  have xo2 := (blk_cell XO.out 2).trans rfl
  clear LX5
  have hol : oN.length = 4 := rfl
  go_wp2_with fail
  obtain ⟨W18, h_⟩ : ∃ W_, W_ = W17.alloc (.cells #[.int .i64 0, .int .i64 3] 3) := ⟨_, rfl⟩
  have hb_ : Below W17.heap.size W17 W18 := by rw [h_]; exact below_alloc (Below.refl _ _) _
  have hx_ : W18.heap[W17.heap.size]? = some (.cells #[.int .i64 0, .int .i64 3] 3 (0, 0)) := by rw [h_]; exact blk_new _ _
  rw [← h_]
  clear h_
  have n_BL2 := Aside0.mk (BL2.out.trans (Below.mono hb_ BL2.out.size))
  have n_GD := Aside0.mk (Got.below GD.out hb_)
  have n_XD := Aside0.mk (blk_below XD.out hb_)
  have n_GO := Aside0.mk (Got.below GO.out hb_)
  have n_XO := Aside0.mk (blk_below XO.out hb_)
  have n_RC := Aside0.mk (Kd.C_below RC.out hb_)
  clear BL2
  have BL2 := n_BL2
  clear n_BL2
  clear GD
  have GD := n_GD
  clear n_GD
  clear XD
  have XD := n_XD
  clear n_XD
  clear GO
  have GO := n_GO
  clear n_GO
  clear XO
  have XO := n_XO
  clear n_XO
  clear RC
  have RC := n_RC
  clear n_RC
  clear hb_
  obtain ⟨gl6, e_⟩ : ∃ g_, g_ = W17.heap.size := ⟨_, rfl⟩
  rw [← e_] at hx_ ⊢
  clear e_
  have LX6 := Aside0.mk hx_
  clear hx_
  clear xd0 xd1 xd2
  have xd0 := (blk_cell XD.out 0).trans rfl
  have xd1 := (blk_cell XD.out 1).trans rfl
  have xd2 := (blk_cell XD.out 2).trans rfl
  clear xo0 xo1 xo2
  have xo0 := (blk_cell XO.out 0).trans rfl
  have xo1 := (blk_cell XO.out 1).trans rfl
  have xo2 := (blk_cell XO.out 2).trans rfl
  refine (PMarkMakes.caesuraref15_Accepts.calls 60 4 O1 o1 oN O2 o2 oE (some ⟨gl6, 0, none⟩) 2 [0, 3] true W18 GO.out.n2 GO.out.n1 GO.out.e2 GO.out.e1 (C_ints (xs := [0, 3]) LX6.out (by decide)) (by decide) fA4).mono ?_
  rintro e W19 ⟨rfl, hb⟩
  have n_BL2 := Aside0.mk (BL2.out.trans (Below.mono hb BL2.out.size))
  have n_GD := Aside0.mk (Got.below GD.out hb)
  have n_XD := Aside0.mk (blk_below XD.out hb)
  have n_GO := Aside0.mk (Got.below GO.out hb)
  have n_XO := Aside0.mk (blk_below XO.out hb)
  have n_RC := Aside0.mk (Kd.C_below RC.out hb)
  have n_LX6 := Aside0.mk (blk_below LX6.out hb)
  clear BL2
  have BL2 := n_BL2
  clear n_BL2
  clear GD
  have GD := n_GD
  clear n_GD
  clear XD
  have XD := n_XD
  clear n_XD
  clear GO
  have GO := n_GO
  clear n_GO
  clear XO
  have XO := n_XO
  clear n_XO
  clear RC
  have RC := n_RC
  clear n_RC
  clear LX6
  have LX6 := n_LX6
  clear n_LX6
  clear hb
  clear xd0 xd1 xd2
  have xd0 := (blk_cell XD.out 0).trans rfl
  have xd1 := (blk_cell XD.out 1).trans rfl
  have xd2 := (blk_cell XD.out 2).trans rfl
  clear xo0 xo1 xo2
  have xo0 := (blk_cell XO.out 0).trans rfl
  have xo1 := (blk_cell XO.out 1).trans rfl
  have xo2 := (blk_cell XO.out 2).trans rfl
  clear LX6
  go_wp2_with fail
  obtain ⟨W20, h_⟩ : ∃ W_, W_ = W19.alloc (.cells #[.int .i64 1] 3) := ⟨_, rfl⟩
  have hb_ : Below W19.heap.size W19 W20 := by rw [h_]; exact below_alloc (Below.refl _ _) _
  have hx_ : W20.heap[W19.heap.size]? = some (.cells #[.int .i64 1] 3 (0, 0)) := by rw [h_]; exact blk_new _ _
  rw [← h_]
  clear h_
  have n_BL2 := Aside0.mk (BL2.out.trans (Below.mono hb_ BL2.out.size))
  have n_GD := Aside0.mk (Got.below GD.out hb_)
  have n_XD := Aside0.mk (blk_below XD.out hb_)
  have n_GO := Aside0.mk (Got.below GO.out hb_)
  have n_XO := Aside0.mk (blk_below XO.out hb_)
  have n_RC := Aside0.mk (Kd.C_below RC.out hb_)
  clear BL2
  have BL2 := n_BL2
  clear n_BL2
  clear GD
  have GD := n_GD
  clear n_GD
  clear XD
  have XD := n_XD
  clear n_XD
  clear GO
  have GO := n_GO
  clear n_GO
  clear XO
  have XO := n_XO
  clear n_XO
  clear RC
  have RC := n_RC
  clear n_RC
  clear hb_
  obtain ⟨gl7, e_⟩ : ∃ g_, g_ = W19.heap.size := ⟨_, rfl⟩
  rw [← e_] at hx_ ⊢
  clear e_
  have LX7 := Aside0.mk hx_
  clear hx_
  clear xd0 xd1 xd2
  have xd0 := (blk_cell XD.out 0).trans rfl
  have xd1 := (blk_cell XD.out 1).trans rfl
  have xd2 := (blk_cell XD.out 2).trans rfl
  clear xo0 xo1 xo2
  have xo0 := (blk_cell XO.out 0).trans rfl
  have xo1 := (blk_cell XO.out 1).trans rfl
  have xo2 := (blk_cell XO.out 2).trans rfl
  refine (PMarkMakes.caesuraref15_Accepts.calls 60 4 O1 o1 oN O2 o2 oE (some ⟨gl7, 0, none⟩) 1 [1] false W20 GO.out.n2 GO.out.n1 GO.out.e2 GO.out.e1 (C_ints (xs := [1]) LX7.out (by decide)) (by decide) fA5).mono ?_
  rintro e W21 ⟨rfl, hb⟩
  have n_BL2 := Aside0.mk (BL2.out.trans (Below.mono hb BL2.out.size))
  have n_GD := Aside0.mk (Got.below GD.out hb)
  have n_XD := Aside0.mk (blk_below XD.out hb)
  have n_GO := Aside0.mk (Got.below GO.out hb)
  have n_XO := Aside0.mk (blk_below XO.out hb)
  have n_RC := Aside0.mk (Kd.C_below RC.out hb)
  have n_LX7 := Aside0.mk (blk_below LX7.out hb)
  clear BL2
  have BL2 := n_BL2
  clear n_BL2
  clear GD
  have GD := n_GD
  clear n_GD
  clear XD
  have XD := n_XD
  clear n_XD
  clear GO
  have GO := n_GO
  clear n_GO
  clear XO
  have XO := n_XO
  clear n_XO
  clear RC
  have RC := n_RC
  clear n_RC
  clear LX7
  have LX7 := n_LX7
  clear n_LX7
  clear hb
  clear xd0 xd1 xd2
  have xd0 := (blk_cell XD.out 0).trans rfl
  have xd1 := (blk_cell XD.out 1).trans rfl
  have xd2 := (blk_cell XD.out 2).trans rfl
  clear xo0 xo1 xo2
  have xo0 := (blk_cell XO.out 0).trans rfl
  have xo1 := (blk_cell XO.out 1).trans rfl
  have xo2 := (blk_cell XO.out 2).trans rfl
  clear LX7
  go_wp2_with fail
  obtain ⟨W22, h_⟩ : ∃ W_, W_ = W21.alloc (.cells #[.int .i64 0, .int .i64 1, .int .i64 1] 3) := ⟨_, rfl⟩
  have hb_ : Below W21.heap.size W21 W22 := by rw [h_]; exact below_alloc (Below.refl _ _) _
  have hx_ : W22.heap[W21.heap.size]? = some (.cells #[.int .i64 0, .int .i64 1, .int .i64 1] 3 (0, 0)) := by rw [h_]; exact blk_new _ _
  rw [← h_]
  clear h_
  have n_BL2 := Aside0.mk (BL2.out.trans (Below.mono hb_ BL2.out.size))
  have n_GD := Aside0.mk (Got.below GD.out hb_)
  have n_XD := Aside0.mk (blk_below XD.out hb_)
  have n_GO := Aside0.mk (Got.below GO.out hb_)
  have n_XO := Aside0.mk (blk_below XO.out hb_)
  have n_RC := Aside0.mk (Kd.C_below RC.out hb_)
  clear BL2
  have BL2 := n_BL2
  clear n_BL2
  clear GD
  have GD := n_GD
  clear n_GD
  clear XD
  have XD := n_XD
  clear n_XD
  clear GO
  have GO := n_GO
  clear n_GO
  clear XO
  have XO := n_XO
  clear n_XO
  clear RC
  have RC := n_RC
  clear n_RC
  clear hb_
  obtain ⟨gl8, e_⟩ : ∃ g_, g_ = W21.heap.size := ⟨_, rfl⟩
  rw [← e_] at hx_ ⊢
  clear e_
  have LX8 := Aside0.mk hx_
  clear hx_
  clear xd0 xd1 xd2
  have xd0 := (blk_cell XD.out 0).trans rfl
  have xd1 := (blk_cell XD.out 1).trans rfl
  have xd2 := (blk_cell XD.out 2).trans rfl
  clear xo0 xo1 xo2
  have xo0 := (blk_cell XO.out 0).trans rfl
  have xo1 := (blk_cell XO.out 1).trans rfl
  have xo2 := (blk_cell XO.out 2).trans rfl
  refine (PMarkMakes.caesuraref01_Ints.calls 10 S1 s1 [0, 1, 1] (some ⟨gl8, 0, none⟩) 3 [0, 1, 1] true W22 RC.out RS.out.2.1 (C_ints (xs := [0, 1, 1]) LX8.out (by decide)) (by decide) fI).mono ?_
  rintro e W23 ⟨rfl, hb⟩
  replace hb := hb.below
  have n_BL2 := Aside0.mk (BL2.out.trans (Below.mono hb BL2.out.size))
  have n_GD := Aside0.mk (Got.below GD.out hb)
  have n_XD := Aside0.mk (blk_below XD.out hb)
  have n_GO := Aside0.mk (Got.below GO.out hb)
  have n_XO := Aside0.mk (blk_below XO.out hb)
  have n_RC := Aside0.mk (Kd.C_below RC.out hb)
  have n_LX8 := Aside0.mk (blk_below LX8.out hb)
  clear BL2
  have BL2 := n_BL2
  clear n_BL2
  clear GD
  have GD := n_GD
  clear n_GD
  clear XD
  have XD := n_XD
  clear n_XD
  clear GO
  have GO := n_GO
  clear n_GO
  clear XO
  have XO := n_XO
  clear n_XO
  clear RC
  have RC := n_RC
  clear n_RC
  clear LX8
  have LX8 := n_LX8
  clear n_LX8
  clear hb
  clear xd0 xd1 xd2
  have xd0 := (blk_cell XD.out 0).trans rfl
  have xd1 := (blk_cell XD.out 1).trans rfl
  have xd2 := (blk_cell XD.out 2).trans rfl
  clear xo0 xo1 xo2
  have xo0 := (blk_cell XO.out 0).trans rfl
  have xo1 := (blk_cell XO.out 1).trans rfl
  have xo2 := (blk_cell XO.out 2).trans rfl
  clear LX8
  go_wp2_with fail
  obtain ⟨W24, h_⟩ : ∃ W_, W_ = W23.alloc (.cells #[.int .i64 1, .int .i64 3, .int .i64 2] 3) := ⟨_, rfl⟩
  have hb_ : Below W23.heap.size W23 W24 := by rw [h_]; exact below_alloc (Below.refl _ _) _
  have hx_ : W24.heap[W23.heap.size]? = some (.cells #[.int .i64 1, .int .i64 3, .int .i64 2] 3 (0, 0)) := by rw [h_]; exact blk_new _ _
  rw [← h_]
  clear h_
  have n_BL2 := Aside0.mk (BL2.out.trans (Below.mono hb_ BL2.out.size))
  have n_GD := Aside0.mk (Got.below GD.out hb_)
  have n_XD := Aside0.mk (blk_below XD.out hb_)
  have n_GO := Aside0.mk (Got.below GO.out hb_)
  have n_XO := Aside0.mk (blk_below XO.out hb_)
  have n_RC := Aside0.mk (Kd.C_below RC.out hb_)
  clear BL2
  have BL2 := n_BL2
  clear n_BL2
  clear GD
  have GD := n_GD
  clear n_GD
  clear XD
  have XD := n_XD
  clear n_XD
  clear GO
  have GO := n_GO
  clear n_GO
  clear XO
  have XO := n_XO
  clear n_XO
  clear RC
  have RC := n_RC
  clear n_RC
  clear hb_
  obtain ⟨gl9, e_⟩ : ∃ g_, g_ = W23.heap.size := ⟨_, rfl⟩
  rw [← e_] at hx_ ⊢
  clear e_
  have LX9 := Aside0.mk hx_
  clear hx_
  clear xd0 xd1 xd2
  have xd0 := (blk_cell XD.out 0).trans rfl
  have xd1 := (blk_cell XD.out 1).trans rfl
  have xd2 := (blk_cell XD.out 2).trans rfl
  clear xo0 xo1 xo2
  have xo0 := (blk_cell XO.out 0).trans rfl
  have xo1 := (blk_cell XO.out 1).trans rfl
  have xo2 := (blk_cell XO.out 2).trans rfl
  refine (PMarkMakes.mark_Times.calls 10 (some ⟨gl9, 0, none⟩) 3 [1, 3, 2] 2 W24 (C_ints (xs := [1, 3, 2]) LX9.out (by decide)) (by decide) fT).mono ?_
  rintro e W25 ⟨rfl, hb⟩
  replace hb := hb.below
  have n_BL2 := Aside0.mk (BL2.out.trans (Below.mono hb BL2.out.size))
  have n_GD := Aside0.mk (Got.below GD.out hb)
  have n_XD := Aside0.mk (blk_below XD.out hb)
  have n_GO := Aside0.mk (Got.below GO.out hb)
  have n_XO := Aside0.mk (blk_below XO.out hb)
  have n_RC := Aside0.mk (Kd.C_below RC.out hb)
  have n_LX9 := Aside0.mk (blk_below LX9.out hb)
  clear BL2
  have BL2 := n_BL2
  clear n_BL2
  clear GD
  have GD := n_GD
  clear n_GD
  clear XD
  have XD := n_XD
  clear n_XD
  clear GO
  have GO := n_GO
  clear n_GO
  clear XO
  have XO := n_XO
  clear n_XO
  clear RC
  have RC := n_RC
  clear n_RC
  clear LX9
  have LX9 := n_LX9
  clear n_LX9
  clear hb
  clear xd0 xd1 xd2
  have xd0 := (blk_cell XD.out 0).trans rfl
  have xd1 := (blk_cell XD.out 1).trans rfl
  have xd2 := (blk_cell XD.out 2).trans rfl
  clear xo0 xo1 xo2
  have xo0 := (blk_cell XO.out 0).trans rfl
  have xo1 := (blk_cell XO.out 1).trans rfl
  have xo2 := (blk_cell XO.out 2).trans rfl
  go_wp2_with fail
  go_ret
  exact ⟨rfl, BL2.out⟩
end Go.Proofs.Ytpedenbcfbflbaa.X
namespace Go.Proofs.Ytpedenbcfbflbaa.X
open Go.RowKit Go.Proofs.YtpedenbcfbflbaaW.PrintWords Go.Proofs.YtpedenbcfbflbaaW.PrintLast Go.Proofs.YtpedenbcfbflbaaW.PrintMore Go.Maps Num Go.Proofs.Ytpedenbcfbflbaa.PMarkMakes
set_option linter.unusedVariables false
set_option linter.unusedSimpArgs false

theorem drop_eq_cons {α : Type} [DecidableEq α] {l m : List α} {i : Nat} (hl : i < l.length) (hm : i < m.length) : decide (l.drop i = m.drop i) = (decide (l[i] = m[i]) && decide (l.drop (i + 1) = m.drop (i + 1))) := by
  rw [List.drop_eq_getElem_cons hl, List.drop_eq_getElem_cons hm]
  generalize l[i] = a
  generalize m[i] = b
  generalize l.drop (i + 1) = x
  generalize m.drop (i + 1) = y
  by_cases h1 : a = b <;> by_cases h2 : x = y <;> simp [h1, h2]
theorem ints_l0 (l m : List Int) (hlm : l.length = m.length) (hmax : l.length ≤ 9223372036854775807) : ∀ (d i k : Nat), i + d = l.length → caesuraref01_Ints.l0 (d + 1 + k) l m i = some (decide (l.drop i = m.drop i)) := by
  intro d
  induction d with
  | zero =>
    intro i k hi
    rw [show 0 + 1 + k = k + 1 by omega, List.drop_eq_nil_of_le (by omega), List.drop_eq_nil_of_le (by omega)]
    unfold caesuraref01_Ints.l0
    rw [if_neg (by omega)]
    simp
  | succ d ih =>
    intro i k hi
    have h1 : i < l.length := by omega
    have h2 : i < m.length := by omega
    rw [show d + 1 + 1 + k = (d + 1 + k) + 1 by omega, drop_eq_cons h1 h2]
    unfold caesuraref01_Ints.l0
    have e1 : rd l (i : Int) = l[i] := by simp only [rd, Int.toNat_natCast]; rw [List.getD_eq_getElem?_getD, List.getElem?_eq_getElem h1]; rfl
    have e2 : rd m (i : Int) = m[i] := by simp only [rd, Int.toNat_natCast]; rw [List.getD_eq_getElem?_getD, List.getElem?_eq_getElem h2]; rfl
    rw [if_pos (by omega), if_pos (by omega), if_pos (by omega), e1, e2]
    by_cases he : l[i] = m[i]
    · rw [if_pos he, decide_eq_true he, Bool.true_and, wrap64_of (by omega) (by omega)]
      have := ih (i + 1) k (by omega)
      rw [show ((i + 1 : Nat) : Int) = (i : Int) + 1 by omega] at this
      exact this
    · rw [if_neg he, decide_eq_false he]
      rfl
theorem ints_f (l m : List Int) (k : Nat) (hk : l.length ≤ k) (hmax : l.length ≤ 9223372036854775807) : caesuraref01_Ints.f (k + 1) l m = some (decide (l = m)) := by
  unfold caesuraref01_Ints.f
  by_cases h : l.length = m.length
  · rw [if_pos (by omega)]
    have := ints_l0 l m h hmax l.length 0 (k - l.length) (by omega)
    rw [show l.length + 1 + (k - l.length) = k + 1 by omega] at this
    simpa using this
  · rw [if_neg (by omega), decide_eq_false (fun e => h (by rw [e]))]
theorem bools_l0 (l m : List Bool) (hlm : l.length = m.length) (hmax : l.length ≤ 9223372036854775807) : ∀ (d i k : Nat), i + d = l.length → caesuraref15_Bools.l0 (d + 1 + k) l m i = some (decide (l.drop i = m.drop i)) := by
  intro d
  induction d with
  | zero =>
    intro i k hi
    rw [show 0 + 1 + k = k + 1 by omega, List.drop_eq_nil_of_le (by omega), List.drop_eq_nil_of_le (by omega)]
    unfold caesuraref15_Bools.l0
    rw [if_neg (by omega)]
    simp
  | succ d ih =>
    intro i k hi
    have h1 : i < l.length := by omega
    have h2 : i < m.length := by omega
    rw [show d + 1 + 1 + k = (d + 1 + k) + 1 by omega, drop_eq_cons h1 h2]
    unfold caesuraref15_Bools.l0
    have e1 : rdOf false l (i : Int) = l[i] := by simp only [rdOf, Int.toNat_natCast]; rw [List.getD_eq_getElem?_getD, List.getElem?_eq_getElem h1]; rfl
    have e2 : rdOf false m (i : Int) = m[i] := by simp only [rdOf, Int.toNat_natCast]; rw [List.getD_eq_getElem?_getD, List.getElem?_eq_getElem h2]; rfl
    rw [if_pos (by omega), if_pos (by omega), if_pos (by omega), e1, e2]
    by_cases he : l[i] = m[i]
    · rw [if_neg (by rw [he]; simp), decide_eq_true he, Bool.true_and, wrap64_of (by omega) (by omega)]
      have := ih (i + 1) k (by omega)
      rw [show ((i + 1 : Nat) : Int) = (i : Int) + 1 by omega] at this
      exact this
    · rw [if_pos (by simpa using he), decide_eq_false he]
      rfl
theorem bools_f (l m : List Bool) (k : Nat) (hk : l.length ≤ k) (hmax : l.length ≤ 9223372036854775807) : caesuraref15_Bools.f (k + 1) l m = some (decide (l = m)) := by
  unfold caesuraref15_Bools.f
  by_cases h : l.length = m.length
  · rw [if_pos (by omega)]
    have := bools_l0 l m h hmax l.length 0 (k - l.length) (by omega)
    rw [show l.length + 1 + (k - l.length) = k + 1 by omega] at this
    simpa using this
  · rw [if_neg (by omega), decide_eq_false (fun e => h (by rw [e]))]
theorem lists_l0 (l m : List (List Int)) (k : Nat) (hlm : l.length = m.length) (hmax : l.length ≤ 9223372036854775807) (hr : ∀ r ∈ l, r.length ≤ k ∧ r.length ≤ 9223372036854775807) : ∀ (d i : Nat), i + d = l.length → caesuraref13_Lists.l0 (d + 1 + k + 1) l m i = some (decide (l.drop i = m.drop i)) := by
  intro d
  induction d with
  | zero =>
    intro i hi
    rw [show 0 + 1 + k + 1 = (k + 1) + 1 by omega, List.drop_eq_nil_of_le (by omega), List.drop_eq_nil_of_le (by omega)]
    unfold caesuraref13_Lists.l0
    rw [if_neg (by omega)]
    simp
  | succ d ih =>
    intro i hi
    have h1 : i < l.length := by omega
    have h2 : i < m.length := by omega
    rw [show d + 1 + 1 + k + 1 = (d + 1 + k + 1) + 1 by omega, drop_eq_cons h1 h2]
    unfold caesuraref13_Lists.l0
    have e1 : rd_L1 l (i : Int) = l[i] := by simp only [rd_L1, Int.toNat_natCast]; rw [List.getD_eq_getElem?_getD, List.getElem?_eq_getElem h1]; rfl
    have e2 : rd_L1 m (i : Int) = m[i] := by simp only [rd_L1, Int.toNat_natCast]; rw [List.getD_eq_getElem?_getD, List.getElem?_eq_getElem h2]; rfl
    obtain ⟨r1, r2⟩ := hr l[i] (List.getElem_mem h1)
    rw [if_pos (by omega), if_pos (by omega), if_pos (by omega), e1, e2, ints_f l[i] m[i] (d + 1 + k) (by omega) r2, Option.bind_some]
    by_cases he : l[i] = m[i]
    · rw [if_pos (by simpa using he), decide_eq_true he, Bool.true_and, wrap64_of (by omega) (by omega)]
      have := ih (i + 1) (by omega)
      rw [show ((i + 1 : Nat) : Int) = (i : Int) + 1 by omega] at this
      exact this
    · rw [if_neg (by simpa using he), decide_eq_false he]
      rfl
theorem lists_f (l m : List (List Int)) (k : Nat) (hmax : l.length ≤ 9223372036854775807) (hr : ∀ r ∈ l, r.length ≤ k ∧ r.length ≤ 9223372036854775807) : caesuraref13_Lists.f (l.length + 1 + k + 1) l m = some (decide (l = m)) := by
  unfold caesuraref13_Lists.f
  by_cases h : l.length = m.length
  · rw [if_pos (by omega)]
    have := lists_l0 l m k h hmax hr l.length 0 (by omega)
    simpa using this
  · rw [if_neg (by omega), decide_eq_false (fun e => h (by rw [e]))]
theorem row_le (l : List (List Int)) : ∃ k, ∀ r ∈ l, r.length ≤ k := by
  induction l with
  | nil => exact ⟨0, fun r h => by simp at h⟩
  | cons x l ih =>
    obtain ⟨k, hk⟩ := ih
    exact ⟨x.length + k, fun r h => by
      rcases List.mem_cons.1 h with h | h
      · rw [h]; omega
      · have := hk r h; omega⟩
/-- Are two automata the same. -/
theorem same_f (s1 : Int) (n1 : List (List Int)) (e1 : List Bool) (s2 : Int) (n2 : List (List Int)) (e2 : List Bool) (h1 : n1.length ≤ 9223372036854775807) (h2 : ∀ r ∈ n1, r.length ≤ 9223372036854775807) (h3 : e1.length ≤ 9223372036854775807) :
    ∃ k, caesuraref15_Same.f k s1 n1 e1 s2 n2 e2 = some (decide (s1 = s2) && (decide (n1 = n2) && decide (e1 = e2))) := by
  obtain ⟨k, hk⟩ := row_le n1
  refine ⟨n1.length + 1 + (k + e1.length) + 1, ?_⟩
  unfold caesuraref15_Same.f
  rw [lists_f n1 n2 (k + e1.length) h1 (fun r hr => ⟨by have := hk r hr; omega, h2 r hr⟩), bools_f e1 e2 (n1.length + 1 + (k + e1.length)) (by omega) h3]
  by_cases hs : s1 = s2
  · rw [if_pos hs, decide_eq_true hs]
    by_cases hn : n1 = n2 <;> simp [hn]
  · rw [if_neg hs, decide_eq_false hs]
    rfl
theorem great_l0 (s : Int) (n : List (List Int)) (e : List Bool) (a : Int) (hmax : n.length ≤ 9223372036854775807) : ∀ (d i : Nat) (x : Int), i + d = n.length → ∃ r, caesuraref15_Great.l0 (d + 1) a x i s n e = some r := by
  intro d
  induction d with
  | zero =>
    intro i x hi
    unfold caesuraref15_Great.l0
    rw [if_neg (by omega)]
    exact ⟨_, rfl⟩
  | succ d ih =>
    intro i x hi
    unfold caesuraref15_Great.l0
    rw [if_pos (by omega)]
    by_cases hx : x ≤ a
    · rw [if_pos hx, if_pos (by omega), wrap64_of (n := (i : Int) + 1) (by omega) (by omega)]
      have := ih (i + 1) (wrap64 (x + ((rd_L1 n (i : Int)).length : Int))) (by omega)
      rw [show ((i + 1 : Nat) : Int) = (i : Int) + 1 by omega] at this
      exact this
    · rw [if_neg hx]
      exact ⟨_, rfl⟩
theorem great_f (s : Int) (n : List (List Int)) (e : List Bool) (a : Int) (hmax : n.length ≤ 9223372036854775807) : ∃ k r, caesuraref15_Great.f k s n e a = some r := by
  obtain ⟨r, h⟩ := great_l0 s n e a hmax n.length 0 (wrap64 ((n.length : Int) + (e.length : Int))) (by omega)
  exact ⟨_, r, h⟩
end Go.Proofs.Ytpedenbcfbflbaa.X
namespace Go.Proofs.Ytpedenbcfbflbaa.X
open Go.RowKit Go.Proofs.YtpedenbcfbflbaaW.PrintWords Go.Proofs.YtpedenbcfbflbaaW.PrintLast Go.Proofs.YtpedenbcfbflbaaW.PrintMore Go.Maps Num
set_option linter.unusedVariables false
set_option linter.unusedSimpArgs false

/-- Two boxes of two automata that came in. -/
structure Two25 (w : World) (s1 : Int) (A1 : Option Addr) (c1 : Nat) (n1 : List (List Int)) (B1 : Option Addr) (d1 : Nat) (e1 : List Bool) (s2 : Int) (A2 : Option Addr) (c2 : Nat) (n2 : List (List Int)) (B2 : Option Addr) (d2 : Nat) (e2 : List Bool) (W : World) : Prop where
  a : W.heap[w.heap.size]? = some (.cells #[.int .i64 s1, .slice A1 n1.length c1, .slice B1 e1.length d1] 25 (0, 0))
  b : W.heap[w.heap.size + 1]? = some (.cells #[.int .i64 s2, .slice A2 n2.length c2, .slice B2 e2.length d2] 25 (0, 0))
  g1 : Got 0 A1 c1 n1 B1 d1 e1 W
  g2 : Got 0 A2 c2 n2 B2 d2 e2 W
  bel : Below w.heap.size w W
section
variable {w W W' : World} {s1 : Int} {A1 : Option Addr} {c1 : Nat} {n1 : List (List Int)} {B1 : Option Addr} {d1 : Nat} {e1 : List Bool} {s2 : Int} {A2 : Option Addr} {c2 : Nat} {n2 : List (List Int)} {B2 : Option Addr} {d2 : Nat} {e2 : List Bool}
theorem Two25.below (h : Two25 w s1 A1 c1 n1 B1 d1 e1 s2 A2 c2 n2 B2 d2 e2 W) (hb : Below W.heap.size W W') : Two25 w s1 A1 c1 n1 B1 d1 e1 s2 A2 c2 n2 B2 d2 e2 W' :=
  ⟨blk_below h.a hb, blk_below h.b hb, h.g1.below hb, h.g2.below hb, h.bel.trans (hb.mono h.bel.size)⟩
theorem Two25.start (g1 : Got 0 A1 c1 n1 B1 d1 e1 w) (g2 : Got 0 A2 c2 n2 B2 d2 e2 w) : Two25 w s1 A1 c1 n1 B1 d1 e1 s2 A2 c2 n2 B2 d2 e2 ((w.alloc (.cells #[.int .i64 s1, .slice A1 n1.length c1, .slice B1 e1.length d1] 25)).alloc (.cells #[.int .i64 s2, .slice A2 n2.length c2, .slice B2 e2.length d2] 25)) := by
  have hb := below_alloc (below_alloc (Below.refl w.heap.size w) (.cells #[.int .i64 s1, .slice A1 n1.length c1, .slice B1 e1.length d1] 25)) (.cells #[.int .i64 s2, .slice A2 n2.length c2, .slice B2 e2.length d2] 25)
  exact ⟨blk_alloc (blk_new _ _) _, by
    have := blk_new (w.alloc (.cells #[.int .i64 s1, .slice A1 n1.length c1, .slice B1 e1.length d1] 25)) (.cells #[.int .i64 s2, .slice A2 n2.length c2, .slice B2 e2.length d2] 25)
    simpa using this, g1.below hb, g2.below hb, hb⟩
end
theorem Got.rows_max {A : Option Addr} {c : Nat} {n : List (List Int)} {B : Option Addr} {d : Nat} {e : List Bool} {W : World} (h : Got 0 A c n B d e W) : n.length ≤ 9223372036854775807 ∧ (∀ r ∈ n, r.length ≤ 9223372036854775807) ∧ e.length ≤ 9223372036854775807 := by
  refine ⟨Kd.C_max h.n2, fun r hr => ?_, Kd.C_max h.e2⟩
  obtain ⟨i, hi, rfl⟩ := List.getElem_of_mem hr
  obtain ⟨ad, A0, c0, e, h2, h3, h4⟩ := at_row h.n2 i hi
  have := Kd.C_max h4
  rw [List.getD_eq_getElem?_getD, List.getElem?_eq_getElem hi] at this
  exact this

set_option maxHeartbeats 2000000 in
theorem MarkMakes_walk (s1 : Int) (A1 : Option Addr) (c1 : Nat) (n1 : List (List Int)) (B1 : Option Addr) (d1 : Nat) (e1 : List Bool) (s2 : Int) (A2 : Option Addr) (c2 : Nat) (n2 : List (List Int)) (B2 : Option Addr) (d2 : Nat) (e2 : List Bool) (most : Int) (w : World)
    (g1 : Got 0 A1 c1 n1 B1 d1 e1 w) (g2 : Got 0 A2 c2 n2 B2 d2 e2 w) :
    Calls Try.prog 3 #[.agg #[.int .i64 s1, .slice A1 n1.length c1, .slice B1 e1.length d1], .agg #[.int .i64 s2, .slice A2 n2.length c2, .slice B2 e2.length d2], .int .i64 most] w fun e w' => e = .returned (.bool true) ∧ Below w.heap.size w w' := by
  have hu25 := Try.underlying25
  have I0 := Two25.start (s1 := s1) (s2 := s2) g1 g2
  have G1 := Aside0.mk g1
  have G2 := Aside0.mk g2
  clear g1 g2
  obtain ⟨ka, ra, hga⟩ := great_f s1 n1 e1 150 G1.out.rows_max.1
  obtain ⟨kb, rb, hgb⟩ := great_f s2 n2 e2 150 G2.out.rows_max.1
  have HGA := Aside0.mk hga
  have HGB := Aside0.mk hgb
  clear hga hgb
  go_enter Try.func3, Try.ntmps3
  go_upto_region 1 with (fail)
  obtain ⟨W, hW⟩ : ∃ W, W = (w.alloc (.cells #[.int .i64 s1, .slice A1 n1.length c1, .slice B1 e1.length d1] 25)).alloc (.cells #[.int .i64 s2, .slice A2 n2.length c2, .slice B2 e2.length d2] 25) := ⟨_, rfl⟩
  rw [← hW] at I0 ⊢
  clear hW
  have II := Aside0.mk I0
  clear I0
  go_wp2_with fail
  refine (alive12 W).mono ?_
  rintro e W2 ⟨rfl, hb⟩
  have I2 := Aside0.mk (II.out.below hb)
  clear II hb
  have p0 := (blk_cell I2.out.a 0).trans rfl
  have p1 := (blk_cell I2.out.a 1).trans rfl
  have p2 := (blk_cell I2.out.a 2).trans rfl
  go_wp2_with fail
  refine (PMarkMakes.caesuraref15_Great.calls ka s1 A1 c1 n1 B1 d1 e1 150 ra W2 I2.out.g1.n2 I2.out.g1.n1 I2.out.g1.e2 I2.out.g1.e1 HGA.out).mono ?_
  rintro e W3 ⟨rfl, hb⟩
  have I3 := Aside0.mk (I2.out.below hb)
  clear I2 hb p0 p1 p2
  cases ra with
  | true =>
    go_wp2_with fail
    go_ret
    exact ⟨rfl, I3.out.bel⟩
  | false =>
    have q0 := (blk_cell I3.out.b 0).trans rfl
    have q1 := (blk_cell I3.out.b 1).trans rfl
    have q2 := (blk_cell I3.out.b 2).trans rfl
    go_wp2_with fail
    refine (PMarkMakes.caesuraref15_Great.calls kb s2 A2 c2 n2 B2 d2 e2 150 rb W3 I3.out.g2.n2 I3.out.g2.n1 I3.out.g2.e2 I3.out.g2.e1 HGB.out).mono ?_
    rintro e W4 ⟨rfl, hb⟩
    have I4 := Aside0.mk (I3.out.below hb)
    clear I3 hb q0 q1 q2
    cases rb with
    | true =>
      go_wp2_with fail
      go_ret
      exact ⟨rfl, I4.out.bel⟩
    | false =>
      obtain ⟨r1, r2, r3, r4, hf⟩ : ∃ r1 r2 r3 r4, markF s1 n1 e1 s2 n2 e2 most = (r1, r2, r3, r4) := ⟨_, _, _, _, rfl⟩
      have HF := Aside0.mk hf
      clear hf
      have p0 := (blk_cell I4.out.a 0).trans rfl
      have p1 := (blk_cell I4.out.a 1).trans rfl
      have p2 := (blk_cell I4.out.a 2).trans rfl
      have q0 := (blk_cell I4.out.b 0).trans rfl
      have q1 := (blk_cell I4.out.b 1).trans rfl
      have q2 := (blk_cell I4.out.b 2).trans rfl
      go_wp2_with fail
      refine (mark_of s1 A1 c1 n1 B1 d1 e1 s2 A2 c2 n2 B2 d2 e2 most W4 I4.out.g1.n2 I4.out.g1.n1 I4.out.g1.e2 I4.out.g1.e1 I4.out.g2.n2 I4.out.g2.n1 I4.out.g2.e2 I4.out.g2.e1 r1 r2 r3 r4 HF.out).mono ?_
      rintro e W5 ⟨v1, v2, rfl, hs, hr, hb⟩
      obtain ⟨D1, k1, rfl⟩ := Kd.S_slice hs
      obtain ⟨D2, k2, rfl⟩ := Kd.R_slice hr
      have GX : Aside0 (Got 0 D1 k1 r2 D2 k2 r3 W5) := ⟨⟨(Kd.S_reads' hs).2.1, (Kd.S_reads' hs).2.2, (Kd.R_reads' hr).2.1, (Kd.R_reads' hr).2.2⟩⟩
      have I5 := Aside0.mk (I4.out.below hb)
      clear I4 hs hr hb p0 p1 p2 q0 q1 q2
      go_upto_region 6 with (fail)
      obtain ⟨W6, hW6⟩ : ∃ W6, W6 = W5.alloc (.cells #[.int .i64 r1, .slice D1 r2.length k1, .slice D2 r3.length k2] 25) := ⟨_, rfl⟩
      have hb6 : Below W5.heap.size W5 W6 := by rw [hW6]; exact below_alloc (Below.refl _ _) _
      have hx6 : W6.heap[W5.heap.size]? = some (.cells #[.int .i64 r1, .slice D1 r2.length k1, .slice D2 r3.length k2] 25 (0, 0)) := by rw [hW6]; exact blk_new _ _
      rw [← hW6]
      clear hW6
      obtain ⟨gx, hgx⟩ : ∃ gx, gx = W5.heap.size := ⟨_, rfl⟩
      rw [← hgx] at hx6 ⊢
      clear hgx
      have XX6 := Aside0.mk hx6
      have GX6 := Aside0.mk (GX.out.below hb6)
      have I6 := Aside0.mk (I5.out.below hb6)
      clear GX I5 hb6 hx6
      have p0 := (blk_cell I6.out.a 0).trans rfl
      have p1 := (blk_cell I6.out.a 1).trans rfl
      have p2 := (blk_cell I6.out.a 2).trans rfl
      have q0 := (blk_cell I6.out.b 0).trans rfl
      have q1 := (blk_cell I6.out.b 1).trans rfl
      have q2 := (blk_cell I6.out.b 2).trans rfl
      go_wp2_with fail
      refine (ref_of s1 A1 c1 n1 B1 d1 e1 s2 A2 c2 n2 B2 d2 e2 most W6 I6.out.g1.n2 I6.out.g1.n1 I6.out.g1.e2 I6.out.g1.e1 I6.out.g2.n2 I6.out.g2.n1 I6.out.g2.e2 I6.out.g2.e1 r1 r2 r3 r4 HF.out).mono ?_
      rintro e W7 ⟨v1, v2, rfl, hs, hr, hb⟩
      obtain ⟨E1, l1, rfl⟩ := Kd.S_slice hs
      obtain ⟨E2, l2, rfl⟩ := Kd.R_slice hr
      have GY : Aside0 (Got 0 E1 l1 r2 E2 l2 r3 W7) := ⟨⟨(Kd.S_reads' hs).2.1, (Kd.S_reads' hs).2.2, (Kd.R_reads' hr).2.1, (Kd.R_reads' hr).2.2⟩⟩
      have I7 := Aside0.mk (I6.out.below hb)
      have XX7 := Aside0.mk (blk_below XX6.out hb)
      have GX7 := Aside0.mk (GX6.out.below hb)
      clear I6 XX6 GX6 hs hr hb p0 p1 p2 q0 q1 q2
      go_upto_region 7 with (fail)
      obtain ⟨W8, hW8⟩ : ∃ W8, W8 = W7.alloc (.cells #[.int .i64 r1, .slice E1 r2.length l1, .slice E2 r3.length l2] 25) := ⟨_, rfl⟩
      have hb8 : Below W7.heap.size W7 W8 := by rw [hW8]; exact below_alloc (Below.refl _ _) _
      have hx8 : W8.heap[W7.heap.size]? = some (.cells #[.int .i64 r1, .slice E1 r2.length l1, .slice E2 r3.length l2] 25 (0, 0)) := by rw [hW8]; exact blk_new _ _
      rw [← hW8]
      clear hW8
      obtain ⟨gy, hgy⟩ : ∃ gy, gy = W7.heap.size := ⟨_, rfl⟩
      rw [← hgy] at hx8 ⊢
      clear hgy
      have GX8 := Aside0.mk (GX7.out.below hb8)
      have GY8 := Aside0.mk (GY.out.below hb8)
      have XX8 := Aside0.mk (blk_below XX7.out hb8)
      have I8 := Aside0.mk (I7.out.below hb8)
      have x0 := (blk_cell XX8.out 0).trans rfl
      have x1 := (blk_cell XX8.out 1).trans rfl
      have x2 := (blk_cell XX8.out 2).trans rfl
      have y0 := (blk_cell hx8 0).trans rfl
      have y1 := (blk_cell hx8 1).trans rfl
      have y2 := (blk_cell hx8 2).trans rfl
      clear GX7 GY XX7 I7 hb8 hx8
      obtain ⟨ks, hks⟩ := same_f r1 r2 r3 r1 r2 r3 GX8.out.rows_max.1 GX8.out.rows_max.2.1 GX8.out.rows_max.2.2
      have HS := Aside0.mk (hks.trans (by simp : _ = some true))
      clear hks
      go_wp2_with fail
      refine (PMarkMakes.caesuraref15_Same.calls ks r1 D1 k1 r2 D2 k2 r3 r1 E1 l1 r2 E2 l2 r3 true W8 GX8.out.n2 GX8.out.n1 GX8.out.e2 GX8.out.e1 GY8.out.n2 GY8.out.n1 GY8.out.e2 GY8.out.e1 HS.out).mono ?_
      rintro e W9 ⟨rfl, hb⟩
      have BL := Aside0.mk (I8.out.bel.trans (hb.mono I8.out.bel.size))
      have hr4 : (r4 == r4) = true := by simp
      clear hb
      go_wp2_with fail
      go_ret
      exact ⟨rfl, BL.out⟩
end Go.Proofs.Ytpedenbcfbflbaa.X
namespace Go.Proofs.Ytpedenbcfbflbaa.X
open Go.RowKit Go.Proofs.YtpedenbcfbflbaaW.PrintWords Go.Proofs.YtpedenbcfbflbaaW.PrintLast Go.Proofs.YtpedenbcfbflbaaW.PrintMore Go.Joins Go.ChangeShapes Go.WideShapes Go.Deep
set_option linter.unusedVariables false
set_option linter.unusedSimpArgs false

theorem C_of_cells {α : Type} {d : Kd α} (hsz : d.sz = 1) {W : World} {a : Addr} {len : Nat} (hm : len ≤ 9223372036854775807) (h : ∀ i, i < len → ∃ v x, W.cell? (a.add i) = some v ∧ d.K W x [v]) : ∃ xs : List α, xs.length = len ∧ d.C W (some a) xs.length xs := by
  have h1 : ∀ m, m ≤ len → ∃ xs : List α, xs.length = m ∧ ∀ i x, xs[i]? = some x → ∃ v, W.cell? (a.add i) = some v ∧ d.K W x [v] := by
    intro m
    induction m with
    | zero => exact fun _ => ⟨[], rfl, fun i x hx => by simp at hx⟩
    | succ m ih =>
      intro hm
      obtain ⟨xs, hl, hx⟩ := ih (by omega)
      obtain ⟨v, x, h2, h3⟩ := h m (by omega)
      refine ⟨xs ++ [x], by simp [hl], fun i y hy => ?_⟩
      by_cases hi : i < xs.length
      · rw [List.getElem?_append_left hi] at hy; exact hx i y hy
      · have : i = m := by
          have := (List.getElem?_eq_some_iff.1 hy).1
          simp at this; omega
        subst this
        rw [List.getElem?_append_right (by omega), hl, Nat.sub_self] at hy
        simp at hy
        subst hy
        exact ⟨v, h2, h3⟩
  obtain ⟨xs, hl, hx⟩ := h1 len (Nat.le_refl _)
  refine ⟨xs, hl, rfl, by omega, fun _ => ⟨a, rfl, fun j p hp => ?_⟩⟩
  obtain ⟨v, h2, h3⟩ := hx j p hp
  refine ⟨[v], by rw [hsz]; rfl, h3, fun i u hu => ?_⟩
  cases i with
  | zero =>
    simp at hu
    subst hu
    rw [hsz]
    simpa using h2
  | succ i => simp at hu

theorem C_of_cellsQ {α : Type} {d : Kd α} (Q : α → Prop) (hsz : d.sz = 1) {W : World} {a : Addr} {len : Nat} (hm : len ≤ 9223372036854775807) (h : ∀ i, i < len → ∃ v x, W.cell? (a.add i) = some v ∧ d.K W x [v] ∧ Q x) : ∃ xs : List α, xs.length = len ∧ d.C W (some a) xs.length xs ∧ ∀ x ∈ xs, Q x := by
  have h1 : ∀ m, m ≤ len → ∃ xs : List α, xs.length = m ∧ (∀ i x, xs[i]? = some x → ∃ v, W.cell? (a.add i) = some v ∧ d.K W x [v]) ∧ ∀ x ∈ xs, Q x := by
    intro m
    induction m with
    | zero => exact fun _ => ⟨[], rfl, fun i x hx => by simp at hx, fun x hx => by simp at hx⟩
    | succ m ih =>
      intro hm
      obtain ⟨xs, hl, hx, hq⟩ := ih (by omega)
      obtain ⟨v, x, h2, h3, h4⟩ := h m (by omega)
      refine ⟨xs ++ [x], by simp [hl], fun i y hy => ?_, fun y hy => ?_⟩
      · by_cases hi : i < xs.length
        · rw [List.getElem?_append_left hi] at hy; exact hx i y hy
        · have : i = m := by
            have := (List.getElem?_eq_some_iff.1 hy).1
            simp at this; omega
          subst this
          rw [List.getElem?_append_right (by omega), hl, Nat.sub_self] at hy
          simp at hy
          subst hy
          exact ⟨v, h2, h3⟩
      · rcases List.mem_append.1 hy with hy | hy
        · exact hq y hy
        · rw [List.mem_singleton] at hy
          rw [hy]; exact h4
  obtain ⟨xs, hl, hx, hq⟩ := h1 len (Nat.le_refl _)
  refine ⟨xs, hl, ⟨rfl, by omega, fun _ => ⟨a, rfl, fun j p hp => ?_⟩⟩, hq⟩
  obtain ⟨v, h2, h3⟩ := hx j p hp
  refine ⟨[v], by rw [hsz]; rfl, h3, fun i u hu => ?_⟩
  cases i with
  | zero =>
    simp at hu
    subst hu
    rw [hsz]
    simpa using h2
  | succ i => simp at hu
variable {H : Type} {enc : TypeId × Value → H} {W : World} {base : Nat} {spare : Nat → Bool} {held : Bool}
theorem slice_ints {fuel : Nat} {v : Value} {x : DataW H × List MemPlace} (h : DataW.trod enc Try.prog W base spare held fuel 33 [v] = some x) : ∃ A c l, v = .slice A l.length c ∧ l.length ≤ c ∧ Kd.C (Kd.int .i64) W A l.length l := by
  rcases open_slice1 Try.underlying33 (by kernel_rfl) h with ⟨hcs, _⟩ | ⟨a, len, cap, m, n, V, D, Pl, hcs, hb, hl, hm, hmm, hx, hi⟩
  · injection hcs with hcs
    exact ⟨none, 0, [], hcs, Nat.le_refl _, Kd.C_nil _ _⟩
  · injection hcs with hcs
    have hlm : len ≤ m := by rw [hmm]; split <;> omega
    obtain ⟨xs, hx1, hx2⟩ := C_of_cells (d := Kd.int .i64) (W := W) (a := a) (len := len) rfl (by unfold maxLen at hm; omega) (fun i hil => by
      obtain ⟨h1, h2⟩ := hi i (by omega)
      obtain ⟨z, hz, _, _⟩ := DataW.trod_int Try.underlying3 h2
      injection hz with hz
      exact ⟨V i, z, h1, by rw [hz]; rfl⟩)
    exact ⟨some a, cap, xs, by rw [hx1]; exact hcs, by omega, hx2⟩
theorem slice_bools {fuel : Nat} {v : Value} {x : DataW H × List MemPlace} (h : DataW.trod enc Try.prog W base spare held fuel 23 [v] = some x) : ∃ A c l, v = .slice A l.length c ∧ l.length ≤ c ∧ Kd.C Kd.bool W A l.length l := by
  rcases open_slice1 Try.underlying23 (by kernel_rfl) h with ⟨hcs, _⟩ | ⟨a, len, cap, m, n, V, D, Pl, hcs, hb, hl, hm, hmm, hx, hi⟩
  · injection hcs with hcs
    exact ⟨none, 0, [], hcs, Nat.le_refl _, Kd.C_nil _ _⟩
  · injection hcs with hcs
    have hlm : len ≤ m := by rw [hmm]; split <;> omega
    obtain ⟨xs, hx1, hx2⟩ := C_of_cells (d := Kd.bool) (W := W) (a := a) (len := len) rfl (by unfold maxLen at hm; omega) (fun i hil => by
      obtain ⟨h1, h2⟩ := hi i (by omega)
      obtain ⟨z, hz, _⟩ := DataW.trod_bool Try.underlying4 h2
      injection hz with hz
      exact ⟨V i, z, h1, by rw [hz]; rfl⟩)
    exact ⟨some a, cap, xs, by rw [hx1]; exact hcs, by omega, hx2⟩
theorem slice_rows {fuel : Nat} {v : Value} {x : DataW H × List MemPlace} (h : DataW.trod enc Try.prog W base spare held fuel 22 [v] = some x) : ∃ A c l, v = .slice A l.length c ∧ l.length ≤ c ∧ Kd.C (Kd.slice 3 (Kd.int .i64)) W A l.length l := by
  rcases open_slice1 Try.underlying22 (by kernel_rfl) h with ⟨hcs, _⟩ | ⟨a, len, cap, m, n, V, D, Pl, hcs, hb, hl, hm, hmm, hx, hi⟩
  · injection hcs with hcs
    exact ⟨none, 0, [], hcs, Nat.le_refl _, Kd.C_nil _ _⟩
  · injection hcs with hcs
    have hlm : len ≤ m := by rw [hmm]; split <;> omega
    obtain ⟨xs, hx1, hx2⟩ := C_of_cells (d := Kd.slice 3 (Kd.int .i64)) (W := W) (a := a) (len := len) rfl (by unfold maxLen at hm; omega) (fun i hil => by
      obtain ⟨h1, h2⟩ := hi i (by omega)
      obtain ⟨A, c, l, hz, hc, hC⟩ := slice_ints h2
      exact ⟨V i, l, h1, A, c, by rw [hz], hc, hC⟩)
    exact ⟨some a, cap, xs, by rw [hx1]; exact hcs, by omega, hx2⟩
theorem list_ints {fuel : Nat} {v : Value} {x : DataW H × List MemPlace} (h : DataW.trod enc Try.prog W base spare held fuel 33 [v] = some x) : ∃ A c l, v = .slice A l.length c ∧ (∀ z ∈ l, (Lit.int .i64 z).wf = true) ∧ l.length ≤ c ∧ Kd.C (Kd.int .i64) W A l.length l := by
  rcases open_slice1 Try.underlying33 (by kernel_rfl) h with ⟨hcs, _⟩ | ⟨a, len, cap, m, n, V, D, Pl, hcs, hb, hl, hm, hmm, hx, hi⟩
  · injection hcs with hcs
    exact ⟨none, 0, [], hcs, fun z hz => by simp at hz, Nat.le_refl _, Kd.C_nil _ _⟩
  · injection hcs with hcs
    have hlm : len ≤ m := by rw [hmm]; split <;> omega
    obtain ⟨xs, hx1, hx2, hx3⟩ := C_of_cellsQ (d := Kd.int .i64) (fun z => (Lit.int .i64 z).wf = true) (W := W) (a := a) (len := len) rfl (by unfold maxLen at hm; omega) (fun i hil => by
      obtain ⟨h1, h2⟩ := hi i (by omega)
      obtain ⟨z, hz, _, hw⟩ := DataW.trod_int Try.underlying3 h2
      injection hz with hz
      exact ⟨V i, z, h1, by rw [hz]; rfl, hw⟩)
    exact ⟨some a, cap, xs, by rw [hx1]; exact hcs, hx3, by omega, hx2⟩
/-- A list of whole numbers that came in. -/
theorem open_list {r : Reach} {b0 : Nat} {v : Value} {d : DataW H} {p : List MemPlace} (hv : Value.okWide Try.prog W r b0 33 v) (h : DataW.Trod enc Try.prog W base spare held 33 v d p) :
    ∃ A c l, v = .slice A l.length c ∧ (∀ z ∈ l, (Lit.int .i64 z).wf = true) ∧ (l.length ≤ c ∧ Kd.C (Kd.int .i64) W A l.length l) := by
  obtain ⟨a, len, cap, rfl⟩ := okWide_slice Try.underlying33 hv
  obtain ⟨fuel, hf⟩ := h
  obtain ⟨A, c, l, h1, h2, h3, h4⟩ := list_ints (v := .slice a len cap) (by simpa [Value.cells] using hf)
  exact ⟨A, c, l, h1, h2, h3, h4⟩
theorem wf_le {z : Int} (h : (Lit.int .i64 z).wf = true) : -9223372036854775808 ≤ z ∧ z ≤ 9223372036854775807 := by
  simpa [Lit.wf, IntKind.min, IntKind.max, IntKind.signed, IntKind.bits] using h
/-- An automaton that came in. -/
theorem open_det {r : Reach} {b0 : Nat} {v : Value} {d : DataW H} {p : List MemPlace} (hv : Value.okWide Try.prog W r b0 25 v) (h : DataW.Trod enc Try.prog W base spare held 25 v d p) :
    ∃ s A c n B b e, v = .agg #[.int .i64 s, .slice A n.length c, .slice B e.length b] ∧ (Lit.int .i64 s).wf = true ∧ Got 0 A c n B b e W := by
  obtain ⟨v0, v1, v2, y0, y1, y2, n, rfl, _, _, h0, h1, h2⟩ := open_agg3 Try.underlying25 (by kernel_rfl) (by kernel_rfl) hv h
  obtain ⟨s, hs, _, hw⟩ := DataW.trod_int Try.underlying3 h0
  obtain ⟨A, c, l, rfl, hc, hC⟩ := slice_rows h1
  obtain ⟨B, b, e, rfl, hb, hB⟩ := slice_bools h2
  injection hs with hs
  subst hs
  exact ⟨s, A, c, l, B, b, e, rfl, hw, hc, hC, hb, hB⟩
end Go.Proofs.Ytpedenbcfbflbaa.X
