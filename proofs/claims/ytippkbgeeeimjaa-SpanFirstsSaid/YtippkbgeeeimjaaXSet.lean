/- The contracts by what both answer. -/
import Derived.Test.YtippkbgeeeimjaaPAlg
namespace Go.Proofs.Ytippkbgeeeimjaa.L
open Go.RowKit Go.Proofs.YtippkbgeeeimjaaW.PrintWords Go.Proofs.YtippkbgeeeimjaaW.PrintLast Go.Proofs.YtippkbgeeeimjaaW.PrintMore Go.Proofs.Ytippkbgeeeimjaa.A Go.Proofs.Ytippkbgeeeimjaa.P Go.Proofs.Ytippkbgeeeimjaa.B
set_option linter.unusedVariables false
set_option linter.unusedSimpArgs false
theorem refnot (l : List S34) : caesuraref01_Not.f l = some (notF l) := by
  refine congrArg some ?_
  unfold lessF notF
  exact canon_congr fun c h0 h1 => by
    have : hasB [⟨0, 1114111⟩] c = true := hasB_iff.2 ⟨by simp, _, List.mem_cons_self .., h0, h1⟩
    rw [this, Bool.true_and]
section
variable (A0 : Option Addr) (c0 : Nat) (l0 : List S34) (w : World) (hr0 : Kd.C k34 w A0 l0.length l0) (hc0 : l0.length ≤ c0)
include hr0 hc0
theorem c26 (n : Int) (h : firstF l0 = n) : Calls Try.prog 26 #[.slice A0 l0.length c0] w fun e w' => e = .returned (.int .i64 n) ∧ Below w.heap.size w w' := by
  obtain ⟨k, hk⟩ := (span_first l0).rounds
  exact h ▸ span_First.calls k A0 c0 l0 _ w hr0 hc0 hk
theorem c27 (n : Int) (h : firstF l0 = n) : Calls Try.prog 27 #[.slice A0 l0.length c0] w fun e w' => e = .returned (.int .i64 n) ∧ Below w.heap.size w w' :=
  h ▸ caesuraref01_First.calls A0 c0 l0 _ w hr0 hc0 (ref_first l0)
theorem c28 (n : Int) (h : sizeF l0 = n) : Calls Try.prog 28 #[.slice A0 l0.length c0] w fun e w' => e = .returned (.int .i64 n) ∧ Below w.heap.size w w' := by
  obtain ⟨k, hk⟩ := (span_size l0).rounds
  exact h ▸ span_Size.calls k A0 c0 l0 _ w hr0 hc0 hk
theorem c29 (n : Int) (h : sizeF l0 = n) : Calls Try.prog 29 #[.slice A0 l0.length c0] w fun e w' => e = .returned (.int .i64 n) ∧ Below w.heap.size w w' := by
  obtain ⟨k, hk⟩ := (ref_size l0).rounds
  exact h ▸ caesuraref01_Size.calls k A0 c0 l0 _ w hr0 hc0 hk
theorem c32 (n : Bool) (h : rightF l0 = n) : Calls Try.prog 32 #[.slice A0 l0.length c0] w fun e w' => e = .returned (.bool n) ∧ Below w.heap.size w w' := by
  obtain ⟨k, hk⟩ := (span_right l0).rounds
  exact h ▸ span_Right.calls k A0 c0 l0 _ w hr0 hc0 hk
theorem c33 (n : Bool) (h : rightF l0 = n) : Calls Try.prog 33 #[.slice A0 l0.length c0] w fun e w' => e = .returned (.bool n) ∧ Below w.heap.size w w' := by
  obtain ⟨k, hk⟩ := (ref_right l0).rounds
  exact h ▸ caesuraref01_Right.calls k A0 c0 l0 _ w hr0 hc0 hk
theorem c24 (c : Int) (n : Bool) (h : hasF l0 c = n) : Calls Try.prog 24 #[.slice A0 l0.length c0, .int .i64 c] w fun e w' => e = .returned (.bool n) ∧ Below w.heap.size w w' :=
  h ▸ span_Has.calls A0 c0 l0 c _ w hr0 hc0 rfl
theorem c25 (c : Int) (n : Bool) (h : hasF l0 c = n) : Calls Try.prog 25 #[.slice A0 l0.length c0, .int .i64 c] w fun e w' => e = .returned (.bool n) ∧ Below w.heap.size w w' :=
  (h ▸ ref_has_calls A0 c0 l0 c w hr0 hc0).mono fun e w' ⟨q, k⟩ => ⟨q, k.below⟩
theorem c20 (r : List S34) (h : notF l0 = r) : Calls Try.prog 20 #[.slice A0 l0.length c0] w fun e w' => ∃ v0_ : Value, e = .returned v0_ ∧ Kd.R k34 34 w' w.heap.size (fun _ => True) v0_ r ∧ Below w.heap.size w w' :=
  span_Not.calls A0 c0 l0 r w hr0 hc0 (congrArg some h)
theorem c21 (r : List S34) (h : notF l0 = r) : Calls Try.prog 21 #[.slice A0 l0.length c0] w fun e w' => ∃ v0_ : Value, e = .returned v0_ ∧ Kd.R k34 34 w' w.heap.size (fun _ => True) v0_ r ∧ Below w.heap.size w w' :=
  caesuraref01_Not.calls A0 c0 l0 r w hr0 hc0 (h ▸ refnot l0)
theorem c22 (r : List S34) (h : plF l0 = r) : Calls Try.prog 22 #[.slice A0 l0.length c0] w fun e w' => ∃ v0_ : Value, e = .returned v0_ ∧ Kd.R k34 34 w' w.heap.size (fun _ => True) v0_ r ∧ Below w.heap.size w w' :=
  span_Plain.calls A0 c0 l0 r w hr0 hc0 (congrArg some h)
theorem c23 (r : List S34) (h : plF l0 = r) : Calls Try.prog 23 #[.slice A0 l0.length c0] w fun e w' => ∃ v0_ : Value, e = .returned v0_ ∧ Kd.R k34 34 w' w.heap.size (fun _ => True) v0_ r ∧ Below w.heap.size w w' :=
  caesuraref01_Plain.calls A0 c0 l0 r w hr0 hc0 (congrArg some h)
variable (A1 : Option Addr) (c1 : Nat) (l1 : List S34) (hr1 : Kd.C k34 w A1 l1.length l1) (hc1 : l1.length ≤ c1)
include hr1 hc1
theorem c14 (r : List S34) (h : orF l0 l1 = r) : Calls Try.prog 14 #[.slice A0 l0.length c0, .slice A1 l1.length c1] w fun e w' => ∃ v0_ : Value, e = .returned v0_ ∧ Kd.R k34 34 w' w.heap.size (fun _ => True) v0_ r ∧ Below w.heap.size w w' := span_Or.calls A0 c0 l0 A1 c1 l1 r w hr0 hc0 hr1 hc1 (congrArg some h)
theorem c16 (r : List S34) (h : andF l0 l1 = r) : Calls Try.prog 16 #[.slice A0 l0.length c0, .slice A1 l1.length c1] w fun e w' => ∃ v0_ : Value, e = .returned v0_ ∧ Kd.R k34 34 w' w.heap.size (fun _ => True) v0_ r ∧ Below w.heap.size w w' := span_And.calls A0 c0 l0 A1 c1 l1 r w hr0 hc0 hr1 hc1 (congrArg some h)
theorem c18 (r : List S34) (h : lessF l0 l1 = r) : Calls Try.prog 18 #[.slice A0 l0.length c0, .slice A1 l1.length c1] w fun e w' => ∃ v0_ : Value, e = .returned v0_ ∧ Kd.R k34 34 w' w.heap.size (fun _ => True) v0_ r ∧ Below w.heap.size w w' := span_Less.calls A0 c0 l0 A1 c1 l1 r w hr0 hc0 hr1 hc1 (congrArg some h)
theorem c15 (r : List S34) (h : orF l0 l1 = r) : Calls Try.prog 15 #[.slice A0 l0.length c0, .slice A1 l1.length c1] w fun e w' => ∃ v0_ : Value, e = .returned v0_ ∧ Kd.R k34 34 w' w.heap.size (fun _ => True) v0_ r ∧ Below w.heap.size w w' := caesuraref01_Or.calls A0 c0 l0 A1 c1 l1 r w hr0 hc0 hr1 hc1 (congrArg some h)
theorem c17 (r : List S34) (h : andF l0 l1 = r) : Calls Try.prog 17 #[.slice A0 l0.length c0, .slice A1 l1.length c1] w fun e w' => ∃ v0_ : Value, e = .returned v0_ ∧ Kd.R k34 34 w' w.heap.size (fun _ => True) v0_ r ∧ Below w.heap.size w w' := caesuraref01_And.calls A0 c0 l0 A1 c1 l1 r w hr0 hc0 hr1 hc1 (congrArg some h)
theorem c19 (r : List S34) (h : lessF l0 l1 = r) : Calls Try.prog 19 #[.slice A0 l0.length c0, .slice A1 l1.length c1] w fun e w' => ∃ v0_ : Value, e = .returned v0_ ∧ Kd.R k34 34 w' w.heap.size (fun _ => True) v0_ r ∧ Below w.heap.size w w' := caesuraref01_Less.calls A0 c0 l0 A1 c1 l1 r w hr0 hc0 hr1 hc1 (congrArg some h)
theorem c30 (n : Bool) (h : sameF l0 l1 = n) : Calls Try.prog 30 #[.slice A0 l0.length c0, .slice A1 l1.length c1] w fun e w' => e = .returned (.bool n) ∧ Below w.heap.size w w' := by
  obtain ⟨k, hk⟩ := (span_same l0 l1).rounds
  exact h ▸ span_Same.calls k A0 c0 l0 A1 c1 l1 _ w hr0 hc0 hr1 hc1 hk
theorem c31 (n : Bool) (h : sameF l0 l1 = n) : Calls Try.prog 31 #[.slice A0 l0.length c0, .slice A1 l1.length c1] w fun e w' => e = .returned (.bool n) ∧ Below w.heap.size w w' := by
  obtain ⟨k, hk⟩ := (ref_same l0 l1).rounds
  exact h ▸ caesuraref01_Same.calls k A0 c0 l0 A1 c1 l1 _ w hr0 hc0 hr1 hc1 hk
theorem c13 (h : (l0.length : Int) ≤ 9223372036854775806) (e : l0 = l1) : Calls Try.prog 13 #[.slice A0 l0.length c0, .slice A1 l1.length c1] w fun e w' => e = .returned (.bool true) ∧ Below w.heap.size w w' := by
  obtain ⟨k, hk⟩ := (rng_ev (x := l0) (y := l1) h true (by simp [e])).1.rounds
  exact (caesuraref01_Ranges.calls k A0 c0 l0 A1 c1 l1 true w hr0 hc0 hr1 hc1 hk).mono fun e w' ⟨q, k⟩ => ⟨q, k.below⟩
end
theorem canon_small (P : Int → Bool) : ((canonF P).length : Int) ≤ 9223372036854775806 := by have := (canon_good P).n; omega
theorem C_rows2 {W : World} {g t : Nat} {A0 : Option Addr} {c0 : Nat} {l0 : List S34} {A1 : Option Addr} {c1 : Nat} {l1 : List S34} (hb : W.heap[g]? = some (.cells #[.slice A0 l0.length c0, .slice A1 l1.length c1] t (0, 0))) (h0 : Kd.C k34 W A0 l0.length l0) (k0 : l0.length ≤ c0) (h1 : Kd.C k34 W A1 l1.length l1) (k1 : l1.length ≤ c1) : Kd.C (Kd.slice 34 k34) W (some ⟨g, 0, none⟩) ([l0, l1] : List (List S34)).length [l0, l1] :=
  C_box hb (Reps.one (show Kd.K (Kd.slice 34 k34) W l0 [.slice A0 l0.length c0] from ⟨A0, c0, rfl, k0, h0⟩) (Reps.one (show Kd.K (Kd.slice 34 k34) W l1 [.slice A1 l1.length c1] from ⟨A1, c1, rfl, k1, h1⟩) (Reps.none _ _))) (by simp)
theorem C_rows3 {W : World} {g t : Nat} {A0 : Option Addr} {c0 : Nat} {l0 : List S34} {A1 : Option Addr} {c1 : Nat} {l1 : List S34} {A2 : Option Addr} {c2 : Nat} {l2 : List S34} (hb : W.heap[g]? = some (.cells #[.slice A0 l0.length c0, .slice A1 l1.length c1, .slice A2 l2.length c2] t (0, 0))) (h0 : Kd.C k34 W A0 l0.length l0) (k0 : l0.length ≤ c0) (h1 : Kd.C k34 W A1 l1.length l1) (k1 : l1.length ≤ c1) (h2 : Kd.C k34 W A2 l2.length l2) (k2 : l2.length ≤ c2) : Kd.C (Kd.slice 34 k34) W (some ⟨g, 0, none⟩) ([l0, l1, l2] : List (List S34)).length [l0, l1, l2] :=
  C_box hb (Reps.one (show Kd.K (Kd.slice 34 k34) W l0 [.slice A0 l0.length c0] from ⟨A0, c0, rfl, k0, h0⟩) (Reps.one (show Kd.K (Kd.slice 34 k34) W l1 [.slice A1 l1.length c1] from ⟨A1, c1, rfl, k1, h1⟩) (Reps.one (show Kd.K (Kd.slice 34 k34) W l2 [.slice A2 l2.length c2] from ⟨A2, c2, rfl, k2, h2⟩) (Reps.none _ _)))) (by simp)
def grF2 (a b : List S34) : Bool := decide (a.length > 410) || decide (b.length > 410)
def grF3 (a b d : List S34) : Bool := decide (a.length > 410) || decide (b.length > 410) || decide (d.length > 410)
theorem c12_2 {l0 l1 : List S34} {g : Nat} {W : World} (hC : Kd.C (Kd.slice 34 k34) W (some ⟨g, 0, none⟩) ([l0, l1] : List (List S34)).length [l0, l1]) (n : Bool) (h : grF2 l0 l1 = n) : Calls Try.prog 12 #[.slice (some ⟨g, 0, none⟩) 2 2] W fun e w' => e = .returned (.bool n) ∧ Below W.heap.size W w' := by
  obtain ⟨k, hk⟩ := (great_two l0 l1).rounds
  have := (caesuralaw01_great.calls k _ 2 [l0, l1] _ W hC (Nat.le_refl _) hk)
  obtain rfl := h
  exact this.mono fun e w' ⟨q, k⟩ => ⟨q, k.below⟩
theorem c12_3 {l0 l1 l2 : List S34} {g : Nat} {W : World} (hC : Kd.C (Kd.slice 34 k34) W (some ⟨g, 0, none⟩) ([l0, l1, l2] : List (List S34)).length [l0, l1, l2]) (n : Bool) (h : grF3 l0 l1 l2 = n) : Calls Try.prog 12 #[.slice (some ⟨g, 0, none⟩) 3 3] W fun e w' => e = .returned (.bool n) ∧ Below W.heap.size W w' := by
  obtain ⟨k, hk⟩ := (great_three l0 l1 l2).rounds
  have := (caesuralaw01_great.calls k _ 3 [l0, l1, l2] _ W hC (Nat.le_refl _) hk)
  obtain rfl := h
  exact this.mono fun e w' ⟨q, k⟩ => ⟨q, k.below⟩
end Go.Proofs.Ytippkbgeeeimjaa.L
