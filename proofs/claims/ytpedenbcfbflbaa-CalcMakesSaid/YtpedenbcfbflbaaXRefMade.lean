/- The contract of the reference's made (calc), and of its Or, And, Less, Xor. -/
import Derived.Test.YtpedenbcfbflbaaPQ
namespace Go.Proofs.Ytpedenbcfbflbaa.X
open Go.RowKit Go.Proofs.YtpedenbcfbflbaaW.PrintWords Go.Proofs.YtpedenbcfbflbaaW.PrintLast Go.Proofs.YtpedenbcfbflbaaW.PrintMore Go.Maps Num Go.Proofs.Ytpedenbcfbflbaa.PMarkMakes
set_option linter.unusedVariables false
set_option linter.unusedSimpArgs false

/-- What is made of the table. -/
def prodRes (rule : Bool → Bool → Bool) (s1 : Int) (e1 e2 : List Bool) : Option (List (Int × Int) × List (List Int)) → Int × List (List Int) × List Bool × Int
  | none => (0, [], [], 13)
  | some (l, rows) => (s1, rows, l.map (fun x => rule (e1.getD x.1.toNat false) (e2.getD x.2.toNat false)), 0)
theorem prodF_res {rule : Bool → Bool → Bool} {s1 : Int} {n1 : List (List Int)} {e1 : List Bool} {s2 : Int} {n2 : List (List Int)} {e2 : List Bool} {most : Int} (h : prodBad s1 n1 e1 s2 n2 e2 most = false) :
    prodF rule s1 n1 e1 s2 n2 e2 most = prodRes rule s1 e1 e2 (table (stepP n1 n2) s1.toNat most.toNat (most.toNat + 1) 0 [(0, 0)]) := by
  unfold prodF
  rw [h, if_neg (by decide)]
  cases table (stepP n1 n2) s1.toNat most.toNat (most.toNat + 1) 0 [(0, 0)] <;> rfl
theorem und82 : Try.prog.underlying 82 = some (.array 2 3) := by kernel_rfl
/-- Two pairs ([2]int) are the same, just if both are. -/
theorem run_eq82 (w : World) (a b c e : Int) : (Op.equalIn 10000 82 (.agg #[.int .i64 a, .int .i64 b]) (.agg #[.int .i64 c, .int .i64 e])).run Try.prog w = .ok ((a == c) && (b == e)) w := by
  obtain ⟨i, hi, _⟩ := info_parts info3
  have hp : Try.prog.plainKey 3 = true := by kernel_rfl
  have hc : Try.prog.cellsOf 3 = 1 := by kernel_rfl
  have hu : Try.prog.underlying 3 = some (.int .i64) := by kernel_rfl
  rw [run_equalIn_array w 9999 _ _ und82 hi, hc]
  have q0 : ∀ x y : Int, (part 3 #[.int .i64 x, .int .i64 y] 0).run Try.prog w = .ok (.int .i64 x) w := fun x y => run_part_plain w hp rfl
  have q1 : ∀ x y : Int, (part 3 #[.int .i64 x, .int .i64 y] 1).run Try.prog w = .ok (.int .i64 y) w := fun x y => run_part_plain w hp rfl
  have e3 : ∀ x y : Int, (Op.equalIn 9999 3 (.int .i64 x) (.int .i64 y)).run Try.prog w = .ok (x == y) w := fun x y => run_equalIn_int w 9998 3 .i64 .i64 x y hu
  show (Op.eqItems 9999 3 1 _ _ [0, 1]).run Try.prog w = _
  simp only [Op.eqItems, Sem.run_bind, Nat.zero_mul, Nat.one_mul, q0, Result.andThen_ok, e3]
  cases h1 : (a == c) with
  | false => simp
  | true =>
    cases h2 : (b == e) <;> simp [q1, e3, h2]
attribute [local go_sem] run_eq82
/-- A list of states as it stands (the reference's: a row of structs, t their type). -/
def LS (w : World) (t : Nat) (v : Value) (l : List (Int × Int)) (W : World) : Prop := W.ownsRow w.heap.size t 2 v l.length (cells2 l)
section
variable {w W W' : World} {t : Nat} {v : Value} {l : List (Int × Int)}
theorem LS.below (h : LS w t v l W) (hb : Below W.heap.size W W') : LS w t v l W' := pw_own_below h hb
theorem LS.far (h : LS w t v l W) {p : Addr} {cs : Array Value} {q : Nat} (hp : W.heap[p.block]? = some (.cells cs q (0, 0))) (h1 : q ≠ t) (u : Value) : LS w t v l (W.setCell p u) := own_setCell h (own_block_ne h hp (fun e => h1 e.symm)) _
theorem LS.grown (h : LS w t v l W) {base e size n : Nat} {v' : Value} {xs : List Value} (hv : W.ownsRow base e size v' n xs) (hg : W.grownBy W' v'.ownBlock) (h1 : e ≠ t) : LS w t v l W' := own_other h hg (own_type_ne h hv (fun e => h1 e.symm))
theorem LS.form (h : LS w t v l W) (hl : 0 < l.length) : ∃ g cap, v = .slice (some ⟨g, 0, none⟩) l.length cap := by
  obtain ⟨g, cap, he, _, _⟩ := World.ownsRow.form h hl
  exact ⟨g, cap, he⟩
/-- A state where it stands. -/
theorem LS.cells {A : Option Addr} {cp : Nat} (h : LS w t (.slice A l.length cp) l W) (i : Nat) (x : Int × Int) (hx : l[i]? = some x) :
    ∃ g, A = some ⟨g, 0, none⟩ ∧ W.cell? ⟨g, i * 2, none⟩ = some (.int .i64 x.1) ∧ W.cell? ⟨g, i * 2 + 1, none⟩ = some (.int .i64 x.2) := by
  have hlt := (List.getElem?_eq_some_iff.1 hx).1
  obtain ⟨g, cap, he⟩ := h.form (by omega)
  injection he with he _ _
  subst he
  have hget : ∀ (l : List (Int × Int)) (i : Nat) (x : Int × Int), l[i]? = some x → (cells2 l)[i * 2]? = some (.int .i64 x.1) ∧ (cells2 l)[i * 2 + 1]? = some (.int .i64 x.2) := by
    intro l
    induction l with
    | nil => intro i x h; simp at h
    | cons y r ih =>
      intro i x h
      have ec : cells2 (y :: r) = .int .i64 y.1 :: .int .i64 y.2 :: cells2 r := by simp [cells2]
      cases i with
      | zero => simp at h; subst h; simp [ec]
      | succ i =>
        obtain ⟨h1, h2⟩ := ih i x (by simpa using h)
        rw [ec]
        exact ⟨by rw [show (i + 1) * 2 = i * 2 + 1 + 1 by omega]; simpa using h1, by rw [show (i + 1) * 2 + 1 = i * 2 + 1 + 1 + 1 by omega]; simpa using h2⟩
  obtain ⟨h1, h2⟩ := hget l i x hx
  have a1 := World.ownsRow.cells h (g := g) rfl (i * 2) _ h1
  have a2 := World.ownsRow.cells h (g := g) rfl (i * 2 + 1) _ h2
  rw [add_plain] at a1 a2
  exact ⟨g, rfl, by simpa using a1, by simpa using a2⟩
end
/-- Where a search ends. -/
theorem idx_of {l : List (Int × Int)} {y : Int × Int} {j : Nat} (h0 : ∀ i, i < j → l[i]? ≠ some y) (hj : j ≤ l.length) (h1 : l.length ≤ j ∨ l[j]? = some y) : idx l y = j := by
  induction l generalizing j with
  | nil => simp at hj; subst hj; rfl
  | cons z r ih =>
    unfold idx
    by_cases hz : z = y
    · rw [if_pos hz]
      cases j with
      | zero => rfl
      | succ j => exact absurd (by simp [hz]) (h0 0 (by omega))
    · rw [if_neg hz]
      cases j with
      | zero =>
        rcases h1 with h1 | h1
        · simp at h1
        · simp at h1; exact absurd h1 hz
      | succ j =>
        rw [ih (j := j) (fun i hi => by simpa using h0 (i + 1) (by omega)) (by simpa using hj) (by simpa using h1)]
theorem put_in {l : List (Int × Int)} {y : Int × Int} (h : idx l y < l.length) : put l y = l := by
  unfold put; rw [if_pos (idx_lt.1 h)]
theorem put_new {l : List (Int × Int)} {y : Int × Int} (h : idx l y = l.length) : put l y = l ++ [y] := by
  unfold put; rw [if_neg (fun hm => by have := idx_lt.2 hm; omega)]
theorem app_ints {W : World} {base : Nat} {v : Value} {ks : List Int} (q : Int) (h : Kd.R (Kd.int .i64) 3 W base (fun _ => True) v ks) :
    ∃ inner, W.ownsRow base 3 1 v ks.length inner ∧ ∀ v1 w1, w1.ownsRow base 3 1 v1 (ks.length + 1) (inner ++ [.int .i64 q]) → W.grownBy w1 v.ownBlock → (v1.ownBlock = v.ownBlock ∨ ∃ b, v1.ownBlock = some b ∧ W.heap.size ≤ b) →
      Kd.R (Kd.int .i64) 3 w1 base (fun _ => True) v1 (ks ++ [q]) :=
  R_appended' (okp := fun _ => False) (p := q) (cs := [.int .i64 q]) h rfl (fun k hk => hk.elim) (fun _ _ => trivial)
theorem PO.grownRow {w W W' : World} {gd : Nat} {s : Int} {v v1 : Value} {rows : List (List Int)} {ends : List Bool} {base n : Nat} {xs : List Value} (h : PO w gd s (fun k => some k ≠ v.ownBlock) rows ends W) (hown : W.ownsRow base 3 1 v n xs) (hg : W.grownBy W' v.ownBlock)
    (hat : v1.ownBlock = v.ownBlock ∨ ∃ b, v1.ownBlock = some b ∧ W.heap.size ≤ b) : PO w gd s (fun k => some k ≠ v1.ownBlock) rows ends W' := by
  obtain ⟨⟨nv, ev, g1, g2, g3⟩, h4⟩ := h
  refine ⟨⟨nv, ev, blk_grown g1 hg (own_block_ne hown g1 (by decide)), ?_, R_keeps g3 (Keeps.of_grown hown hg) (by decide)⟩, h4⟩
  have h5 := Kd.S_bound g2
  refine Kd.S_mono (Kd.S_move h5 (fun k hk => hg.block k hk.2.2.1 hk.1)) (fun k hk => ?_)
  rcases hat with e | ⟨b, e, hb⟩
  · rw [e]; exact hk.1
  · rw [e]; intro e'; injection e' with e'; have := hk.2.2.1; omega
theorem PO.grownOther {w W W' : World} {gd : Nat} {s : Int} {v : Value} {ok : Nat → Prop} {rows : List (List Int)} {ends : List Bool} {base t size n : Nat} {xs : List Value} (h : PO w gd s ok rows ends W) (hown : W.ownsRow base t size v n xs) (hg : W.grownBy W' v.ownBlock) (ht : ∀ q, q ∈ [3, 4, 25, 33] → q ≠ t) : PO w gd s ok rows ends W' :=
  h.keeps (Keeps.of_grown hown hg) (fun q hq => ⟨ht q hq, ht q hq⟩)

set_option maxHeartbeats 4000000 in
set_option maxRecDepth 100000 in
theorem ref_made (rule : Bool → Bool → Bool) (kd : Int)
    (hrule : ∀ (a b : Bool) (W : World), Calls Try.prog 66 #[.bool a, .bool b, .int .i64 kd] W fun e w' => e = .returned (.bool (rule a b)) ∧ Drawn0 W w')
    (s1 : Int) (A1 : Option Addr) (c1 : Nat) (n1 : List (List Int)) (B1 : Option Addr) (d1 : Nat) (e1 : List Bool) (s2 : Int) (A2 : Option Addr) (c2 : Nat) (n2 : List (List Int)) (B2 : Option Addr) (d2 : Nat) (e2 : List Bool) (most : Int) (w : World)
    (hr1 : Kd.C (Kd.slice 3 (Kd.int .i64)) w A1 n1.length n1) (hc1 : n1.length ≤ c1) (hb1 : Kd.C Kd.bool w B1 e1.length e1) (hd1 : e1.length ≤ d1)
    (hr2 : Kd.C (Kd.slice 3 (Kd.int .i64)) w A2 n2.length n2) (hc2 : n2.length ≤ c2) (hb2 : Kd.C Kd.bool w B2 e2.length e2) (hd2 : e2.length ≤ d2)
    (r1 : Int) (r2 : List (List Int)) (r3 : List Bool) (r4 : Int) (h : prodF rule s1 n1 e1 s2 n2 e2 most = (r1, r2, r3, r4)) :
    Calls Try.prog 54 #[.agg #[.int .i64 s1, .slice A1 n1.length c1, .slice B1 e1.length d1], .agg #[.int .i64 s2, .slice A2 n2.length c2, .slice B2 e2.length d2], .int .i64 most, .int .i64 kd] w
      fun e w' => ∃ v1_ v2_ : Value, e = .returned (.tuple #[.agg #[.int .i64 r1, v1_, v2_], .int .i64 r4]) ∧ Kd.S (Kd.slice 3 (Kd.int .i64)) 33 w' w.heap.size (fun k_ => some k_ ≠ (v2_ : Value).ownBlock) v1_ r2 ∧ Kd.R Kd.bool 4 w' w.heap.size (fun k_ => True) v2_ r3 ∧ Below w.heap.size w w' := by
  have hu25 := Try.underlying25
  have HR1 := Aside0.mk hr1
  have HR2 := Aside0.mk hr2
  have HB1 := Aside0.mk hb1
  have HB2 := Aside0.mk hb2
  have H := Aside0.mk h
  have HRULE := Aside0.mk hrule
  have hca := fun W hr hb => caesuraref15_Right.calls (right_f s1 n1 e1).choose s1 A1 c1 n1 B1 d1 e1 _ W hr hc1 hb hd1 (right_f s1 n1 e1).choose_spec
  have hcb := fun W hr hb => caesuraref15_Right.calls (right_f s2 n2 e2).choose s2 A2 c2 n2 B2 d2 e2 _ W hr hc2 hb hd2 (right_f s2 n2 e2).choose_spec
  have HCA := Aside0.mk hca
  have HCB := Aside0.mk hcb
  clear hr1 hr2 hb1 hb2 hrule h hca hcb
  go_enter Try.func54, Try.ntmps54
  go_upto_region 1 with (fail)
  obtain ⟨W0, hW0⟩ : ∃ W0, W0 = ((w.alloc (.cells #[.int .i64 s1, .slice A1 n1.length c1, .slice B1 e1.length d1] 25)).alloc (.cells #[.int .i64 s2, .slice A2 n2.length c2, .slice B2 e2.length d2] 25)).alloc (.cells #[.int .i64 0, .slice none 0 0, .slice none 0 0] 25) := ⟨_, rfl⟩
  have I0 : Init3 w #[.int .i64 s1, .slice A1 n1.length c1, .slice B1 e1.length d1] #[.int .i64 s2, .slice A2 n2.length c2, .slice B2 e2.length d2] #[.int .i64 0, .slice none 0 0, .slice none 0 0] W0 := by rw [hW0]; exact Init3.start _ _ _ _
  rw [← hW0]
  clear hW0
  go_cut [41] (fun v41 wc => v41 = .bool (prodBad s1 n1 e1 s2 n2 e2 most) ∧ Init3 w #[.int .i64 s1, .slice A1 n1.length c1, .slice B1 e1.length d1] #[.int .i64 s2, .slice A2 n2.length c2, .slice B2 e2.length d2] #[.int .i64 0, .slice none 0 0, .slice none 0 0] wc)
  case first =>
    have k0 := I0.a 0
    have k1 := I0.a 1
    have k2 := I0.a 2
    have II := Aside0.mk I0
    clear I0
    cases hq1 : rightB s1 n1 e1 with
    | false =>
      have e : prodBad s1 n1 e1 s2 n2 e2 most = true := by simp [prodBad, hq1]
      have HE := Aside0.mk e
      have HC := HCA.out W0 (Kd.C_below HR1.out II.out.bel) (Kd.C_below HB1.out II.out.bel)
      rw [hq1] at HC
      clear hq1 e
      go_wp2_with (go_at_call 24; refine HC.mono ?_; rintro e w' ⟨rfl, hb⟩)
      have I1 := Aside0.mk (II.out.below hb)
      go_meet
      case rel => exact ⟨by rw [HE.out], I1.out⟩
    | true =>
      have HC := HCA.out W0 (Kd.C_below HR1.out II.out.bel) (Kd.C_below HB1.out II.out.bel)
      rw [hq1] at HC
      have HQ1 := Aside0.mk hq1
      clear hq1
      go_wp2_with fail
      refine HC.mono ?_
      rintro e Wa ⟨rfl, hb⟩
      clear HC
      have I1 := II.out.below hb
      have k0 := I1.a 0
      have k3 := I1.b 0
      have k4 := I1.b 1
      have k5 := I1.b 2
      have II := Aside0.mk I1
      clear I1 hb k1 k2
      have HC := HCB.out Wa (Kd.C_below HR2.out II.out.bel) (Kd.C_below HB2.out II.out.bel)
      cases hq2 : rightB s2 n2 e2 with
      | false =>
        have e : prodBad s1 n1 e1 s2 n2 e2 most = true := by simp [prodBad, hq2]
        have HE := Aside0.mk e
        rw [hq2] at HC
        clear hq2 e
        go_wp2_with (go_at_call 24; refine HC.mono ?_; rintro e w' ⟨rfl, hb⟩)
        have I1 := Aside0.mk (II.out.below hb)
        go_meet
        case rel => exact ⟨by rw [HE.out], I1.out⟩
      | true =>
        rw [hq2] at HC
        have HQ2 := Aside0.mk hq2
        clear hq2
        go_wp2_with fail
        refine HC.mono ?_
        rintro e Wb ⟨rfl, hb⟩
        clear HC
        have I1 := II.out.below hb
        have k0 := I1.a 0
        have k3 := I1.b 0
        have II := Aside0.mk I1
        clear I1 hb k4 k5
        by_cases hs : s1 = s2
        · have hsb : (s1 != s2) = false := bne_eq_false_iff_eq.2 hs
          by_cases h1 : most < 1
          · have hb1 : decide (most < 1) = true := decide_eq_true h1
            have HE : Aside0 (prodBad s1 n1 e1 s2 n2 e2 most = true) := ⟨by simp [prodBad, h1]⟩
            clear hs h1
            go_wp2_with fail
            go_meet
            case rel => exact ⟨by rw [HE.out], II.out⟩
          · have hb1 : decide (most < 1) = false := decide_eq_false h1
            by_cases h2 : 3000 < most
            · have hb2 : decide (3000 < most) = true := decide_eq_true h2
              have HE : Aside0 (prodBad s1 n1 e1 s2 n2 e2 most = true) := ⟨by simp [prodBad, h2]⟩
              clear hs h1 h2
              go_wp2_with fail
              go_meet
              case rel => exact ⟨by rw [HE.out], II.out⟩
            · have hb2 : decide (3000 < most) = false := decide_eq_false h2
              have HE : Aside0 (prodBad s1 n1 e1 s2 n2 e2 most = false) := ⟨prodBad_ok HQ1.out HQ2.out hs h1 h2⟩
              clear hs h1 h2
              go_wp2_with fail
              go_meet
              case rel => exact ⟨by rw [HE.out], II.out⟩
        · have hsb : (s1 != s2) = true := bne_iff_ne.2 hs
          have HE : Aside0 (prodBad s1 n1 e1 s2 n2 e2 most = true) := ⟨by simp [prodBad, hs]⟩
          clear hs
          go_wp2_with fail
          go_meet
          case rel => exact ⟨by rw [HE.out], II.out⟩
  case rest =>
    obtain ⟨rfl, I1⟩ := hcut
    have k0 := I1.a 0
    have k1 := I1.a 1
    have k2 := I1.a 2
    have k3 := I1.b 0
    have k4 := I1.b 1
    have k5 := I1.b 2
    have k6 := I1.o 0
    have k7 := I1.o 1
    have k8 := I1.o 2
    have m6 := blk_frozen I1.ho 0
    have m7 := blk_frozen I1.ho 1
    have m8 := blk_frozen I1.ho 2
    have II := Aside0.mk I1
    clear I1
    cases hbad : prodBad s1 n1 e1 s2 n2 e2 most with
    | true =>
      have e : r1 = 0 ∧ r2 = [] ∧ r3 = [] ∧ r4 = 1 := by
        have := H.out
        simp only [prodF, hbad, if_true, Prod.mk.injEq] at this
        exact ⟨this.1.symm, this.2.1.symm, this.2.2.1.symm, this.2.2.2.symm⟩
      obtain ⟨rfl, rfl, rfl, rfl⟩ := e
      clear hbad H HR1 HR2 HB1 HB2 HCA HCB
      go_wp2_with fail
      refine bodyPost_ret (results_ct rfl _ _ (w.heap.size + 1 + 1) 25 #[.int .i64 0, .slice none 0 0, .slice none 0 0] (0, 0) _ rfl (by refine blk_put (cs := #[.int .i64 0, .slice none 0 0, .slice none 0 0]) ?_ 2 _ rfl; refine blk_put (cs := #[.int .i64 0, .slice none 0 0, .slice none 0 0]) ?_ 1 _ rfl; refine blk_put (cs := #[.int .i64 0, .slice none 0 0, .slice none 0 0]) ?_ 0 _ rfl; exact II.out.ho) Try.underlying25 rfl (by kernel_rfl)) rfl ?_
      exact ⟨_, _, rfl, Kd.S_nil _ _ _ _ _, Kd.R_nil _ _ _ _ _, below_put3 II.out.bel (by omega) _ _ _⟩
    | false =>
      obtain ⟨q1, q2, q3, q4, q5⟩ := prodBad_inv hbad
      subst q3
      have HH : Aside0 (prodRes rule s1 e1 e2 (table (stepP n1 n2) s1.toNat most.toNat (most.toNat + 1) 0 [(0, 0)]) = (r1, r2, r3, r4)) := ⟨(prodF_res hbad).symm.trans H.out⟩
      have R1 := Aside0.mk (rightB_spec q1)
      have R2 := Aside0.mk (rightB_spec q2)
      obtain ⟨T, hT⟩ : ∃ T, T = table (stepP n1 n2) s1.toNat most.toNat (most.toNat + 1) 0 [(0, 0)] := ⟨_, rfl⟩
      rw [← hT] at HH
      have TS := Aside0.mk (hT ▸ TEq.start (f := (stepP n1 n2)) (sg := s1.toNat) (mo := most.toNat) (x0 := (0, 0)) (by omega))
      have BS : Aside0 (Bd n1.length n2.length [(0, 0)]) := ⟨fun x hx => by
        rw [List.mem_singleton] at hx; subst hx
        have := R1.out.2.2.1; have := R2.out.2.2.1
        exact ⟨by simp, by simp; omega, by simp, by simp; omega⟩⟩
      have hmst : most ≤ 3000 := q5
      have hmst1 : 1 ≤ most := q4
      have hs0 := R1.out.1
      have hs4 := R1.out.2.1
      have k0 : ∀ o, (wc.alloc o).cell? ⟨w.heap.size, 0, none⟩ = some (.int .i64 s1) := fun o => (blk_cell (blk_alloc II.out.ha o) 0).trans rfl
      clear k1 k2 k3 k4 k5 k6 k7 k8 m6 m7 m8 H hT q1 q2 q4 q5 hbad HCA HCB I0
      go_wp2_with fail
      obtain ⟨gd, hgd⟩ : ∃ gd, gd = wc.heap.size + 1 := ⟨_, rfl⟩
      obtain ⟨Wl, hWl⟩ : ∃ Wl, Wl = (wc.alloc (.cells #[.int .i64 0, .int .i64 0] 82)).alloc (.cells #[.int .i64 s1, .slice none 0 0, .slice none 0 0] 25) := ⟨_, rfl⟩
      have IIa := II.out.below (below_alloc (Below.refl _ _) (.cells #[.int .i64 0, .int .i64 0] 82))
      have IW0 := Aside0.mk (IIa.below (below_alloc (Below.refl _ _) (.cells #[.int .i64 s1, .slice none 0 0, .slice none 0 0] 25)))
      have OW0 : Aside0 (PO w gd s1 (fun _ => True) [] [] Wl) := ⟨by
        have := PO.start (s := s1) IIa
        rw [hWl, hgd]
        simpa using this⟩
      have LW0 : Aside0 (LS w 82 (.slice (some ⟨wc.heap.size, 0, none⟩) 1 1) [(0, 0)] Wl) := ⟨by
        rw [hWl]
        refine LS.below (W := wc.alloc (.cells #[.int .i64 0, .int .i64 0] 82)) ?_ (below_alloc (Below.refl _ _) _)
        have h1 := World.ownsRow_lit (base := w.heap.size) (e := 82) (size := 2) wc #[.int .i64 0, .int .i64 0] 1 II.out.bel.size (by decide) rfl
        simpa [LS, cells2] using h1⟩
      rw [← hWl, ← hgd]
      rw [← hWl] at IW0
      clear IIa II k0 hWl hgd
      go_loopg [10, 12] (most.toNat + 1) (fun kq v10 v12 W => ∃ (l : List (Int × Int)) (rows : List (List Int)) (A : Option Addr) (cp : Nat), v10 = .slice A l.length cp ∧ v12 = .int .i64 rows.length ∧ Aside0 (Init3 w #[.int .i64 s1, .slice A1 n1.length c1, .slice B1 e1.length d1] #[.int .i64 s1, .slice A2 n2.length c2, .slice B2 e2.length d2] #[.int .i64 0, .slice none 0 0, .slice none 0 0] W) ∧
        Aside0 (LS w 82 (.slice A l.length cp) l W) ∧ Aside0 (PO w gd s1 (fun _ => True) rows ((l.take rows.length).map (fun x => rule (e1.getD x.1.toNat false) (e2.getD x.2.toNat false))) W) ∧ Aside0 (TEq (stepP n1 n2) s1.toNat most.toNat T kq l rows) ∧ Aside0 (Bd n1.length n2.length l))
      case atStart => exact ⟨[(0, 0)], [], _, _, rfl, rfl, IW0, LW0, by simpa using OW0, TS, BS⟩
      case round =>
        clear IW0 LW0 OW0 TS BS
        obtain ⟨l, rows, LA, lc, rfl, rfl, II, LL, OO, TE, BD⟩ := hrel
        have hge := OO.out.ge
        have hll : l.length ≤ 3000 := by have := TE.out.2.1; omega
        by_cases hlt : rows.length < l.length
        · have hltb : decide ((rows.length : Int) < (l.length : Int)) = true := decide_eq_true (by omega)
          obtain ⟨x, hx⟩ : ∃ x, l[rows.length]? = some x := ⟨_, List.getElem?_eq_getElem hlt⟩
          obtain ⟨K, rfl, RE0⟩ := TE.out.into hx
          obtain ⟨lg0, rfl, x1, x2⟩ := LL.out.cells rows.length x hx
          have HX := Aside0.mk hx
          have REa := Aside0.mk RE0
          have HXB := Aside0.mk (BD.out x (List.mem_of_getElem? HX.out))
          have hlt0 : (rows.length : Int) < (l.length : Int) := by omega
          clear hx RE0
          go_wp2_with fail
          go_quiet (fail)
          have hbq : Below wr.heap.size wr (wr.drewN nq) := pw_below_drewN (Below.refl _ _) nq
          have IQ := Aside0.mk (II.out.below hbq)
          have LQ := Aside0.mk (LL.out.below hbq)
          have OO2 : Aside0 (PO w gd s1 (fun k => some k ≠ (.slice none 0 0 : Value).ownBlock) rows ((l.take rows.length).map (fun x => rule (e1.getD x.1.toNat false) (e2.getD x.2.toNat false))) (wr.drewN nq)) := ⟨(OO.out.below hbq).mono (fun k _ => by simp [Value.ownBlock])⟩
          have NX2 : Aside0 (Kd.R (Kd.int .i64) 3 (wr.drewN nq) w.heap.size (fun _ => True) (.slice none 0 0) ([] : List Int)) := ⟨Kd.R_nil _ _ _ _ _⟩
          generalize wr.drewN nq = Wx at IQ LQ OO2 NX2 ⊢
          clear hbq II LL OO x1 x2
          go_upto_region 11 with (fail)
          go_loopg [10, 15, 16] s1.toNat (fun kq v10 v15 v16 W => ∃ (l2 : List (Int × Int)) (ks : List Int) (A : Option Addr) (cp : Nat), v10 = .slice A l2.length cp ∧ v16 = .int .i64 ks.length ∧ Aside0 (Init3 w #[.int .i64 s1, .slice A1 n1.length c1, .slice B1 e1.length d1] #[.int .i64 s1, .slice A2 n2.length c2, .slice B2 e2.length d2] #[.int .i64 0, .slice none 0 0, .slice none 0 0] W) ∧
            Aside0 (LS w 82 (.slice A l2.length cp) l2 W) ∧ Aside0 (PO w gd s1 (fun k => some k ≠ v15.ownBlock) rows ((l.take rows.length).map (fun x => rule (e1.getD x.1.toNat false) (e2.getD x.2.toNat false))) W) ∧ Aside0 (Kd.R (Kd.int .i64) 3 W w.heap.size (fun _ => True) v15 ks) ∧ Aside0 (REq (stepP n1 n2) s1.toNat most.toNat T K rows l x kq l2 ks) ∧ Aside0 (Bd n1.length n2.length l2))
          case atStart => exact ⟨l, [], _, _, rfl, rfl, IQ, LQ, OO2, NX2, REa, BD⟩
          case round =>
            clear IQ LQ OO2 NX2 REa BD
            obtain ⟨l2, ks, MA, mc, rfl, rfl, II, LL, OO, NX, RE, BD⟩ := hrel
            have i0 := (II.out.a 0).trans rfl
            have hll2 : l2.length ≤ 3000 := by have := RE.out.2.1; omega
            have hkl : ks.length ≤ 400 := by have := RE.out.1; omega
            obtain ⟨hx2, hlt2⟩ : l2[rows.length]? = some x ∧ rows.length < l2.length := by
              obtain ⟨t, ht⟩ := RE.out.2.2.1
              rw [← ht, List.getElem?_append_left hlt, List.length_append]
              exact ⟨HX.out, by omega⟩
            obtain ⟨lg, rfl, _, _⟩ := LL.out.cells rows.length x hx2
            have hlt3 : (rows.length : Int) < (l2.length : Int) := by omega
            clear hx2
            by_cases hs : (ks.length : Int) < s1
            · have hsb : decide ((ks.length : Int) < s1) = true := decide_eq_true hs
              obtain ⟨b1, b2, b3, b4⟩ := HXB.out
              obtain ⟨t1, t2⟩ := getD_row R1.out.2.2.2.2.2 x.1 b1 b2
              obtain ⟨t3, t4⟩ := getD_row R2.out.2.2.2.2.2 x.2 b3 b4
              obtain ⟨ad1, ra1, rc1, N1, u1, rfl, y1, y2, y3, y4⟩ := cell_next' HR1.out x.1 b1 b2 ks.length (by omega)
              obtain ⟨ad2, ra2, rc2, N2, u2, rfl, y5, y6, y7, y8⟩ := cell_next' HR2.out x.2 b3 b4 ks.length (by omega)
              have hdb : Below wr.heap.size wr wr.drew := below_drew (Below.refl _ _)
              have ID := Aside0.mk (II.out.below hdb)
              have LD := Aside0.mk (LL.out.below hdb)
              have OD := Aside0.mk (OO.out.below hdb)
              have ND := Aside0.mk (Kd.R_below NX.out hdb)
              have SIX : Aside0 (∀ W : World, Init3 w #[.int .i64 s1, .slice (some ad1) n1.length c1, .slice B1 e1.length d1] #[.int .i64 s1, .slice (some ad2) n2.length c2, .slice B2 e2.length d2] #[.int .i64 0, .slice none 0 0, .slice none 0 0] W →
                W.cell? ⟨w.heap.size, 1, none⟩ = some (.slice (some ad1) n1.length c1) ∧ W.cell? (ad1.add x.1.toNat) = some (.slice (some ra1) N1 rc1) ∧ W.cell? (ra1.add ks.length) = some (.int .i64 u1) ∧ W.cell? ⟨w.heap.size + 1, 1, none⟩ = some (.slice (some ad2) n2.length c2) ∧ W.cell? (ad2.add x.2.toNat) = some (.slice (some ra2) N2 rc2) ∧ W.cell? (ra2.add ks.length) = some (.int .i64 u2)) := ⟨fun W I =>
                  ⟨(I.a 1).trans rfl, pw_cell_below I.bel y1, pw_cell_below I.bel y2, (I.b 1).trans rfl, pw_cell_below I.bel y5, pw_cell_below I.bel y6⟩⟩
              obtain ⟨y, hy⟩ : ∃ y : Int × Int, y = (u1, u2) := ⟨_, rfl⟩
              have hstp : (stepP n1 n2) x ks.length = y := by rw [hy]; unfold stepP; rw [y4, y8]
              have hoy : 0 ≤ y.1 ∧ y.1 < n1.length ∧ 0 ≤ y.2 ∧ y.2 < n2.length := by
                rw [hy]
                have T := t2 ks.length (by omega)
                have Tb := t4 ks.length (by omega)
                rw [← y4] at T
                rw [← y8] at Tb
                exact ⟨T.1, T.2, Tb.1, Tb.2⟩
              obtain rfl : u1 = y.1 := by rw [hy]
              obtain rfl : u2 = y.2 := by rw [hy]
              have HY := Aside0.mk hstp
              have HOY := Aside0.mk hoy
              have y3' : (ks.length : Int) < (N1 : Int) := by omega
              have y7' : (ks.length : Int) < (N2 : Int) := by omega
              clear t1 t2 t3 t4 y1 y2 y4 y5 y6 y8 hy hstp hoy II LL OO NX hdb
              go_upto_region 13 with (fail)
              -- REGION 13 BEGIN
              refine start_ (n := 19) (S := fun w' => w'.cell? ⟨w.heap.size, 1, none⟩ = some (.slice (some ad1) n1.length c1) ∧ w'.cell? (ad1.add x.1.toNat) = some (.slice (some ra1) N1 rc1) ∧ w'.cell? (ra1.add ks.length) = some (.int .i64 y.1) ∧ w'.cell? ⟨w.heap.size + 1, 1, none⟩ = some (.slice (some ad2) n2.length c2) ∧ w'.cell? (ad2.add x.2.toNat) = some (.slice (some ra2) N2 rc2) ∧ w'.cell? (ra2.add ks.length) = some (.int .i64 y.2)) (ds := [18]) #[false, false, false, false, false, false, false, false, false, false, false, false, false, false, false, false, false, false, false] (by kernel_rfl) rfl rfl ⟨(SIX.out _ ID.out).1, (SIX.out _ ID.out).2.1, (SIX.out _ ID.out).2.2.1, (SIX.out _ ID.out).2.2.2.1, (SIX.out _ ID.out).2.2.2.2.1, (SIX.out _ ID.out).2.2.2.2.2⟩ (fun hHeld => ?_)
              generalize wr.drew = Wd at ID LD OD ND hHeld ⊢
              refine pure_ (i := 0) (N := some 70) (v := ?_) (a' := ?_) #[true, false, false, false, false, false, false, false, false, false, false, false, false, false, false, false, false, false, false] rfl rfl (by kernel_rfl) (fun _ _ _ h => h) (Or.inl ⟨by rfl, ?_⟩) ?_ ?_
              rotate_left
              · intro w'
                go_simp
                with_reducible rfl
              rotate_left
              · simp only [Act.put, List.setIfInBounds_toArray, List.set_cons_zero, List.set_cons_succ, i64_w, i32_w]
                rfl
              refine pure_ (i := 2) (N := some 72) (v := ?_) (a' := ?_) #[true, false, true, false, false, false, false, false, false, false, false, false, false, false, false, false, false, false, false] rfl rfl (by kernel_rfl) (fun _ _ _ h => h) (Or.inl ⟨by rfl, ?_⟩) ?_ ?_
              rotate_left
              · intro w'
                go_simp
                with_reducible rfl
              rotate_left
              · simp only [Act.put, List.setIfInBounds_toArray, List.set_cons_zero, List.set_cons_succ, i64_w, i32_w]
                rfl
              refine pure_ (i := 5) (N := some 75) (v := ?_) (a' := ?_) #[true, false, true, false, false, true, false, false, false, false, false, false, false, false, false, false, false, false, false] rfl rfl (by kernel_rfl) (fun _ _ _ h => h) (Or.inl ⟨by rfl, ?_⟩) ?_ ?_
              rotate_left
              · intro w'
                go_simp
                with_reducible rfl
              rotate_left
              · simp only [Act.put, List.setIfInBounds_toArray, List.set_cons_zero, List.set_cons_succ, i64_w, i32_w]
                rfl
              refine pure_ (i := 8) (N := some 78) (v := ?_) (a' := ?_) #[true, false, true, false, false, true, false, false, true, false, false, false, false, false, false, false, false, false, false] rfl rfl (by kernel_rfl) (fun _ _ _ h => h) (Or.inl ⟨by rfl, ?_⟩) ?_ ?_
              rotate_left
              · intro w'
                go_simp
                with_reducible rfl
              rotate_left
              · simp only [Act.put, List.setIfInBounds_toArray, List.set_cons_zero, List.set_cons_succ, i64_w, i32_w]
                rfl
              refine pure_ (i := 10) (N := some 80) (v := ?_) (a' := ?_) #[true, false, true, false, false, true, false, false, true, false, true, false, false, false, false, false, false, false, false] rfl rfl (by kernel_rfl) (fun _ _ _ h => h) (Or.inl ⟨by rfl, ?_⟩) ?_ ?_
              rotate_left
              · intro w'
                go_simp
                with_reducible rfl
              rotate_left
              · simp only [Act.put, List.setIfInBounds_toArray, List.set_cons_zero, List.set_cons_succ, i64_w, i32_w]
                rfl
              refine pure_ (i := 13) (N := some 83) (v := ?_) (a' := ?_) #[true, false, true, false, false, true, false, false, true, false, true, false, false, true, false, false, false, false, false] rfl rfl (by kernel_rfl) (fun _ _ _ h => h) (Or.inl ⟨by rfl, ?_⟩) ?_ ?_
              rotate_left
              · intro w'
                go_simp
                with_reducible rfl
              rotate_left
              · simp only [Act.put, List.setIfInBounds_toArray, List.set_cons_zero, List.set_cons_succ, i64_w, i32_w]
                rfl
              refine take_ (i := 1) (N := some 71) (v := ?_) (a' := ?_) #[true, true, true, false, false, true, false, false, true, false, true, false, false, true, false, false, false, false, false] rfl rfl (by kernel_rfl) (fun _ _ _ h => h) (Or.inl ⟨by rfl, ?_⟩) hHeld ?_ ?_
              rotate_left
              · rintro w' ⟨s0, s1, s2, s3, s4, s5⟩
                go_simp
                with_reducible rfl
              rotate_left
              · simp only [Act.put, List.setIfInBounds_toArray, List.set_cons_zero, List.set_cons_succ, i64_w, i32_w]
                rfl
              refine pure_ (i := 3) (N := some 73) (v := ?_) (a' := ?_) #[true, true, true, true, false, true, false, false, true, false, true, false, false, true, false, false, false, false, false] rfl rfl (by kernel_rfl) (fun _ _ _ h => h) (Or.inl ⟨by rfl, ?_⟩) ?_ ?_
              rotate_left
              · intro w'
                go_simp
                with_reducible rfl
              rotate_left
              · simp only [Act.put, List.setIfInBounds_toArray, List.set_cons_zero, List.set_cons_succ, i64_w, i32_w]
                rfl
              refine take_ (i := 4) (N := some 74) (v := ?_) (a' := ?_) #[true, true, true, true, true, true, false, false, true, false, true, false, false, true, false, false, false, false, false] rfl rfl (by kernel_rfl) (fun _ _ _ h => h) (Or.inl ⟨by rfl, ?_⟩) hHeld ?_ ?_
              rotate_left
              · rintro w' ⟨s0, s1, s2, s3, s4, s5⟩
                go_simp
                with_reducible rfl
              rotate_left
              · simp only [Act.put, List.setIfInBounds_toArray, List.set_cons_zero, List.set_cons_succ, i64_w, i32_w]
                rfl
              refine pure_ (i := 6) (N := some 76) (v := ?_) (a' := ?_) #[true, true, true, true, true, true, true, false, true, false, true, false, false, true, false, false, false, false, false] rfl rfl (by kernel_rfl) (fun _ _ _ h => h) (Or.inl ⟨by rfl, ?_⟩) ?_ ?_
              rotate_left
              · intro w'
                go_simp
                with_reducible rfl
              rotate_left
              · simp only [Act.put, List.setIfInBounds_toArray, List.set_cons_zero, List.set_cons_succ, i64_w, i32_w]
                rfl
              refine take_ (i := 7) (N := some 77) (v := ?_) (a' := ?_) #[true, true, true, true, true, true, true, true, true, false, true, false, false, true, false, false, false, false, false] rfl rfl (by kernel_rfl) (fun _ _ _ h => h) (Or.inl ⟨by rfl, ?_⟩) hHeld ?_ ?_
              rotate_left
              · rintro w' ⟨s0, s1, s2, s3, s4, s5⟩
                go_simp
                with_reducible rfl
              rotate_left
              · simp only [Act.put, List.setIfInBounds_toArray, List.set_cons_zero, List.set_cons_succ, i64_w, i32_w]
                rfl
              refine take_ (i := 9) (N := some 79) (v := ?_) (a' := ?_) #[true, true, true, true, true, true, true, true, true, true, true, false, false, true, false, false, false, false, false] rfl rfl (by kernel_rfl) (fun _ _ _ h => h) (Or.inl ⟨by rfl, ?_⟩) hHeld ?_ ?_
              rotate_left
              · rintro w' ⟨s0, s1, s2, s3, s4, s5⟩
                go_simp
                with_reducible rfl
              rotate_left
              · simp only [Act.put, List.setIfInBounds_toArray, List.set_cons_zero, List.set_cons_succ, i64_w, i32_w]
                rfl
              refine pure_ (i := 11) (N := some 81) (v := ?_) (a' := ?_) #[true, true, true, true, true, true, true, true, true, true, true, true, false, true, false, false, false, false, false] rfl rfl (by kernel_rfl) (fun _ _ _ h => h) (Or.inl ⟨by rfl, ?_⟩) ?_ ?_
              rotate_left
              · intro w'
                go_simp
                with_reducible rfl
              rotate_left
              · simp only [Act.put, List.setIfInBounds_toArray, List.set_cons_zero, List.set_cons_succ, i64_w, i32_w]
                rfl
              refine take_ (i := 12) (N := some 82) (v := ?_) (a' := ?_) #[true, true, true, true, true, true, true, true, true, true, true, true, true, true, false, false, false, false, false] rfl rfl (by kernel_rfl) (fun _ _ _ h => h) (Or.inl ⟨by rfl, ?_⟩) hHeld ?_ ?_
              rotate_left
              · rintro w' ⟨s0, s1, s2, s3, s4, s5⟩
                go_simp
                with_reducible rfl
              rotate_left
              · simp only [Act.put, List.setIfInBounds_toArray, List.set_cons_zero, List.set_cons_succ, i64_w, i32_w]
                rfl
              refine pure_ (i := 14) (N := some 84) (v := ?_) (a' := ?_) #[true, true, true, true, true, true, true, true, true, true, true, true, true, true, true, false, false, false, false] rfl rfl (by kernel_rfl) (fun _ _ _ h => h) (Or.inl ⟨by rfl, ?_⟩) ?_ ?_
              rotate_left
              · intro w'
                go_simp
                with_reducible rfl
              rotate_left
              · simp only [Act.put, List.setIfInBounds_toArray, List.set_cons_zero, List.set_cons_succ, i64_w, i32_w]
                rfl
              refine take_ (i := 15) (N := some 85) (v := ?_) (a' := ?_) #[true, true, true, true, true, true, true, true, true, true, true, true, true, true, true, true, false, false, false] rfl rfl (by kernel_rfl) (fun _ _ _ h => h) (Or.inl ⟨by rfl, ?_⟩) hHeld ?_ ?_
              rotate_left
              · rintro w' ⟨s0, s1, s2, s3, s4, s5⟩
                go_simp
                with_reducible rfl
              rotate_left
              · simp only [Act.put, List.setIfInBounds_toArray, List.set_cons_zero, List.set_cons_succ, i64_w, i32_w]
                rfl
              refine pure_ (i := 16) (N := some 86) (v := ?_) (a' := ?_) #[true, true, true, true, true, true, true, true, true, true, true, true, true, true, true, true, true, false, false] rfl rfl (by kernel_rfl) (fun _ _ _ h => h) (Or.inl ⟨by rfl, ?_⟩) ?_ ?_
              rotate_left
              · intro w'
                go_simp
                with_reducible rfl
              rotate_left
              · simp only [Act.put, List.setIfInBounds_toArray, List.set_cons_zero, List.set_cons_succ, i64_w, i32_w]
                rfl
              refine one_ (i := 17) (N := some 17) #[true, true, true, true, true, true, true, true, true, true, true, true, true, true, true, true, true, true, false] rfl rfl (by kernel_rfl) (by decide) (fun K hK => ?_)
              refine value_ (w1 := ?_) (v := ?_) (by rfl) rfl ?_ ?_
              rotate_left 2
              · go_simp
                constructor
                · rfl
                · rfl
              have m_ : Below Wd.heap.size Wd (Wd.alloc (.cells #[.int .i64 0, .int .i64 0] 82)) := below_alloc (Below.refl _ _) (.cells #[.int .i64 0, .int .i64 0] 82)
              have b_ := blk_new Wd (.cells #[.int .i64 0, .int .i64 0] 82)
              obtain ⟨gt, hz_⟩ : ∃ z_, z_ = Wd.heap.size := ⟨_, rfl⟩
              have g_ : Wd.heap.size ≤ gt := Nat.le_of_eq hz_.symm
              rw [← hz_] at b_ ⊢
              generalize Wd.alloc (.cells #[.int .i64 0, .int .i64 0] 82) = Wf at m_ b_ ⊢
              clear hz_
              have QQ := Aside0.mk m_
              have QB := Aside0.mk b_
              have QG := Aside0.mk g_
              have c0_ := (blk_cell b_ 0).trans rfl
              have c1_ := (blk_cell b_ 1).trans rfl
              have f0_ := blk_frozen b_ 0
              have f1_ := blk_frozen b_ 1
              clear m_ b_ g_
              refine hK.out _ _ ⟨(SIX.out _ (ID.out.below QQ.out)).1, (SIX.out _ (ID.out.below QQ.out)).2.1, (SIX.out _ (ID.out.below QQ.out)).2.2.1, (SIX.out _ (ID.out.below QQ.out)).2.2.2.1, (SIX.out _ (ID.out.below QQ.out)).2.2.2.2.1, (SIX.out _ (ID.out.below QQ.out)).2.2.2.2.2⟩ (fun hHeld => ?_)
              clear hK K
              refine norm_ (a' := ?_) ?_ ?_
              rotate_left
              · show Act.put _ (some 17) _ = _
                simp only [Act.put, List.setIfInBounds_toArray, List.set_cons_zero, List.set_cons_succ, i64_w, i32_w]
                rfl
              refine last_ (i := 18) (N := none) #[true, true, true, true, true, true, true, true, true, true, true, true, true, true, true, true, true, true, true] rfl rfl (by kernel_rfl) (by decide) (fun K hK => ?_)
              refine skip_ (w1 := ?_) (by rfl) rfl ?_ ?_
              rotate_left
              · go_simp
                rfl
              refine hK.out _ _ ?_
              clear hK K
              refine done_ (by kernel_rfl) ?_
              -- REGION 13 END
              obtain ⟨Wt, hWt⟩ : ∃ Wt, Wt = (Wf.setCell ⟨gt, 0, none⟩ (.int .i64 y.1)).setCell ⟨gt, 1, none⟩ (.int .i64 y.2) := ⟨_, rfl⟩
              rw [← hWt]
              have hbt : Below Wd.heap.size Wd Wt := by rw [hWt]; exact (QQ.out.setCell (p := ⟨gt, 0, none⟩) QG.out _).setCell (p := ⟨gt, 1, none⟩) QG.out _
              have TB : Aside0 (Wt.heap[gt]? = some (.cells #[.int .i64 y.1, .int .i64 y.2] 82 (0, 0))) := ⟨by rw [hWt]; exact blk_put (blk_put QB.out 0 _ rfl) 1 _ rfl⟩
              have IT := Aside0.mk (ID.out.below hbt)
              have LT := Aside0.mk (LD.out.below hbt)
              have OT := Aside0.mk (OD.out.below hbt)
              have NT := Aside0.mk (Kd.R_below ND.out hbt)
              clear c0_ c1_ f0_ f1_ hWt hbt QQ QB QG ID LD OD ND SIX i0
              go_wp2_with fail
              go_loopg [18] (l2.length + 1) (fun kq v18 W => ∃ j : Nat, v18 = .int .i64 j ∧ Aside0 (Drawn0 Wt W) ∧ j ≤ l2.length ∧ j + kq = l2.length + 1 ∧ Aside0 (∀ i, i < j → l2[i]? ≠ some y))
              case atStart => exact ⟨0, rfl, ⟨Drawn0.refl _⟩, by omega, by omega, ⟨fun i hi => by omega⟩⟩
              case round =>
                obtain ⟨j, rfl, DR, hjl, hjk, NO⟩ := hrel
                have t0 := (blk_cell (blk_below TB.out DR.out.below) 0).trans rfl
                have t1 := (blk_cell (blk_below TB.out DR.out.below) 1).trans rfl
                by_cases hj : j < l2.length
                · have hjb : decide ((j : Int) < (l2.length : Int)) = true := decide_eq_true (by omega)
                  have hj0 : (j : Int) < (l2.length : Int) := by omega
                  obtain ⟨z, hz⟩ : ∃ z, l2[j]? = some z := ⟨_, List.getElem?_eq_getElem hj⟩
                  obtain ⟨_, eg, z1, z2⟩ := (LT.out.below DR.out.below).cells j z hz
                  injection eg with eg
                  injection eg with eg
                  subst eg
                  have HZ := Aside0.mk hz
                  clear hz
                  by_cases hzy : z = y
                  · skip
                    have h1 : (z.1 == y.1) = true := beq_iff_eq.2 (by rw [hzy])
                    have h2 : (z.2 == y.2) = true := beq_iff_eq.2 (by rw [hzy])
                    have hid : idx l2 y = j := idx_of NO.out hjl (.inr (by rw [← hzy]; exact HZ.out))
                    have hpu : put l2 y = l2 := put_in (by omega)
                    have hln : ((j : Int) == (l2.length : Int)) = false := beq_eq_false_iff_ne.2 (by omega)
                    obtain ⟨kq', hkq', RE'⟩ := RE.out.step (by omega) (show ¬ most.toNat < (put l2 (stepP n1 n2 x ks.length)).length by rw [HY.out, hpu]; have := RE.out.2.1; omega)
                    subst hkq'
                    rw [HY.out] at RE'
                    have RES := Aside0.mk RE'
                    have BDS := Aside0.mk (BD.out.put HOY.out)
                    have HIDX := Aside0.mk hid
                    have HPUT := Aside0.mk hpu
                    clear hzy hid hpu RE'
                    go_wp2_with fail
                    go_quiet (fail)
                    go_upto_region 21 with (fail)
                    obtain ⟨Wq, hWq⟩ : ∃ Wq, Wq = wr.drewN nq := ⟨_, rfl⟩
                    rw [← hWq]
                    have hbq : Below Wt.heap.size Wt Wq := by rw [hWq]; exact pw_below_drewN DR.out.below nq
                    have IQ := Aside0.mk (IT.out.below hbq)
                    have LQ := Aside0.mk (LT.out.below hbq)
                    have OQ := Aside0.mk (OT.out.below hbq)
                    have NQ := Aside0.mk (Kd.R_below NT.out hbq)
                    clear hWq hbq t0 t1 z1 z2 DR

                    obtain ⟨inn, hown, fin⟩ := app_ints (j : Int) (Kd.R_below NQ.out (below_alloc (Below.refl _ _) (.cells #[.int .i64 j] 3)))
                    have hszI := IQ.out.bel.size
                    obtain ⟨i3, hi3, hz3, hs3, hb3⟩ := info_parts info3
                    go_wp2_with ((with_reducible refine gate_builtin (b := .append) (xs := #[.tmp 113, .tmp 115]) rfl ?_); at_builtin; go_must (refine wpList_append_lies _ rfl (.tmp 113) (.tmp 115) _ rfl w.heap.size 3 i3 _ 1 8 Try.underlying33 hi3 hz3 hs3 hb3 rfl (by omega) u15 ks.length inn rfl hown ⟨Wq.heap.size, 0, none⟩ 1 1 [.int .i64 j] rfl rfl (World.news_of_block (cs := #[.int .i64 j]) (t := 3) (fr := (0, 0)) (heap_alloc_new Wq _)) (by simp [Value.oneCell']) (by omega) (by unfold maxLen; omega) (by omega) (by simp; omega) (Wq.heap.size + 1) (by simp) ?_); intro gg cap9 Wn hown9 hgr9 hat9 hlt9)
                    have hba : Below Wq.heap.size Wq (Wq.alloc (.cells #[.int .i64 j] 3)) := below_alloc (Below.refl _ _) _
                    have hat9' : (.slice (some ⟨gg, 0, none⟩) (ks.length + 1) cap9 : Value).ownBlock = u15.ownBlock ∨ ∃ b, (.slice (some ⟨gg, 0, none⟩) (ks.length + 1) cap9 : Value).ownBlock = some b ∧ (Wq.alloc (.cells #[.int .i64 j] 3)).heap.size ≤ b := hat9.elim (fun h => .inl h.symm) (fun h => .inr ⟨gg, rfl, by simp; omega⟩)
                    have NZ := Aside0.mk (fin _ _ hown9 hgr9 hat9')
                    have OZ := Aside0.mk ((OQ.out.below hba).grownRow hown hgr9 hat9')
                    have blq := below_of_grown (IQ.out.below hba).bel hown hgr9
                    have IZ := Aside0.mk ((IQ.out.below hba).keeps (Keeps.of_grown hown hgr9) (by decide) (by decide) blq)
                    have LZ := Aside0.mk ((LQ.out.below hba).grown hown hgr9 (by decide))
                    clear fin hown hown9 hgr9 hat9 hat9' hlt9 hba blq hi3 hz3 hs3 hb3 hszI
                    go_roundg kq'
                    case measure => omega
                    case rel =>
                      have hjj : (j : Int) = (idx l2 y : Int) := by rw [HIDX.out]
                      exact ⟨put l2 y, ks ++ [(idx l2 y : Int)], some ⟨lg, 0, none⟩, mc, by simp [HPUT.out], by simp, IZ, ⟨by rw [HPUT.out]; simpa using LZ.out⟩, OZ, ⟨by rw [← hjj]; exact NZ.out⟩, RES, BDS⟩
                  · skip
                    obtain ⟨b1, b2, h1, h2, hb12⟩ : ∃ b1 b2, (z.1 == y.1) = b1 ∧ (z.2 == y.2) = b2 ∧ (b1 && b2) = false := by
                      refine ⟨_, _, rfl, rfl, ?_⟩
                      rw [Bool.eq_false_iff]
                      intro h
                      rw [Bool.and_eq_true] at h
                      exact hzy (Prod.ext (eq_of_beq h.1) (eq_of_beq h.2))
                    have HZY := Aside0.mk hzy
                    obtain ⟨kq', rfl⟩ : ∃ k, gk = k + 1 := ⟨gk - 1, by omega⟩
                    clear hzy
                    have step : ∀ i, i < j + 1 → l2[i]? ≠ some y := fun i hi => by
                      by_cases hij : i = j
                      · rw [hij, HZ.out]; intro e; injection e with e; exact HZY.out e
                      · exact NO.out i (by omega)
                    have STEP := Aside0.mk step
                    clear step
                    cases b1 with
                    | true =>
                      obtain rfl : b2 = false := by simpa using hb12
                      clear hb12
                      go_wp2_with fail
                      go_quiet (fail)
                      go_wp2_with fail
                      go_roundg kq'
                      case measure => omega
                      case rel => exact ⟨j + 1, by simp, ⟨DR.out.step nq⟩, by omega, by omega, STEP⟩
                    | false =>
                      clear hb12
                      cases b2 with
                      | true =>
                        go_wp2_with fail
                        go_quiet (fail)
                        go_wp2_with fail
                        go_roundg kq'
                        case measure => omega
                        case rel => exact ⟨j + 1, by simp, ⟨DR.out.step nq⟩, by omega, by omega, STEP⟩
                      | false =>
                        go_wp2_with fail
                        go_quiet (fail)
                        go_wp2_with fail
                        go_roundg kq'
                        case measure => omega
                        case rel => exact ⟨j + 1, by simp, ⟨DR.out.step nq⟩, by omega, by omega, STEP⟩
                · skip
                  have hje : j = l2.length := by omega
                  subst hje
                  have hjb : decide ((l2.length : Int) < (l2.length : Int)) = false := decide_eq_false (by omega)
                  have hln : ((l2.length : Int) == (l2.length : Int)) = true := beq_iff_eq.2 rfl
                  have hid : idx l2 y = l2.length := idx_of NO.out (Nat.le_refl _) (.inl (Nat.le_refl _))
                  have hpu : put l2 y = l2 ++ [y] := put_new hid
                  have HIDX := Aside0.mk hid
                  have HPUT := Aside0.mk hpu
                  clear hid hpu
                  by_cases hm : (l2.length : Int) = most
                  · have hmb : ((l2.length : Int) == most) = true := beq_iff_eq.2 hm
                    have hTn : T = none := RE.out.none_ (by omega) (by rw [HY.out, HPUT.out]; simp; omega)
                    have e : r1 = 0 ∧ r2 = [] ∧ r3 = [] ∧ r4 = 13 := by
                      have := HH.out
                      rw [hTn] at this
                      simp only [prodRes, Prod.mk.injEq] at this
                      exact ⟨this.1.symm, this.2.1.symm, this.2.2.1.symm, this.2.2.2.symm⟩
                    obtain ⟨rfl, rfl, rfl, rfl⟩ := e
                    have HM := Aside0.mk hm
                    clear hTn hm
                    go_wp2_with fail
                    go_quiet (fail)
                    have II3 := Aside0.mk (IT.out.below (pw_below_drewN DR.out.below nq))
                    obtain ⟨W3, hW3⟩ : ∃ W3, W3 = wr.drewN nq := ⟨_, rfl⟩
                    rw [← hW3] at II3 ⊢
                    clear hW3 t0 t1
                    have k6 := II3.out.o 0
                    have k7 := II3.out.o 1
                    have k8 := II3.out.o 2
                    have m6 := blk_frozen II3.out.ho 0
                    have m7 := blk_frozen II3.out.ho 1
                    have m8 := blk_frozen II3.out.ho 2
                    go_wp2_with fail
                    refine bodyPost_ret (results_ct rfl _ _ (w.heap.size + 1 + 1) 25 #[.int .i64 0, .slice none 0 0, .slice none 0 0] (0, 0) _ rfl (by refine blk_put (cs := #[.int .i64 0, .slice none 0 0, .slice none 0 0]) ?_ 2 _ rfl; refine blk_put (cs := #[.int .i64 0, .slice none 0 0, .slice none 0 0]) ?_ 1 _ rfl; refine blk_put (cs := #[.int .i64 0, .slice none 0 0, .slice none 0 0]) ?_ 0 _ rfl; exact II3.out.ho) Try.underlying25 rfl (by kernel_rfl)) rfl ?_
                    exact ⟨_, _, rfl, Kd.S_nil _ _ _ _ _, Kd.R_nil _ _ _ _ _, below_put3 II3.out.bel (by omega) _ _ _⟩
                  · have hmb : ((l2.length : Int) == most) = false := beq_eq_false_iff_ne.2 hm
                    obtain ⟨kq', hkq', RE'⟩ := RE.out.step (by omega) (show ¬ most.toNat < (put l2 (stepP n1 n2 x ks.length)).length by rw [HY.out, HPUT.out]; have := RE.out.2.1; simp; omega)
                    subst hkq'
                    rw [HY.out] at RE'
                    have RES := Aside0.mk RE'
                    have BDS := Aside0.mk (BD.out.put HOY.out)
                    clear RE' hm
                    go_wp2_with fail
                    go_quiet (fail)
                    obtain ⟨Wp, hWp⟩ : ∃ Wp, Wp = wr.drewN nq := ⟨_, rfl⟩
                    have hbq : Below Wt.heap.size Wt Wp := by rw [hWp]; exact pw_below_drewN DR.out.below nq
                    rw [← hWp]
                    have IP := Aside0.mk (IT.out.below hbq)
                    have LP := Aside0.mk (LT.out.below hbq)
                    have OP := Aside0.mk (OT.out.below hbq)
                    have NP := Aside0.mk (Kd.R_below NT.out hbq)
                    have TP := Aside0.mk (blk_below TB.out hbq)
                    have t0 := (blk_cell TP.out 0).trans rfl
                    have t1 := (blk_cell TP.out 1).trans rfl
                    clear hWp hbq DR
                    obtain ⟨i82, hi82, hz82, hs82, hb82⟩ := info_parts info82
                    have hszI := IP.out.bel.size
                    have hba : Below Wp.heap.size Wp (Wp.alloc (.cells #[.int .i64 y.1, .int .i64 y.2] 82)) := below_alloc (Below.refl _ _) _
                    have LA := Aside0.mk (LP.out.below hba)
                    have HBA := Aside0.mk hba
                    clear hba
                    go_upto_region 21 with ((with_reducible refine gate_builtin (b := .append) (xs := #[.tmp 109, .tmp 111]) rfl ?_); at_builtin; go_must (refine wpList_append_lies _ rfl (.tmp 109) (.tmp 111) _ rfl w.heap.size 82 i82 _ 2 16 Try.underlying78 hi82 hz82 hs82 hb82 rfl (by omega) (.slice (some ⟨lg, 0, none⟩) l2.length mc) l2.length (cells2 l2) rfl LA.out ⟨Wp.heap.size, 0, none⟩ 1 1 [.int .i64 y.1, .int .i64 y.2] rfl rfl (World.news_of_block (cs := #[.int .i64 y.1, .int .i64 y.2]) (t := 82) (fr := (0, 0)) (heap_alloc_new Wp _)) (by simp [Value.oneCell']) (by omega) (by unfold maxLen; omega) (by omega) (by simp; omega) (Wp.heap.size + 1) (by simp) ?_); intro gg8 cap8 Wq hown8 hgr8 hat8 hlt8)
                    have blq := below_of_grown (IP.out.below HBA.out).bel LA.out hgr8
                    have kp8 := Keeps.of_grown LA.out hgr8
                    have IQ := Aside0.mk ((IP.out.below HBA.out).keeps kp8 (by decide) (by decide) blq)
                    have LQ : Aside0 (LS w 82 (.slice (some ⟨gg8, 0, none⟩) (l2.length + 1) cap8) (l2 ++ [y]) Wq) := ⟨by
                      unfold LS
                      rw [cells2_snoc]
                      simpa using hown8⟩
                    have OQ := Aside0.mk ((OP.out.below HBA.out).grownOther LA.out hgr8 (by decide))
                    have NQ := Aside0.mk (R_keeps (Kd.R_below NP.out HBA.out) kp8 (by decide))
                    clear hown8 hgr8 hat8 hlt8 blq kp8 hi82 hz82 hs82 hb82 LA HBA IP LP OP NP TP t0 t1 hszI
                    obtain ⟨inn, hown, fin⟩ := app_ints (l2.length : Int) (Kd.R_below NQ.out (below_alloc (Below.refl _ _) (.cells #[.int .i64 l2.length] 3)))
                    have hszI := IQ.out.bel.size
                    obtain ⟨i3, hi3, hz3, hs3, hb3⟩ := info_parts info3
                    go_wp2_with ((with_reducible refine gate_builtin (b := .append) (xs := #[.tmp 113, .tmp 115]) rfl ?_); at_builtin; go_must (refine wpList_append_lies _ rfl (.tmp 113) (.tmp 115) _ rfl w.heap.size 3 i3 _ 1 8 Try.underlying33 hi3 hz3 hs3 hb3 rfl (by omega) u15 ks.length inn rfl hown ⟨Wq.heap.size, 0, none⟩ 1 1 [.int .i64 l2.length] rfl rfl (World.news_of_block (cs := #[.int .i64 l2.length]) (t := 3) (fr := (0, 0)) (heap_alloc_new Wq _)) (by simp [Value.oneCell']) (by omega) (by unfold maxLen; omega) (by omega) (by simp; omega) (Wq.heap.size + 1) (by simp) ?_); intro gg cap9 Wn hown9 hgr9 hat9 hlt9)
                    have hba : Below Wq.heap.size Wq (Wq.alloc (.cells #[.int .i64 l2.length] 3)) := below_alloc (Below.refl _ _) _
                    have hat9' : (.slice (some ⟨gg, 0, none⟩) (ks.length + 1) cap9 : Value).ownBlock = u15.ownBlock ∨ ∃ b, (.slice (some ⟨gg, 0, none⟩) (ks.length + 1) cap9 : Value).ownBlock = some b ∧ (Wq.alloc (.cells #[.int .i64 l2.length] 3)).heap.size ≤ b := hat9.elim (fun h => .inl h.symm) (fun h => .inr ⟨gg, rfl, by simp; omega⟩)
                    have NZ := Aside0.mk (fin _ _ hown9 hgr9 hat9')
                    have OZ := Aside0.mk ((OQ.out.below hba).grownRow hown hgr9 hat9')
                    have blq := below_of_grown (IQ.out.below hba).bel hown hgr9
                    have IZ := Aside0.mk ((IQ.out.below hba).keeps (Keeps.of_grown hown hgr9) (by decide) (by decide) blq)
                    have LZ := Aside0.mk ((LQ.out.below hba).grown hown hgr9 (by decide))
                    clear fin hown hown9 hgr9 hat9 hat9' hlt9 hba blq hi3 hz3 hs3 hb3 hszI
                    go_roundg kq'
                    case measure => omega
                    case rel =>
                      have hjj : (l2.length : Int) = (idx l2 y : Int) := by rw [HIDX.out]
                      exact ⟨put l2 y, ks ++ [(idx l2 y : Int)], some ⟨gg8, 0, none⟩, cap8, by simp [HPUT.out], by simp, IZ, ⟨by rw [HPUT.out]; simpa using LZ.out⟩, OZ, ⟨by rw [← hjj]; exact NZ.out⟩, RES, BDS⟩
            · have hsb : decide ((ks.length : Int) < s1) = false := decide_eq_false hs
              obtain rfl : gk = 0 := by have := RE.out.1; omega
              have TE := Aside0.mk (RE.out.done (by omega))
              have PFX := Aside0.mk RE.out.2.2.1
              obtain ⟨b1, b2, b3, b4⟩ := HXB.out
              have hq1 := R1.out.2.2.2.2.1
              have hq2 := R2.out.2.2.2.2.1
              have b5 : x.1 < (e1.length : Int) := by omega
              have b6 : x.2 < (e2.length : Int) := by omega
              obtain ⟨bd1, q1, rfl, z1, z2⟩ := cell_end (Kd.C_below HB1.out II.out.bel) x.1 b1 b5
              obtain ⟨bd2, q2, rfl, z3, z4⟩ := cell_end (Kd.C_below HB2.out II.out.bel) x.2 b3 b6
              obtain ⟨ng, nc, hnv, _, hngl, _⟩ := Kd.R_form NX.out (by have := RE.out.1; omega)
              subst hnv
              have NXe := NX.out
              obtain ⟨ens, hens⟩ : ∃ ens, ens = (l.take rows.length).map (fun x => rule (e1.getD x.1.toNat false) (e2.getD x.2.toNat false)) := ⟨_, rfl⟩
              have OOe := OO.out
              rw [← hens] at OOe
              obtain ⟨⟨nv, ev, hG, hS, hE⟩, hge⟩ := OOe
              have hS' := Kd.S_mono hS (ok' := fun k => k ≠ ng) (fun k hk e => hk (by rw [e]; rfl))
              have hdb : Below wr.heap.size wr wr.drew := below_drew (Below.refl _ _)
              have ID := Aside0.mk (II.out.below hdb)
              have GD := Aside0.mk (blk_below hG hdb)
              have PD := Aside0.mk (LL.out.below hdb)
              have SD := Aside0.mk (Kd.S_below hS' hdb)
              have ED := Aside0.mk (Kd.R_below hE hdb)
              have ND := Aside0.mk (Kd.R_below NXe hdb)
              have SIX : Aside0 (∀ W : World, Init3 w #[.int .i64 s1, .slice A1 n1.length c1, .slice (some bd1) e1.length d1] #[.int .i64 s1, .slice A2 n2.length c2, .slice (some bd2) e2.length d2] #[.int .i64 0, .slice none 0 0, .slice none 0 0] W → W.heap[gd]? = some (.cells #[.int .i64 s1, nv, ev] 25 (0, 0)) →
                W.cell? ⟨gd, 1, none⟩ = some nv ∧ W.cell? ⟨gd, 2, none⟩ = some ev ∧ W.cell? ⟨w.heap.size, 2, none⟩ = some (.slice (some bd1) e1.length d1) ∧ W.cell? ⟨w.heap.size + 1, 2, none⟩ = some (.slice (some bd2) e2.length d2) ∧ W.cell? (bd1.add x.1.toNat) = some (.bool q1) ∧ W.cell? (bd2.add x.2.toNat) = some (.bool q2)) := ⟨fun W I G => by
                refine ⟨(blk_cell G 1).trans rfl, (blk_cell G 2).trans rfl, (I.a 2).trans rfl, (I.b 2).trans rfl, ?_, ?_⟩
                · obtain ⟨ad, v, ee, h2, h3⟩ := cell_end (Kd.C_below HB1.out I.bel) x.1 b1 b5
                  injection ee with ee; subst ee; rw [z2, ← h3]; exact h2
                · obtain ⟨ad, v, ee, h2, h3⟩ := cell_end (Kd.C_below HB2.out I.bel) x.2 b3 b6
                  injection ee with ee; subst ee; rw [z4, ← h3]; exact h2⟩
              have ELEN : Aside0 (ens.length ≤ 3000) := ⟨by rw [hens, List.length_map, List.length_take]; omega⟩
              have Z2 := Aside0.mk z2
              have Z4 := Aside0.mk z4
              skip
              have HENS := Aside0.mk hens
              obtain ⟨i33, hi33, hz33, hs33, hb33⟩ := info_parts info33
              obtain ⟨i4, hi4, hz4, hs4, hb4⟩ := info_parts info4
              clear z1 z2 z3 z4 hens NXe hG hS hS' hE hdb hq1 hq2 RE NX OO LL II hngl
              go_upto_region 22 with (fail)
              -- REGION 22 BEGIN
              refine start_ (n := 25) (S := fun w' => w'.cell? ⟨gd, 1, none⟩ = some nv ∧ w'.cell? ⟨gd, 2, none⟩ = some ev ∧ w'.cell? ⟨w.heap.size, 2, none⟩ = some (.slice (some bd1) e1.length d1) ∧ w'.cell? ⟨w.heap.size + 1, 2, none⟩ = some (.slice (some bd2) e2.length d2) ∧ w'.cell? (bd1.add x.1.toNat) = some (.bool q1) ∧ w'.cell? (bd2.add x.2.toNat) = some (.bool q2)) (ds := [22, 24]) #[false, false, false, false, false, false, false, false, false, false, false, false, false, false, false, false, false, false, false, false, false, false, false, false, false] (by kernel_rfl) rfl rfl ⟨(SIX.out _ ID.out GD.out).1, (SIX.out _ ID.out GD.out).2.1, (SIX.out _ ID.out GD.out).2.2.1, (SIX.out _ ID.out GD.out).2.2.2.1, (SIX.out _ ID.out GD.out).2.2.2.2.1, (SIX.out _ ID.out GD.out).2.2.2.2.2⟩ (fun hHeld => ?_)
              generalize wr.drew = Wd at ID GD PD SD ED ND hHeld ⊢
              refine pure_ (i := 0) (N := some 117) (v := ?_) (a' := ?_) #[true, false, false, false, false, false, false, false, false, false, false, false, false, false, false, false, false, false, false, false, false, false, false, false, false] rfl rfl (by kernel_rfl) (fun _ _ _ h => h) (Or.inl ⟨by rfl, ?_⟩) ?_ ?_
              rotate_left
              · intro w'
                go_simp
                with_reducible rfl
              rotate_left
              · simp only [Act.put, List.setIfInBounds_toArray, List.set_cons_zero, List.set_cons_succ, i64_w, i32_w]
                rfl
              refine pure_ (i := 2) (N := some 119) (v := ?_) (a' := ?_) #[true, false, true, false, false, false, false, false, false, false, false, false, false, false, false, false, false, false, false, false, false, false, false, false, false] rfl rfl (by kernel_rfl) (fun _ _ _ h => h) (Or.inl ⟨by rfl, ?_⟩) ?_ ?_
              rotate_left
              · intro w'
                go_simp
                with_reducible rfl
              rotate_left
              · simp only [Act.put, List.setIfInBounds_toArray, List.set_cons_zero, List.set_cons_succ, i64_w, i32_w]
                rfl
              refine pure_ (i := 5) (N := some 122) (v := ?_) (a' := ?_) #[true, false, true, false, false, true, false, false, false, false, false, false, false, false, false, false, false, false, false, false, false, false, false, false, false] rfl rfl (by kernel_rfl) (fun _ _ _ h => h) (Or.inl ⟨by rfl, ?_⟩) ?_ ?_
              rotate_left
              · intro w'
                go_simp
                with_reducible rfl
              rotate_left
              · simp only [Act.put, List.setIfInBounds_toArray, List.set_cons_zero, List.set_cons_succ, i64_w, i32_w]
                rfl
              refine pure_ (i := 7) (N := some 124) (v := ?_) (a' := ?_) #[true, false, true, false, false, true, false, true, false, false, false, false, false, false, false, false, false, false, false, false, false, false, false, false, false] rfl rfl (by kernel_rfl) (fun _ _ _ h => h) (Or.inl ⟨by rfl, ?_⟩) ?_ ?_
              rotate_left
              · intro w'
                go_simp
                with_reducible rfl
              rotate_left
              · simp only [Act.put, List.setIfInBounds_toArray, List.set_cons_zero, List.set_cons_succ, i64_w, i32_w]
                rfl
              refine pure_ (i := 9) (N := some 126) (v := ?_) (a' := ?_) #[true, false, true, false, false, true, false, true, false, true, false, false, false, false, false, false, false, false, false, false, false, false, false, false, false] rfl rfl (by kernel_rfl) (fun _ _ _ h => h) (Or.inl ⟨by rfl, ?_⟩) ?_ ?_
              rotate_left
              · intro w'
                go_simp
                with_reducible rfl
              rotate_left
              · simp only [Act.put, List.setIfInBounds_toArray, List.set_cons_zero, List.set_cons_succ, i64_w, i32_w]
                rfl
              refine pure_ (i := 12) (N := some 129) (v := ?_) (a' := ?_) #[true, false, true, false, false, true, false, true, false, true, false, false, true, false, false, false, false, false, false, false, false, false, false, false, false] rfl rfl (by kernel_rfl) (fun _ _ _ h => h) (Or.inl ⟨by rfl, ?_⟩) ?_ ?_
              rotate_left
              · intro w'
                go_simp
                with_reducible rfl
              rotate_left
              · simp only [Act.put, List.setIfInBounds_toArray, List.set_cons_zero, List.set_cons_succ, i64_w, i32_w]
                rfl
              refine pure_ (i := 14) (N := some 131) (v := ?_) (a' := ?_) #[true, false, true, false, false, true, false, true, false, true, false, false, true, false, true, false, false, false, false, false, false, false, false, false, false] rfl rfl (by kernel_rfl) (fun _ _ _ h => h) (Or.inl ⟨by rfl, ?_⟩) ?_ ?_
              rotate_left
              · intro w'
                go_simp
                with_reducible rfl
              rotate_left
              · simp only [Act.put, List.setIfInBounds_toArray, List.set_cons_zero, List.set_cons_succ, i64_w, i32_w]
                rfl
              refine pure_ (i := 17) (N := some 134) (v := ?_) (a' := ?_) #[true, false, true, false, false, true, false, true, false, true, false, false, true, false, true, false, false, true, false, false, false, false, false, false, false] rfl rfl (by kernel_rfl) (fun _ _ _ h => h) (Or.inl ⟨by rfl, ?_⟩) ?_ ?_
              rotate_left
              · intro w'
                go_simp
                with_reducible rfl
              rotate_left
              · simp only [Act.put, List.setIfInBounds_toArray, List.set_cons_zero, List.set_cons_succ, i64_w, i32_w]
                rfl
              refine take_ (i := 1) (N := some 118) (v := ?_) (a' := ?_) #[true, true, true, false, false, true, false, true, false, true, false, false, true, false, true, false, false, true, false, false, false, false, false, false, false] rfl rfl (by kernel_rfl) (fun _ _ _ h => h) (Or.inl ⟨by rfl, ?_⟩) hHeld ?_ ?_
              rotate_left
              · rintro w' ⟨s0, s1, s2, s3, s4, s5⟩
                go_simp
                with_reducible rfl
              rotate_left
              · simp only [Act.put, List.setIfInBounds_toArray, List.set_cons_zero, List.set_cons_succ, i64_w, i32_w]
                rfl
              refine take_ (i := 6) (N := some 123) (v := ?_) (a' := ?_) #[true, true, true, false, false, true, true, true, false, true, false, false, true, false, true, false, false, true, false, false, false, false, false, false, false] rfl rfl (by kernel_rfl) (fun _ _ _ h => h) (Or.inl ⟨by rfl, ?_⟩) hHeld ?_ ?_
              rotate_left
              · rintro w' ⟨s0, s1, s2, s3, s4, s5⟩
                go_simp
                with_reducible rfl
              rotate_left
              · simp only [Act.put, List.setIfInBounds_toArray, List.set_cons_zero, List.set_cons_succ, i64_w, i32_w]
                rfl
              refine take_ (i := 8) (N := some 125) (v := ?_) (a' := ?_) #[true, true, true, false, false, true, true, true, true, true, false, false, true, false, true, false, false, true, false, false, false, false, false, false, false] rfl rfl (by kernel_rfl) (fun _ _ _ h => h) (Or.inl ⟨by rfl, ?_⟩) hHeld ?_ ?_
              rotate_left
              · rintro w' ⟨s0, s1, s2, s3, s4, s5⟩
                go_simp
                with_reducible rfl
              rotate_left
              · simp only [Act.put, List.setIfInBounds_toArray, List.set_cons_zero, List.set_cons_succ, i64_w, i32_w]
                rfl
              refine pure_ (i := 10) (N := some 127) (v := ?_) (a' := ?_) #[true, true, true, false, false, true, true, true, true, true, true, false, true, false, true, false, false, true, false, false, false, false, false, false, false] rfl rfl (by kernel_rfl) (fun _ _ _ h => h) (Or.inl ⟨by rfl, ?_⟩) ?_ ?_
              rotate_left
              · intro w'
                go_simp
                with_reducible rfl
              rotate_left
              · simp only [Act.put, List.setIfInBounds_toArray, List.set_cons_zero, List.set_cons_succ, i64_w, i32_w]
                rfl
              refine take_ (i := 11) (N := some 128) (v := ?_) (a' := ?_) #[true, true, true, false, false, true, true, true, true, true, true, true, true, false, true, false, false, true, false, false, false, false, false, false, false] rfl rfl (by kernel_rfl) (fun _ _ _ h => h) (Or.inl ⟨by rfl, ?_⟩) hHeld ?_ ?_
              rotate_left
              · rintro w' ⟨s0, s1, s2, s3, s4, s5⟩
                go_simp
                with_reducible rfl
              rotate_left
              · simp only [Act.put, List.setIfInBounds_toArray, List.set_cons_zero, List.set_cons_succ, i64_w, i32_w]
                rfl
              refine take_ (i := 13) (N := some 130) (v := ?_) (a' := ?_) #[true, true, true, false, false, true, true, true, true, true, true, true, true, true, true, false, false, true, false, false, false, false, false, false, false] rfl rfl (by kernel_rfl) (fun _ _ _ h => h) (Or.inl ⟨by rfl, ?_⟩) hHeld ?_ ?_
              rotate_left
              · rintro w' ⟨s0, s1, s2, s3, s4, s5⟩
                go_simp
                with_reducible rfl
              rotate_left
              · simp only [Act.put, List.setIfInBounds_toArray, List.set_cons_zero, List.set_cons_succ, i64_w, i32_w]
                rfl
              refine pure_ (i := 15) (N := some 132) (v := ?_) (a' := ?_) #[true, true, true, false, false, true, true, true, true, true, true, true, true, true, true, true, false, true, false, false, false, false, false, false, false] rfl rfl (by kernel_rfl) (fun _ _ _ h => h) (Or.inl ⟨by rfl, ?_⟩) ?_ ?_
              rotate_left
              · intro w'
                go_simp
                with_reducible rfl
              rotate_left
              · simp only [Act.put, List.setIfInBounds_toArray, List.set_cons_zero, List.set_cons_succ, i64_w, i32_w]
                rfl
              refine take_ (i := 16) (N := some 133) (v := ?_) (a' := ?_) #[true, true, true, false, false, true, true, true, true, true, true, true, true, true, true, true, true, true, false, false, false, false, false, false, false] rfl rfl (by kernel_rfl) (fun _ _ _ h => h) (Or.inl ⟨by rfl, ?_⟩) hHeld ?_ ?_
              rotate_left
              · rintro w' ⟨s0, s1, s2, s3, s4, s5⟩
                go_simp
                with_reducible rfl
              rotate_left
              · simp only [Act.put, List.setIfInBounds_toArray, List.set_cons_zero, List.set_cons_succ, i64_w, i32_w]
                rfl
              refine one_ (i := 3) (N := some 120) #[true, true, true, true, false, true, true, true, true, true, true, true, true, true, true, true, true, true, false, false, false, false, false, false, false] rfl rfl (by kernel_rfl) (by decide) (fun K hK => ?_)
              refine value_ (w1 := ?_) (v := ?_) (by rfl) rfl ?_ ?_
              rotate_left 2
              · go_simp
                constructor
                · rfl
                · rfl
              have b3 : (Wd.alloc (.cells #[.slice (some ⟨ng, 0, none⟩) ks.length nc] 33)).heap[Wd.heap.size]? = some (.cells #[.slice (some ⟨ng, 0, none⟩) ks.length nc] 33 (0, 0)) := blk_new _ _
              have hab : Below Wd.heap.size Wd (Wd.alloc (.cells #[.slice (some ⟨ng, 0, none⟩) ks.length nc] 33)) := below_alloc (Below.refl _ _) _
              have hsa : (Wd.alloc (.cells #[.slice (some ⟨ng, 0, none⟩) ks.length nc] 33)).heap.size = Wd.heap.size + 1 := by simp
              generalize Wd.alloc (.cells #[.slice (some ⟨ng, 0, none⟩) ks.length nc] 33) = Wa at b3 hab hsa ⊢
              have B3 := Aside0.mk b3
              have I3 := Aside0.mk (ID.out.below hab)
              have G3 := Aside0.mk (blk_below GD.out hab)
              have P3 := Aside0.mk (LS.below PD.out hab)
              have S3 := Aside0.mk (Kd.S_below SD.out hab)
              have E3 := Aside0.mk (Kd.R_below ED.out hab)
              have N3 := Aside0.mk (Kd.R_below ND.out hab)
              clear b3 hab
              refine hK.out _ _ ⟨(SIX.out _ I3.out G3.out).1, (SIX.out _ I3.out G3.out).2.1, (SIX.out _ I3.out G3.out).2.2.1, (SIX.out _ I3.out G3.out).2.2.2.1, (SIX.out _ I3.out G3.out).2.2.2.2.1, (SIX.out _ I3.out G3.out).2.2.2.2.2⟩ (fun hHeld => ?_)
              clear hK K
              refine norm_ (a' := ?_) ?_ ?_
              rotate_left
              · show Act.put _ (some 120) _ = _
                simp only [Act.put, List.setIfInBounds_toArray, List.set_cons_zero, List.set_cons_succ, i64_w, i32_w]
                rfl
              refine one_ (i := 4) (N := some 121) #[true, true, true, true, true, true, true, true, true, true, true, true, true, true, true, true, true, true, false, false, false, false, false, false, false] rfl rfl (by kernel_rfl) (by decide) (fun K hK => ?_)
              obtain ⟨inn, hown, fin⟩ := app_rows S3.out N3.out
              have hszI := I3.out.bel.size
              refine step_append_lies _ rfl (.tmp 118) (.tmp 120) _ rfl w.heap.size 33 i33 _ 1 24 Try.underlying22 hi33 hz33 hs33 hb33 rfl (by omega) nv rows.length inn rfl hown ⟨Wd.heap.size, 0, none⟩ 1 1 [.slice (some ⟨ng, 0, none⟩) ks.length nc] rfl rfl (World.news_of_block B3.out) (by simp [Value.oneCell']) (by omega) (by unfold maxLen; omega) (by omega) hszI Wa.heap.size rfl ?_
              intro gg cap4 Wb hown4 hgr4 hat4 hlt4
              have kp4 := Keeps.of_grown hown hgr4
              have bl4 := below_of_grown I3.out.bel hown hgr4
              have S4 := Aside0.mk (fin _ _ hown4 hgr4 (hat4.elim (fun h => .inl h.symm) (fun h => .inr ⟨_, rfl, Nat.le_of_eq h.symm⟩)))
              have I4 := Aside0.mk (I3.out.keeps kp4 (by decide) (by decide) bl4)
              have G4 := Aside0.mk (kp4.block _ _ _ (by decide) (by decide) G3.out)
              have P4 := Aside0.mk (LS.grown P3.out hown hgr4 (by decide))
              have E4 := Aside0.mk (R_keeps E3.out kp4 (by decide))
              clear fin hown hown4 hgr4 hat4 hlt4 kp4 bl4 hszI
              refine hK.out _ _ ⟨(SIX.out _ I4.out G4.out).1, (SIX.out _ I4.out G4.out).2.1, (SIX.out _ I4.out G4.out).2.2.1, (SIX.out _ I4.out G4.out).2.2.2.1, (SIX.out _ I4.out G4.out).2.2.2.2.1, (SIX.out _ I4.out G4.out).2.2.2.2.2⟩ (fun hHeld => ?_)
              clear hK K
              refine norm_ (a' := ?_) ?_ ?_
              rotate_left
              · show Act.put _ (some 121) _ = _
                simp only [Act.put, List.setIfInBounds_toArray, List.set_cons_zero, List.set_cons_succ, i64_w, i32_w]
                rfl
              refine pure_ (i := 21) (N := some 138) (v := ?_) (a' := ?_) #[true, true, true, true, true, true, true, true, true, true, true, true, true, true, true, true, true, true, false, false, false, true, false, false, false] rfl rfl (by kernel_rfl) (fun _ _ _ h => h) (Or.inl ⟨by rfl, ?_⟩) ?_ ?_
              rotate_left
              · intro w'
                go_simp
                with_reducible rfl
              rotate_left
              · simp only [Act.put, List.setIfInBounds_toArray, List.set_cons_zero, List.set_cons_succ, i64_w, i32_w]
                rfl
              refine one_ (i := 18) (N := some 135) #[true, true, true, true, true, true, true, true, true, true, true, true, true, true, true, true, true, true, true, false, false, true, false, false, false] rfl rfl (by kernel_rfl) (by decide) (fun K hK => ?_)
              refine goes_ Try.func66 (by kernel_rfl) rfl #[.bool q1, .bool q2, .int .i64 kd] (by rfl) rfl rfl (by simp only [List.map_toArray, List.map_cons, List.map_nil]; rfl) ?_
              with_reducible refine ((HRULE.out q1 q2 Wb)).mono ?_
              rintro e Wc ⟨rfl, hdr⟩
              refine ⟨_, rfl, ?_⟩
              have hbl := hdr.below
              have S5 := Aside0.mk (Kd.S_below S4.out hbl)
              have I5 := Aside0.mk (I4.out.below hbl)
              have G5 := Aside0.mk (blk_below G4.out hbl)
              have P5 := Aside0.mk (LS.below P4.out hbl)
              have E5 := Aside0.mk (Kd.R_below E4.out hbl)
              clear hdr hbl
              refine hK.out _ _ ⟨(SIX.out _ I5.out G5.out).1, (SIX.out _ I5.out G5.out).2.1, (SIX.out _ I5.out G5.out).2.2.1, (SIX.out _ I5.out G5.out).2.2.2.1, (SIX.out _ I5.out G5.out).2.2.2.2.1, (SIX.out _ I5.out G5.out).2.2.2.2.2⟩ (fun hHeld => ?_)
              clear hK K
              refine norm_ (a' := ?_) ?_ ?_
              rotate_left
              · show Act.put _ (some 135) _ = _
                simp only [Act.put, List.setIfInBounds_toArray, List.set_cons_zero, List.set_cons_succ, i64_w, i32_w]
                rfl
              refine one_ (i := 19) (N := some 136) #[true, true, true, true, true, true, true, true, true, true, true, true, true, true, true, true, true, true, true, true, false, true, false, false, false] rfl rfl (by kernel_rfl) (by decide) (fun K hK => ?_)
              refine value_ (w1 := ?_) (v := ?_) (by rfl) rfl ?_ ?_
              rotate_left 2
              · go_simp
                constructor
                · rfl
                · rfl
              have b6 : (Wc.alloc (.cells #[.bool (rule q1 q2)] 4)).heap[Wc.heap.size]? = some (.cells #[.bool (rule q1 q2)] 4 (0, 0)) := blk_new _ _
              have hab : Below Wc.heap.size Wc (Wc.alloc (.cells #[.bool (rule q1 q2)] 4)) := below_alloc (Below.refl _ _) _
              have hsa : (Wc.alloc (.cells #[.bool (rule q1 q2)] 4)).heap.size = Wc.heap.size + 1 := by simp
              generalize Wc.alloc (.cells #[.bool (rule q1 q2)] 4) = Wf at b6 hab hsa ⊢
              have B6 := Aside0.mk b6
              have I6 := Aside0.mk (I5.out.below hab)
              have G6 := Aside0.mk (blk_below G5.out hab)
              have P6 := Aside0.mk (LS.below P5.out hab)
              have S6 := Aside0.mk (Kd.S_below S5.out hab)
              have E6 := Aside0.mk (Kd.R_below E5.out hab)
              clear b6 hab
              refine hK.out _ _ ⟨(SIX.out _ I6.out G6.out).1, (SIX.out _ I6.out G6.out).2.1, (SIX.out _ I6.out G6.out).2.2.1, (SIX.out _ I6.out G6.out).2.2.2.1, (SIX.out _ I6.out G6.out).2.2.2.2.1, (SIX.out _ I6.out G6.out).2.2.2.2.2⟩ (fun hHeld => ?_)
              clear hK K
              refine norm_ (a' := ?_) ?_ ?_
              rotate_left
              · show Act.put _ (some 136) _ = _
                simp only [Act.put, List.setIfInBounds_toArray, List.set_cons_zero, List.set_cons_succ, i64_w, i32_w]
                rfl
              refine one_ (i := 20) (N := some 137) #[true, true, true, true, true, true, true, true, true, true, true, true, true, true, true, true, true, true, true, true, true, true, false, false, false] rfl rfl (by kernel_rfl) (by decide) (fun K hK => ?_)
              obtain ⟨inn, hown, fin⟩ := app_ends (rule q1 q2) E6.out
              have hszI := I6.out.bel.size
              have hel := ELEN.out
              refine step_append_lies _ rfl (.tmp 123) (.tmp 136) _ rfl w.heap.size 4 i4 _ 1 1 Try.underlying23 hi4 hz4 hs4 hb4 rfl (by omega) ev _ inn rfl hown ⟨Wc.heap.size, 0, none⟩ 1 1 [.bool (rule q1 q2)] rfl rfl (World.news_of_block B6.out) (by simp [Value.oneCell']) (by omega) (by unfold maxLen; omega) (by omega) hszI Wf.heap.size rfl ?_
              intro gg2 cap7 Wg hown4 hgr4 hat4 hlt4
              have kp4 := Keeps.of_grown hown hgr4
              have bl4 := below_of_grown I6.out.bel hown hgr4
              have E7 := Aside0.mk (fin _ _ hown4 hgr4 (hat4.elim (fun h => .inl h.symm) (fun h => .inr ⟨_, rfl, Nat.le_of_eq h.symm⟩)))
              have I7 := Aside0.mk (I6.out.keeps kp4 (by decide) (by decide) bl4)
              have G7 := Aside0.mk (kp4.block _ _ _ (by decide) (by decide) G6.out)
              have P7 := Aside0.mk (LS.grown P6.out hown hgr4 (by decide))
              have S7 := Aside0.mk (S_keeps S6.out kp4 (by decide))
              have f1 := blk_frozen G7.out 1
              have f2 := blk_frozen G7.out 2
              have c1_ := blk_cell G7.out 1
              have c2_ := blk_cell G7.out 2
              clear fin hown hown4 hgr4 hat4 hlt4 kp4 bl4 hszI hel
              refine hK.out _ _ ⟨(SIX.out _ I7.out G7.out).1, (SIX.out _ I7.out G7.out).2.1, (SIX.out _ I7.out G7.out).2.2.1, (SIX.out _ I7.out G7.out).2.2.2.1, (SIX.out _ I7.out G7.out).2.2.2.2.1, (SIX.out _ I7.out G7.out).2.2.2.2.2⟩ (fun hHeld => ?_)
              clear hK K
              refine norm_ (a' := ?_) ?_ ?_
              rotate_left
              · show Act.put _ (some 137) _ = _
                simp only [Act.put, List.setIfInBounds_toArray, List.set_cons_zero, List.set_cons_succ, i64_w, i32_w]
                rfl
              refine last_ (i := 22) (N := none) #[true, true, true, true, true, true, true, true, true, true, true, true, true, true, true, true, true, true, true, true, true, true, true, false, false] rfl rfl (by kernel_rfl) (by decide) (fun K hK => ?_)
              refine skip_ (w1 := ?_) (by rfl) rfl ?_ ?_
              rotate_left
              · go_simp
                rfl
              refine hK.out _ _ ?_
              clear hK K
              refine pure_ (i := 23) (N := some 139) (v := ?_) (a' := ?_) #[true, true, true, true, true, true, true, true, true, true, true, true, true, true, true, true, true, true, true, true, true, true, true, true, false] rfl rfl (by kernel_rfl) (fun _ _ _ h => h) (Or.inl ⟨by rfl, ?_⟩) ?_ ?_
              rotate_left
              · intro w'
                go_simp
                with_reducible rfl
              rotate_left
              · simp only [Act.put, List.setIfInBounds_toArray, List.set_cons_zero, List.set_cons_succ, i64_w, i32_w]
                rfl
              refine last_ (i := 24) (N := none) #[true, true, true, true, true, true, true, true, true, true, true, true, true, true, true, true, true, true, true, true, true, true, true, true, true] rfl rfl (by kernel_rfl) (by decide) (fun K hK => ?_)
              refine skip_ (w1 := ?_) (by rfl) rfl ?_ ?_
              rotate_left
              · go_simp
                rfl
              refine hK.out _ _ ?_
              clear hK K
              refine done_ (by kernel_rfl) ?_
              -- REGION 22 END
              obtain ⟨Wz, hWz⟩ : ∃ Wz, Wz = (Wg.setCell ⟨gd, 1, none⟩ (.slice (some ⟨gg, 0, none⟩) (rows.length + 1) cap4)).setCell ⟨gd, 2, none⟩ (.slice (some ⟨gg2, 0, none⟩) (ens.length + 1) cap7) := ⟨_, rfl⟩
              rw [← hWz]
              have IZ := (I7.out.far hge 1 (.slice (some ⟨gg, 0, none⟩) (rows.length + 1) cap4)).far hge 2 (.slice (some ⟨gg2, 0, none⟩) (ens.length + 1) cap7)
              have OZ := PO.stored G7.out hge S7.out E7.out
              have hb1 := blk_put G7.out 1 (.slice (some ⟨gg, 0, none⟩) (rows.length + 1) cap4) rfl
              have PZ := LS.far (p := ⟨gd, 2, none⟩) (LS.far (p := ⟨gd, 1, none⟩) P7.out G7.out (by decide) (.slice (some ⟨gg, 0, none⟩) (rows.length + 1) cap4)) hb1 (by decide) (.slice (some ⟨gg2, 0, none⟩) (ens.length + 1) cap7)
              rw [← hWz] at IZ OZ PZ
              have hen := ends_snoc (fun x => rule (e1.getD x.1.toNat false) (e2.getD x.2.toNat false)) PFX.out HX.out
              rw [← HENS.out] at hen
              simp only [← Z2.out, ← Z4.out] at hen
              have IZ' := Aside0.mk IZ
              have PZ' := Aside0.mk PZ
              have OZ' := Aside0.mk OZ
              have HEN := Aside0.mk hen
              clear IZ OZ PZ hb1 hWz f1 f2 c1_ c2_ hi33 hz33 hs33 hb33 hi4 hz4 hs4 hb4 hen I7 G7 S7 E7 P7
              go_wp2_with fail
              go_roundg K
              case measure => omega
              case rel =>
                refine ⟨l2, rows ++ [ks], some ⟨lg, 0, none⟩, mc, rfl, by simp, IZ', PZ', ⟨?_⟩, TE, BD⟩
                have h1 := OZ'.out
                rw [HEN.out] at h1
                simpa using h1
        · skip
          have hltb : decide ((rows.length : Int) < (l.length : Int)) = false := decide_eq_false (by omega)
          obtain ⟨⟨nv, ev, hob, hn, he⟩, _⟩ := OO.out
          have o0 := blk_cell hob 0
          have o1 := blk_cell hob 1
          have o2 := blk_cell hob 2
          have hT := TE.out.done (by omega)
          have hrl : rows.length = l.length := Nat.le_antisymm TE.out.2.2.1 (by omega)
          rw [List.take_of_length_le (Nat.le_of_eq hrl.symm)] at he
          have e : r1 = s1 ∧ r2 = rows ∧ r3 = l.map (fun x => rule (e1.getD x.1.toNat false) (e2.getD x.2.toNat false)) ∧ r4 = 0 := by
            have := HH.out
            rw [hT] at this
            simp only [prodRes, Prod.mk.injEq] at this
            exact ⟨this.1.symm, this.2.1.symm, this.2.2.1.symm, this.2.2.2.symm⟩
          obtain ⟨rfl, rfl, hr3, rfl⟩ := e
          rw [← hr3] at he
          clear hr3 HH hT hrl
          have k6 := II.out.o 0
          have k7 := II.out.o 1
          have k8 := II.out.o 2
          have m6 := blk_frozen II.out.ho 0
          have m7 := blk_frozen II.out.ho 1
          have m8 := blk_frozen II.out.ho 2
          obtain ⟨Av, cv, rfl⟩ := Kd.S_slice hn
          obtain ⟨Ae, ce, rfl⟩ := Kd.R_slice he
          obtain ⟨kp3, hb3, bl3⟩ := keeps_put3 II.out.bel (show w.heap.size ≤ w.heap.size + 1 + 1 by omega) II.out.ho (.int .i64 r1) (.slice Av _ cv) (.slice Ae _ ce)
          have FIN := Aside0.mk (And.intro hb3 (And.intro (S_keeps (S_apart hn he) kp3 (by decide)) (R_keeps he kp3 (by decide))))
          have BEL := Aside0.mk bl3
          replace hb3 := Aside0.mk hb3
          replace kp3 := Aside0.mk kp3
          go_wp2_with fail
          refine bodyPost_ret (results_ct rfl _ _ (w.heap.size + 1 + 1) 25 #[.int .i64 r1, _, _] (0, 0) _ rfl FIN.out.1 Try.underlying25 rfl (by kernel_rfl)) rfl ?_
          exact ⟨_, _, rfl, FIN.out.2.1, FIN.out.2.2, BEL.out⟩

theorem rule66_0 (a b : Bool) (W : World) : Calls Try.prog 66 #[.bool a, .bool b, .int .i64 0] W fun e w' => e = .returned (.bool (a || b)) ∧ Drawn0 W w' := by
  cases a <;> cases b <;> (go_enter Try.func66, Try.ntmps66; go_wp2_with fail; go_ret; exact ⟨rfl, Drawn0.refl _⟩)
set_option maxHeartbeats 2000000 in
theorem ref30 (s1 : Int) (A1 : Option Addr) (c1 : Nat) (n1 : List (List Int)) (B1 : Option Addr) (d1 : Nat) (e1 : List Bool) (s2 : Int) (A2 : Option Addr) (c2 : Nat) (n2 : List (List Int)) (B2 : Option Addr) (d2 : Nat) (e2 : List Bool) (most : Int) (r1 : Int) (r2 : List (List Int)) (r3 : List Bool) (r4 : Int) (w : World)
    (hr1 : Kd.C (Kd.slice 3 (Kd.int .i64)) w A1 n1.length n1) (hc1 : n1.length ≤ c1) (hb1 : Kd.C Kd.bool w B1 e1.length e1) (hd1 : e1.length ≤ d1)
    (hr2 : Kd.C (Kd.slice 3 (Kd.int .i64)) w A2 n2.length n2) (hc2 : n2.length ≤ c2) (hb2 : Kd.C Kd.bool w B2 e2.length e2) (hd2 : e2.length ≤ d2)
    (h : prodF (fun a b => a || b) s1 n1 e1 s2 n2 e2 most = (r1, r2, r3, r4)) :
    Calls Try.prog 30 #[.agg #[.int .i64 s1, .slice A1 n1.length c1, .slice B1 e1.length d1], .agg #[.int .i64 s2, .slice A2 n2.length c2, .slice B2 e2.length d2], .int .i64 most] w
      fun e w' => ∃ v1_ v2_ : Value, e = .returned (.tuple #[.agg #[.int .i64 r1, v1_, v2_], .int .i64 r4]) ∧ Kd.S (Kd.slice 3 (Kd.int .i64)) 33 w' w.heap.size (fun k_ => some k_ ≠ (v2_ : Value).ownBlock) v1_ r2 ∧ Kd.R Kd.bool 4 w' w.heap.size (fun k_ => True) v2_ r3 ∧ Below w.heap.size w w' := by
  have hu25 := Try.underlying25
  have H := Aside0.mk h
  have HR1 := Aside0.mk hr1
  have HR2 := Aside0.mk hr2
  have HB1 := Aside0.mk hb1
  have HB2 := Aside0.mk hb2
  clear h hr1 hr2 hb1 hb2
  go_enter Try.func30, Try.ntmps30
  go_upto_region 1 with (fail)
  obtain ⟨W, hW, x1, x2, x3, hbl⟩ := three_boxes w #[.int .i64 s1, .slice A1 n1.length c1, .slice B1 e1.length d1] #[.int .i64 s2, .slice A2 n2.length c2, .slice B2 e2.length d2] #[.int .i64 0, .slice none 0 0, .slice none 0 0]
  rw [← hW]
  clear hW
  have X3 := Aside0.mk x3
  have BL := Aside0.mk hbl
  have HR1' := Aside0.mk (Kd.C_below HR1.out hbl)
  have HR2' := Aside0.mk (Kd.C_below HR2.out hbl)
  have HB1' := Aside0.mk (Kd.C_below HB1.out hbl)
  have HB2' := Aside0.mk (Kd.C_below HB2.out hbl)
  have k0 := (blk_cell x1 0).trans rfl
  have k1 := (blk_cell x1 1).trans rfl
  have k2 := (blk_cell x1 2).trans rfl
  have k3 := (blk_cell x2 0).trans rfl
  have k4 := (blk_cell x2 1).trans rfl
  have k5 := (blk_cell x2 2).trans rfl
  clear x1 x2 x3 hbl HR1 HR2 HB1 HB2
  go_wp2_with fail
  refine (ref_made (fun a b => a || b) 0 rule66_0 s1 A1 c1 n1 B1 d1 e1 s2 A2 c2 n2 B2 d2 e2 most W HR1'.out hc1 HB1'.out hd1 HR2'.out hc2 HB2'.out hd2 r1 r2 r3 r4 H.out).mono ?_
  rintro e W4 ⟨v1, v2, rfl, hs4, hr4, hb4⟩
  obtain ⟨D1, f1, rfl⟩ := Kd.S_slice hs4
  obtain ⟨D2, f2, rfl⟩ := Kd.R_slice hr4
  have B4 := Aside0.mk (blk_below X3.out hb4)
  have L4 := Aside0.mk (BL.out.trans (hb4.mono BL.out.size))
  have S4 := Aside0.mk (Kd.S_lower hs4 BL.out.size)
  have R4 := Aside0.mk (Kd.R_lower hr4 BL.out.size)
  clear hs4 hr4 hb4 k0 k1 k2 k3 k4 k5
  have k6 := blk_cell B4.out 0
  have k7 := blk_cell B4.out 1
  have k8 := blk_cell B4.out 2
  have m6 := blk_frozen B4.out 0
  have m7 := blk_frozen B4.out 1
  have m8 := blk_frozen B4.out 2
  obtain ⟨kp3, hb3, bl3⟩ := keeps_put3 L4.out (show w.heap.size ≤ w.heap.size + 1 + 1 by omega) B4.out (.int .i64 r1) (.slice D1 r2.length f1) (.slice D2 r3.length f2)
  have FIN := Aside0.mk (And.intro hb3 (And.intro (S_keeps S4.out kp3 (by decide)) (And.intro (R_keeps R4.out kp3 (by decide)) bl3)))
  clear kp3 hb3 bl3
  go_wp2_with fail
  refine bodyPost_ret (results_ct rfl _ _ (w.heap.size + 1 + 1) 25 #[.int .i64 r1, _, _] (0, 0) _ rfl FIN.out.1 Try.underlying25 rfl (by kernel_rfl)) rfl ?_
  exact ⟨_, _, rfl, FIN.out.2.1, FIN.out.2.2.1, FIN.out.2.2.2⟩

theorem rule66_1 (a b : Bool) (W : World) : Calls Try.prog 66 #[.bool a, .bool b, .int .i64 1] W fun e w' => e = .returned (.bool (a && b)) ∧ Drawn0 W w' := by
  cases a <;> cases b <;> (go_enter Try.func66, Try.ntmps66; go_wp2_with fail; go_ret; exact ⟨rfl, Drawn0.refl _⟩)
set_option maxHeartbeats 2000000 in
theorem ref32 (s1 : Int) (A1 : Option Addr) (c1 : Nat) (n1 : List (List Int)) (B1 : Option Addr) (d1 : Nat) (e1 : List Bool) (s2 : Int) (A2 : Option Addr) (c2 : Nat) (n2 : List (List Int)) (B2 : Option Addr) (d2 : Nat) (e2 : List Bool) (most : Int) (r1 : Int) (r2 : List (List Int)) (r3 : List Bool) (r4 : Int) (w : World)
    (hr1 : Kd.C (Kd.slice 3 (Kd.int .i64)) w A1 n1.length n1) (hc1 : n1.length ≤ c1) (hb1 : Kd.C Kd.bool w B1 e1.length e1) (hd1 : e1.length ≤ d1)
    (hr2 : Kd.C (Kd.slice 3 (Kd.int .i64)) w A2 n2.length n2) (hc2 : n2.length ≤ c2) (hb2 : Kd.C Kd.bool w B2 e2.length e2) (hd2 : e2.length ≤ d2)
    (h : prodF (fun a b => a && b) s1 n1 e1 s2 n2 e2 most = (r1, r2, r3, r4)) :
    Calls Try.prog 32 #[.agg #[.int .i64 s1, .slice A1 n1.length c1, .slice B1 e1.length d1], .agg #[.int .i64 s2, .slice A2 n2.length c2, .slice B2 e2.length d2], .int .i64 most] w
      fun e w' => ∃ v1_ v2_ : Value, e = .returned (.tuple #[.agg #[.int .i64 r1, v1_, v2_], .int .i64 r4]) ∧ Kd.S (Kd.slice 3 (Kd.int .i64)) 33 w' w.heap.size (fun k_ => some k_ ≠ (v2_ : Value).ownBlock) v1_ r2 ∧ Kd.R Kd.bool 4 w' w.heap.size (fun k_ => True) v2_ r3 ∧ Below w.heap.size w w' := by
  have hu25 := Try.underlying25
  have H := Aside0.mk h
  have HR1 := Aside0.mk hr1
  have HR2 := Aside0.mk hr2
  have HB1 := Aside0.mk hb1
  have HB2 := Aside0.mk hb2
  clear h hr1 hr2 hb1 hb2
  go_enter Try.func32, Try.ntmps32
  go_upto_region 1 with (fail)
  obtain ⟨W, hW, x1, x2, x3, hbl⟩ := three_boxes w #[.int .i64 s1, .slice A1 n1.length c1, .slice B1 e1.length d1] #[.int .i64 s2, .slice A2 n2.length c2, .slice B2 e2.length d2] #[.int .i64 0, .slice none 0 0, .slice none 0 0]
  rw [← hW]
  clear hW
  have X3 := Aside0.mk x3
  have BL := Aside0.mk hbl
  have HR1' := Aside0.mk (Kd.C_below HR1.out hbl)
  have HR2' := Aside0.mk (Kd.C_below HR2.out hbl)
  have HB1' := Aside0.mk (Kd.C_below HB1.out hbl)
  have HB2' := Aside0.mk (Kd.C_below HB2.out hbl)
  have k0 := (blk_cell x1 0).trans rfl
  have k1 := (blk_cell x1 1).trans rfl
  have k2 := (blk_cell x1 2).trans rfl
  have k3 := (blk_cell x2 0).trans rfl
  have k4 := (blk_cell x2 1).trans rfl
  have k5 := (blk_cell x2 2).trans rfl
  clear x1 x2 x3 hbl HR1 HR2 HB1 HB2
  go_wp2_with fail
  refine (ref_made (fun a b => a && b) 1 rule66_1 s1 A1 c1 n1 B1 d1 e1 s2 A2 c2 n2 B2 d2 e2 most W HR1'.out hc1 HB1'.out hd1 HR2'.out hc2 HB2'.out hd2 r1 r2 r3 r4 H.out).mono ?_
  rintro e W4 ⟨v1, v2, rfl, hs4, hr4, hb4⟩
  obtain ⟨D1, f1, rfl⟩ := Kd.S_slice hs4
  obtain ⟨D2, f2, rfl⟩ := Kd.R_slice hr4
  have B4 := Aside0.mk (blk_below X3.out hb4)
  have L4 := Aside0.mk (BL.out.trans (hb4.mono BL.out.size))
  have S4 := Aside0.mk (Kd.S_lower hs4 BL.out.size)
  have R4 := Aside0.mk (Kd.R_lower hr4 BL.out.size)
  clear hs4 hr4 hb4 k0 k1 k2 k3 k4 k5
  have k6 := blk_cell B4.out 0
  have k7 := blk_cell B4.out 1
  have k8 := blk_cell B4.out 2
  have m6 := blk_frozen B4.out 0
  have m7 := blk_frozen B4.out 1
  have m8 := blk_frozen B4.out 2
  obtain ⟨kp3, hb3, bl3⟩ := keeps_put3 L4.out (show w.heap.size ≤ w.heap.size + 1 + 1 by omega) B4.out (.int .i64 r1) (.slice D1 r2.length f1) (.slice D2 r3.length f2)
  have FIN := Aside0.mk (And.intro hb3 (And.intro (S_keeps S4.out kp3 (by decide)) (And.intro (R_keeps R4.out kp3 (by decide)) bl3)))
  clear kp3 hb3 bl3
  go_wp2_with fail
  refine bodyPost_ret (results_ct rfl _ _ (w.heap.size + 1 + 1) 25 #[.int .i64 r1, _, _] (0, 0) _ rfl FIN.out.1 Try.underlying25 rfl (by kernel_rfl)) rfl ?_
  exact ⟨_, _, rfl, FIN.out.2.1, FIN.out.2.2.1, FIN.out.2.2.2⟩

theorem rule66_2 (a b : Bool) (W : World) : Calls Try.prog 66 #[.bool a, .bool b, .int .i64 2] W fun e w' => e = .returned (.bool (a && !b)) ∧ Drawn0 W w' := by
  cases a <;> cases b <;> (go_enter Try.func66, Try.ntmps66; go_wp2_with fail; go_ret; exact ⟨rfl, Drawn0.refl _⟩)
set_option maxHeartbeats 2000000 in
theorem ref34 (s1 : Int) (A1 : Option Addr) (c1 : Nat) (n1 : List (List Int)) (B1 : Option Addr) (d1 : Nat) (e1 : List Bool) (s2 : Int) (A2 : Option Addr) (c2 : Nat) (n2 : List (List Int)) (B2 : Option Addr) (d2 : Nat) (e2 : List Bool) (most : Int) (r1 : Int) (r2 : List (List Int)) (r3 : List Bool) (r4 : Int) (w : World)
    (hr1 : Kd.C (Kd.slice 3 (Kd.int .i64)) w A1 n1.length n1) (hc1 : n1.length ≤ c1) (hb1 : Kd.C Kd.bool w B1 e1.length e1) (hd1 : e1.length ≤ d1)
    (hr2 : Kd.C (Kd.slice 3 (Kd.int .i64)) w A2 n2.length n2) (hc2 : n2.length ≤ c2) (hb2 : Kd.C Kd.bool w B2 e2.length e2) (hd2 : e2.length ≤ d2)
    (h : prodF (fun a b => a && !b) s1 n1 e1 s2 n2 e2 most = (r1, r2, r3, r4)) :
    Calls Try.prog 34 #[.agg #[.int .i64 s1, .slice A1 n1.length c1, .slice B1 e1.length d1], .agg #[.int .i64 s2, .slice A2 n2.length c2, .slice B2 e2.length d2], .int .i64 most] w
      fun e w' => ∃ v1_ v2_ : Value, e = .returned (.tuple #[.agg #[.int .i64 r1, v1_, v2_], .int .i64 r4]) ∧ Kd.S (Kd.slice 3 (Kd.int .i64)) 33 w' w.heap.size (fun k_ => some k_ ≠ (v2_ : Value).ownBlock) v1_ r2 ∧ Kd.R Kd.bool 4 w' w.heap.size (fun k_ => True) v2_ r3 ∧ Below w.heap.size w w' := by
  have hu25 := Try.underlying25
  have H := Aside0.mk h
  have HR1 := Aside0.mk hr1
  have HR2 := Aside0.mk hr2
  have HB1 := Aside0.mk hb1
  have HB2 := Aside0.mk hb2
  clear h hr1 hr2 hb1 hb2
  go_enter Try.func34, Try.ntmps34
  go_upto_region 1 with (fail)
  obtain ⟨W, hW, x1, x2, x3, hbl⟩ := three_boxes w #[.int .i64 s1, .slice A1 n1.length c1, .slice B1 e1.length d1] #[.int .i64 s2, .slice A2 n2.length c2, .slice B2 e2.length d2] #[.int .i64 0, .slice none 0 0, .slice none 0 0]
  rw [← hW]
  clear hW
  have X3 := Aside0.mk x3
  have BL := Aside0.mk hbl
  have HR1' := Aside0.mk (Kd.C_below HR1.out hbl)
  have HR2' := Aside0.mk (Kd.C_below HR2.out hbl)
  have HB1' := Aside0.mk (Kd.C_below HB1.out hbl)
  have HB2' := Aside0.mk (Kd.C_below HB2.out hbl)
  have k0 := (blk_cell x1 0).trans rfl
  have k1 := (blk_cell x1 1).trans rfl
  have k2 := (blk_cell x1 2).trans rfl
  have k3 := (blk_cell x2 0).trans rfl
  have k4 := (blk_cell x2 1).trans rfl
  have k5 := (blk_cell x2 2).trans rfl
  clear x1 x2 x3 hbl HR1 HR2 HB1 HB2
  go_wp2_with fail
  refine (ref_made (fun a b => a && !b) 2 rule66_2 s1 A1 c1 n1 B1 d1 e1 s2 A2 c2 n2 B2 d2 e2 most W HR1'.out hc1 HB1'.out hd1 HR2'.out hc2 HB2'.out hd2 r1 r2 r3 r4 H.out).mono ?_
  rintro e W4 ⟨v1, v2, rfl, hs4, hr4, hb4⟩
  obtain ⟨D1, f1, rfl⟩ := Kd.S_slice hs4
  obtain ⟨D2, f2, rfl⟩ := Kd.R_slice hr4
  have B4 := Aside0.mk (blk_below X3.out hb4)
  have L4 := Aside0.mk (BL.out.trans (hb4.mono BL.out.size))
  have S4 := Aside0.mk (Kd.S_lower hs4 BL.out.size)
  have R4 := Aside0.mk (Kd.R_lower hr4 BL.out.size)
  clear hs4 hr4 hb4 k0 k1 k2 k3 k4 k5
  have k6 := blk_cell B4.out 0
  have k7 := blk_cell B4.out 1
  have k8 := blk_cell B4.out 2
  have m6 := blk_frozen B4.out 0
  have m7 := blk_frozen B4.out 1
  have m8 := blk_frozen B4.out 2
  obtain ⟨kp3, hb3, bl3⟩ := keeps_put3 L4.out (show w.heap.size ≤ w.heap.size + 1 + 1 by omega) B4.out (.int .i64 r1) (.slice D1 r2.length f1) (.slice D2 r3.length f2)
  have FIN := Aside0.mk (And.intro hb3 (And.intro (S_keeps S4.out kp3 (by decide)) (And.intro (R_keeps R4.out kp3 (by decide)) bl3)))
  clear kp3 hb3 bl3
  go_wp2_with fail
  refine bodyPost_ret (results_ct rfl _ _ (w.heap.size + 1 + 1) 25 #[.int .i64 r1, _, _] (0, 0) _ rfl FIN.out.1 Try.underlying25 rfl (by kernel_rfl)) rfl ?_
  exact ⟨_, _, rfl, FIN.out.2.1, FIN.out.2.2.1, FIN.out.2.2.2⟩

theorem rule66_3 (a b : Bool) (W : World) : Calls Try.prog 66 #[.bool a, .bool b, .int .i64 3] W fun e w' => e = .returned (.bool (a != b)) ∧ Drawn0 W w' := by
  cases a <;> cases b <;> (go_enter Try.func66, Try.ntmps66; go_wp2_with fail; go_ret; exact ⟨rfl, Drawn0.refl _⟩)
set_option maxHeartbeats 2000000 in
theorem ref36 (s1 : Int) (A1 : Option Addr) (c1 : Nat) (n1 : List (List Int)) (B1 : Option Addr) (d1 : Nat) (e1 : List Bool) (s2 : Int) (A2 : Option Addr) (c2 : Nat) (n2 : List (List Int)) (B2 : Option Addr) (d2 : Nat) (e2 : List Bool) (most : Int) (r1 : Int) (r2 : List (List Int)) (r3 : List Bool) (r4 : Int) (w : World)
    (hr1 : Kd.C (Kd.slice 3 (Kd.int .i64)) w A1 n1.length n1) (hc1 : n1.length ≤ c1) (hb1 : Kd.C Kd.bool w B1 e1.length e1) (hd1 : e1.length ≤ d1)
    (hr2 : Kd.C (Kd.slice 3 (Kd.int .i64)) w A2 n2.length n2) (hc2 : n2.length ≤ c2) (hb2 : Kd.C Kd.bool w B2 e2.length e2) (hd2 : e2.length ≤ d2)
    (h : prodF (fun a b => a != b) s1 n1 e1 s2 n2 e2 most = (r1, r2, r3, r4)) :
    Calls Try.prog 36 #[.agg #[.int .i64 s1, .slice A1 n1.length c1, .slice B1 e1.length d1], .agg #[.int .i64 s2, .slice A2 n2.length c2, .slice B2 e2.length d2], .int .i64 most] w
      fun e w' => ∃ v1_ v2_ : Value, e = .returned (.tuple #[.agg #[.int .i64 r1, v1_, v2_], .int .i64 r4]) ∧ Kd.S (Kd.slice 3 (Kd.int .i64)) 33 w' w.heap.size (fun k_ => some k_ ≠ (v2_ : Value).ownBlock) v1_ r2 ∧ Kd.R Kd.bool 4 w' w.heap.size (fun k_ => True) v2_ r3 ∧ Below w.heap.size w w' := by
  have hu25 := Try.underlying25
  have H := Aside0.mk h
  have HR1 := Aside0.mk hr1
  have HR2 := Aside0.mk hr2
  have HB1 := Aside0.mk hb1
  have HB2 := Aside0.mk hb2
  clear h hr1 hr2 hb1 hb2
  go_enter Try.func36, Try.ntmps36
  go_upto_region 1 with (fail)
  obtain ⟨W, hW, x1, x2, x3, hbl⟩ := three_boxes w #[.int .i64 s1, .slice A1 n1.length c1, .slice B1 e1.length d1] #[.int .i64 s2, .slice A2 n2.length c2, .slice B2 e2.length d2] #[.int .i64 0, .slice none 0 0, .slice none 0 0]
  rw [← hW]
  clear hW
  have X3 := Aside0.mk x3
  have BL := Aside0.mk hbl
  have HR1' := Aside0.mk (Kd.C_below HR1.out hbl)
  have HR2' := Aside0.mk (Kd.C_below HR2.out hbl)
  have HB1' := Aside0.mk (Kd.C_below HB1.out hbl)
  have HB2' := Aside0.mk (Kd.C_below HB2.out hbl)
  have k0 := (blk_cell x1 0).trans rfl
  have k1 := (blk_cell x1 1).trans rfl
  have k2 := (blk_cell x1 2).trans rfl
  have k3 := (blk_cell x2 0).trans rfl
  have k4 := (blk_cell x2 1).trans rfl
  have k5 := (blk_cell x2 2).trans rfl
  clear x1 x2 x3 hbl HR1 HR2 HB1 HB2
  go_wp2_with fail
  refine (ref_made (fun a b => a != b) 3 rule66_3 s1 A1 c1 n1 B1 d1 e1 s2 A2 c2 n2 B2 d2 e2 most W HR1'.out hc1 HB1'.out hd1 HR2'.out hc2 HB2'.out hd2 r1 r2 r3 r4 H.out).mono ?_
  rintro e W4 ⟨v1, v2, rfl, hs4, hr4, hb4⟩
  obtain ⟨D1, f1, rfl⟩ := Kd.S_slice hs4
  obtain ⟨D2, f2, rfl⟩ := Kd.R_slice hr4
  have B4 := Aside0.mk (blk_below X3.out hb4)
  have L4 := Aside0.mk (BL.out.trans (hb4.mono BL.out.size))
  have S4 := Aside0.mk (Kd.S_lower hs4 BL.out.size)
  have R4 := Aside0.mk (Kd.R_lower hr4 BL.out.size)
  clear hs4 hr4 hb4 k0 k1 k2 k3 k4 k5
  have k6 := blk_cell B4.out 0
  have k7 := blk_cell B4.out 1
  have k8 := blk_cell B4.out 2
  have m6 := blk_frozen B4.out 0
  have m7 := blk_frozen B4.out 1
  have m8 := blk_frozen B4.out 2
  obtain ⟨kp3, hb3, bl3⟩ := keeps_put3 L4.out (show w.heap.size ≤ w.heap.size + 1 + 1 by omega) B4.out (.int .i64 r1) (.slice D1 r2.length f1) (.slice D2 r3.length f2)
  have FIN := Aside0.mk (And.intro hb3 (And.intro (S_keeps S4.out kp3 (by decide)) (And.intro (R_keeps R4.out kp3 (by decide)) bl3)))
  clear kp3 hb3 bl3
  go_wp2_with fail
  refine bodyPost_ret (results_ct rfl _ _ (w.heap.size + 1 + 1) 25 #[.int .i64 r1, _, _] (0, 0) _ rfl FIN.out.1 Try.underlying25 rfl (by kernel_rfl)) rfl ?_
  exact ⟨_, _, rfl, FIN.out.2.1, FIN.out.2.2.1, FIN.out.2.2.2⟩
end Go.Proofs.Ytpedenbcfbflbaa.X
