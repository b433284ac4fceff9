import Derived.Test.YtpedenbcfbflbaaYA
import Derived.StillTailTactics
import Derived.Deep.RegionLaw
import Derived.Deep.DrawnRows
import Derived.Deep.DeepMust
namespace Go.Proofs.Ytpedenbcfbflbaa.X
open Go.RowKit Go.Proofs.YtpedenbcfbflbaaW.PrintWords Go.Proofs.YtpedenbcfbflbaaW.PrintLast Go.Proofs.YtpedenbcfbflbaaW.PrintMore Go.Maps Num
set_option linter.unusedVariables false
set_option linter.unusedSimpArgs false

/-- May the two be made one of? -/
def prodBad (s1 : Int) (n1 : List (List Int)) (e1 : List Bool) (s2 : Int) (n2 : List (List Int)) (e2 : List Bool) (most : Int) : Bool :=
  !rightB s1 n1 e1 || !rightB s2 n2 e2 || (s1 != s2) || decide (most < 1) || decide (3000 < most)

theorem prodBad_ok {s1 : Int} {n1 : List (List Int)} {e1 : List Bool} {s2 : Int} {n2 : List (List Int)} {e2 : List Bool} {most : Int} (h1 : rightB s1 n1 e1 = true) (h2 : rightB s2 n2 e2 = true) (hs : s1 = s2) (ha : ¬ most < 1) (hb : ¬ 3000 < most) : prodBad s1 n1 e1 s2 n2 e2 most = false := by
  unfold prodBad
  rw [h1, h2, bne_eq_false_iff_eq.2 hs, decide_eq_false ha, decide_eq_false hb]
  rfl
theorem prodBad_inv {s1 : Int} {n1 : List (List Int)} {e1 : List Bool} {s2 : Int} {n2 : List (List Int)} {e2 : List Bool} {most : Int} (h : prodBad s1 n1 e1 s2 n2 e2 most = false) : rightB s1 n1 e1 = true ∧ rightB s2 n2 e2 = true ∧ s1 = s2 ∧ 1 ≤ most ∧ most ≤ 3000 := by
  unfold prodBad at h
  simp only [Bool.or_eq_false_iff, Bool.not_eq_false', bne_eq_false_iff_eq, decide_eq_false_iff_not] at h
  obtain ⟨⟨⟨⟨a, b⟩, c⟩, d⟩, e⟩ := h
  exact ⟨a, b, c, by omega, by omega⟩

def stepP (n1 n2 : List (List Int)) (x : Int × Int) (s : Nat) : Int × Int := ((n1.getD x.1.toNat []).getD s 0, (n2.getD x.2.toNat []).getD s 0)

def prodF (rule : Bool → Bool → Bool) (s1 : Int) (n1 : List (List Int)) (e1 : List Bool) (s2 : Int) (n2 : List (List Int)) (e2 : List Bool) (most : Int) : Int × List (List Int) × List Bool × Int :=
  if prodBad s1 n1 e1 s2 n2 e2 most then (0, [], [], 1)
  else match table (stepP n1 n2) s1.toNat most.toNat (most.toNat + 1) 0 [(0, 0)] with
    | none => (0, [], [], 13)
    | some (l, rows) => (s1, rows, l.map (fun x => rule (e1.getD x.1.toNat false) (e2.getD x.2.toNat false)), 0)

set_option maxHeartbeats 4000000 in
set_option maxRecDepth 100000 in
theorem product (rule : Bool → Bool → Bool) (gr : Nat) (lb : Array Value) (eg : ∀ args w, (callFunc gr args).run Try.prog w = .ok (.enter gr args) w)
    (hrule : ∀ (a b : Bool) (W : World), Calls Try.prog gr (#[.bool a, .bool b] ++ lb) W fun e w' => e = .returned (.bool (rule a b)) ∧ Drawn0 W w')
    (s1 : Int) (A1 : Option Addr) (c1 : Nat) (n1 : List (List Int)) (B1 : Option Addr) (d1 : Nat) (e1 : List Bool) (s2 : Int) (A2 : Option Addr) (c2 : Nat) (n2 : List (List Int)) (B2 : Option Addr) (d2 : Nat) (e2 : List Bool) (most : Int) (w : World)
    (hr1 : Kd.C (Kd.slice 3 (Kd.int .i64)) w A1 n1.length n1) (hc1 : n1.length ≤ c1) (hb1 : Kd.C Kd.bool w B1 e1.length e1) (hd1 : e1.length ≤ d1)
    (hr2 : Kd.C (Kd.slice 3 (Kd.int .i64)) w A2 n2.length n2) (hc2 : n2.length ≤ c2) (hb2 : Kd.C Kd.bool w B2 e2.length e2) (hd2 : e2.length ≤ d2)
    (r1 : Int) (r2 : List (List Int)) (r3 : List Bool) (r4 : Int) (h : prodF rule s1 n1 e1 s2 n2 e2 most = (r1, r2, r3, r4)) :
    Calls Try.prog 52 #[.agg #[.int .i64 s1, .slice A1 n1.length c1, .slice B1 e1.length d1], .agg #[.int .i64 s2, .slice A2 n2.length c2, .slice B2 e2.length d2], .int .i64 most, .func (.func gr) #[] lb] w
      fun e w' => ∃ v1_ v2_ : Value, e = .returned (.tuple #[.agg #[.int .i64 r1, v1_, v2_], .int .i64 r4]) ∧ Kd.S (Kd.slice 3 (Kd.int .i64)) 33 w' w.heap.size (fun k_ => some k_ ≠ (v2_ : Value).ownBlock) v1_ r2 ∧ Kd.R Kd.bool 4 w' w.heap.size (fun k_ => True) v2_ r3 ∧ Below w.heap.size w w' := by
  have hu25 := Try.underlying25
  have HR1 := Aside0.mk hr1
  have HR2 := Aside0.mk hr2
  have HB1 := Aside0.mk hb1
  have HB2 := Aside0.mk hb2
  have HRULE := Aside0.mk hrule
  have H := Aside0.mk h
  have hca := fun W hr hb => det_Right s1 A1 c1 n1 B1 d1 e1 W hr hc1 hb hd1
  have hcb := fun W hr hb => det_Right s2 A2 c2 n2 B2 d2 e2 W hr hc2 hb hd2
  have HCA := Aside0.mk hca
  have HCB := Aside0.mk hcb
  clear hr1 hr2 hb1 hb2 hrule h hca hcb
  go_enter Try.func52, Try.ntmps52
  go_upto_region 1 with (fail)
  obtain ⟨W0, hW0⟩ : ∃ W0, W0 = ((w.alloc (.cells #[.int .i64 s1, .slice A1 n1.length c1, .slice B1 e1.length d1] 25)).alloc (.cells #[.int .i64 s2, .slice A2 n2.length c2, .slice B2 e2.length d2] 25)).alloc (.cells #[.int .i64 0, .slice none 0 0, .slice none 0 0] 25) := ⟨_, rfl⟩
  have I0 : Init3 w #[.int .i64 s1, .slice A1 n1.length c1, .slice B1 e1.length d1] #[.int .i64 s2, .slice A2 n2.length c2, .slice B2 e2.length d2] #[.int .i64 0, .slice none 0 0, .slice none 0 0] W0 := by rw [hW0]; exact Init3.start _ _ _ _
  rw [← hW0]
  clear hW0
  go_cut [39] (fun v39 wc => v39 = .bool (prodBad s1 n1 e1 s2 n2 e2 most) ∧ Init3 w #[.int .i64 s1, .slice A1 n1.length c1, .slice B1 e1.length d1] #[.int .i64 s2, .slice A2 n2.length c2, .slice B2 e2.length d2] #[.int .i64 0, .slice none 0 0, .slice none 0 0] wc)
  case first =>
    have k0 := I0.a 0
    have k1 := I0.a 1
    have k2 := I0.a 2
    have II := Aside0.mk I0
    clear I0
    cases hq1 : rightB s1 n1 e1 with
    | false =>
      have e : prodBad s1 n1 e1 s2 n2 e2 most = true := by simp [prodBad, hq1]
      have HE := Aside0.mk e
      have HC := HCA.out W0 (Kd.C_below HR1.out II.out.bel) (Kd.C_below HB1.out II.out.bel)
      rw [hq1] at HC
      clear hq1 e
      go_wp2_with (go_at_call 44; refine HC.mono ?_; rintro e w' ⟨rfl, hb⟩)
      have I1 := Aside0.mk (II.out.below hb)
      go_meet
      case rel => exact ⟨by rw [HE.out], I1.out⟩
    | true =>
      have HC := HCA.out W0 (Kd.C_below HR1.out II.out.bel) (Kd.C_below HB1.out II.out.bel)
      rw [hq1] at HC
      have HQ1 := Aside0.mk hq1
      clear hq1
      go_wp2_with fail
      refine HC.mono ?_
      rintro e Wa ⟨rfl, hb⟩
      clear HC
      have I1 := II.out.below hb
      have k0 := I1.a 0
      have k3 := I1.b 0
      have k4 := I1.b 1
      have k5 := I1.b 2
      have II := Aside0.mk I1
      clear I1 hb k1 k2
      have HC := HCB.out Wa (Kd.C_below HR2.out II.out.bel) (Kd.C_below HB2.out II.out.bel)
      cases hq2 : rightB s2 n2 e2 with
      | false =>
        have e : prodBad s1 n1 e1 s2 n2 e2 most = true := by simp [prodBad, hq2]
        have HE := Aside0.mk e
        rw [hq2] at HC
        clear hq2 e
        go_wp2_with (go_at_call 44; refine HC.mono ?_; rintro e w' ⟨rfl, hb⟩)
        have I1 := Aside0.mk (II.out.below hb)
        go_meet
        case rel => exact ⟨by rw [HE.out], I1.out⟩
      | true =>
        rw [hq2] at HC
        have HQ2 := Aside0.mk hq2
        clear hq2
        go_wp2_with fail
        refine HC.mono ?_
        rintro e Wb ⟨rfl, hb⟩
        clear HC
        have I1 := II.out.below hb
        have k0 := I1.a 0
        have k3 := I1.b 0
        have II := Aside0.mk I1
        clear I1 hb k4 k5
        by_cases hs : s1 = s2
        · have hsb : (s1 != s2) = false := bne_eq_false_iff_eq.2 hs
          by_cases h1 : most < 1
          · have hb1 : decide (most < 1) = true := decide_eq_true h1
            have HE : Aside0 (prodBad s1 n1 e1 s2 n2 e2 most = true) := ⟨by simp [prodBad, h1]⟩
            clear hs h1
            go_wp2_with fail
            go_meet
            case rel => exact ⟨by rw [HE.out], II.out⟩
          · have hb1 : decide (most < 1) = false := decide_eq_false h1
            by_cases h2 : 3000 < most
            · have hb2 : decide (3000 < most) = true := decide_eq_true h2
              have HE : Aside0 (prodBad s1 n1 e1 s2 n2 e2 most = true) := ⟨by simp [prodBad, h2]⟩
              clear hs h1 h2
              go_wp2_with fail
              go_meet
              case rel => exact ⟨by rw [HE.out], II.out⟩
            · have hb2 : decide (3000 < most) = false := decide_eq_false h2
              have HE : Aside0 (prodBad s1 n1 e1 s2 n2 e2 most = false) := ⟨prodBad_ok HQ1.out HQ2.out hs h1 h2⟩
              clear hs h1 h2
              go_wp2_with fail
              go_meet
              case rel => exact ⟨by rw [HE.out], II.out⟩
        · have hsb : (s1 != s2) = true := bne_iff_ne.2 hs
          have HE : Aside0 (prodBad s1 n1 e1 s2 n2 e2 most = true) := ⟨by simp [prodBad, hs]⟩
          clear hs
          go_wp2_with fail
          go_meet
          case rel => exact ⟨by rw [HE.out], II.out⟩
  case rest =>
    obtain ⟨rfl, I1⟩ := hcut
    have k0 := I1.a 0
    have k6 := I1.o 0
    have k7 := I1.o 1
    have k8 := I1.o 2
    have m6 := blk_frozen I1.ho 0
    have m7 := blk_frozen I1.ho 1
    have m8 := blk_frozen I1.ho 2
    have II := Aside0.mk I1
    clear I1
    cases hbad : prodBad s1 n1 e1 s2 n2 e2 most with
    | true =>
      have e : r1 = 0 ∧ r2 = [] ∧ r3 = [] ∧ r4 = 1 := by
        have := H.out
        simp only [prodF, hbad, if_true, Prod.mk.injEq] at this
        exact ⟨this.1.symm, this.2.1.symm, this.2.2.1.symm, this.2.2.2.symm⟩
      obtain ⟨rfl, rfl, rfl, rfl⟩ := e
      clear hbad H HR1 HR2 HB1 HB2 HCA HCB HRULE
      go_wp2_with fail
      refine bodyPost_ret (results_ct rfl _ _ (w.heap.size + 1 + 1) 25 #[.int .i64 0, .slice none 0 0, .slice none 0 0] (0, 0) _ rfl (by refine blk_put (cs := #[.int .i64 0, .slice none 0 0, .slice none 0 0]) ?_ 2 _ rfl; refine blk_put (cs := #[.int .i64 0, .slice none 0 0, .slice none 0 0]) ?_ 1 _ rfl; refine blk_put (cs := #[.int .i64 0, .slice none 0 0, .slice none 0 0]) ?_ 0 _ rfl; exact II.out.ho) Try.underlying25 rfl (by kernel_rfl)) rfl ?_
      exact ⟨_, _, rfl, Kd.S_nil _ _ _ _ _, Kd.R_nil _ _ _ _ _, below_put3 II.out.bel (by omega) _ _ _⟩
    | false =>
      have hmm := @run_makeMap Try.prog
      obtain ⟨q1, q2, q3, q4, q5⟩ := prodBad_inv hbad
      subst q3
      go_wp2_with fail
      have P0 := PL.start II.out.bel
      have hB0 : Below w.heap.size w ((wc.alloc (.map #[] 0)).alloc (.cells #[.map (some wc.heap.size), .slice none 0 0] 80)) := below_alloc (below_alloc II.out.bel _) _
      refine (P0.number (0, 0) (by decide) (by decide) hB0 (by simp)).mono ?_
      rintro e W1 ⟨rfl, P1, hB1, hk1⟩
      have I1 := ((II.out.below (below_alloc (Below.refl _ _) (.map #[] 0))).below (below_alloc (Below.refl _ _) (.cells #[.map (some wc.heap.size), .slice none 0 0] 80))).keeps hk1 (by decide) (by decide) hB1
      have k0 := I1.a 0
      have II := Aside0.mk I1
      have PP := Aside0.mk P1
      have HH : Aside0 ((match table (stepP n1 n2) s1.toNat most.toNat (most.toNat + 1) 0 [(0, 0)] with
        | none => (0, [], [], 13)
        | some (l, rows) => (s1, rows, l.map (fun x => rule (e1.getD x.1.toNat false) (e2.getD x.2.toNat false)), 0)) = (r1, r2, r3, r4)) := ⟨by
          have := H.out
          unfold prodF at this
          rw [hbad] at this
          simpa using this⟩
      have R1 := Aside0.mk (rightB_spec q1)
      have R2 := Aside0.mk (rightB_spec q2)
      obtain ⟨T, hT⟩ : ∃ T, T = table (stepP n1 n2) s1.toNat most.toNat (most.toNat + 1) 0 [(0, 0)] := ⟨_, rfl⟩
      rw [← hT] at HH
      have TS := Aside0.mk (hT ▸ TEq.start (f := stepP n1 n2) (sg := s1.toNat) (mo := most.toNat) (x0 := (0, 0)) (by omega))
      have BS : Aside0 (Bd n1.length n2.length [(0, 0)]) := ⟨fun x hx => by
        rw [List.mem_singleton] at hx; subst hx
        have := R1.out.2.2.1; have := R2.out.2.2.1
        exact ⟨by simp, by simp; omega, by simp, by simp; omega⟩⟩
      have hmst : most ≤ 3000 := q5
      have hmst1 : 1 ≤ most := q4
      clear I1 P1 P0 hB0 hB1 hk1 k6 k7 k8 m6 m7 m8 H hT q1 q2 q4 q5 hbad HCA HCB hmm I0
      go_wp2_with fail
      have PW0 : Aside0 (PL w (wc.heap.size + 1) wc.heap.size [(0, 0)] (W1.alloc (.cells #[.int .i64 s1, .slice none 0 0, .slice none 0 0] 25))) := ⟨PP.out.below (below_alloc (Below.refl _ _) _)⟩
      have OW0 : Aside0 (PO w W1.heap.size s1 (fun _ => True) [] [] (W1.alloc (.cells #[.int .i64 s1, .slice none 0 0, .slice none 0 0] 25))) := ⟨PO.start II.out⟩
      have IW0 : Aside0 (Init3 w #[.int .i64 s1, .slice A1 n1.length c1, .slice B1 e1.length d1] #[.int .i64 s1, .slice A2 n2.length c2, .slice B2 e2.length d2] #[.int .i64 0, .slice none 0 0, .slice none 0 0] (W1.alloc (.cells #[.int .i64 s1, .slice none 0 0, .slice none 0 0] 25))) := ⟨II.out.below (below_alloc (Below.refl _ _) _)⟩
      clear PP II k0
      go_loopg [12] (most.toNat + 1) (fun kq v12 W => ∃ (l : List (Int × Int)) (rows : List (List Int)), v12 = .int .i64 rows.length ∧ Aside0 (Init3 w #[.int .i64 s1, .slice A1 n1.length c1, .slice B1 e1.length d1] #[.int .i64 s1, .slice A2 n2.length c2, .slice B2 e2.length d2] #[.int .i64 0, .slice none 0 0, .slice none 0 0] W) ∧
        Aside0 (PL w (wc.heap.size + 1) wc.heap.size l W) ∧ Aside0 (PO w W1.heap.size s1 (fun _ => True) rows ((l.take rows.length).map (fun x => rule (e1.getD x.1.toNat false) (e2.getD x.2.toNat false))) W) ∧ Aside0 (TEq (stepP n1 n2) s1.toNat most.toNat T kq l rows) ∧ Aside0 (Bd n1.length n2.length l))
      case atStart => exact ⟨[(0, 0)], [], rfl, IW0, PW0, by simpa using OW0, TS, BS⟩
      case round =>
        clear IW0 PW0 OW0 TS BS
        obtain ⟨l, rows, rfl, II, PP, OO, TE, BD⟩ := hrel
        obtain ⟨⟨LA, lc, hpl, hrow⟩, _, _, _⟩ := PP.out
        obtain ⟨⟨nv, ev, hob, hn, he⟩, hge⟩ := OO.out
        have hll : l.length ≤ 3000 := by have := TE.out.2.1; omega
        have p1 : wr.cell? ⟨wc.heap.size + 1, 1, none⟩ = some (.slice LA l.length lc) := (blk_cell hpl 1).trans rfl
        have o0 := blk_cell hob 0
        have o1 := blk_cell hob 1
        have o2 := blk_cell hob 2
        have i0 := II.out.a 0
        by_cases hlt : rows.length < l.length
        · have hltb : decide ((rows.length : Int) < (l.length : Int)) = true := decide_eq_true (by omega)
          obtain ⟨x, hx⟩ : ∃ x, l[rows.length]? = some x := ⟨_, List.getElem?_eq_getElem hlt⟩
          obtain ⟨lg, rfl, x1, x2⟩ := pair_cells hrow _ x hx
          have HX := Aside0.mk hx
          have HROW := Aside0.mk hrow
          have HN := Aside0.mk hn
          have HE := Aside0.mk he
          have HOB := Aside0.mk hob
          have hlt0 : (rows.length : Int) < (l.length : Int) := by omega
          clear hpl hrow hob hn he hx
          go_wp2_with fail
          go_quiet (fail)
          have IWq : Aside0 (Below wr.heap.size wr (wr.drewN nq)) := ⟨pw_below_drewN (Below.refl _ _) nq⟩
          have hBq : Below w.heap.size w (wr.drewN nq) := II.out.bel.trans (IWq.out.mono II.out.bel.size)
          have hs0 := R1.out.1
          have hs4 := R1.out.2.1
          have hbs := hBq.size
          have HBQ := Aside0.mk hBq
          clear hBq
          go_wp2_with ((with_reducible refine gate_dst (N := 77) rfl ?_); go_must (refine Kd.R_make (Kd.int .i64) w.heap.size 3 rfl (N := 77) rfl 33 _ _ rfl s1 rfl rfl Try.underlying33 (.int .i64 0) 8 info3 rfl (by decide) (by omega) 0 (ok := fun k => wr.heap.size ≤ k) (okp := fun k => wr.heap.size ≤ k) rfl (fun _ hk => hk) (by simp) (by omega) (by omega) HBQ.out (by omega) ?_); intro nx W2 hnx hB2 hg2 hnew2; obtain ⟨ng, nc, hnv, _, hngl, _⟩ := Kd.R_form hnx (by simp; omega); rw [List.length_replicate] at hnv; subst hnv)
          obtain ⟨K, rfl, RE0⟩ := TE.out.into HX.out
          have hngw : wr.heap.size ≤ ng := hnx.1 ng rfl
          have hbw : Below wr.heap.size wr W2 := pw_below_grown (pw_below_drewN (Below.refl _ _) nq) none (Nat.le_refl _) hg2 (fun k e => by cases e)
          have II2 := Aside0.mk (II.out.below hbw)
          have PP2 := Aside0.mk (PP.out.below hbw)
          have OO2 : Aside0 (PO w W1.heap.size s1 (fun k => k ≠ ng) rows ((l.take rows.length).map (fun x => rule (e1.getD x.1.toNat false) (e2.getD x.2.toNat false))) W2) := ⟨(OO.out.old.below hbw).mono (fun k hk => by omega)⟩
          have NX2 : Aside0 (Kd.R (Kd.int .i64) 3 W2 w.heap.size (fun _ => True) (.slice (some ⟨ng, 0, none⟩) s1.toNat nc) (([] : List Int) ++ List.replicate s1.toNat 0)) := ⟨Kd.R_mono hnx (fun _ _ => trivial)⟩
          have REa := Aside0.mk RE0
          have hxb := BD.out x (List.mem_of_getElem? HX.out)
          have HXB := Aside0.mk hxb
          clear hnx hB2 hg2 hnew2 hngl hbw RE0 hxb HROW HN HE HOB o0 o1 o2 i0 p1 x1 x2
          go_loopg [16, 80] s1.toNat (fun kq v16 v80 W => ∃ (l2 : List (Int × Int)) (ks : List Int), v80 = .int .i64 ks.length ∧ Aside0 (Init3 w #[.int .i64 s1, .slice A1 n1.length c1, .slice B1 e1.length d1] #[.int .i64 s1, .slice A2 n2.length c2, .slice B2 e2.length d2] #[.int .i64 0, .slice none 0 0, .slice none 0 0] W) ∧
            Aside0 (PL w (wc.heap.size + 1) wc.heap.size l2 W) ∧ Aside0 (PO w W1.heap.size s1 (fun k => k ≠ ng) rows ((l.take rows.length).map (fun x => rule (e1.getD x.1.toNat false) (e2.getD x.2.toNat false))) W) ∧ Aside0 (Kd.R (Kd.int .i64) 3 W w.heap.size (fun _ => True) (.slice (some ⟨ng, 0, none⟩) s1.toNat nc) (ks ++ List.replicate kq 0)) ∧ Aside0 (REq (stepP n1 n2) s1.toNat most.toNat T K rows l x kq l2 ks) ∧ Aside0 (Bd n1.length n2.length l2))
          case atStart => exact ⟨l, [], rfl, II2, PP2, OO2, NX2, REa, BD⟩
          case round =>
            clear II2 PP2 OO2 NX2 REa II PP OO TE BD
            obtain ⟨l2, ks, rfl, II, PP, OO, NX, RE, BD⟩ := hrel
            by_cases hs : ks.length < s1.toNat
            · obtain ⟨b1, b2, b3, b4⟩ := HXB.out
              obtain ⟨t1, t2⟩ := getD_row R1.out.2.2.2.2.2 x.1 b1 b2
              obtain ⟨t3, t4⟩ := getD_row R2.out.2.2.2.2.2 x.2 b3 b4
              obtain ⟨ad1, ra1, rc1, N1, u1, rfl, y1, y2, y3, y4⟩ := cell_next' (Kd.C_below HR1.out II.out.bel) x.1 b1 b2 ks.length (by omega)
              obtain ⟨ad2, ra2, rc2, N2, u2, rfl, y5, y6, y7, y8⟩ := cell_next' (Kd.C_below HR2.out II.out.bel) x.2 b3 b4 ks.length (by omega)
              have i1 := II.out.a 1
              have i2 := II.out.b 1
              have hsb : decide ((ks.length : Int) < (s1.toNat : Int)) = true := decide_eq_true (by omega)
              have Y4 := Aside0.mk y4
              have Y8 := Aside0.mk y8
              have T2 := Aside0.mk (t2 ks.length (by omega))
              have T4 := Aside0.mk (t4 ks.length (by omega))
              clear t1 t2 t3 t4 y4 y8
              go_wp2_with fail
              refine wp_region_any (by kernel_rfl) ?_
              change wpAny _ _ _ _ _ _ _ (World.drew _)
              refine wpAny_take (i := 0) (v := ?_) rfl (by kernel_rfl) (by kernel_rfl) (by kernel_rfl) (fun _ _ _ h => h) (Or.inl ⟨by rfl, by intro w; go_simp; with_reducible rfl⟩) ?_
              refine wpAny_take (i := 1) (v := ?_) rfl (by kernel_rfl) (by kernel_rfl) (by kernel_rfl) (fun _ _ _ h => h) (Or.inl ⟨by rfl, by intro w; go_simp; with_reducible rfl⟩) ?_
              refine still_tail_from 2 20 21 (by decide) rfl (by kernel_rfl) (by kernel_rfl) rfl ?_
              simp only [List.take_succ_cons, List.take_zero, List.drop_succ_cons, List.drop_zero, Nat.reduceSub]
              change wpStill _ _ wr.drew _ _ _
              repeat still_step
              refine wpStill_nil ?_
              change wpList _ _ _ _ _ wr.drew
              have hll2 : l2.length ≤ 3000 := by have := RE.out.2.1; omega
              have T := T2.out
              have Tb := T4.out
              rw [← Y4.out] at T
              rw [← Y8.out] at Tb
              have hs1 := R1.out.2.2.2.1
              have hs2 := R2.out.2.2.2.1
              have hstp : (u1, u2) = stepP n1 n2 x ks.length := by unfold stepP; rw [Y4.out, Y8.out]
              have HST := Aside0.mk hstp
              have TT := Aside0.mk T
              have TTb := Aside0.mk Tb
              clear hstp
              go_wp2_with fail
              refine (PP.out.drew.number (u1, u2) (wf_of (by omega) (by omega)) (wf_of (by omega) (by omega)) (below_drew II.out.bel) (by omega)).mono ?_
              rintro e Wn ⟨rfl, Pn, hBn, hkn⟩
              have IIn := Aside0.mk ((II.out.below (below_drew (Below.refl _ _))).keeps hkn (by decide) (by decide) hBn)
              have OOn := Aside0.mk ((OO.out.below (below_drew (Below.refl _ _))).keeps hkn (by decide))
              have NXn := Aside0.mk (R_keeps (Kd.R_below NX.out (below_drew (Below.refl _ _))) hkn (by decide))
              have PPn := Aside0.mk Pn
              obtain ⟨cN, fN⟩ := Kd.R_celln (0 : Int) NXn.out (ks.length : Int) (by omega) (by omega)
              rw [Int.toNat_natCast] at cN fN
              clear Pn hBn hkn i1 i2 T Tb y1 y2 y5 y6 b1 b2 b3 b4
              go_upto_region 15 with (fail)
              obtain ⟨W3, hW3⟩ : ∃ W3, W3 = Wn.setCell ⟨ng, ks.length, none⟩ (.int .i64 (idx l2 (u1, u2))) := ⟨_, rfl⟩
              rw [← hW3]
              obtain ⟨⟨cells3, hb3⟩, hng3⟩ := row_block NXn.out
              have II3 := IIn.out.put hb3 hng3 ks.length (.int .i64 (idx l2 (u1, u2)))
              rw [← hW3] at II3
              replace II3 := Aside0.mk II3
              have PP3 : Aside0 (PL w (wc.heap.size + 1) wc.heap.size (put l2 (u1, u2)) W3) := ⟨by rw [hW3]; exact PPn.out.far (p := ⟨ng, ks.length, none⟩) hb3 (by decide) (by decide) _⟩
              have OO3 : Aside0 (PO w W1.heap.size s1 (fun k => k ≠ ng) rows ((l.take rows.length).map (fun x => rule (e1.getD x.1.toNat false) (e2.getD x.2.toNat false))) W3) := ⟨by rw [hW3]; exact OOn.out.put hb3 (fun _ h => h) _ _⟩
              have NX3 : Aside0 (Kd.R (Kd.int .i64) 3 W3 w.heap.size (fun _ => True) (.slice (some ⟨ng, 0, none⟩) s1.toNat nc) ((ks ++ List.replicate gk 0).set ks.length (idx l2 (u1, u2) : Int))) := ⟨by
                rw [hW3]
                have := Kd.R_putn NXn.out (ks.length : Int) (idx l2 (u1, u2) : Int)
                rw [Int.toNat_natCast] at this
                exact this⟩
              clear hW3 hb3 IIn PPn OOn NXn cN fN
              obtain ⟨A3, cp3, p3⟩ := PP3.out.len
              by_cases hm : most.toNat < (put l2 (u1, u2)).length
              · have hmb : decide (most < ((put l2 (u1, u2)).length : Int)) = true := decide_eq_true (by omega)
                have hTn : T = none := RE.out.none_ hs (HST.out ▸ hm)
                have e : r1 = 0 ∧ r2 = [] ∧ r3 = [] ∧ r4 = 13 := by
                  have := HH.out
                  rw [hTn] at this
                  simp only [Prod.mk.injEq] at this
                  exact ⟨this.1.symm, this.2.1.symm, this.2.2.1.symm, this.2.2.2.symm⟩
                obtain ⟨rfl, rfl, rfl, rfl⟩ := e
                have k6 := II3.out.o 0
                have k7 := II3.out.o 1
                have k8 := II3.out.o 2
                have m6 := blk_frozen II3.out.ho 0
                have m7 := blk_frozen II3.out.ho 1
                have m8 := blk_frozen II3.out.ho 2
                clear hTn hm HST
                go_wp2_with fail
                refine bodyPost_ret (results_ct rfl _ _ (w.heap.size + 1 + 1) 25 #[.int .i64 0, .slice none 0 0, .slice none 0 0] (0, 0) _ rfl (by refine blk_put (cs := #[.int .i64 0, .slice none 0 0, .slice none 0 0]) ?_ 2 _ rfl; refine blk_put (cs := #[.int .i64 0, .slice none 0 0, .slice none 0 0]) ?_ 1 _ rfl; refine blk_put (cs := #[.int .i64 0, .slice none 0 0, .slice none 0 0]) ?_ 0 _ rfl; exact II3.out.ho) Try.underlying25 rfl (by kernel_rfl)) rfl ?_
                exact ⟨_, _, rfl, Kd.S_nil _ _ _ _ _, Kd.R_nil _ _ _ _ _, below_put3 II3.out.bel (by omega) _ _ _⟩
              · have hmb : decide (most < ((put l2 (u1, u2)).length : Int)) = false := decide_eq_false (by omega)
                obtain ⟨kq', rfl, RE'⟩ := RE.out.step hs (HST.out ▸ hm)
                rw [← HST.out] at RE'
                have NX4 := NX3.out
                rw [set_mid] at NX4
                have RES := Aside0.mk RE'
                have NXS := Aside0.mk NX4
                clear NX3 NX4 RE' hm
                go_wp2_with fail
                go_roundg kq'
                case measure => omega
                case rel =>
                  exact ⟨put l2 (u1, u2), ks ++ [(idx l2 (u1, u2) : Int)], by simp, II3, PP3, OO3, NXS, RES, ⟨BD.out.put ⟨TT.out.1, TT.out.2, TTb.out.1, TTb.out.2⟩⟩⟩
            · have hsb : decide ((ks.length : Int) < (s1.toNat : Int)) = false := decide_eq_false (by omega)
              obtain rfl : gk = 0 := by have := RE.out.1; omega
              have TE := Aside0.mk (RE.out.done (by omega))
              have PFX := Aside0.mk RE.out.2.2.1
              obtain ⟨b1, b2, b3, b4⟩ := HXB.out
              have hq1 := R1.out.2.2.2.2.1
              have hq2 := R2.out.2.2.2.2.1
              have b5 : x.1 < (e1.length : Int) := by omega
              have b6 : x.2 < (e2.length : Int) := by omega
              obtain ⟨bd1, q1, rfl, z1, z2⟩ := cell_end (Kd.C_below HB1.out II.out.bel) x.1 b1 b5
              obtain ⟨bd2, q2, rfl, z3, z4⟩ := cell_end (Kd.C_below HB2.out II.out.bel) x.2 b3 b6
              have NXe := NX.out
              rw [List.replicate_zero, List.append_nil] at NXe
              obtain ⟨ens, hens⟩ : ∃ ens, ens = (l.take rows.length).map (fun x => rule (e1.getD x.1.toNat false) (e2.getD x.2.toNat false)) := ⟨_, rfl⟩
              have OOe := OO.out
              rw [← hens] at OOe
              obtain ⟨⟨nv, ev, hG, hS, hE⟩, hge⟩ := OOe
              have hdb : Below wr.heap.size wr wr.drew := below_drew (Below.refl _ _)
              have ID := Aside0.mk (II.out.below hdb)
              have GD := Aside0.mk (blk_below hG hdb)
              have PD := Aside0.mk (PP.out.below hdb)
              have SD := Aside0.mk (Kd.S_below hS hdb)
              have ED := Aside0.mk (Kd.R_below hE hdb)
              have ND := Aside0.mk (Kd.R_below NXe hdb)
              have SIX : Aside0 (∀ W : World, Init3 w #[.int .i64 s1, .slice A1 n1.length c1, .slice (some bd1) e1.length d1] #[.int .i64 s1, .slice A2 n2.length c2, .slice (some bd2) e2.length d2] #[.int .i64 0, .slice none 0 0, .slice none 0 0] W → W.heap[W1.heap.size]? = some (.cells #[.int .i64 s1, nv, ev] 25 (0, 0)) →
                W.cell? ⟨W1.heap.size, 1, none⟩ = some nv ∧ W.cell? ⟨W1.heap.size, 2, none⟩ = some ev ∧ W.cell? ⟨w.heap.size, 2, none⟩ = some (.slice (some bd1) e1.length d1) ∧ W.cell? ⟨w.heap.size + 1, 2, none⟩ = some (.slice (some bd2) e2.length d2) ∧ W.cell? (bd1.add x.1.toNat) = some (.bool q1) ∧ W.cell? (bd2.add x.2.toNat) = some (.bool q2)) := ⟨fun W I G => by
                refine ⟨(blk_cell G 1).trans rfl, (blk_cell G 2).trans rfl, (I.a 2).trans rfl, (I.b 2).trans rfl, ?_, ?_⟩
                · obtain ⟨ad, v, ee, h2, h3⟩ := cell_end (Kd.C_below HB1.out I.bel) x.1 b1 b5
                  injection ee with ee; subst ee; rw [z2, ← h3]; exact h2
                · obtain ⟨ad, v, ee, h2, h3⟩ := cell_end (Kd.C_below HB2.out I.bel) x.2 b3 b6
                  injection ee with ee; subst ee; rw [z4, ← h3]; exact h2⟩
              have ELEN : Aside0 (ens.length ≤ 3000) := ⟨by rw [hens, List.length_map, List.length_take]; omega⟩
              have Z2 := Aside0.mk z2
              have Z4 := Aside0.mk z4
              have EG := Aside0.mk eg
              have HENS := Aside0.mk hens
              obtain ⟨i33, hi33, hz33, hs33, hb33⟩ := info_parts info33
              obtain ⟨i4, hi4, hz4, hs4, hb4⟩ := info_parts info4
              clear z1 z2 z3 z4 hens NXe hG hS hE hdb hq1 hq2 RE NX OO PP II
              go_upto_region 18 with (fail)
              -- REGION 18 BEGIN
              refine start_ (n := 25) (S := fun w' => w'.cell? ⟨W1.heap.size, 1, none⟩ = some nv ∧ w'.cell? ⟨W1.heap.size, 2, none⟩ = some ev ∧ w'.cell? ⟨w.heap.size, 2, none⟩ = some (.slice (some bd1) e1.length d1) ∧ w'.cell? ⟨w.heap.size + 1, 2, none⟩ = some (.slice (some bd2) e2.length d2) ∧ w'.cell? (bd1.add x.1.toNat) = some (.bool q1) ∧ w'.cell? (bd2.add x.2.toNat) = some (.bool q2)) (ds := [22, 24]) #[false, false, false, false, false, false, false, false, false, false, false, false, false, false, false, false, false, false, false, false, false, false, false, false, false] (by kernel_rfl) rfl rfl ⟨(SIX.out _ ID.out GD.out).1, (SIX.out _ ID.out GD.out).2.1, (SIX.out _ ID.out GD.out).2.2.1, (SIX.out _ ID.out GD.out).2.2.2.1, (SIX.out _ ID.out GD.out).2.2.2.2.1, (SIX.out _ ID.out GD.out).2.2.2.2.2⟩ (fun hHeld => ?_)
              generalize wr.drew = Wd at ID GD PD SD ED ND hHeld ⊢
              refine pure_ (i := 0) (N := some 114) (v := ?_) (a' := ?_) #[true, false, false, false, false, false, false, false, false, false, false, false, false, false, false, false, false, false, false, false, false, false, false, false, false] rfl rfl (by kernel_rfl) (fun _ _ _ h => h) (Or.inl ⟨by rfl, ?_⟩) ?_ ?_
              rotate_left
              · intro w'
                go_simp
                with_reducible rfl
              rotate_left
              · simp only [Act.put, List.setIfInBounds_toArray, List.set_cons_zero, List.set_cons_succ, i64_w, i32_w]
                rfl
              refine pure_ (i := 2) (N := some 116) (v := ?_) (a' := ?_) #[true, false, true, false, false, false, false, false, false, false, false, false, false, false, false, false, false, false, false, false, false, false, false, false, false] rfl rfl (by kernel_rfl) (fun _ _ _ h => h) (Or.inl ⟨by rfl, ?_⟩) ?_ ?_
              rotate_left
              · intro w'
                go_simp
                with_reducible rfl
              rotate_left
              · simp only [Act.put, List.setIfInBounds_toArray, List.set_cons_zero, List.set_cons_succ, i64_w, i32_w]
                rfl
              refine pure_ (i := 5) (N := some 119) (v := ?_) (a' := ?_) #[true, false, true, false, false, true, false, false, false, false, false, false, false, false, false, false, false, false, false, false, false, false, false, false, false] rfl rfl (by kernel_rfl) (fun _ _ _ h => h) (Or.inl ⟨by rfl, ?_⟩) ?_ ?_
              rotate_left
              · intro w'
                go_simp
                with_reducible rfl
              rotate_left
              · simp only [Act.put, List.setIfInBounds_toArray, List.set_cons_zero, List.set_cons_succ, i64_w, i32_w]
                rfl
              refine pure_ (i := 7) (N := some 121) (v := ?_) (a' := ?_) #[true, false, true, false, false, true, false, true, false, false, false, false, false, false, false, false, false, false, false, false, false, false, false, false, false] rfl rfl (by kernel_rfl) (fun _ _ _ h => h) (Or.inl ⟨by rfl, ?_⟩) ?_ ?_
              rotate_left
              · intro w'
                go_simp
                with_reducible rfl
              rotate_left
              · simp only [Act.put, List.setIfInBounds_toArray, List.set_cons_zero, List.set_cons_succ, i64_w, i32_w]
                rfl
              refine pure_ (i := 8) (N := some 122) (v := ?_) (a' := ?_) #[true, false, true, false, false, true, false, true, true, false, false, false, false, false, false, false, false, false, false, false, false, false, false, false, false] rfl rfl (by kernel_rfl) (fun _ _ _ h => h) (Or.inl ⟨by rfl, ?_⟩) ?_ ?_
              rotate_left
              · intro w'
                go_simp
                with_reducible rfl
              rotate_left
              · simp only [Act.put, List.setIfInBounds_toArray, List.set_cons_zero, List.set_cons_succ, i64_w, i32_w]
                rfl
              refine pure_ (i := 10) (N := some 124) (v := ?_) (a' := ?_) #[true, false, true, false, false, true, false, true, true, false, true, false, false, false, false, false, false, false, false, false, false, false, false, false, false] rfl rfl (by kernel_rfl) (fun _ _ _ h => h) (Or.inl ⟨by rfl, ?_⟩) ?_ ?_
              rotate_left
              · intro w'
                go_simp
                with_reducible rfl
              rotate_left
              · simp only [Act.put, List.setIfInBounds_toArray, List.set_cons_zero, List.set_cons_succ, i64_w, i32_w]
                rfl
              refine pure_ (i := 13) (N := some 127) (v := ?_) (a' := ?_) #[true, false, true, false, false, true, false, true, true, false, true, false, false, true, false, false, false, false, false, false, false, false, false, false, false] rfl rfl (by kernel_rfl) (fun _ _ _ h => h) (Or.inl ⟨by rfl, ?_⟩) ?_ ?_
              rotate_left
              · intro w'
                go_simp
                with_reducible rfl
              rotate_left
              · simp only [Act.put, List.setIfInBounds_toArray, List.set_cons_zero, List.set_cons_succ, i64_w, i32_w]
                rfl
              refine pure_ (i := 15) (N := some 129) (v := ?_) (a' := ?_) #[true, false, true, false, false, true, false, true, true, false, true, false, false, true, false, true, false, false, false, false, false, false, false, false, false] rfl rfl (by kernel_rfl) (fun _ _ _ h => h) (Or.inl ⟨by rfl, ?_⟩) ?_ ?_
              rotate_left
              · intro w'
                go_simp
                with_reducible rfl
              rotate_left
              · simp only [Act.put, List.setIfInBounds_toArray, List.set_cons_zero, List.set_cons_succ, i64_w, i32_w]
                rfl
              refine take_ (i := 1) (N := some 115) (v := ?_) (a' := ?_) #[true, true, true, false, false, true, false, true, true, false, true, false, false, true, false, true, false, false, false, false, false, false, false, false, false] rfl rfl (by kernel_rfl) (fun _ _ _ h => h) (Or.inl ⟨by rfl, ?_⟩) hHeld ?_ ?_
              rotate_left
              · rintro w' ⟨s0, s1, s2, s3, s4, s5⟩
                go_simp
                with_reducible rfl
              rotate_left
              · simp only [Act.put, List.setIfInBounds_toArray, List.set_cons_zero, List.set_cons_succ, i64_w, i32_w]
                rfl
              refine take_ (i := 6) (N := some 120) (v := ?_) (a' := ?_) #[true, true, true, false, false, true, true, true, true, false, true, false, false, true, false, true, false, false, false, false, false, false, false, false, false] rfl rfl (by kernel_rfl) (fun _ _ _ h => h) (Or.inl ⟨by rfl, ?_⟩) hHeld ?_ ?_
              rotate_left
              · rintro w' ⟨s0, s1, s2, s3, s4, s5⟩
                go_simp
                with_reducible rfl
              rotate_left
              · simp only [Act.put, List.setIfInBounds_toArray, List.set_cons_zero, List.set_cons_succ, i64_w, i32_w]
                rfl
              refine take_ (i := 9) (N := some 123) (v := ?_) (a' := ?_) #[true, true, true, false, false, true, true, true, true, true, true, false, false, true, false, true, false, false, false, false, false, false, false, false, false] rfl rfl (by kernel_rfl) (fun _ _ _ h => h) (Or.inl ⟨by rfl, ?_⟩) hHeld ?_ ?_
              rotate_left
              · rintro w' ⟨s0, s1, s2, s3, s4, s5⟩
                go_simp
                with_reducible rfl
              rotate_left
              · simp only [Act.put, List.setIfInBounds_toArray, List.set_cons_zero, List.set_cons_succ, i64_w, i32_w]
                rfl
              refine pure_ (i := 11) (N := some 125) (v := ?_) (a' := ?_) #[true, true, true, false, false, true, true, true, true, true, true, true, false, true, false, true, false, false, false, false, false, false, false, false, false] rfl rfl (by kernel_rfl) (fun _ _ _ h => h) (Or.inl ⟨by rfl, ?_⟩) ?_ ?_
              rotate_left
              · intro w'
                go_simp
                with_reducible rfl
              rotate_left
              · simp only [Act.put, List.setIfInBounds_toArray, List.set_cons_zero, List.set_cons_succ, i64_w, i32_w]
                rfl
              refine take_ (i := 12) (N := some 126) (v := ?_) (a' := ?_) #[true, true, true, false, false, true, true, true, true, true, true, true, true, true, false, true, false, false, false, false, false, false, false, false, false] rfl rfl (by kernel_rfl) (fun _ _ _ h => h) (Or.inl ⟨by rfl, ?_⟩) hHeld ?_ ?_
              rotate_left
              · rintro w' ⟨s0, s1, s2, s3, s4, s5⟩
                go_simp
                with_reducible rfl
              rotate_left
              · simp only [Act.put, List.setIfInBounds_toArray, List.set_cons_zero, List.set_cons_succ, i64_w, i32_w]
                rfl
              refine take_ (i := 14) (N := some 128) (v := ?_) (a' := ?_) #[true, true, true, false, false, true, true, true, true, true, true, true, true, true, true, true, false, false, false, false, false, false, false, false, false] rfl rfl (by kernel_rfl) (fun _ _ _ h => h) (Or.inl ⟨by rfl, ?_⟩) hHeld ?_ ?_
              rotate_left
              · rintro w' ⟨s0, s1, s2, s3, s4, s5⟩
                go_simp
                with_reducible rfl
              rotate_left
              · simp only [Act.put, List.setIfInBounds_toArray, List.set_cons_zero, List.set_cons_succ, i64_w, i32_w]
                rfl
              refine pure_ (i := 16) (N := some 130) (v := ?_) (a' := ?_) #[true, true, true, false, false, true, true, true, true, true, true, true, true, true, true, true, true, false, false, false, false, false, false, false, false] rfl rfl (by kernel_rfl) (fun _ _ _ h => h) (Or.inl ⟨by rfl, ?_⟩) ?_ ?_
              rotate_left
              · intro w'
                go_simp
                with_reducible rfl
              rotate_left
              · simp only [Act.put, List.setIfInBounds_toArray, List.set_cons_zero, List.set_cons_succ, i64_w, i32_w]
                rfl
              refine take_ (i := 17) (N := some 131) (v := ?_) (a' := ?_) #[true, true, true, false, false, true, true, true, true, true, true, true, true, true, true, true, true, true, false, false, false, false, false, false, false] rfl rfl (by kernel_rfl) (fun _ _ _ h => h) (Or.inl ⟨by rfl, ?_⟩) hHeld ?_ ?_
              rotate_left
              · rintro w' ⟨s0, s1, s2, s3, s4, s5⟩
                go_simp
                with_reducible rfl
              rotate_left
              · simp only [Act.put, List.setIfInBounds_toArray, List.set_cons_zero, List.set_cons_succ, i64_w, i32_w]
                rfl
              refine one_ (i := 3) (N := some 117) #[true, true, true, true, false, true, true, true, true, true, true, true, true, true, true, true, true, true, false, false, false, false, false, false, false] rfl rfl (by kernel_rfl) (by decide) (fun K hK => ?_)
              refine value_ (w1 := ?_) (v := ?_) (by rfl) rfl ?_ ?_
              rotate_left 2
              · go_simp
                constructor
                · rfl
                · rfl
              have b3 : (Wd.alloc (.cells #[.slice (some ⟨ng, 0, none⟩) s1.toNat nc] 33)).heap[Wd.heap.size]? = some (.cells #[.slice (some ⟨ng, 0, none⟩) s1.toNat nc] 33 (0, 0)) := blk_new _ _
              have hab : Below Wd.heap.size Wd (Wd.alloc (.cells #[.slice (some ⟨ng, 0, none⟩) s1.toNat nc] 33)) := below_alloc (Below.refl _ _) _
              have hsa : (Wd.alloc (.cells #[.slice (some ⟨ng, 0, none⟩) s1.toNat nc] 33)).heap.size = Wd.heap.size + 1 := by simp
              generalize Wd.alloc (.cells #[.slice (some ⟨ng, 0, none⟩) s1.toNat nc] 33) = Wa at b3 hab hsa ⊢
              have B3 := Aside0.mk b3
              have I3 := Aside0.mk (ID.out.below hab)
              have G3 := Aside0.mk (blk_below GD.out hab)
              have P3 := Aside0.mk (PD.out.below hab)
              have S3 := Aside0.mk (Kd.S_below SD.out hab)
              have E3 := Aside0.mk (Kd.R_below ED.out hab)
              have N3 := Aside0.mk (Kd.R_below ND.out hab)
              clear b3 hab
              refine hK.out _ _ ⟨(SIX.out _ I3.out G3.out).1, (SIX.out _ I3.out G3.out).2.1, (SIX.out _ I3.out G3.out).2.2.1, (SIX.out _ I3.out G3.out).2.2.2.1, (SIX.out _ I3.out G3.out).2.2.2.2.1, (SIX.out _ I3.out G3.out).2.2.2.2.2⟩ (fun hHeld => ?_)
              clear hK K
              refine norm_ (a' := ?_) ?_ ?_
              rotate_left
              · show Act.put _ (some 117) _ = _
                simp only [Act.put, List.setIfInBounds_toArray, List.set_cons_zero, List.set_cons_succ, i64_w, i32_w]
                rfl
              refine one_ (i := 4) (N := some 118) #[true, true, true, true, true, true, true, true, true, true, true, true, true, true, true, true, true, true, false, false, false, false, false, false, false] rfl rfl (by kernel_rfl) (by decide) (fun K hK => ?_)
              obtain ⟨inn, hown, fin⟩ := app_rows S3.out N3.out
              have hszI := I3.out.bel.size
              refine step_append_lies _ rfl (.tmp 115) (.tmp 117) _ rfl w.heap.size 33 i33 _ 1 24 Try.underlying22 hi33 hz33 hs33 hb33 rfl (by omega) nv rows.length inn rfl hown ⟨Wd.heap.size, 0, none⟩ 1 1 [.slice (some ⟨ng, 0, none⟩) s1.toNat nc] rfl rfl (World.news_of_block B3.out) (by simp [Value.oneCell']) (by omega) (by unfold maxLen; omega) (by omega) hszI Wa.heap.size rfl ?_
              intro gg cap4 Wb hown4 hgr4 hat4 hlt4
              have kp4 := Keeps.of_grown hown hgr4
              have bl4 := below_of_grown I3.out.bel hown hgr4
              have S4 := Aside0.mk (fin _ _ hown4 hgr4 (hat4.elim (fun h => .inl h.symm) (fun h => .inr ⟨_, rfl, Nat.le_of_eq h.symm⟩)))
              have I4 := Aside0.mk (I3.out.keeps kp4 (by decide) (by decide) bl4)
              have G4 := Aside0.mk (kp4.block _ _ _ (by decide) (by decide) G3.out)
              have P4 := Aside0.mk (P3.out.grown hown hgr4 (by decide) (by decide))
              have E4 := Aside0.mk (R_keeps E3.out kp4 (by decide))
              clear fin hown hown4 hgr4 hat4 hlt4 kp4 bl4 hszI
              refine hK.out _ _ ⟨(SIX.out _ I4.out G4.out).1, (SIX.out _ I4.out G4.out).2.1, (SIX.out _ I4.out G4.out).2.2.1, (SIX.out _ I4.out G4.out).2.2.2.1, (SIX.out _ I4.out G4.out).2.2.2.2.1, (SIX.out _ I4.out G4.out).2.2.2.2.2⟩ (fun hHeld => ?_)
              clear hK K
              refine norm_ (a' := ?_) ?_ ?_
              rotate_left
              · show Act.put _ (some 118) _ = _
                simp only [Act.put, List.setIfInBounds_toArray, List.set_cons_zero, List.set_cons_succ, i64_w, i32_w]
                rfl
              refine pure_ (i := 21) (N := some 135) (v := ?_) (a' := ?_) #[true, true, true, true, true, true, true, true, true, true, true, true, true, true, true, true, true, true, false, false, false, true, false, false, false] rfl rfl (by kernel_rfl) (fun _ _ _ h => h) (Or.inl ⟨by rfl, ?_⟩) ?_ ?_
              rotate_left
              · intro w'
                go_simp
                with_reducible rfl
              rotate_left
              · simp only [Act.put, List.setIfInBounds_toArray, List.set_cons_zero, List.set_cons_succ, i64_w, i32_w]
                rfl
              refine one_ (i := 18) (N := some 132) #[true, true, true, true, true, true, true, true, true, true, true, true, true, true, true, true, true, true, true, false, false, true, false, false, false] rfl rfl (by kernel_rfl) (by decide) (fun K hK => ?_)
              refine call_ gr (#[.bool q1, .bool q2] ++ lb) (by rfl) rfl ?_ ?_
              · unfold execOp
                simp [resolve, Deferred.ofValue, invoke, Act.eval, EG.out]
              refine (HRULE.out q1 q2 Wb).mono ?_
              rintro e Wc ⟨rfl, hdr⟩
              refine ⟨_, rfl, ?_⟩
              have hbl := hdr.below
              have S5 := Aside0.mk (Kd.S_below S4.out hbl)
              have I5 := Aside0.mk (I4.out.below hbl)
              have G5 := Aside0.mk (blk_below G4.out hbl)
              have P5 := Aside0.mk (P4.out.below hbl)
              have E5 := Aside0.mk (Kd.R_below E4.out hbl)
              clear hdr hbl
              refine hK.out _ _ ⟨(SIX.out _ I5.out G5.out).1, (SIX.out _ I5.out G5.out).2.1, (SIX.out _ I5.out G5.out).2.2.1, (SIX.out _ I5.out G5.out).2.2.2.1, (SIX.out _ I5.out G5.out).2.2.2.2.1, (SIX.out _ I5.out G5.out).2.2.2.2.2⟩ (fun hHeld => ?_)
              clear hK K
              refine norm_ (a' := ?_) ?_ ?_
              rotate_left
              · show Act.put _ (some 132) _ = _
                simp only [Act.put, List.setIfInBounds_toArray, List.set_cons_zero, List.set_cons_succ, i64_w, i32_w]
                rfl
              refine one_ (i := 19) (N := some 133) #[true, true, true, true, true, true, true, true, true, true, true, true, true, true, true, true, true, true, true, true, false, true, false, false, false] rfl rfl (by kernel_rfl) (by decide) (fun K hK => ?_)
              refine value_ (w1 := ?_) (v := ?_) (by rfl) rfl ?_ ?_
              rotate_left 2
              · go_simp
                constructor
                · rfl
                · rfl
              have b6 : (Wc.alloc (.cells #[.bool (rule q1 q2)] 4)).heap[Wc.heap.size]? = some (.cells #[.bool (rule q1 q2)] 4 (0, 0)) := blk_new _ _
              have hab : Below Wc.heap.size Wc (Wc.alloc (.cells #[.bool (rule q1 q2)] 4)) := below_alloc (Below.refl _ _) _
              have hsa : (Wc.alloc (.cells #[.bool (rule q1 q2)] 4)).heap.size = Wc.heap.size + 1 := by simp
              generalize Wc.alloc (.cells #[.bool (rule q1 q2)] 4) = Wf at b6 hab hsa ⊢
              have B6 := Aside0.mk b6
              have I6 := Aside0.mk (I5.out.below hab)
              have G6 := Aside0.mk (blk_below G5.out hab)
              have P6 := Aside0.mk (P5.out.below hab)
              have S6 := Aside0.mk (Kd.S_below S5.out hab)
              have E6 := Aside0.mk (Kd.R_below E5.out hab)
              clear b6 hab
              refine hK.out _ _ ⟨(SIX.out _ I6.out G6.out).1, (SIX.out _ I6.out G6.out).2.1, (SIX.out _ I6.out G6.out).2.2.1, (SIX.out _ I6.out G6.out).2.2.2.1, (SIX.out _ I6.out G6.out).2.2.2.2.1, (SIX.out _ I6.out G6.out).2.2.2.2.2⟩ (fun hHeld => ?_)
              clear hK K
              refine norm_ (a' := ?_) ?_ ?_
              rotate_left
              · show Act.put _ (some 133) _ = _
                simp only [Act.put, List.setIfInBounds_toArray, List.set_cons_zero, List.set_cons_succ, i64_w, i32_w]
                rfl
              refine one_ (i := 20) (N := some 134) #[true, true, true, true, true, true, true, true, true, true, true, true, true, true, true, true, true, true, true, true, true, true, false, false, false] rfl rfl (by kernel_rfl) (by decide) (fun K hK => ?_)
              obtain ⟨inn, hown, fin⟩ := app_ends (rule q1 q2) E6.out
              have hszI := I6.out.bel.size
              have hel := ELEN.out
              refine step_append_lies _ rfl (.tmp 120) (.tmp 133) _ rfl w.heap.size 4 i4 _ 1 1 Try.underlying23 hi4 hz4 hs4 hb4 rfl (by omega) ev _ inn rfl hown ⟨Wc.heap.size, 0, none⟩ 1 1 [.bool (rule q1 q2)] rfl rfl (World.news_of_block B6.out) (by simp [Value.oneCell']) (by omega) (by unfold maxLen; omega) (by omega) hszI Wf.heap.size rfl ?_
              intro gg2 cap7 Wg hown4 hgr4 hat4 hlt4
              have kp4 := Keeps.of_grown hown hgr4
              have bl4 := below_of_grown I6.out.bel hown hgr4
              have E7 := Aside0.mk (fin _ _ hown4 hgr4 (hat4.elim (fun h => .inl h.symm) (fun h => .inr ⟨_, rfl, Nat.le_of_eq h.symm⟩)))
              have I7 := Aside0.mk (I6.out.keeps kp4 (by decide) (by decide) bl4)
              have G7 := Aside0.mk (kp4.block _ _ _ (by decide) (by decide) G6.out)
              have P7 := Aside0.mk (P6.out.grown hown hgr4 (by decide) (by decide))
              have S7 := Aside0.mk (S_keeps S6.out kp4 (by decide))
              have f1 := blk_frozen G7.out 1
              have f2 := blk_frozen G7.out 2
              have c1_ := blk_cell G7.out 1
              have c2_ := blk_cell G7.out 2
              clear fin hown hown4 hgr4 hat4 hlt4 kp4 bl4 hszI hel
              refine hK.out _ _ ⟨(SIX.out _ I7.out G7.out).1, (SIX.out _ I7.out G7.out).2.1, (SIX.out _ I7.out G7.out).2.2.1, (SIX.out _ I7.out G7.out).2.2.2.1, (SIX.out _ I7.out G7.out).2.2.2.2.1, (SIX.out _ I7.out G7.out).2.2.2.2.2⟩ (fun hHeld => ?_)
              clear hK K
              refine norm_ (a' := ?_) ?_ ?_
              rotate_left
              · show Act.put _ (some 134) _ = _
                simp only [Act.put, List.setIfInBounds_toArray, List.set_cons_zero, List.set_cons_succ, i64_w, i32_w]
                rfl
              refine last_ (i := 22) (N := none) #[true, true, true, true, true, true, true, true, true, true, true, true, true, true, true, true, true, true, true, true, true, true, true, false, false] rfl rfl (by kernel_rfl) (by decide) (fun K hK => ?_)
              refine skip_ (w1 := ?_) (by rfl) rfl ?_ ?_
              rotate_left
              · go_simp
                rfl
              refine hK.out _ _ ?_
              clear hK K
              refine pure_ (i := 23) (N := some 136) (v := ?_) (a' := ?_) #[true, true, true, true, true, true, true, true, true, true, true, true, true, true, true, true, true, true, true, true, true, true, true, true, false] rfl rfl (by kernel_rfl) (fun _ _ _ h => h) (Or.inl ⟨by rfl, ?_⟩) ?_ ?_
              rotate_left
              · intro w'
                go_simp
                with_reducible rfl
              rotate_left
              · simp only [Act.put, List.setIfInBounds_toArray, List.set_cons_zero, List.set_cons_succ, i64_w, i32_w]
                rfl
              refine last_ (i := 24) (N := none) #[true, true, true, true, true, true, true, true, true, true, true, true, true, true, true, true, true, true, true, true, true, true, true, true, true] rfl rfl (by kernel_rfl) (by decide) (fun K hK => ?_)
              refine skip_ (w1 := ?_) (by rfl) rfl ?_ ?_
              rotate_left
              · go_simp
                rfl
              refine hK.out _ _ ?_
              clear hK K
              refine done_ (by kernel_rfl) ?_
              -- REGION 18 END
              obtain ⟨Wz, hWz⟩ : ∃ Wz, Wz = (Wg.setCell ⟨W1.heap.size, 1, none⟩ (.slice (some ⟨gg, 0, none⟩) (rows.length + 1) cap4)).setCell ⟨W1.heap.size, 2, none⟩ (.slice (some ⟨gg2, 0, none⟩) (ens.length + 1) cap7) := ⟨_, rfl⟩
              rw [← hWz]
              have IZ := (I7.out.far hge 1 (.slice (some ⟨gg, 0, none⟩) (rows.length + 1) cap4)).far hge 2 (.slice (some ⟨gg2, 0, none⟩) (ens.length + 1) cap7)
              have OZ := PO.stored G7.out hge S7.out E7.out
              have hb1 := blk_put G7.out 1 (.slice (some ⟨gg, 0, none⟩) (rows.length + 1) cap4) rfl
              have PZ := (P7.out.far (p := ⟨W1.heap.size, 1, none⟩) G7.out (by decide) (by decide) (.slice (some ⟨gg, 0, none⟩) (rows.length + 1) cap4)).far (p := ⟨W1.heap.size, 2, none⟩) hb1 (by decide) (by decide) (.slice (some ⟨gg2, 0, none⟩) (ens.length + 1) cap7)
              rw [← hWz] at IZ OZ PZ
              have hen := ends_snoc (fun x => rule (e1.getD x.1.toNat false) (e2.getD x.2.toNat false)) PFX.out HX.out
              rw [← HENS.out] at hen
              simp only [← Z2.out, ← Z4.out] at hen
              have IZ' := Aside0.mk IZ
              have PZ' := Aside0.mk PZ
              have OZ' := Aside0.mk OZ
              have HEN := Aside0.mk hen
              clear IZ OZ PZ hb1 hWz f1 f2 c1_ c2_ hi33 hz33 hs33 hb33 hi4 hz4 hs4 hb4 hen I7 G7 S7 E7 P7
              go_wp2_with fail
              go_roundg K
              case measure => omega
              case rel =>
                refine ⟨l2, rows ++ [ks], by simp, IZ', PZ', ⟨?_⟩, TE, BD⟩
                have h1 := OZ'.out
                rw [HEN.out] at h1
                simpa using h1
        · have hltb : decide ((rows.length : Int) < (l.length : Int)) = false := decide_eq_false (by omega)
          have hT := TE.out.done (by omega)
          have hrl : rows.length = l.length := Nat.le_antisymm TE.out.2.2.1 (by omega)
          rw [List.take_of_length_le (Nat.le_of_eq hrl.symm)] at he
          have e : r1 = s1 ∧ r2 = rows ∧ r3 = l.map (fun x => rule (e1.getD x.1.toNat false) (e2.getD x.2.toNat false)) ∧ r4 = 0 := by
            have := HH.out
            rw [hT] at this
            simp only [Prod.mk.injEq] at this
            exact ⟨this.1.symm, this.2.1.symm, this.2.2.1.symm, this.2.2.2.symm⟩
          obtain ⟨rfl, rfl, hr3, rfl⟩ := e
          rw [← hr3] at he
          clear hr3 HH hT hrl hrow hpl
          have k6 := II.out.o 0
          have k7 := II.out.o 1
          have k8 := II.out.o 2
          have m6 := blk_frozen II.out.ho 0
          have m7 := blk_frozen II.out.ho 1
          have m8 := blk_frozen II.out.ho 2
          obtain ⟨Av, cv, rfl⟩ := Kd.S_slice hn
          obtain ⟨Ae, ce, rfl⟩ := Kd.R_slice he
          obtain ⟨kp3, hb3, bl3⟩ := keeps_put3 II.out.bel (show w.heap.size ≤ w.heap.size + 1 + 1 by omega) II.out.ho (.int .i64 r1) (.slice Av _ cv) (.slice Ae _ ce)
          have FIN := Aside0.mk (And.intro hb3 (And.intro (S_keeps (S_apart hn he) kp3 (by decide)) (R_keeps he kp3 (by decide))))
          have BEL := Aside0.mk bl3
          replace hb3 := Aside0.mk hb3
          replace kp3 := Aside0.mk kp3
          go_wp2_with fail
          refine bodyPost_ret (results_ct rfl _ _ (w.heap.size + 1 + 1) 25 #[.int .i64 r1, _, _] (0, 0) _ rfl FIN.out.1 Try.underlying25 rfl (by kernel_rfl)) rfl ?_
          exact ⟨_, _, rfl, FIN.out.2.1, FIN.out.2.2, BEL.out⟩
end Go.Proofs.Ytpedenbcfbflbaa.X
