import Derived.Test.YtpedenbcfbflbaaXBehind
import Derived.Test.YtpedenbcfbflbaaTab
import Derived.Test.YtpedenbcfbflbaaXMid
import Derived.Test.YtpedenbcfbflbaaXTail
import Derived.Deep.RegionLaw
import Derived.Deep.DrawnRows
import Derived.Deep.DeepMust
namespace Go.Proofs.Ytpedenbcfbflbaa.X
open Go.RowKit Go.Proofs.YtpedenbcfbflbaaW.PrintWords Go.Proofs.YtpedenbcfbflbaaW.PrintLast Go.Proofs.YtpedenbcfbflbaaW.PrintMore Go.Maps Num
set_option linter.unusedVariables false
set_option linter.unusedSimpArgs false

set_option maxHeartbeats 4000000 in
set_option maxRecDepth 100000 in
theorem mark_of (s1 : Int) (A1 : Option Addr) (c1 : Nat) (n1 : List (List Int)) (B1 : Option Addr) (d1 : Nat) (e1 : List Bool) (s2 : Int) (A2 : Option Addr) (c2 : Nat) (n2 : List (List Int)) (B2 : Option Addr) (d2 : Nat) (e2 : List Bool) (most : Int) (w : World)
    (hr1 : Kd.C (Kd.slice 3 (Kd.int .i64)) w A1 n1.length n1) (hc1 : n1.length ≤ c1) (hb1 : Kd.C Kd.bool w B1 e1.length e1) (hd1 : e1.length ≤ d1)
    (hr2 : Kd.C (Kd.slice 3 (Kd.int .i64)) w A2 n2.length n2) (hc2 : n2.length ≤ c2) (hb2 : Kd.C Kd.bool w B2 e2.length e2) (hd2 : e2.length ≤ d2)
    (r1 : Int) (r2 : List (List Int)) (r3 : List Bool) (r4 : Int) (h : markF s1 n1 e1 s2 n2 e2 most = (r1, r2, r3, r4)) :
    Calls Try.prog 14 #[.agg #[.int .i64 s1, .slice A1 n1.length c1, .slice B1 e1.length d1], .agg #[.int .i64 s2, .slice A2 n2.length c2, .slice B2 e2.length d2], .int .i64 most] w
      fun e w' => ∃ v1_ v2_ : Value, e = .returned (.tuple #[.agg #[.int .i64 r1, v1_, v2_], .int .i64 r4]) ∧ Kd.S (Kd.slice 3 (Kd.int .i64)) 33 w' w.heap.size (fun k_ => some k_ ≠ (v2_ : Value).ownBlock) v1_ r2 ∧ Kd.R Kd.bool 4 w' w.heap.size (fun k_ => True) v2_ r3 ∧ Below w.heap.size w w' := by
  have hu25 := Try.underlying25
  have HR1 := Aside0.mk hr1
  have HR2 := Aside0.mk hr2
  have HB1 := Aside0.mk hb1
  have HB2 := Aside0.mk hb2
  have H := Aside0.mk h
  have hca := fun W hr hb => det_Right s1 A1 c1 n1 B1 d1 e1 W hr hc1 hb hd1
  have hcb := fun W hr hb => det_Right s2 A2 c2 n2 B2 d2 e2 W hr hc2 hb hd2
  have HCA := Aside0.mk hca
  have HCB := Aside0.mk hcb
  clear hr1 hr2 hb1 hb2 h hca hcb
  go_enter Try.func14, Try.ntmps14
  go_upto_region 1 with (fail)
  obtain ⟨W0, hW0⟩ : ∃ W0, W0 = ((w.alloc (.cells #[.int .i64 s1, .slice A1 n1.length c1, .slice B1 e1.length d1] 25)).alloc (.cells #[.int .i64 s2, .slice A2 n2.length c2, .slice B2 e2.length d2] 25)).alloc (.cells #[.int .i64 0, .slice none 0 0, .slice none 0 0] 25) := ⟨_, rfl⟩
  have I0 : Init3 w #[.int .i64 s1, .slice A1 n1.length c1, .slice B1 e1.length d1] #[.int .i64 s2, .slice A2 n2.length c2, .slice B2 e2.length d2] #[.int .i64 0, .slice none 0 0, .slice none 0 0] W0 := by rw [hW0]; exact Init3.start _ _ _ _
  rw [← hW0]
  clear hW0
  go_cut [41] (fun v41 wc => v41 = .bool (markBad s1 n1 e1 s2 n2 e2 most) ∧ Init3 w #[.int .i64 s1, .slice A1 n1.length c1, .slice B1 e1.length d1] #[.int .i64 s2, .slice A2 n2.length c2, .slice B2 e2.length d2] #[.int .i64 0, .slice none 0 0, .slice none 0 0] wc)
  case first =>
    have k0 := I0.a 0
    have k1 := I0.a 1
    have k2 := I0.a 2
    have II := Aside0.mk I0
    clear I0
    cases hq1 : rightB s1 n1 e1 with
    | false =>
      have e : markBad s1 n1 e1 s2 n2 e2 most = true := by simp [markBad, hq1]
      have HE := Aside0.mk e
      have HC := HCA.out W0 (Kd.C_below HR1.out II.out.bel) (Kd.C_below HB1.out II.out.bel)
      rw [hq1] at HC
      clear hq1 e
      go_wp2_with (go_at_call 44; refine HC.mono ?_; rintro e w' ⟨rfl, hb⟩)
      have I1 := Aside0.mk (II.out.below hb)
      go_meet
      case rel => exact ⟨by rw [HE.out], I1.out⟩
    | true =>
      have HC := HCA.out W0 (Kd.C_below HR1.out II.out.bel) (Kd.C_below HB1.out II.out.bel)
      rw [hq1] at HC
      have HQ1 := Aside0.mk hq1
      clear hq1
      go_wp2_with fail
      refine HC.mono ?_
      rintro e Wa ⟨rfl, hb⟩
      clear HC
      have I1 := II.out.below hb
      have k0 := I1.a 0
      have k3 := I1.b 0
      have k4 := I1.b 1
      have k5 := I1.b 2
      have II := Aside0.mk I1
      clear I1 hb k1 k2
      have HC := HCB.out Wa (Kd.C_below HR2.out II.out.bel) (Kd.C_below HB2.out II.out.bel)
      cases hq2 : rightB s2 n2 e2 with
      | false =>
        have e : markBad s1 n1 e1 s2 n2 e2 most = true := by simp [markBad, hq2]
        have HE := Aside0.mk e
        rw [hq2] at HC
        clear hq2 e
        go_wp2_with (go_at_call 44; refine HC.mono ?_; rintro e w' ⟨rfl, hb⟩)
        have I1 := Aside0.mk (II.out.below hb)
        go_meet
        case rel => exact ⟨by rw [HE.out], I1.out⟩
      | true =>
        rw [hq2] at HC
        have HQ2 := Aside0.mk hq2
        clear hq2
        go_wp2_with fail
        refine HC.mono ?_
        rintro e Wb ⟨rfl, hb⟩
        clear HC
        have I1 := II.out.below hb
        have k0 := I1.a 0
        have k3 := I1.b 0
        have II := Aside0.mk I1
        clear I1 hb k4 k5
        by_cases hs : s1 = s2
        · have hsb : (s1 != s2) = false := bne_eq_false_iff_eq.2 hs
          by_cases h0 : 200 < s1
          · have hb0 : decide (200 < s1) = true := decide_eq_true h0
            have HE : Aside0 (markBad s1 n1 e1 s2 n2 e2 most = true) := ⟨by simp [markBad, h0]⟩
            clear hs h0
            go_wp2_with fail
            go_meet
            case rel => exact ⟨by rw [HE.out], II.out⟩
          · have hb0 : decide (200 < s1) = false := decide_eq_false h0
            by_cases h1 : most < 1
            · have hb1 : decide (most < 1) = true := decide_eq_true h1
              have HE : Aside0 (markBad s1 n1 e1 s2 n2 e2 most = true) := ⟨by simp [markBad, h1]⟩
              clear hs h0 h1
              go_wp2_with fail
              go_meet
              case rel => exact ⟨by rw [HE.out], II.out⟩
            · have hb1 : decide (most < 1) = false := decide_eq_false h1
              by_cases h2 : 3000 < most
              · have hb2 : decide (3000 < most) = true := decide_eq_true h2
                have HE : Aside0 (markBad s1 n1 e1 s2 n2 e2 most = true) := ⟨by simp [markBad, h2]⟩
                clear hs h0 h1 h2
                go_wp2_with fail
                go_meet
                case rel => exact ⟨by rw [HE.out], II.out⟩
              · have hb2 : decide (3000 < most) = false := decide_eq_false h2
                have HE : Aside0 (markBad s1 n1 e1 s2 n2 e2 most = false) := ⟨markBad_ok HQ1.out HQ2.out hs h0 h1 h2⟩
                clear hs h0 h1 h2
                go_wp2_with fail
                go_meet
                case rel => exact ⟨by rw [HE.out], II.out⟩
        · have hsb : (s1 != s2) = true := bne_iff_ne.2 hs
          have HE : Aside0 (markBad s1 n1 e1 s2 n2 e2 most = true) := ⟨by simp [markBad, hs]⟩
          clear hs
          go_wp2_with fail
          go_meet
          case rel => exact ⟨by rw [HE.out], II.out⟩
  case rest =>
    obtain ⟨rfl, I1⟩ := hcut
    have k0 := I1.a 0
    have k1 := I1.a 1
    have k2 := I1.a 2
    have k3 := I1.b 0
    have k4 := I1.b 1
    have k5 := I1.b 2
    have k6 := I1.o 0
    have k7 := I1.o 1
    have k8 := I1.o 2
    have m6 := blk_frozen I1.ho 0
    have m7 := blk_frozen I1.ho 1
    have m8 := blk_frozen I1.ho 2
    have II := Aside0.mk I1
    clear I1
    cases hbad : markBad s1 n1 e1 s2 n2 e2 most with
    | true =>
      have e : r1 = 0 ∧ r2 = [] ∧ r3 = [] ∧ r4 = 1 := by
        have := H.out
        simp only [markF, hbad, if_true, Prod.mk.injEq] at this
        exact ⟨this.1.symm, this.2.1.symm, this.2.2.1.symm, this.2.2.2.symm⟩
      obtain ⟨rfl, rfl, rfl, rfl⟩ := e
      clear hbad H HR1 HR2 HB1 HB2 HCA HCB
      go_wp2_with fail
      refine bodyPost_ret (results_ct rfl _ _ (w.heap.size + 1 + 1) 25 #[.int .i64 0, .slice none 0 0, .slice none 0 0] (0, 0) _ rfl (by refine blk_put (cs := #[.int .i64 0, .slice none 0 0, .slice none 0 0]) ?_ 2 _ rfl; refine blk_put (cs := #[.int .i64 0, .slice none 0 0, .slice none 0 0]) ?_ 1 _ rfl; refine blk_put (cs := #[.int .i64 0, .slice none 0 0, .slice none 0 0]) ?_ 0 _ rfl; exact II.out.ho) Try.underlying25 rfl (by kernel_rfl)) rfl ?_
      exact ⟨_, _, rfl, Kd.S_nil _ _ _ _ _, Kd.R_nil _ _ _ _ _, below_put3 II.out.bel (by omega) _ _ _⟩
    | false =>
      have hmm := @run_makeMap Try.prog
      obtain ⟨q1, q2, q3, q6, q4, q5⟩ := markBad_inv hbad
      subst q3
      go_wp2_with fail
      have P0 := PM.start (gx := w.heap.size) (v0 := .int .i64 s1) (v1 := .slice A1 n1.length c1) (v2 := .slice B1 e1.length d1) (v3 := .int .i64 s1) (v4 := .slice A2 n2.length c2) (v5 := .slice B2 e2.length d2) II.out.bel
      have I0' := (II.out.below (below_alloc (Below.refl _ _) (.map #[] 0))).below (below_alloc (Below.refl _ _) (.cells #[.int .i64 s1, .slice A1 n1.length c1, .slice B1 e1.length d1, .int .i64 s1, .slice A2 n2.length c2, .slice B2 e2.length d2, .map (some wc.heap.size), .slice none 0 0] 52))
      refine (P0.number (0, 0) (by decide) (by decide) I0'.bel (by simp) I0'.ha (by decide)).mono ?_
      rintro e W1 ⟨rfl, P1, hB1, hk1, _⟩
      have I1 := I0'.keeps hk1 (by decide) (by decide) hB1
      have k0 := I1.a 0
      have II := Aside0.mk I1
      have PP := Aside0.mk P1
      have HH : Aside0 (markRes (2 * s1) e2 (table (nextM n1 e1 n2) (2 * s1).toNat most.toNat (most.toNat + 1) 0 [(0, 0)]) = (r1, r2, r3, r4)) := ⟨by
        have := H.out
        unfold markF at this
        rw [hbad] at this
        simpa using this⟩
      have R1 := Aside0.mk (rightB_spec q1)
      have R2 := Aside0.mk (rightB_spec q2)
      obtain ⟨T, hT⟩ : ∃ T, T = table (nextM n1 e1 n2) (2 * s1).toNat most.toNat (most.toNat + 1) 0 [(0, 0)] := ⟨_, rfl⟩
      rw [← hT] at HH
      have TS := Aside0.mk (hT ▸ TEq.start (f := nextM n1 e1 n2) (sg := (2 * s1).toNat) (mo := most.toNat) (x0 := (0, 0)) (by omega))
      have BS : Aside0 (BdM n1.length n2.length [(0, 0)]) := ⟨fun x hx => by
        rw [List.mem_singleton] at hx; subst hx
        have := R1.out.2.2.1
        exact .inl ⟨.inl rfl, by simp, by simp; omega⟩⟩
      have hmst : most ≤ 3000 := q5
      have hmst1 : 1 ≤ most := q4
      have hs0 := R1.out.1
      obtain ⟨sg, hsg⟩ : ∃ sg, sg = 2 * s1 := ⟨_, rfl⟩
      have hwr : IntKind.i64.wrap (2 * s1) = sg := by rw [hsg, IntKind.wrap_i64]; omega
      have hsg4 : sg ≤ 400 := by omega
      have hsg2 : 2 ≤ sg := by omega
      rw [← hsg] at HH TS
      have HSG := Aside0.mk hsg
      clear hsg
      clear I1 P1 P0 hB1 hk1 I0' k1 k2 k3 k4 k5 k6 k7 k8 m6 m7 m8 H hT q1 q2 q4 q5 q6 hbad HCA HCB hmm I0
      go_wp2_with fail
      have PW0 : Aside0 (PM w (wc.heap.size + 1) wc.heap.size w.heap.size (.int .i64 s1) (.slice A1 n1.length c1) (.slice B1 e1.length d1) (.int .i64 s1) (.slice A2 n2.length c2) (.slice B2 e2.length d2) [(0, 0)] (W1.alloc (.cells #[.int .i64 sg, .slice none 0 0, .slice none 0 0] 25))) := ⟨PP.out.below (below_alloc (Below.refl _ _) _)⟩
      have OW0 : Aside0 (PO w W1.heap.size sg (fun _ => True) [] [] (W1.alloc (.cells #[.int .i64 sg, .slice none 0 0, .slice none 0 0] 25))) := ⟨PO.start II.out⟩
      have IW0 : Aside0 (Init3 w #[.int .i64 s1, .slice A1 n1.length c1, .slice B1 e1.length d1] #[.int .i64 s1, .slice A2 n2.length c2, .slice B2 e2.length d2] #[.int .i64 0, .slice none 0 0, .slice none 0 0] (W1.alloc (.cells #[.int .i64 sg, .slice none 0 0, .slice none 0 0] 25))) := ⟨II.out.below (below_alloc (Below.refl _ _) _)⟩
      clear PP II k0 hwr
      go_loopg [10] (most.toNat + 1) (fun kq v10 W => ∃ (l : List (Int × Int)) (rows : List (List Int)), v10 = .int .i64 rows.length ∧ Aside0 (Init3 w #[.int .i64 s1, .slice A1 n1.length c1, .slice B1 e1.length d1] #[.int .i64 s1, .slice A2 n2.length c2, .slice B2 e2.length d2] #[.int .i64 0, .slice none 0 0, .slice none 0 0] W) ∧
        Aside0 (PM w (wc.heap.size + 1) wc.heap.size w.heap.size (.int .i64 s1) (.slice A1 n1.length c1) (.slice B1 e1.length d1) (.int .i64 s1) (.slice A2 n2.length c2) (.slice B2 e2.length d2) l W) ∧ Aside0 (PO w W1.heap.size sg (fun _ => True) rows ((l.take rows.length).map (endM e2)) W) ∧ Aside0 (TEq (nextM n1 e1 n2) sg.toNat most.toNat T kq l rows) ∧ Aside0 (BdM n1.length n2.length l))
      case atStart => exact ⟨[(0, 0)], [], rfl, IW0, PW0, by simpa using OW0, TS, BS⟩
      case round =>
        clear IW0 PW0 OW0 TS BS
        obtain ⟨l, rows, rfl, II, PP, OO, TE, BD⟩ := hrel
        obtain ⟨⟨LA, lc, hpl, hrow, hav⟩, _, _, _⟩ := PP.out
        obtain ⟨⟨nv, ev, hob, hn, he⟩, hge⟩ := OO.out
        have hll : l.length ≤ 3000 := by have := TE.out.2.1; omega
        have p1 : wr.cell? ⟨wc.heap.size + 1, 7, none⟩ = some (.slice LA l.length lc) := (blk_cell hpl 7).trans rfl
        have o0 := blk_cell hob 0
        have o1 := blk_cell hob 1
        have o2 := blk_cell hob 2
        by_cases hlt : rows.length < l.length
        · have hltb : decide ((rows.length : Int) < (l.length : Int)) = true := decide_eq_true (by omega)
          obtain ⟨x, hx⟩ : ∃ x, l[rows.length]? = some x := ⟨_, List.getElem?_eq_getElem hlt⟩
          obtain ⟨lg, rfl, x1, x2⟩ := state_cells hrow _ x hx
          have HX := Aside0.mk hx
          have HROW := Aside0.mk hrow
          have HN := Aside0.mk hn
          have HE := Aside0.mk he
          have HOB := Aside0.mk hob
          have hlt0 : (rows.length : Int) < (l.length : Int) := by omega
          clear hpl hrow hob hn he hx hav
          go_upto_region 10 with (fail)
          obtain ⟨gx, hgx⟩ : ∃ gx, gx = wr.heap.size := ⟨_, rfl⟩
          obtain ⟨Wx, hWx⟩ : ∃ Wx, Wx = wr.alloc (.cells #[.int .i64 x.1, .int .i64 x.2] 55) := ⟨_, rfl⟩
          have hbx : Below wr.heap.size wr Wx := by rw [hWx]; exact below_alloc (Below.refl _ _) _
          have XB := Aside0.mk (show Wx.heap[gx]? = some (.cells #[.int .i64 x.1, .int .i64 x.2] 55 (0, 0)) by rw [hWx, hgx]; exact blk_new _ _)
          rw [← hWx]
          rw [← hgx]
          have IIx := Aside0.mk (II.out.below hbx)
          have PPx := Aside0.mk ((PP.out.box (g := gx) (by omega)).below hbx)
          have OOx := Aside0.mk (OO.out.below hbx)
          have o0 : Wx.cell? ⟨W1.heap.size, 0, none⟩ = some (.int .i64 sg) := (blk_cell (blk_below HOB.out hbx) 0).trans rfl
          have hBq := IIx.out.bel
          have hbs := hBq.size
          have HBQ := Aside0.mk hBq
          clear hBq hWx hbx hgx II PP OO p1 o1 o2 HOB HN HE HROW x1 x2
          go_wp2_with ((with_reducible refine gate_dst (N := 73) rfl ?_); go_must (refine Kd.R_make (Kd.int .i64) w.heap.size 3 rfl (N := 73) rfl 33 _ _ rfl sg rfl rfl Try.underlying33 (.int .i64 0) 8 info3 rfl (by decide) (by omega) 0 (ok := fun k => Wx.heap.size ≤ k) (okp := fun k => Wx.heap.size ≤ k) rfl (fun _ hk => hk) (by simp) (by omega) (by omega) HBQ.out (by omega) ?_); intro nx W2 hnx hB2 hg2 hnew2; obtain ⟨ng, nc, hnv, _, hngl, _⟩ := Kd.R_form hnx (by simp; omega); rw [List.length_replicate] at hnv; subst hnv)
          obtain ⟨K, rfl, RE0⟩ := TE.out.into HX.out
          have hngw : Wx.heap.size ≤ ng := hnx.1 ng rfl
          have hbw : Below Wx.heap.size Wx W2 := pw_below_grown (Below.refl _ _) none (Nat.le_refl _) hg2 (fun k e => by cases e)
          have II2 := Aside0.mk (IIx.out.below hbw)
          have PP2 := Aside0.mk (PPx.out.below hbw)
          have OO2 : Aside0 (PO w W1.heap.size sg (fun k => k ≠ ng) rows ((l.take rows.length).map (endM e2)) W2) := ⟨(OOx.out.old.below hbw).mono (fun k hk => by omega)⟩
          have XB2 := Aside0.mk (blk_below XB.out hbw)
          have NX2 : Aside0 (Kd.R (Kd.int .i64) 3 W2 w.heap.size (fun _ => True) (.slice (some ⟨ng, 0, none⟩) sg.toNat nc) (([] : List Int) ++ List.replicate sg.toNat 0)) := ⟨Kd.R_mono hnx (fun _ _ => trivial)⟩
          have REa := Aside0.mk RE0
          have hxb := BD.out x (List.mem_of_getElem? HX.out)
          have HXB := Aside0.mk hxb
          clear hnx hB2 hg2 hnew2 hngl hbw RE0 hxb o0 IIx PPx OOx XB
          go_loopg [13, 76] sg.toNat (fun kq v13 v76 W => ∃ (l2 : List (Int × Int)) (ks : List Int), v76 = .int .i64 ks.length ∧ Aside0 (Init3 w #[.int .i64 s1, .slice A1 n1.length c1, .slice B1 e1.length d1] #[.int .i64 s1, .slice A2 n2.length c2, .slice B2 e2.length d2] #[.int .i64 0, .slice none 0 0, .slice none 0 0] W) ∧
            Aside0 (PM w (wc.heap.size + 1) wc.heap.size gx (.int .i64 s1) (.slice A1 n1.length c1) (.slice B1 e1.length d1) (.int .i64 s1) (.slice A2 n2.length c2) (.slice B2 e2.length d2) l2 W) ∧ Aside0 (PO w W1.heap.size sg (fun k => k ≠ ng) rows ((l.take rows.length).map (endM e2)) W) ∧ Aside0 (Kd.R (Kd.int .i64) 3 W w.heap.size (fun _ => True) (.slice (some ⟨ng, 0, none⟩) sg.toNat nc) (ks ++ List.replicate kq 0)) ∧ Aside0 (REq (nextM n1 e1 n2) sg.toNat most.toNat T K rows l x kq l2 ks) ∧ Aside0 (BdM n1.length n2.length l2) ∧ Aside0 (W.heap[gx]? = some (.cells #[.int .i64 x.1, .int .i64 x.2] 55 (0, 0))))
          case atStart => exact ⟨l, [], rfl, II2, PP2, OO2, NX2, REa, BD, XB2⟩
          case round =>
            clear II2 PP2 OO2 NX2 REa BD XB2
            obtain ⟨l2, ks, rfl, II, PP, OO, NX, RE, BD, XB⟩ := hrel
            by_cases hs : ks.length < sg.toNat
            · have hsb : decide ((ks.length : Int) < (sg.toNat : Int)) = true := decide_eq_true (by omega)
              have t0 := blk_cell XB.out 0
              have t1 := blk_cell XB.out 1
              go_wp2_with fail
              have ha1 : ((ks.length : Int) / 2) = ((ks.length / 2 : Nat) : Int) := by omega
              have ha2 := and_odd ks.length (by omega)
              rw [ha1, ha2]
              clear ha1 ha2
              obtain ⟨⟨LA2, lc2, hpl, _, _⟩, _, _, _⟩ := PP.out
              obtain ⟨y, hy⟩ : ∃ y, nextM n1 e1 n2 x ks.length = y := ⟨_, rfl⟩
              have hsg' := HSG.out
              refine (behind46 s1 s1 A1 c1 n1 B1 d1 e1 A2 c2 n2 B2 d2 e2 _ _ (wc.heap.size + 1) wr (Kd.C_below HR1.out II.out.bel) (Kd.C_below HB1.out II.out.bel) (Kd.C_below HR2.out II.out.bel) (Kd.C_below HB2.out II.out.bel) R1.out.2.2.2.2.2 R2.out.2.2.2.2.2 R2.out.2.2.1 R1.out.2.2.2.2.1 R1.out.2.2.2.1 hpl x HXB.out ks.length (by omega) y hy).mono ?_
              rintro e Wb ⟨rfl, hbb⟩
              have hoy : okM n1.length n2.length y := hy ▸ nextM_ok R1.out.2.2.2.2.2 R2.out.2.2.2.2.2 R2.out.2.2.1 HXB.out (by omega)
              have hyb := okM_bounds hoy R1.out.2.2.2.1 R2.out.2.2.2.1
              have HOY := Aside0.mk hoy
              have HY := Aside0.mk hy
              have IIb := Aside0.mk (II.out.below hbb)
              have PPb := Aside0.mk (PP.out.below hbb)
              have OOb := Aside0.mk (OO.out.below hbb)
              have NXb := Aside0.mk (Kd.R_below NX.out hbb)
              have XBb := Aside0.mk (blk_below XB.out hbb)
              have hll2 : l2.length ≤ 3000 := by have := RE.out.2.1; omega
              clear hoy hy hpl hbb t0 t1 II PP OO NX XB hsg'
              go_wp2_with fail
              refine (PPb.out.number y (wf_of (by omega) (by omega)) (wf_of (by omega) (by omega)) IIb.out.bel (by omega) XBb.out (by decide)).mono ?_
              rintro e Wn ⟨rfl, Pn, hBn, hkn, hxn⟩
              have IIn := Aside0.mk (IIb.out.keeps hkn (by decide) (by decide) hBn)
              have OOn := Aside0.mk (OOb.out.keeps hkn (by decide))
              have NXn := Aside0.mk (R_keeps NXb.out hkn (by decide))
              have PPn := Aside0.mk Pn
              have XBn := Aside0.mk hxn
              obtain ⟨cN, fN⟩ := Kd.R_celln (0 : Int) NXn.out (ks.length : Int) (by omega) (by omega)
              rw [Int.toNat_natCast] at cN fN
              clear Pn hBn hkn hxn IIb PPb OOb NXb XBb
              go_upto_region 15 with (fail)
              obtain ⟨W3, hW3⟩ : ∃ W3, W3 = Wn.setCell ⟨ng, ks.length, none⟩ (.int .i64 (idx l2 y)) := ⟨_, rfl⟩
              rw [← hW3]
              obtain ⟨⟨cells3, hb3⟩, hng3⟩ := row_block NXn.out
              have II3 := IIn.out.put hb3 hng3 ks.length (.int .i64 (idx l2 y))
              rw [← hW3] at II3
              replace II3 := Aside0.mk II3
              have PP3 := PPn.out.far (p := ⟨ng, ks.length, none⟩) hb3 (by decide) (by decide) (.int .i64 (idx l2 y))
              rw [← hW3] at PP3
              replace PP3 := Aside0.mk PP3
              have OO3 := OOn.out.put hb3 (fun _ h => h) ks.length (.int .i64 (idx l2 y))
              rw [← hW3] at OO3
              replace OO3 := Aside0.mk OO3
              have XB3 : Aside0 (W3.heap[gx]? = some (.cells #[.int .i64 x.1, .int .i64 x.2] 55 (0, 0))) := ⟨by rw [hW3]; exact blk_far XBn.out (blk_ne XBn.out hb3 (by decide)) _⟩
              have NX3 : Aside0 (Kd.R (Kd.int .i64) 3 W3 w.heap.size (fun _ => True) (.slice (some ⟨ng, 0, none⟩) sg.toNat nc) ((ks ++ List.replicate gk 0).set ks.length (idx l2 y : Int))) := ⟨by
                rw [hW3]
                have := Kd.R_putn NXn.out (ks.length : Int) (idx l2 y : Int)
                rw [Int.toNat_natCast] at this
                exact this⟩
              clear hW3 hb3 IIn PPn OOn NXn XBn cN fN
              obtain ⟨A3, cp3, p3⟩ := PP3.out.len
              by_cases hm : most.toNat < (put l2 y).length
              · have hmb : decide (most < ((put l2 y).length : Int)) = true := decide_eq_true (by omega)
                have hTn : T = none := RE.out.none_ hs (HY.out ▸ hm)
                have e : r1 = 0 ∧ r2 = [] ∧ r3 = [] ∧ r4 = 13 := by
                  have := HH.out
                  rw [hTn] at this
                  simp only [markRes, Prod.mk.injEq] at this
                  exact ⟨this.1.symm, this.2.1.symm, this.2.2.1.symm, this.2.2.2.symm⟩
                obtain ⟨rfl, rfl, rfl, rfl⟩ := e
                have k6 := II3.out.o 0
                have k7 := II3.out.o 1
                have k8 := II3.out.o 2
                have m6 := blk_frozen II3.out.ho 0
                have m7 := blk_frozen II3.out.ho 1
                have m8 := blk_frozen II3.out.ho 2
                clear hTn hm
                go_wp2_with fail
                refine bodyPost_ret (results_ct rfl _ _ (w.heap.size + 1 + 1) 25 #[.int .i64 0, .slice none 0 0, .slice none 0 0] (0, 0) _ rfl (by refine blk_put (cs := #[.int .i64 0, .slice none 0 0, .slice none 0 0]) ?_ 2 _ rfl; refine blk_put (cs := #[.int .i64 0, .slice none 0 0, .slice none 0 0]) ?_ 1 _ rfl; refine blk_put (cs := #[.int .i64 0, .slice none 0 0, .slice none 0 0]) ?_ 0 _ rfl; exact II3.out.ho) Try.underlying25 rfl (by kernel_rfl)) rfl ?_
                exact ⟨_, _, rfl, Kd.S_nil _ _ _ _ _, Kd.R_nil _ _ _ _ _, below_put3 II3.out.bel (by omega) _ _ _⟩
              · have hmb : decide (most < ((put l2 y).length : Int)) = false := decide_eq_false (by omega)
                obtain ⟨kq', rfl, RE'⟩ := RE.out.step hs (HY.out ▸ hm)
                rw [HY.out] at RE'
                have NX4 := NX3.out
                rw [set_mid] at NX4
                have RES := Aside0.mk RE'
                have NXS := Aside0.mk NX4
                clear NX3 NX4 RE' hm
                go_wp2_with fail
                go_roundg kq'
                case measure => omega
                case rel =>
                  exact ⟨put l2 y, ks ++ [(idx l2 y : Int)], by simp, II3, PP3, OO3, NXS, RES, ⟨BD.out.put HOY.out⟩, XB3⟩
            · have hsb : decide ((ks.length : Int) < (sg.toNat : Int)) = false := decide_eq_false (by omega)
              obtain rfl : gk = 0 := by have := RE.out.1; omega
              have TE := Aside0.mk (RE.out.done (by omega))
              have PFX := Aside0.mk RE.out.2.2.1
              have NXe := NX.out
              rw [List.replicate_zero, List.append_nil] at NXe
              obtain ⟨ens, hens⟩ : ∃ ens, ens = (l.take rows.length).map (endM e2) := ⟨_, rfl⟩
              have OOe := OO.out
              rw [← hens] at OOe
              obtain ⟨⟨nv, ev, hG, hS, hE⟩, hge⟩ := OOe
              have hdb : Below wr.heap.size wr wr.drew := below_drew (Below.refl _ _)
              have STB : Aside0 (Stable (fun W => PM w (wc.heap.size + 1) wc.heap.size gx (.int .i64 s1) (.slice A1 n1.length c1) (.slice B1 e1.length d1) (.int .i64 s1) (.slice A2 n2.length c2) (.slice B2 e2.length d2) l2 W ∧ W.heap[gx]? = some (.cells #[.int .i64 x.1, .int .i64 x.2] 55 (0, 0)))) := ⟨⟨fun W W' hb h => ⟨h.1.below hb, blk_below h.2 hb⟩, fun W W' base e size n v xs ho hg he h => ⟨h.1.grown ho hg (by rcases he with rfl | rfl <;> decide) (by rcases he with rfl | rfl <;> decide), blk_grown h.2 hg (own_block_ne ho h.2 (by rcases he with rfl | rfl <;> decide))⟩⟩⟩
              have mm0 : ∀ q : Bool, Mid w #[.int .i64 s1, .slice A1 n1.length c1, .slice B1 e1.length d1] #[.int .i64 s1, .slice A2 n2.length c2, .slice B2 e2.length d2] #[.int .i64 0, .slice none 0 0, .slice none 0 0] W1.heap.size sg nv ev ng sg.toNat nc rows ks ens q (fun W => PM w (wc.heap.size + 1) wc.heap.size gx (.int .i64 s1) (.slice A1 n1.length c1) (.slice B1 e1.length d1) (.int .i64 s1) (.slice A2 n2.length c2) (.slice B2 e2.length d2) l2 W ∧ W.heap[gx]? = some (.cells #[.int .i64 x.1, .int .i64 x.2] 55 (0, 0))) none none none wr.drew := fun q =>
                ⟨II.out.below hdb, blk_below hG hdb, ⟨PP.out.below hdb, blk_below XB.out hdb⟩, Kd.R_below hE hdb, fun _ => ⟨Kd.S_below hS hdb, Kd.R_below NXe hdb⟩, fun v e => (by cases e), fun g e _ => (by cases e), fun g e => (by cases e)⟩
              have M0 := Aside0.mk mm0
              have ELEN : Aside0 (ens.length ≤ 3000) := ⟨by rw [hens, List.length_map, List.length_take]; omega⟩
              have HENS := Aside0.mk hens
              obtain ⟨i33, hi33, hz33, hs33, hb33⟩ := info_parts info33
              obtain ⟨i4, hi4, hz4, hs4, hb4⟩ := info_parts info4
              clear hens NXe hG hS hE hdb RE NX OO PP mm0 XB
              by_cases hx2 : x.1 = 2
              · have hxb2 : (x.1 == 2) = true := beq_iff_eq.2 hx2
                obtain ⟨b1, b2⟩ : 0 ≤ x.2 ∧ x.2 < (n2.length : Int) := by
                  rcases HXB.out with h | h | h
                  · omega
                  · exact ⟨h.2.1, h.2.2⟩
                  · rw [h] at hx2; simp at hx2
                have hq2 := R2.out.2.2.2.2.1
                have b6 : x.2 < (e2.length : Int) := by omega
                obtain ⟨bd2, qv, rfl, z3, z4⟩ := cell_end (Kd.C_below HB2.out II.out.bel) x.2 b1 b6
                have EL : Aside0 (∀ W : World, Init3 w #[.int .i64 s1, .slice A1 n1.length c1, .slice B1 e1.length d1] #[.int .i64 s1, .slice A2 n2.length c2, .slice (some bd2) e2.length d2] #[.int .i64 0, .slice none 0 0, .slice none 0 0] W → W.cell? (bd2.add x.2.toNat) = some (.bool qv)) := ⟨fun W I => by
                  obtain ⟨ad, v, ee, h2, h3⟩ := cell_end (Kd.C_below HB2.out I.bel) x.2 b1 b6
                  injection ee with ee; subst ee; rw [z4, ← h3]; exact h2⟩
                have MM := Aside0.mk (M0.out qv)
                have Z4 := Aside0.mk z4
                have HX2 := Aside0.mk hx2
                clear z3 z4 hq2 hx2 II M0
                go_upto_region 18 with (fail)
                -- REGION 18 ON BEGIN
                refine start_ (n := 24) (S := fun w' => w'.cell? ⟨W1.heap.size, 1, none⟩ = some nv ∧ w'.cell? ⟨W1.heap.size, 2, none⟩ = some ev ∧ w'.cell? ⟨gx, 0, none⟩ = some (.int .i64 x.1) ∧ w'.cell? ⟨gx, 1, none⟩ = some (.int .i64 x.2) ∧ w'.cell? ⟨w.heap.size + 1, 2, none⟩ = some (.slice (some bd2) e2.length d2) ∧ w'.cell? (bd2.add x.2.toNat) = some (.bool qv)) (ds := [21, 23]) #[false, false, false, false, false, false, false, false, false, false, false, false, false, false, false, false, false, false, false, false, false, false, false, false] (by kernel_rfl) rfl rfl ⟨(MM.out.cells).1, (MM.out.cells).2, ((blk_cell MM.out.P.2 0).trans rfl), ((blk_cell MM.out.P.2 1).trans rfl), ((MM.out.I.b 2).trans rfl), (EL.out _ MM.out.I)⟩ (fun hHeld => ?_)
                generalize wr.drew = Wd at MM hHeld ⊢
                refine pure_ (i := 0) (N := some 101) (v := ?_) (a' := ?_) #[true, false, false, false, false, false, false, false, false, false, false, false, false, false, false, false, false, false, false, false, false, false, false, false] rfl rfl (by kernel_rfl) (fun _ _ _ h => h) (Or.inl ⟨by rfl, ?_⟩) ?_ ?_
                rotate_left
                · intro w'
                  go_simp
                  with_reducible rfl
                rotate_left
                · simp only [Act.put, List.setIfInBounds_toArray, List.set_cons_zero, List.set_cons_succ, i64_w, i32_w]
                  rfl
                refine pure_ (i := 2) (N := some 103) (v := ?_) (a' := ?_) #[true, false, true, false, false, false, false, false, false, false, false, false, false, false, false, false, false, false, false, false, false, false, false, false] rfl rfl (by kernel_rfl) (fun _ _ _ h => h) (Or.inl ⟨by rfl, ?_⟩) ?_ ?_
                rotate_left
                · intro w'
                  go_simp
                  with_reducible rfl
                rotate_left
                · simp only [Act.put, List.setIfInBounds_toArray, List.set_cons_zero, List.set_cons_succ, i64_w, i32_w]
                  rfl
                refine pure_ (i := 5) (N := some 106) (v := ?_) (a' := ?_) #[true, false, true, false, false, true, false, false, false, false, false, false, false, false, false, false, false, false, false, false, false, false, false, false] rfl rfl (by kernel_rfl) (fun _ _ _ h => h) (Or.inl ⟨by rfl, ?_⟩) ?_ ?_
                rotate_left
                · intro w'
                  go_simp
                  with_reducible rfl
                rotate_left
                · simp only [Act.put, List.setIfInBounds_toArray, List.set_cons_zero, List.set_cons_succ, i64_w, i32_w]
                  rfl
                refine pure_ (i := 7) (N := some 108) (v := ?_) (a' := ?_) #[true, false, true, false, false, true, false, true, false, false, false, false, false, false, false, false, false, false, false, false, false, false, false, false] rfl rfl (by kernel_rfl) (fun _ _ _ h => h) (Or.inl ⟨by rfl, ?_⟩) ?_ ?_
                rotate_left
                · intro w'
                  go_simp
                  with_reducible rfl
                rotate_left
                · simp only [Act.put, List.setIfInBounds_toArray, List.set_cons_zero, List.set_cons_succ, i64_w, i32_w]
                  rfl
                refine take_ (i := 1) (N := some 102) (v := ?_) (a' := ?_) #[true, true, true, false, false, true, false, true, false, false, false, false, false, false, false, false, false, false, false, false, false, false, false, false] rfl rfl (by kernel_rfl) (fun _ _ _ h => h) (Or.inl ⟨by rfl, ?_⟩) hHeld ?_ ?_
                rotate_left
                · rintro w' ⟨s0, s1, s2, s3, s4, s5⟩
                  go_simp
                  with_reducible rfl
                rotate_left
                · simp only [Act.put, List.setIfInBounds_toArray, List.set_cons_zero, List.set_cons_succ, i64_w, i32_w]
                  rfl
                refine take_ (i := 6) (N := some 107) (v := ?_) (a' := ?_) #[true, true, true, false, false, true, true, true, false, false, false, false, false, false, false, false, false, false, false, false, false, false, false, false] rfl rfl (by kernel_rfl) (fun _ _ _ h => h) (Or.inl ⟨by rfl, ?_⟩) hHeld ?_ ?_
                rotate_left
                · rintro w' ⟨s0, s1, s2, s3, s4, s5⟩
                  go_simp
                  with_reducible rfl
                rotate_left
                · simp only [Act.put, List.setIfInBounds_toArray, List.set_cons_zero, List.set_cons_succ, i64_w, i32_w]
                  rfl
                refine take_ (i := 8) (N := some 109) (v := ?_) (a' := ?_) #[true, true, true, false, false, true, true, true, true, false, false, false, false, false, false, false, false, false, false, false, false, false, false, false] rfl rfl (by kernel_rfl) (fun _ _ _ h => h) (Or.inl ⟨by rfl, ?_⟩) hHeld ?_ ?_
                rotate_left
                · rintro w' ⟨s0, s1, s2, s3, s4, s5⟩
                  go_simp
                  with_reducible rfl
                rotate_left
                · simp only [Act.put, List.setIfInBounds_toArray, List.set_cons_zero, List.set_cons_succ, i64_w, i32_w]
                  rfl
                refine pure_ (i := 9) (N := some 110) (v := ?_) (a' := ?_) #[true, true, true, false, false, true, true, true, true, true, false, false, false, false, false, false, false, false, false, false, false, false, false, false] rfl rfl (by kernel_rfl) (fun _ _ _ h => h) (Or.inl ⟨by rfl, ?_⟩) ?_ ?_
                rotate_left
                · intro w'
                  go_simp
                  with_reducible rfl
                rotate_left
                · simp only [Act.put, List.setIfInBounds_toArray, List.set_cons_zero, List.set_cons_succ, i64_w, i32_w]
                  rfl
                refine one_ (i := 3) (N := some 104) #[true, true, true, true, false, true, true, true, true, true, false, false, false, false, false, false, false, false, false, false, false, false, false, false] rfl rfl (by kernel_rfl) (by decide) (fun K hK => ?_)
                refine value_ (w1 := ?_) (v := ?_) (by rfl) rfl ?_ ?_
                rotate_left 2
                · go_simp
                  constructor
                  · rfl
                  · rfl
                have m_ := MM.out.box3 STB.out
                obtain ⟨g3, hz_⟩ : ∃ z_, z_ = Wd.heap.size := ⟨_, rfl⟩
                rw [← hz_] at m_ ⊢
                generalize Wd.alloc (.cells #[.slice (some ⟨ng, 0, none⟩) sg.toNat nc] 33) = We1 at m_ ⊢
                clear hz_ MM
                have MM := Aside0.mk m_
                clear m_
                refine hK.out _ _ ⟨(MM.out.cells).1, (MM.out.cells).2, ((blk_cell MM.out.P.2 0).trans rfl), ((blk_cell MM.out.P.2 1).trans rfl), ((MM.out.I.b 2).trans rfl), (EL.out _ MM.out.I)⟩ (fun hHeld => ?_)
                clear hK K
                refine norm_ (a' := ?_) ?_ ?_
                rotate_left
                · show Act.put _ (some 104) _ = _
                  simp only [Act.put, List.setIfInBounds_toArray, List.set_cons_zero, List.set_cons_succ, i64_w, i32_w]
                  rfl
                refine one_ (i := 4) (N := some 105) #[true, true, true, true, true, true, true, true, true, true, false, false, false, false, false, false, false, false, false, false, false, false, false, false] rfl rfl (by kernel_rfl) (by decide) (fun K hK => ?_)
                obtain ⟨inn, hown, fin⟩ := MM.out.app4 STB.out
                have hszI := MM.out.I.bel.size
                refine step_append_lies _ rfl (.tmp 102) (.tmp 104) _ rfl w.heap.size 33 i33 _ 1 24 Try.underlying22 hi33 hz33 hs33 hb33 rfl (by omega) nv rows.length inn rfl hown ⟨g3, 0, none⟩ 1 1 [.slice (some ⟨ng, 0, none⟩) sg.toNat nc] rfl rfl (World.news_of_block (MM.out.B3 _ rfl rfl)) (by simp [Value.oneCell']) (by omega) (by unfold maxLen; omega) (by omega) hszI We1.heap.size rfl ?_
                intro gg cap4 We2 hown4 hgr4 hat4 hlt4
                have m_ := fin _ _ _ hown4 hgr4 hat4
                clear fin hown hown4 hgr4 hat4 hlt4 hszI MM
                have MM := Aside0.mk m_
                clear m_
                refine hK.out _ _ ⟨(MM.out.cells).1, (MM.out.cells).2, ((blk_cell MM.out.P.2 0).trans rfl), ((blk_cell MM.out.P.2 1).trans rfl), ((MM.out.I.b 2).trans rfl), (EL.out _ MM.out.I)⟩ (fun hHeld => ?_)
                clear hK K
                refine norm_ (a' := ?_) ?_ ?_
                rotate_left
                · show Act.put _ (some 105) _ = _
                  simp only [Act.put, List.setIfInBounds_toArray, List.set_cons_zero, List.set_cons_succ, i64_w, i32_w]
                  rfl
                refine pure_ (i := 10) (N := some 111) (v := ?_) (a' := ?_) #[true, true, true, true, true, true, true, true, true, true, true, false, false, false, false, false, false, false, false, false, false, false, false, false] rfl rfl (by kernel_rfl) (fun _ _ _ h => h) (Or.inl ⟨by rfl, ?_⟩) ?_ ?_
                rotate_left
                · intro w'
                  go_simp
                  with_reducible rfl
                rotate_left
                · simp only [Act.put, List.setIfInBounds_toArray, List.set_cons_zero, List.set_cons_succ, i64_w, i32_w]
                  rfl
                refine pure_ (i := 11) (N := some 112) (v := ?_) (a' := ?_) #[true, true, true, true, true, true, true, true, true, true, true, true, false, false, false, false, false, false, false, false, false, false, false, false] rfl rfl (by kernel_rfl) (fun _ _ _ h => h) (Or.inl ⟨by rfl, ?_⟩) ?_ ?_
                rotate_left
                · intro w'
                  go_simp
                  with_reducible rfl
                rotate_left
                · simp only [Act.put, List.setIfInBounds_toArray, List.set_cons_zero, List.set_cons_succ, i64_w, i32_w]
                  rfl
                refine pure_ (i := 13) (N := some 114) (v := ?_) (a' := ?_) #[true, true, true, true, true, true, true, true, true, true, true, true, false, true, false, false, false, false, false, false, false, false, false, false] rfl rfl (by kernel_rfl) (fun _ _ _ h => h) (Or.inl ⟨by rfl, ?_⟩) ?_ ?_
                rotate_left
                · intro w'
                  go_simp
                  with_reducible rfl
                rotate_left
                · simp only [Act.put, List.setIfInBounds_toArray, List.set_cons_zero, List.set_cons_succ, i64_w, i32_w]
                  rfl
                refine pure_ (i := 20) (N := some 121) (v := ?_) (a' := ?_) #[true, true, true, true, true, true, true, true, true, true, true, true, false, true, false, false, false, false, false, false, true, false, false, false] rfl rfl (by kernel_rfl) (fun _ _ _ h => h) (Or.inl ⟨by rfl, ?_⟩) ?_ ?_
                rotate_left
                · intro w'
                  go_simp
                  with_reducible rfl
                rotate_left
                · simp only [Act.put, List.setIfInBounds_toArray, List.set_cons_zero, List.set_cons_succ, i64_w, i32_w]
                  rfl
                refine take_ (i := 12) (N := some 113) (v := ?_) (a' := ?_) #[true, true, true, true, true, true, true, true, true, true, true, true, true, true, false, false, false, false, false, false, true, false, false, false] rfl rfl (by kernel_rfl) (fun _ _ _ h => h) (Or.inl ⟨by rfl, ?_⟩) hHeld ?_ ?_
                rotate_left
                · rintro w' ⟨s0, s1, s2, s3, s4, s5⟩
                  go_simp
                  with_reducible rfl
                rotate_left
                · simp only [Act.put, List.setIfInBounds_toArray, List.set_cons_zero, List.set_cons_succ, i64_w, i32_w]
                  rfl
                refine take_ (i := 14) (N := some 115) (v := ?_) (a' := ?_) #[true, true, true, true, true, true, true, true, true, true, true, true, true, true, true, false, false, false, false, false, true, false, false, false] rfl rfl (by kernel_rfl) (fun _ _ _ h => h) (Or.inl ⟨by rfl, ?_⟩) hHeld ?_ ?_
                rotate_left
                · rintro w' ⟨s0, s1, s2, s3, s4, s5⟩
                  go_simp
                  with_reducible rfl
                rotate_left
                · simp only [Act.put, List.setIfInBounds_toArray, List.set_cons_zero, List.set_cons_succ, i64_w, i32_w]
                  rfl
                refine pure_ (i := 15) (N := some 116) (v := ?_) (a' := ?_) #[true, true, true, true, true, true, true, true, true, true, true, true, true, true, true, true, false, false, false, false, true, false, false, false] rfl rfl (by kernel_rfl) (fun _ _ _ h => h) (Or.inl ⟨by rfl, ?_⟩) ?_ ?_
                rotate_left
                · intro w'
                  go_simp
                  with_reducible rfl
                rotate_left
                · simp only [Act.put, List.setIfInBounds_toArray, List.set_cons_zero, List.set_cons_succ, i64_w, i32_w]
                  rfl
                refine take_ (i := 16) (N := some 117) (v := ?_) (a' := ?_) #[true, true, true, true, true, true, true, true, true, true, true, true, true, true, true, true, true, false, false, false, true, false, false, false] rfl rfl (by kernel_rfl) (fun _ _ _ h => h) (Or.inl ⟨by rfl, ?_⟩) hHeld ?_ ?_
                rotate_left
                · rintro w' ⟨s0, s1, s2, s3, s4, s5⟩
                  go_simp
                  with_reducible rfl
                rotate_left
                · simp only [Act.put, List.setIfInBounds_toArray, List.set_cons_zero, List.set_cons_succ, i64_w, i32_w]
                  rfl
                refine pure_ (i := 17) (N := some 118) (v := ?_) (a' := ?_) #[true, true, true, true, true, true, true, true, true, true, true, true, true, true, true, true, true, true, false, false, true, false, false, false] rfl rfl (by kernel_rfl) (fun _ _ _ h => h) (Or.inl ⟨by rfl, ?_⟩) ?_ ?_
                rotate_left
                · intro w'
                  go_simp
                  with_reducible rfl
                rotate_left
                · simp only [Act.put, List.setIfInBounds_toArray, List.set_cons_zero, List.set_cons_succ, i64_w, i32_w]
                  rfl
                refine one_ (i := 18) (N := some 119) #[true, true, true, true, true, true, true, true, true, true, true, true, true, true, true, true, true, true, true, false, true, false, false, false] rfl rfl (by kernel_rfl) (by decide) (fun K hK => ?_)
                refine value_ (w1 := ?_) (v := ?_) (by rfl) rfl ?_ ?_
                rotate_left 2
                · go_simp
                  constructor
                  · rfl
                  · rfl
                have m_ := MM.out.box18 STB.out
                obtain ⟨g18, hz_⟩ : ∃ z_, z_ = We2.heap.size := ⟨_, rfl⟩
                rw [← hz_] at m_ ⊢
                generalize We2.alloc (.cells #[.bool qv] 4) = We3 at m_ ⊢
                clear hz_ MM
                have MM := Aside0.mk m_
                clear m_
                refine hK.out _ _ ⟨(MM.out.cells).1, (MM.out.cells).2, ((blk_cell MM.out.P.2 0).trans rfl), ((blk_cell MM.out.P.2 1).trans rfl), ((MM.out.I.b 2).trans rfl), (EL.out _ MM.out.I)⟩ (fun hHeld => ?_)
                clear hK K
                refine norm_ (a' := ?_) ?_ ?_
                rotate_left
                · show Act.put _ (some 119) _ = _
                  simp only [Act.put, List.setIfInBounds_toArray, List.set_cons_zero, List.set_cons_succ, i64_w, i32_w]
                  rfl
                refine one_ (i := 19) (N := some 120) #[true, true, true, true, true, true, true, true, true, true, true, true, true, true, true, true, true, true, true, true, true, false, false, false] rfl rfl (by kernel_rfl) (by decide) (fun K hK => ?_)
                obtain ⟨inn, hown, fin⟩ := MM.out.app19 STB.out
                have hszI := MM.out.I.bel.size
                have hel := ELEN.out
                refine step_append_lies _ rfl (.tmp 107) (.tmp 119) _ rfl w.heap.size 4 i4 _ 1 1 Try.underlying23 hi4 hz4 hs4 hb4 rfl (by omega) ev _ inn rfl hown ⟨g18, 0, none⟩ 1 1 [.bool qv] rfl rfl (World.news_of_block (MM.out.B18 _ rfl)) (by simp [Value.oneCell']) (by omega) (by unfold maxLen; omega) (by omega) hszI We3.heap.size rfl ?_
                intro gg2 cap7 Wg hown4 hgr4 hat4 hlt4
                have m_ := fin _ _ _ hown4 hgr4 hat4
                have ME := Aside0.mk m_
                have f1 := blk_frozen ME.out.G 1
                have f2 := blk_frozen ME.out.G 2
                have c1_ := blk_cell ME.out.G 1
                have c2_ := blk_cell ME.out.G 2
                clear fin hown hown4 hgr4 hat4 hlt4 hszI hel m_
                refine hK.out _ _ ⟨((blk_cell ME.out.G 1).trans rfl), ((blk_cell ME.out.G 2).trans rfl), ((blk_cell ME.out.P.2 0).trans rfl), ((blk_cell ME.out.P.2 1).trans rfl), ((ME.out.I.b 2).trans rfl), (EL.out _ ME.out.I)⟩ (fun hHeld => ?_)
                clear hK K
                refine norm_ (a' := ?_) ?_ ?_
                rotate_left
                · show Act.put _ (some 120) _ = _
                  simp only [Act.put, List.setIfInBounds_toArray, List.set_cons_zero, List.set_cons_succ, i64_w, i32_w]
                  rfl
                refine last_ (i := 21) (N := none) #[true, true, true, true, true, true, true, true, true, true, true, true, true, true, true, true, true, true, true, true, true, true, false, false] rfl rfl (by kernel_rfl) (by decide) (fun K hK => ?_)
                refine skip_ (w1 := ?_) (by rfl) rfl ?_ ?_
                rotate_left
                · go_simp
                  rfl
                refine hK.out _ _ ?_
                clear hK K
                refine pure_ (i := 22) (N := some 122) (v := ?_) (a' := ?_) #[true, true, true, true, true, true, true, true, true, true, true, true, true, true, true, true, true, true, true, true, true, true, true, false] rfl rfl (by kernel_rfl) (fun _ _ _ h => h) (Or.inl ⟨by rfl, ?_⟩) ?_ ?_
                rotate_left
                · intro w'
                  go_simp
                  with_reducible rfl
                rotate_left
                · simp only [Act.put, List.setIfInBounds_toArray, List.set_cons_zero, List.set_cons_succ, i64_w, i32_w]
                  rfl
                refine last_ (i := 23) (N := none) #[true, true, true, true, true, true, true, true, true, true, true, true, true, true, true, true, true, true, true, true, true, true, true, true] rfl rfl (by kernel_rfl) (by decide) (fun K hK => ?_)
                refine skip_ (w1 := ?_) (by rfl) rfl ?_ ?_
                rotate_left
                · go_simp
                  rfl
                refine hK.out _ _ ?_
                clear hK K
                refine done_ (by kernel_rfl) ?_
                -- REGION 18 ON END
                obtain ⟨Wz, hWz⟩ : ∃ Wz, Wz = (Wg.setCell ⟨W1.heap.size, 1, none⟩ (.slice (some ⟨gg, 0, none⟩) (rows.length + 1) cap4)).setCell ⟨W1.heap.size, 2, none⟩ (.slice (some ⟨gg2, 0, none⟩) (ens.length + 1) cap7) := ⟨_, rfl⟩
                rw [← hWz]
                obtain ⟨IZ, OZ⟩ := ME.out.stored hge
                have hb1 := blk_put ME.out.G 1 (.slice (some ⟨gg, 0, none⟩) (rows.length + 1) cap4) rfl
                have PZ := (ME.out.P.1.far (p := ⟨W1.heap.size, 1, none⟩) ME.out.G (by decide) (by decide) (.slice (some ⟨gg, 0, none⟩) (rows.length + 1) cap4)).far (p := ⟨W1.heap.size, 2, none⟩) hb1 (by decide) (by decide) (.slice (some ⟨gg2, 0, none⟩) (ens.length + 1) cap7)
                rw [← hWz] at IZ OZ PZ
                have PZ1 := PZ.rebox IZ.ha (by decide)
                have hen := cellOf_ends (endM e2) PFX.out HX.out (v := qv) (by unfold endM; rw [decide_eq_true HX2.out, Z4.out]; rfl)
                rw [← HENS.out] at hen
                have IZ' := Aside0.mk IZ
                have PZ' := Aside0.mk PZ1
                have OZ' := Aside0.mk OZ
                have HEN := Aside0.mk hen
                clear IZ OZ PZ PZ1 hb1 hWz f1 f2 c1_ c2_ hi33 hz33 hs33 hb33 hi4 hz4 hs4 hb4 hen ME MM
                go_wp2_with fail
                go_roundg K
                case measure => omega
                case rel =>
                  refine ⟨l2, rows ++ [ks], by simp, IZ', PZ', ⟨?_⟩, TE, BD⟩
                  have h1 := OZ'.out
                  rw [HEN.out] at h1
                  simpa using h1
              · have hxb2 : (x.1 == 2) = false := beq_eq_false_iff_ne.2 hx2
                have MM := Aside0.mk (M0.out false)
                have HX2 := Aside0.mk hx2
                clear hx2 II M0
                go_upto_region 18 with (fail)
                -- REGION 18 OFF BEGIN
                refine start_ (n := 24) (S := fun w' => w'.cell? ⟨W1.heap.size, 1, none⟩ = some nv ∧ w'.cell? ⟨W1.heap.size, 2, none⟩ = some ev ∧ w'.cell? ⟨gx, 0, none⟩ = some (.int .i64 x.1)) (ds := [21, 23]) #[false, false, false, false, false, false, false, false, false, false, false, false, false, false, false, false, false, false, false, false, false, false, false, false] (by kernel_rfl) rfl rfl ⟨(MM.out.cells).1, (MM.out.cells).2, ((blk_cell MM.out.P.2 0).trans rfl)⟩ (fun hHeld => ?_)
                generalize wr.drew = Wd at MM hHeld ⊢
                refine pure_ (i := 0) (N := some 101) (v := ?_) (a' := ?_) #[true, false, false, false, false, false, false, false, false, false, false, false, false, false, false, false, false, false, false, false, false, false, false, false] rfl rfl (by kernel_rfl) (fun _ _ _ h => h) (Or.inl ⟨by rfl, ?_⟩) ?_ ?_
                rotate_left
                · intro w'
                  go_simp
                  with_reducible rfl
                rotate_left
                · simp only [Act.put, List.setIfInBounds_toArray, List.set_cons_zero, List.set_cons_succ, i64_w, i32_w]
                  rfl
                refine pure_ (i := 2) (N := some 103) (v := ?_) (a' := ?_) #[true, false, true, false, false, false, false, false, false, false, false, false, false, false, false, false, false, false, false, false, false, false, false, false] rfl rfl (by kernel_rfl) (fun _ _ _ h => h) (Or.inl ⟨by rfl, ?_⟩) ?_ ?_
                rotate_left
                · intro w'
                  go_simp
                  with_reducible rfl
                rotate_left
                · simp only [Act.put, List.setIfInBounds_toArray, List.set_cons_zero, List.set_cons_succ, i64_w, i32_w]
                  rfl
                refine pure_ (i := 5) (N := some 106) (v := ?_) (a' := ?_) #[true, false, true, false, false, true, false, false, false, false, false, false, false, false, false, false, false, false, false, false, false, false, false, false] rfl rfl (by kernel_rfl) (fun _ _ _ h => h) (Or.inl ⟨by rfl, ?_⟩) ?_ ?_
                rotate_left
                · intro w'
                  go_simp
                  with_reducible rfl
                rotate_left
                · simp only [Act.put, List.setIfInBounds_toArray, List.set_cons_zero, List.set_cons_succ, i64_w, i32_w]
                  rfl
                refine pure_ (i := 7) (N := some 108) (v := ?_) (a' := ?_) #[true, false, true, false, false, true, false, true, false, false, false, false, false, false, false, false, false, false, false, false, false, false, false, false] rfl rfl (by kernel_rfl) (fun _ _ _ h => h) (Or.inl ⟨by rfl, ?_⟩) ?_ ?_
                rotate_left
                · intro w'
                  go_simp
                  with_reducible rfl
                rotate_left
                · simp only [Act.put, List.setIfInBounds_toArray, List.set_cons_zero, List.set_cons_succ, i64_w, i32_w]
                  rfl
                refine take_ (i := 1) (N := some 102) (v := ?_) (a' := ?_) #[true, true, true, false, false, true, false, true, false, false, false, false, false, false, false, false, false, false, false, false, false, false, false, false] rfl rfl (by kernel_rfl) (fun _ _ _ h => h) (Or.inl ⟨by rfl, ?_⟩) hHeld ?_ ?_
                rotate_left
                · rintro w' ⟨s0, s1, s2⟩
                  go_simp
                  with_reducible rfl
                rotate_left
                · simp only [Act.put, List.setIfInBounds_toArray, List.set_cons_zero, List.set_cons_succ, i64_w, i32_w]
                  rfl
                refine take_ (i := 6) (N := some 107) (v := ?_) (a' := ?_) #[true, true, true, false, false, true, true, true, false, false, false, false, false, false, false, false, false, false, false, false, false, false, false, false] rfl rfl (by kernel_rfl) (fun _ _ _ h => h) (Or.inl ⟨by rfl, ?_⟩) hHeld ?_ ?_
                rotate_left
                · rintro w' ⟨s0, s1, s2⟩
                  go_simp
                  with_reducible rfl
                rotate_left
                · simp only [Act.put, List.setIfInBounds_toArray, List.set_cons_zero, List.set_cons_succ, i64_w, i32_w]
                  rfl
                refine take_ (i := 8) (N := some 109) (v := ?_) (a' := ?_) #[true, true, true, false, false, true, true, true, true, false, false, false, false, false, false, false, false, false, false, false, false, false, false, false] rfl rfl (by kernel_rfl) (fun _ _ _ h => h) (Or.inl ⟨by rfl, ?_⟩) hHeld ?_ ?_
                rotate_left
                · rintro w' ⟨s0, s1, s2⟩
                  go_simp
                  with_reducible rfl
                rotate_left
                · simp only [Act.put, List.setIfInBounds_toArray, List.set_cons_zero, List.set_cons_succ, i64_w, i32_w]
                  rfl
                refine pure_ (i := 9) (N := some 110) (v := ?_) (a' := ?_) #[true, true, true, false, false, true, true, true, true, true, false, false, false, false, false, false, false, false, false, false, false, false, false, false] rfl rfl (by kernel_rfl) (fun _ _ _ h => h) (Or.inl ⟨by rfl, ?_⟩) ?_ ?_
                rotate_left
                · intro w'
                  go_simp
                  with_reducible rfl
                rotate_left
                · simp only [Act.put, List.setIfInBounds_toArray, List.set_cons_zero, List.set_cons_succ, i64_w, i32_w]
                  rfl
                refine one_ (i := 3) (N := some 104) #[true, true, true, true, false, true, true, true, true, true, false, false, false, false, false, false, false, false, false, false, false, false, false, false] rfl rfl (by kernel_rfl) (by decide) (fun K hK => ?_)
                refine value_ (w1 := ?_) (v := ?_) (by rfl) rfl ?_ ?_
                rotate_left 2
                · go_simp
                  constructor
                  · rfl
                  · rfl
                have m_ := MM.out.box3 STB.out
                obtain ⟨g3, hz_⟩ : ∃ z_, z_ = Wd.heap.size := ⟨_, rfl⟩
                rw [← hz_] at m_ ⊢
                generalize Wd.alloc (.cells #[.slice (some ⟨ng, 0, none⟩) sg.toNat nc] 33) = We1 at m_ ⊢
                clear hz_ MM
                have MM := Aside0.mk m_
                clear m_
                refine hK.out _ _ ⟨(MM.out.cells).1, (MM.out.cells).2, ((blk_cell MM.out.P.2 0).trans rfl)⟩ (fun hHeld => ?_)
                clear hK K
                refine norm_ (a' := ?_) ?_ ?_
                rotate_left
                · show Act.put _ (some 104) _ = _
                  simp only [Act.put, List.setIfInBounds_toArray, List.set_cons_zero, List.set_cons_succ, i64_w, i32_w]
                  rfl
                refine one_ (i := 4) (N := some 105) #[true, true, true, true, true, true, true, true, true, true, false, false, false, false, false, false, false, false, false, false, false, false, false, false] rfl rfl (by kernel_rfl) (by decide) (fun K hK => ?_)
                obtain ⟨inn, hown, fin⟩ := MM.out.app4 STB.out
                have hszI := MM.out.I.bel.size
                refine step_append_lies _ rfl (.tmp 102) (.tmp 104) _ rfl w.heap.size 33 i33 _ 1 24 Try.underlying22 hi33 hz33 hs33 hb33 rfl (by omega) nv rows.length inn rfl hown ⟨g3, 0, none⟩ 1 1 [.slice (some ⟨ng, 0, none⟩) sg.toNat nc] rfl rfl (World.news_of_block (MM.out.B3 _ rfl rfl)) (by simp [Value.oneCell']) (by omega) (by unfold maxLen; omega) (by omega) hszI We1.heap.size rfl ?_
                intro gg cap4 We2 hown4 hgr4 hat4 hlt4
                have m_ := fin _ _ _ hown4 hgr4 hat4
                clear fin hown hown4 hgr4 hat4 hlt4 hszI MM
                have MM := Aside0.mk m_
                clear m_
                refine hK.out _ _ ⟨(MM.out.cells).1, (MM.out.cells).2, ((blk_cell MM.out.P.2 0).trans rfl)⟩ (fun hHeld => ?_)
                clear hK K
                refine norm_ (a' := ?_) ?_ ?_
                rotate_left
                · show Act.put _ (some 105) _ = _
                  simp only [Act.put, List.setIfInBounds_toArray, List.set_cons_zero, List.set_cons_succ, i64_w, i32_w]
                  rfl
                refine pure_ (i := 10) (N := some 111) (v := ?_) (a' := ?_) #[true, true, true, true, true, true, true, true, true, true, true, false, false, false, false, false, false, false, false, false, false, false, false, false] rfl rfl (by kernel_rfl) (fun _ _ _ h => h) (Or.inl ⟨by rfl, ?_⟩) ?_ ?_
                rotate_left
                · intro w'
                  go_simp
                  with_reducible rfl
                rotate_left
                · simp only [Act.put, List.setIfInBounds_toArray, List.set_cons_zero, List.set_cons_succ, i64_w, i32_w]
                  rfl
                refine pure_ (i := 11) (N := some 112) (v := undef) (a' := ?_) #[true, true, true, true, true, true, true, true, true, true, true, true, false, false, false, false, false, false, false, false, false, false, false, false] rfl rfl (by kernel_rfl) (fun _ _ _ h => h) (Or.inr ⟨by rfl, rfl⟩) ?_ ?_
                rotate_left
                · simp only [Act.put, List.setIfInBounds_toArray, List.set_cons_zero, List.set_cons_succ, i64_w, i32_w]
                  rfl
                refine pure_ (i := 12) (N := some 113) (v := undef) (a' := ?_) #[true, true, true, true, true, true, true, true, true, true, true, true, true, false, false, false, false, false, false, false, false, false, false, false] rfl rfl (by kernel_rfl) (fun _ _ _ h => h) (Or.inr ⟨by rfl, rfl⟩) ?_ ?_
                rotate_left
                · simp only [Act.put, List.setIfInBounds_toArray, List.set_cons_zero, List.set_cons_succ, i64_w, i32_w]
                  rfl
                refine pure_ (i := 13) (N := some 114) (v := undef) (a' := ?_) #[true, true, true, true, true, true, true, true, true, true, true, true, true, true, false, false, false, false, false, false, false, false, false, false] rfl rfl (by kernel_rfl) (fun _ _ _ h => h) (Or.inr ⟨by rfl, rfl⟩) ?_ ?_
                rotate_left
                · simp only [Act.put, List.setIfInBounds_toArray, List.set_cons_zero, List.set_cons_succ, i64_w, i32_w]
                  rfl
                refine pure_ (i := 14) (N := some 115) (v := undef) (a' := ?_) #[true, true, true, true, true, true, true, true, true, true, true, true, true, true, true, false, false, false, false, false, false, false, false, false] rfl rfl (by kernel_rfl) (fun _ _ _ h => h) (Or.inr ⟨by rfl, rfl⟩) ?_ ?_
                rotate_left
                · simp only [Act.put, List.setIfInBounds_toArray, List.set_cons_zero, List.set_cons_succ, i64_w, i32_w]
                  rfl
                refine pure_ (i := 15) (N := some 116) (v := undef) (a' := ?_) #[true, true, true, true, true, true, true, true, true, true, true, true, true, true, true, true, false, false, false, false, false, false, false, false] rfl rfl (by kernel_rfl) (fun _ _ _ h => h) (Or.inr ⟨by rfl, rfl⟩) ?_ ?_
                rotate_left
                · simp only [Act.put, List.setIfInBounds_toArray, List.set_cons_zero, List.set_cons_succ, i64_w, i32_w]
                  rfl
                refine pure_ (i := 16) (N := some 117) (v := undef) (a' := ?_) #[true, true, true, true, true, true, true, true, true, true, true, true, true, true, true, true, true, false, false, false, false, false, false, false] rfl rfl (by kernel_rfl) (fun _ _ _ h => h) (Or.inr ⟨by rfl, rfl⟩) ?_ ?_
                rotate_left
                · simp only [Act.put, List.setIfInBounds_toArray, List.set_cons_zero, List.set_cons_succ, i64_w, i32_w]
                  rfl
                refine pure_ (i := 17) (N := some 118) (v := ?_) (a' := ?_) #[true, true, true, true, true, true, true, true, true, true, true, true, true, true, true, true, true, true, false, false, false, false, false, false] rfl rfl (by kernel_rfl) (fun _ _ _ h => h) (Or.inl ⟨by rfl, ?_⟩) ?_ ?_
                rotate_left
                · intro w'
                  go_simp
                  with_reducible rfl
                rotate_left
                · simp only [Act.put, List.setIfInBounds_toArray, List.set_cons_zero, List.set_cons_succ, i64_w, i32_w]
                  rfl
                refine pure_ (i := 20) (N := some 121) (v := ?_) (a' := ?_) #[true, true, true, true, true, true, true, true, true, true, true, true, true, true, true, true, true, true, false, false, true, false, false, false] rfl rfl (by kernel_rfl) (fun _ _ _ h => h) (Or.inl ⟨by rfl, ?_⟩) ?_ ?_
                rotate_left
                · intro w'
                  go_simp
                  with_reducible rfl
                rotate_left
                · simp only [Act.put, List.setIfInBounds_toArray, List.set_cons_zero, List.set_cons_succ, i64_w, i32_w]
                  rfl
                refine one_ (i := 18) (N := some 119) #[true, true, true, true, true, true, true, true, true, true, true, true, true, true, true, true, true, true, true, false, true, false, false, false] rfl rfl (by kernel_rfl) (by decide) (fun K hK => ?_)
                refine value_ (w1 := ?_) (v := ?_) (by rfl) rfl ?_ ?_
                rotate_left 2
                · go_simp
                  constructor
                  · rfl
                  · rfl
                have m_ := MM.out.box18 STB.out
                obtain ⟨g18, hz_⟩ : ∃ z_, z_ = We2.heap.size := ⟨_, rfl⟩
                rw [← hz_] at m_ ⊢
                generalize We2.alloc (.cells #[.bool false] 4) = We3 at m_ ⊢
                clear hz_ MM
                have MM := Aside0.mk m_
                clear m_
                refine hK.out _ _ ⟨(MM.out.cells).1, (MM.out.cells).2, ((blk_cell MM.out.P.2 0).trans rfl)⟩ (fun hHeld => ?_)
                clear hK K
                refine norm_ (a' := ?_) ?_ ?_
                rotate_left
                · show Act.put _ (some 119) _ = _
                  simp only [Act.put, List.setIfInBounds_toArray, List.set_cons_zero, List.set_cons_succ, i64_w, i32_w]
                  rfl
                refine one_ (i := 19) (N := some 120) #[true, true, true, true, true, true, true, true, true, true, true, true, true, true, true, true, true, true, true, true, true, false, false, false] rfl rfl (by kernel_rfl) (by decide) (fun K hK => ?_)
                obtain ⟨inn, hown, fin⟩ := MM.out.app19 STB.out
                have hszI := MM.out.I.bel.size
                have hel := ELEN.out
                refine step_append_lies _ rfl (.tmp 107) (.tmp 119) _ rfl w.heap.size 4 i4 _ 1 1 Try.underlying23 hi4 hz4 hs4 hb4 rfl (by omega) ev _ inn rfl hown ⟨g18, 0, none⟩ 1 1 [.bool false] rfl rfl (World.news_of_block (MM.out.B18 _ rfl)) (by simp [Value.oneCell']) (by omega) (by unfold maxLen; omega) (by omega) hszI We3.heap.size rfl ?_
                intro gg2 cap7 Wg hown4 hgr4 hat4 hlt4
                have m_ := fin _ _ _ hown4 hgr4 hat4
                have ME := Aside0.mk m_
                have f1 := blk_frozen ME.out.G 1
                have f2 := blk_frozen ME.out.G 2
                have c1_ := blk_cell ME.out.G 1
                have c2_ := blk_cell ME.out.G 2
                clear fin hown hown4 hgr4 hat4 hlt4 hszI hel m_
                refine hK.out _ _ ⟨((blk_cell ME.out.G 1).trans rfl), ((blk_cell ME.out.G 2).trans rfl), ((blk_cell ME.out.P.2 0).trans rfl)⟩ (fun hHeld => ?_)
                clear hK K
                refine norm_ (a' := ?_) ?_ ?_
                rotate_left
                · show Act.put _ (some 120) _ = _
                  simp only [Act.put, List.setIfInBounds_toArray, List.set_cons_zero, List.set_cons_succ, i64_w, i32_w]
                  rfl
                refine last_ (i := 21) (N := none) #[true, true, true, true, true, true, true, true, true, true, true, true, true, true, true, true, true, true, true, true, true, true, false, false] rfl rfl (by kernel_rfl) (by decide) (fun K hK => ?_)
                refine skip_ (w1 := ?_) (by rfl) rfl ?_ ?_
                rotate_left
                · go_simp
                  rfl
                refine hK.out _ _ ?_
                clear hK K
                refine pure_ (i := 22) (N := some 122) (v := ?_) (a' := ?_) #[true, true, true, true, true, true, true, true, true, true, true, true, true, true, true, true, true, true, true, true, true, true, true, false] rfl rfl (by kernel_rfl) (fun _ _ _ h => h) (Or.inl ⟨by rfl, ?_⟩) ?_ ?_
                rotate_left
                · intro w'
                  go_simp
                  with_reducible rfl
                rotate_left
                · simp only [Act.put, List.setIfInBounds_toArray, List.set_cons_zero, List.set_cons_succ, i64_w, i32_w]
                  rfl
                refine last_ (i := 23) (N := none) #[true, true, true, true, true, true, true, true, true, true, true, true, true, true, true, true, true, true, true, true, true, true, true, true] rfl rfl (by kernel_rfl) (by decide) (fun K hK => ?_)
                refine skip_ (w1 := ?_) (by rfl) rfl ?_ ?_
                rotate_left
                · go_simp
                  rfl
                refine hK.out _ _ ?_
                clear hK K
                refine done_ (by kernel_rfl) ?_
                -- REGION 18 OFF END
                obtain ⟨Wz, hWz⟩ : ∃ Wz, Wz = (Wg.setCell ⟨W1.heap.size, 1, none⟩ (.slice (some ⟨gg, 0, none⟩) (rows.length + 1) cap4)).setCell ⟨W1.heap.size, 2, none⟩ (.slice (some ⟨gg2, 0, none⟩) (ens.length + 1) cap7) := ⟨_, rfl⟩
                rw [← hWz]
                obtain ⟨IZ, OZ⟩ := ME.out.stored hge
                have hb1 := blk_put ME.out.G 1 (.slice (some ⟨gg, 0, none⟩) (rows.length + 1) cap4) rfl
                have PZ := (ME.out.P.1.far (p := ⟨W1.heap.size, 1, none⟩) ME.out.G (by decide) (by decide) (.slice (some ⟨gg, 0, none⟩) (rows.length + 1) cap4)).far (p := ⟨W1.heap.size, 2, none⟩) hb1 (by decide) (by decide) (.slice (some ⟨gg2, 0, none⟩) (ens.length + 1) cap7)
                rw [← hWz] at IZ OZ PZ
                have PZ1 := PZ.rebox IZ.ha (by decide)
                have hen := cellOf_ends (endM e2) PFX.out HX.out (v := false) (by unfold endM; rw [decide_eq_false HX2.out]; rfl)
                rw [← HENS.out] at hen
                have IZ' := Aside0.mk IZ
                have PZ' := Aside0.mk PZ1
                have OZ' := Aside0.mk OZ
                have HEN := Aside0.mk hen
                clear IZ OZ PZ PZ1 hb1 hWz f1 f2 c1_ c2_ hi33 hz33 hs33 hb33 hi4 hz4 hs4 hb4 hen ME MM
                go_wp2_with fail
                go_roundg K
                case measure => omega
                case rel =>
                  refine ⟨l2, rows ++ [ks], by simp, IZ', PZ', ⟨?_⟩, TE, BD⟩
                  have h1 := OZ'.out
                  rw [HEN.out] at h1
                  simpa using h1
        · have hltb : decide ((rows.length : Int) < (l.length : Int)) = false := decide_eq_false (by omega)
          have hT := TE.out.done (by omega)
          have hrl : rows.length = l.length := Nat.le_antisymm TE.out.2.2.1 (by omega)
          rw [List.take_of_length_le (Nat.le_of_eq hrl.symm)] at he
          have e : r1 = sg ∧ r2 = rows ∧ r3 = l.map (endM e2) ∧ r4 = 0 := by
            have := HH.out
            rw [hT] at this
            simp only [markRes, Prod.mk.injEq] at this
            exact ⟨this.1.symm, this.2.1.symm, this.2.2.1.symm, this.2.2.2.symm⟩
          obtain ⟨rfl, rfl, hr3, rfl⟩ := e
          rw [← hr3] at he
          clear hr3 HH hT hrl hrow hpl hav
          have k6 := II.out.o 0
          have k7 := II.out.o 1
          have k8 := II.out.o 2
          have m6 := blk_frozen II.out.ho 0
          have m7 := blk_frozen II.out.ho 1
          have m8 := blk_frozen II.out.ho 2
          obtain ⟨Av, cv, rfl⟩ := Kd.S_slice hn
          obtain ⟨Ae, ce, rfl⟩ := Kd.R_slice he
          obtain ⟨kp3, hb3, bl3⟩ := keeps_put3 II.out.bel (show w.heap.size ≤ w.heap.size + 1 + 1 by omega) II.out.ho (.int .i64 r1) (.slice Av _ cv) (.slice Ae _ ce)
          have FIN := Aside0.mk (And.intro hb3 (And.intro (S_keeps (S_apart hn he) kp3 (by decide)) (R_keeps he kp3 (by decide))))
          have BEL := Aside0.mk bl3
          replace hb3 := Aside0.mk hb3
          replace kp3 := Aside0.mk kp3
          go_wp2_with fail
          refine bodyPost_ret (results_ct rfl _ _ (w.heap.size + 1 + 1) 25 #[.int .i64 r1, _, _] (0, 0) _ rfl FIN.out.1 Try.underlying25 rfl (by kernel_rfl)) rfl ?_
          exact ⟨_, _, rfl, FIN.out.2.1, FIN.out.2.2, BEL.out⟩
end Go.Proofs.Ytpedenbcfbflbaa.X
