/- span.sweep: what it makes. -/
import Derived.Test.YtippkbgeeeimjaaXSortS
import Derived.Outline
import Derived.Deep.RegionLaw
import Derived.StillTailTactics
namespace Go.Proofs.Ytippkbgeeeimjaa.L
open Go.RowKit Go.Proofs.YtippkbgeeeimjaaW.PrintWords Go.Proofs.YtippkbgeeeimjaaW.PrintLast Go.Proofs.YtippkbgeeeimjaaW.PrintMore Go.Proofs.Ytippkbgeeeimjaa.A
set_option linter.unusedVariables false
set_option linter.unusedSimpArgs false
/-- From step to step. -/
def runF (rb : Bool → Bool → Bool) : List S68 → Int → Int → Int → List S34 → List S34
  | [], a, i0, i1, xs => tellF (rb (decide (0 < i0)) (decide (0 < i1))) a 1114112 xs
  | s :: r, a, i0, i1, xs => runF rb r s.f0 (if s.f1 = 0 then i0 + s.f2 else i0) (if s.f1 = 0 then i1 else i1 + s.f2) (tellF (rb (decide (0 < i0)) (decide (0 < i1))) a s.f0 xs)
def StepOk (s : S68) : Prop := 0 ≤ s.f0 ∧ s.f0 ≤ 1114112 ∧ (s.f1 = 0 ∨ s.f1 = 1) ∧ -1 ≤ s.f2 ∧ s.f2 ≤ 1
theorem info68' : (Try.prog.info? 68).map (fun i => (i.zero, i.size, i.bytes)) = some (some (.agg #[.int .i64 0, .int .i64 0, .int .i64 0]), 3, 24) := by kernel_rfl
theorem SwS.alloc {wk w0 W : World} {gf ga gr gi go : Nat} {a i0 i1 : Int} {v : Value} {xs : List S34} (h : SwS wk w0 gf ga gr gi go a i0 i1 v xs W) (o : Obj) : SwS wk w0 gf ga gr gi go a i0 i1 v xs (W.alloc o) where
  bel := below_alloc h.bel _
  A := blk_alloc h.A _
  I := blk_alloc h.I _
  O := blk_alloc h.O _
  R := blk_alloc h.R _
  row := Kd.R_alloc h.row _
  la := h.la
  li := h.li
  lo := h.lo
  keep := fun q cs hq => blk_alloc (h.keep q cs hq) _
theorem SwS.base {wk w0 W : World} {gf ga gr gi go : Nat} {a i0 i1 : Int} {v : Value} {xs : List S34} (h : SwS wk w0 gf ga gr gi go a i0 i1 v xs W) : SwS W w0 gf ga gr gi go a i0 i1 v xs W := { h with keep := fun _ _ hq => hq }
theorem SwS.over {wk wk' w0 W : World} {gf ga gr gi go : Nat} {a i0 i1 : Int} {v : Value} {xs : List S34} (h : SwS wk w0 gf ga gr gi go a i0 i1 v xs W) (hk : ∀ (q : Nat) (cs : Array Value), wk'.heap[q]? = some (.cells cs 68 (0, 0)) → wk.heap[q]? = some (.cells cs 68 (0, 0))) : SwS wk' w0 gf ga gr gi go a i0 i1 v xs W := { h with keep := fun q cs hq => h.keep q cs (hk q cs hq) }
theorem SwS.putI0 {wk w0 W : World} {gf ga gr gi go : Nat} {a i0 i1 : Int} {v : Value} {xs : List S34} (h : SwS wk w0 gf ga gr gi go a i0 i1 v xs W) (b : Int) : SwS wk w0 gf ga gr gi go a b i1 v xs (W.setCell ⟨gi, 0, none⟩ (.int .i64 b)) where
  bel := h.bel.setCell h.li _
  A := blk_far h.A (p := ⟨gi, 0, none⟩) (blk_ne h.A h.I (by decide)) _
  I := blk_put h.I 0 _ rfl
  O := blk_far h.O (p := ⟨gi, 0, none⟩) (blk_ne h.O h.I (by decide)) _
  R := blk_far h.R (p := ⟨gi, 0, none⟩) (blk_ne h.R h.I (by decide)) _
  row := R_other rfl h.row h.I (by decide) _
  la := h.la
  li := h.li
  lo := h.lo
  keep := fun q cs hq => blk_far (h.keep q cs hq) (p := ⟨gi, 0, none⟩) (blk_ne (h.keep q cs hq) h.I (by decide)) _
theorem SwS.putI1 {wk w0 W : World} {gf ga gr gi go : Nat} {a i0 i1 : Int} {v : Value} {xs : List S34} (h : SwS wk w0 gf ga gr gi go a i0 i1 v xs W) (b : Int) : SwS wk w0 gf ga gr gi go a i0 b v xs (W.setCell ⟨gi, 1, none⟩ (.int .i64 b)) where
  bel := h.bel.setCell h.li _
  A := blk_far h.A (p := ⟨gi, 1, none⟩) (blk_ne h.A h.I (by decide)) _
  I := blk_put h.I 1 _ rfl
  O := blk_far h.O (p := ⟨gi, 1, none⟩) (blk_ne h.O h.I (by decide)) _
  R := blk_far h.R (p := ⟨gi, 1, none⟩) (blk_ne h.R h.I (by decide)) _
  row := R_other rfl h.row h.I (by decide) _
  la := h.la
  li := h.li
  lo := h.lo
  keep := fun q cs hq => blk_far (h.keep q cs hq) (p := ⟨gi, 1, none⟩) (blk_ne (h.keep q cs hq) h.I (by decide)) _
theorem R_keep {w W : World} {base : Nat} {v : Value} {ys : List S68} (h : Kd.R k68 68 w base (fun _ => True) v ys) (hk : ∀ (q : Nat) (cs : Array Value), w.heap[q]? = some (.cells cs 68 (0, 0)) → W.heap[q]? = some (.cells cs 68 (0, 0))) : Kd.R k68 68 W base (fun _ => True) v ys := by
  refine Kd.R_mono (Kd.R_move (Kd.R_bound h) (fun k hk' => ?_)) (fun _ _ => trivial)
  obtain ⟨_, _, _, q, hq, cells, hc⟩ := hk'
  rw [show k68.E = [] from rfl, List.mem_singleton] at hq
  subst hq
  rw [hk k cells hc, hc]
theorem tellF_len (rb : Bool) (a tt : Int) (xs : List S34) : (tellF rb a tt xs).length ≤ xs.length + 1 := by
  unfold tellF
  split
  · split
    · simp
    · simp
  · omega
/-- What holds between two rounds. -/
def Lp (rb : Bool → Bool → Bool) (gf : Nat) (w w4 : World) (ga gr gi go : Nat) (ys : List S68) (fin : List S34) (u : Value) (W : World) : Prop :=
  ∃ (j : Nat) (a i0 i1 : Int) (v : Value) (xs : List S34), j ≤ ys.length ∧ u = .int .i64 j ∧ SwS w4 w gf ga gr gi go a i0 i1 v xs W ∧ runF rb (ys.drop j) a i0 i1 xs = fin ∧ (0 ≤ a ∧ a ≤ 1114112) ∧ (-(j : Int) ≤ i0 ∧ i0 ≤ j) ∧ (-(j : Int) ≤ i1 ∧ i1 ≤ j) ∧ xs.length ≤ j
set_option maxHeartbeats 4000000 in
set_option maxRecDepth 100000 in
theorem sweep_calls (rb : Bool → Bool → Bool) (gf : Nat) (eg : ∀ args w, (callFunc gf args).run Try.prog w = .ok (.enter gf args) w) (hr : ∀ x y W, Calls Try.prog gf #[.bool x, .bool y] W fun e w' => e = .returned (.bool (rb x y)) ∧ w' = W)
    (A0 : Option Addr) (c0 : Nat) (l0 : List S34) (A1 : Option Addr) (c1 : Nat) (l1 : List S34) (w : World) (hr0 : Kd.C k34 w A0 l0.length l0) (hc0 : l0.length ≤ c0) (hr1 : Kd.C k34 w A1 l1.length l1) (hc1 : l1.length ≤ c1)
    (k : Nat) (s0 s1 ss : List S68) (hss : ss = s0 ++ s1) (h0 : span_steps.f k l0 0 = some s0) (h1 : span_steps.f k l1 1 = some s1) (hok : ∀ s ∈ ss, StepOk s) (hz : ss.length ≤ 2000) :
    Calls Try.prog 42 #[.slice A0 l0.length c0, .slice A1 l1.length c1, .func (.func gf) #[] #[]] w fun e w' => ∃ v ys, e = .returned v ∧ ys.Perm ss ∧ Rises ys ∧ Kd.R k34 34 w' w.heap.size (fun _ => True) v (runF rb ys 0 0 0 []) ∧ Below w.heap.size w w' := by
  have hz' : s0.length + s1.length ≤ 2000 := by rw [hss, List.length_append] at hz; exact hz
  have HSS := Aside0.mk hss
  clear hss
  have HR0 := Aside0.mk hr0
  have HR1 := Aside0.mk hr1
  have HC0 := Aside0.mk hc0
  have HC1 := Aside0.mk hc1
  have H0 := Aside0.mk h0
  have H1 := Aside0.mk h1
  have HOK := Aside0.mk hok
  have HRB := Aside0.mk hr
  clear hr0 hr1 hc0 hc1 h0 h1 hok hr
  go_enter Try.func42, Try.ntmps42
  go_wp2_with fail
  obtain ⟨W0, hW0⟩ : ∃ W0, W0 = w.alloc (.cells #[.func (.func gf) #[] #[]] 51) := ⟨_, rfl⟩
  have B0 : Below w.heap.size w W0 := by rw [hW0]; exact below_alloc (Below.refl _ _) _
  have X0 : W0.heap[w.heap.size]? = some (.cells #[.func (.func gf) #[] #[]] 51 (0, 0)) := by rw [hW0]; exact blk_new _ _
  rw [← hW0]
  clear hW0
  have HB0 := Aside0.mk B0
  have HX0 := Aside0.mk X0
  clear B0 X0
  refine (span_steps.calls k A0 c0 l0 0 s0 W0 (Kd.C_below HR0.out HB0.out) HC0.out H0.out).mono ?_
  rintro e W1 ⟨v1, rfl, r1, b1⟩
  obtain ⟨P1, p1, rfl⟩ := Kd.R_slice r1
  have HX1 := Aside0.mk (blk_below HX0.out b1)
  have HB1 := Aside0.mk (HB0.out.trans (b1.mono HB0.out.size))
  have HS0 := Aside0.mk (Kd.R_lower r1 HB0.out.size)
  clear r1 b1 HX0 HB0
  go_wp2_with fail
  refine (span_steps.calls k A1 c1 l1 1 s1 W1 (Kd.C_below HR1.out HB1.out) HC1.out H1.out).mono ?_
  rintro e W2 ⟨v2, rfl, r2, b2⟩
  obtain ⟨P2, p2, rfl⟩ := Kd.R_slice r2
  have HX2 := Aside0.mk (blk_below HX1.out b2)
  have HB2 := Aside0.mk (HB1.out.trans (b2.mono HB1.out.size))
  have HS1 := Aside0.mk (Kd.R_below HS0.out b2)
  have HT1 := Aside0.mk (Kd.R_reads' r2)
  clear r2 b2 HX1 HB1 HS0
  go_wp2_with ((with_reducible refine gate_builtin (b := .append) (xs := #[.tmp 15, .tmp 17]) rfl ?_); at_builtin; refine Kd.R_append_rows k68 (Rr := k68.K W2) (w0 := w) w.heap.size rfl (.tmp 15) (.tmp 17) 64 68 (.agg #[.int .i64 0, .int .i64 0, .int .i64 0]) 24 rfl Try.underlying64 info68' rfl (by decide) (by omega) _ s0 s1 P2 s1.length p2 (fun _ => True) (fun _ => False) rfl rfl HS1.out HT1.out.2.2 ?aK (fun _ hk => hk.elim) ?aF HB2.out HB2.out.size ?aL ?_; (case aK => intro x cs hx; obtain rfl := k68_open hx; exact k68_mkM _ _ _ x); (case aF => exact fun _ _ => trivial); (case aL => omega); intro v3 W3 hR3 hb3 hg3 hat3; rw [← HSS.out] at hR3; obtain ⟨P3, p3, rfl⟩ := Kd.R_slice hR3; have ne3 : (Value.slice P1 s0.length p1).ownBlock ≠ some w.heap.size := (by intro he; obtain ⟨cells, hc⟩ := R_type HS1.out _ he; rw [HX2.out] at hc; injection hc with hc; injection hc with _ hc; cases hc); have HX3 := Aside0.mk (blk_grown HX2.out hg3 (Ne.symm ne3)); have HB3 := Aside0.mk hb3; have HS3 := Aside0.mk hR3; clear hR3 hb3 hg3 hat3 ne3)
  clear HS1 HB2 HX2
  refine (sort_steps HS3.out HB3.out (by omega)).mono ?_
  rintro e W4 ⟨rfl, ys, hp, hri, hR4, hb4, hsz4, hk4⟩
  have ne4 : some w.heap.size ≠ (Value.slice P3 ss.length p3).ownBlock := by
    intro he
    obtain ⟨cells, hc⟩ := R_type HS3.out _ he.symm
    rw [HX3.out] at hc
    injection hc with hc
    injection hc with _ hc
    cases hc
  have HX4 := Aside0.mk ((hk4 _ (blk_lt HX3.out) ne4).trans HX3.out)
  have HB4 := Aside0.mk hb4
  have HS4 := Aside0.mk hR4
  have HP := Aside0.mk hp
  have HRI := Aside0.mk hri
  have hl4 : ss.length = ys.length := hp.length_eq.symm
  rw [hl4] at HS4
  rw [hl4] at hz
  clear hp hri hR4 hb4 hsz4 hk4 ne4 HX3 HB3 HS3
  go_wp2_with fail
  obtain ⟨W5, hW5⟩ : ∃ W5, W5 = ((W4.alloc (.cells #[.slice none 0 0] 22)).alloc (.cells #[.int .i64 0, .int .i64 0] 70)).alloc (.cells #[.int .i64 0] 3) := ⟨_, rfl⟩
  have S5 : SwS W4 w gf (W4.heap.size + 1 + 1) w.heap.size (W4.heap.size + 1) W4.heap.size 0 0 0 (.slice none 0 0) [] W5 := by
    rw [hW5]
    have z1 : (W4.alloc (.cells #[.slice none 0 0] 22)).heap.size = W4.heap.size + 1 := by simp
    have z2 : ((W4.alloc (.cells #[.slice none 0 0] 22)).alloc (.cells #[.int .i64 0, .int .i64 0] 70)).heap.size = W4.heap.size + 1 + 1 := by simp
    have hle := HB4.out.size
    refine ⟨below_alloc (below_alloc (below_alloc HB4.out _) _) _, ?_, ?_, ?_, blk_alloc (blk_alloc (blk_alloc HX4.out _) _) _, Kd.R_nil _ _ _ _ _, by omega, by omega, hle, fun q cs hq => blk_alloc (blk_alloc (blk_alloc hq _) _) _⟩
    · have := blk_new ((W4.alloc (.cells #[.slice none 0 0] 22)).alloc (.cells #[.int .i64 0, .int .i64 0] 70)) (.cells #[.int .i64 0] 3)
      rw [z2] at this
      exact this
    · have := blk_new (W4.alloc (.cells #[.slice none 0 0] 22)) (.cells #[.int .i64 0, .int .i64 0] 70)
      rw [z1] at this
      exact blk_alloc this _
    · exact blk_alloc (blk_alloc (blk_new _ _) _) _
  rw [← hW5]
  clear hW5
  obtain ⟨ga, hga⟩ : ∃ ga, ga = W4.heap.size + 1 + 1 := ⟨_, rfl⟩
  obtain ⟨gi, hgi⟩ : ∃ gi, gi = W4.heap.size + 1 := ⟨_, rfl⟩
  obtain ⟨go, hgo⟩ : ∃ go, go = W4.heap.size := ⟨_, rfl⟩
  obtain ⟨gr, hgr⟩ : ∃ gr, gr = w.heap.size := ⟨_, rfl⟩
  rw [← hga, ← hgi, ← hgo] at S5 ⊢
  have S6 := Aside0.mk S5
  clear S5 hga hgi hgo hgr HX4
  obtain ⟨fin, hfin⟩ : ∃ fin, fin = runF rb ys 0 0 0 [] := ⟨_, rfl⟩
  have HFIN := Aside0.mk hfin
  clear hfin
  go_loopw [24] (fun u W => Lp rb gf w W4 ga w.heap.size gi go ys fin u W) (fun u _ => ys.length - (intOf u).toNat)
  case atStart => exact ⟨0, 0, 0, 0, _, [], Nat.zero_le _, rfl, S6.out, HFIN.out.symm, by omega, by omega, by omega, Nat.le_refl _⟩
  case round =>
    obtain ⟨j, a, i0, i1, v, xs, hj, rfl, hS, hrun, ha, h0, h1, hx⟩ := hrel
    by_cases hlt : j < ys.length
    · have b1 : decide ((j : Int) < (ys.length : Int)) = true := decide_eq_true (by omega)
      have b2 : decide (j < ys.length) = true := decide_eq_true hlt
      have hrow := R_keep HS4.out hS.keep
      obtain ⟨ad, rfl, k0, k1, k2⟩ := at_T68 (Kd.R_reads' hrow).2.2 (j : Int) (by omega) (by omega)
      rw [Int.toNat_natCast] at k0 k1 k2
      have hdrop : ys.drop j = rd_T68 ys j :: ys.drop (j + 1) := by
        rw [List.drop_eq_getElem_cons hlt]
        unfold rd_T68
        rw [Int.toNat_natCast, List.getD_eq_getElem?_getD, List.getElem?_eq_getElem hlt]
        rfl
      have hmem : rd_T68 ys j ∈ ss := by
        refine HP.out.mem_iff.1 (List.mem_of_mem_drop (i := j) ?_)
        rw [hdrop]
        exact List.mem_cons_self
      obtain ⟨q0, q1, q2, q3, q4⟩ := HOK.out _ hmem
      rw [hdrop] at hrun
      obtain ⟨s, hs⟩ : ∃ s, s = rd_T68 ys j := ⟨_, rfl⟩
      rw [← hs] at k0 k1 k2 q0 q1 q2 q3 q4 hrun
      clear hs hdrop hmem
      obtain ⟨f0, f1, f2⟩ := s
      simp only at k0 k1 k2 q0 q1 q2 q3 q4
      have HRUN := Aside0.mk hrun
      have HS := Aside0.mk hS
      have hj0 : 0 ≤ (j : Int) := by omega
      have hj1 : (j : Int) < (ys.length : Int) := by omega
      clear hrun hS hrow
      go_wp2_with fail
      obtain ⟨W6, hW6⟩ : ∃ W6, W6 = wr.alloc (.cells #[.int .i64 f0, .int .i64 f1, .int .i64 f2] 68) := ⟨_, rfl⟩
      have S7 : SwS W6 w gf ga w.heap.size gi go a i0 i1 v xs W6 := by rw [hW6]; exact (HS.out.alloc _).base
      have k7 : ∀ (q : Nat) (cs : Array Value), W4.heap[q]? = some (.cells cs 68 (0, 0)) → W6.heap[q]? = some (.cells cs 68 (0, 0)) := by rw [hW6]; exact (HS.out.alloc _).keep
      have X7 : W6.heap[wr.heap.size]? = some (.cells #[.int .i64 f0, .int .i64 f1, .int .i64 f2] 68 (0, 0)) := by rw [hW6]; exact blk_new _ _
      rw [← hW6]
      clear hW6 k0 k1 k2
      have S7' := Aside0.mk S7
      have K7 := Aside0.mk k7
      have X7' := Aside0.mk X7
      clear S7 k7 X7 HS
      refine (tell_calls S7'.out ⟨ha.1, q1⟩ (by omega) eg HRB.out).mono ?_
      rintro e W7 ⟨rfl, v', S8⟩
      have X8 := S8.keep _ _ X7'.out
      have x1 : W7.cell? ⟨wr.heap.size, 1, none⟩ = some (.int .i64 f1) := (blk_cell X8 1).trans rfl
      have x2 : W7.cell? ⟨wr.heap.size, 2, none⟩ = some (.int .i64 f2) := (blk_cell X8 2).trans rfl
      have y0 : W7.cell? ⟨gi, 0, none⟩ = some (.int .i64 i0) := (blk_cell S8.I 0).trans rfl
      have y1 : W7.cell? ⟨gi, 1, none⟩ = some (.int .i64 i1) := (blk_cell S8.I 1).trans rfl
      have g0 := blk_frozen S8.I 0
      have g1 := blk_frozen S8.I 1
      have S9 := Aside0.mk (S8.over K7.out)
      clear S8 X8 S7' K7 X7'
      have hlen := tellF_len (rb (decide (0 < i0)) (decide (0 < i1))) a f0 xs
      have HL := Aside0.mk hlen
      clear hlen
      rcases q2 with rfl | rfl
      · have w1 : IntKind.i64.wrap (i0 + f2) = i0 + f2 := IntWalk.i64_in _ (by omega)
        have hrun : runF rb (ys.drop (j + 1)) f0 (i0 + f2) (i1) (tellF (rb (decide (0 < i0)) (decide (0 < i1))) a f0 xs) = fin := HRUN.out
        have HRUN2 := Aside0.mk hrun
        clear hrun HRUN
        have w2 : IntKind.i64.wrap ((j : Int) + 1) = (j : Int) + 1 := IntWalk.i64_in _ (by omega)
        go_wp2_with fail
        go_still_tail 8, (by kernel_rfl)
        go_wp2_with fail
        go_roundw
        case rel => exact ⟨j + 1, f0, i0 + f2, i1, v', _, hlt, by go_num, (S9.out.drew).putI0 _, HRUN2.out, ⟨q0, q1⟩, by omega, by omega, by have := HL.out; omega⟩
        case measure => simp [intOf]; omega
      · have w1 : IntKind.i64.wrap (i1 + f2) = i1 + f2 := IntWalk.i64_in _ (by omega)
        have hrun : runF rb (ys.drop (j + 1)) f0 (i0) (i1 + f2) (tellF (rb (decide (0 < i0)) (decide (0 < i1))) a f0 xs) = fin := HRUN.out
        have HRUN2 := Aside0.mk hrun
        clear hrun HRUN
        have w2 : IntKind.i64.wrap ((j : Int) + 1) = (j : Int) + 1 := IntWalk.i64_in _ (by omega)
        go_wp2_with fail
        go_still_tail 8, (by kernel_rfl)
        go_wp2_with fail
        go_roundw
        case rel => exact ⟨j + 1, f0, i0, i1 + f2, v', _, hlt, by go_num, (S9.out.drew).putI1 _, HRUN2.out, ⟨q0, q1⟩, by omega, by omega, by have := HL.out; omega⟩
        case measure => simp [intOf]; omega
    · have b1 : decide ((j : Int) < (ys.length : Int)) = false := decide_eq_false (by omega)
      have b2 : decide (j < ys.length) = false := decide_eq_false hlt
      have hdrop : ys.drop j = [] := List.drop_eq_nil_iff.2 (by omega)
      rw [hdrop] at hrun
      have HRUN := Aside0.mk hrun
      have HS := Aside0.mk hS
      clear hrun hS hdrop
      go_wp2_with fail
      refine (tell_calls HS.out ⟨ha.1, Int.le_refl _⟩ (by omega) eg HRB.out).mono ?_
      rintro e W7 ⟨rfl, v', S8⟩
      obtain ⟨A8, c8, rfl⟩ := Kd.R_slice S8.row
      have y0 : W7.cell? ⟨go, 0, none⟩ = some (.slice A8 (tellF (rb (decide (0 < i0)) (decide (0 < i1))) a 1114112 xs).length c8) := (blk_cell S8.O 0).trans rfl
      have S9 := Aside0.mk S8
      have hfin : tellF (rb (decide (0 < i0)) (decide (0 < i1))) a 1114112 xs = runF rb ys 0 0 0 [] := (HRUN.out).trans HFIN.out
      have HF := Aside0.mk hfin
      clear S8 hfin
      generalize tellF (rb (decide (0 < i0)) (decide (0 < i1))) a 1114112 xs = zs at S9 HF y0
      go_wp2_with fail
      go_ret
      exact ⟨_, ys, rfl, HP.out, HRI.out, by rw [← HF.out]; exact S9.out.row, S9.out.bel⟩
end Go.Proofs.Ytippkbgeeeimjaa.L
