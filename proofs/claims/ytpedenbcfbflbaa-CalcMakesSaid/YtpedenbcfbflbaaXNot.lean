/- The contracts of slices.Clone (of bools) and of calc.Not. -/
import Derived.Test.YtpedenbcfbflbaaPQ
import Derived.WalkSpells
namespace Go.Proofs.Ytpedenbcfbflbaa.X
open Go.RowKit Go.Proofs.YtpedenbcfbflbaaW.PrintWords Go.Proofs.YtpedenbcfbflbaaW.PrintLast Go.Proofs.YtpedenbcfbflbaaW.PrintMore Go.Maps Num
set_option linter.unusedVariables false
set_option linter.unusedSimpArgs false

theorem info4x : (Try.prog.info? 4).map (fun i => (i.zero, i.size, i.bytes)) = some (some (.bool false), 1, 1) := by kernel_rfl

set_option maxHeartbeats 1000000 in
theorem clone58 (ad : Addr) (c : Nat) (xs : List Bool) (w : World) (hr : Kd.C Kd.bool w (some ad) xs.length xs) (hl : xs.length ≤ 3000) :
    Calls Try.prog 58 #[.slice (some ad) xs.length c] w fun e w' => ∃ v : Value, e = .returned v ∧ Kd.R Kd.bool 4 w' w.heap.size (fun k_ => True) v xs ∧ Below w.heap.size w w' := by
  have heq : ∀ W : World, (binOp .eql 23 (.slice (some ad) xs.length c) (.slice none 0 0)).run Try.prog W = .ok (.bool false) W := fun W => Lib.run_eql_slice_nil W 23 4 (some ad) _ c 0 0 Try.underlying23
  have HR := Aside0.mk hr
  clear hr
  go_enter Try.func58, Try.ntmps58
  go_wp2_with ((with_reducible refine gate_builtin (b := .append) (xs := #[.tmp 5, .tmp 6]) rfl ?_); at_builtin; refine Kd.R_append_rows Kd.bool (w0 := w) w.heap.size rfl (.tmp 5) (.tmp 6) 23 4 (.bool false) 1 rfl Try.underlying23 info4x rfl (by decide) (by omega) (.slice (some ⟨w.heap.size, 0, none⟩) 0 0) ([] : List Bool) xs (some ad) xs.length c (fun _ => True) (fun _ => False) rfl rfl ?aO ?aR (fun _ _ h => h) (fun _ h => h.elim) (fun _ _ => trivial) ?aB ?aS ?aL ?_)
  case aO => exact ⟨fun _ _ => trivial, [], World.ownsRow_made w #[] 0 (Nat.le_refl _) (by unfold maxLen; omega) rfl, Reps.none _ _⟩
  case aR => exact Kd.C_alloc HR.out _
  case aB => exact below_alloc (Below.refl _ _) _
  case aS => simp
  case aL => simp; omega
  intro v1 w1 h1 hb1 _ _
  have H1 := Aside0.mk h1
  have B1 := Aside0.mk hb1
  clear h1 hb1
  go_wp2_with fail
  go_ret
  exact ⟨_, rfl, H1.out, B1.out⟩

theorem cell_bool {W : World} {A : Option Addr} {xs : List Bool} (h : Kd.C Kd.bool W A xs.length xs) (j : Nat) (hj : j < xs.length) : ∃ ad, A = some ad ∧ W.cell? (ad.add j) = some (.bool xs[j]) := by
  obtain ⟨ad, e, h⟩ := h.2.2 (by omega)
  obtain ⟨cs, h1, h2, h3⟩ := h j xs[j] (List.getElem?_eq_getElem hj)
  refine ⟨ad, e, ?_⟩
  have h2' : cs = [.bool xs[j]] := h2
  subst h2'
  have := h3 0 (.bool xs[j]) rfl
  simpa [show Kd.bool.sz = 1 from rfl] using this
theorem R_head {α : Type} {d : Kd α} {e base : Nat} {W : World} {ok : Nat → Prop} {v : Value} {xs : List α} (h : d.R e W base ok v xs) (h0 : 0 < xs.length) : ∃ g cap, v = .slice (some ⟨g, 0, none⟩) xs.length cap ∧ base ≤ g := by
  obtain ⟨_, inner, ⟨_, h1⟩, _⟩ := h
  rcases h1 with ⟨_, h1⟩ | ⟨g, cap, cur, rfl, hb, _⟩
  · omega
  · exact ⟨g, cap, rfl, hb⟩
theorem drop_set_not (e : List Bool) (j : Nat) (hj : j < e.length) : ((e.take j).map (!·) ++ e.drop j).set j (!e[j]) = (e.take (j + 1)).map (!·) ++ e.drop (j + 1) := by
  have hl : ((e.take j).map (!·)).length = j := by rw [List.length_map, List.length_take]; omega
  rw [List.drop_eq_getElem_cons hj, List.set_append_right _ _ (by omega), hl, Nat.sub_self, List.set_cons_zero, List.take_succ_eq_append_getElem hj, List.map_append, List.append_assoc]
  rfl
theorem get_not (e : List Bool) (j : Nat) (hj : j < e.length) : ((e.take j).map (!·) ++ e.drop j)[j]? = some e[j] := by
  have hl : ((e.take j).map (!·)).length = j := by rw [List.length_map, List.length_take]; omega
  rw [List.getElem?_append_right (by omega), hl, Nat.sub_self, List.drop_eq_getElem_cons hj]
  rfl
/-- The world of Not's loop. -/
structure NotW (w : World) (s : Int) (A : Option Addr) (n : List (List Int)) (c : Nat) (g cap : Nat) (e : List Bool) (j : Nat) (W : World) : Prop where
  x1 : W.heap[w.heap.size]? = some (.cells #[.int .i64 s, .slice A n.length c, .slice (some ⟨g, 0, none⟩) e.length cap] 25 (0, 0))
  x2 : W.heap[w.heap.size + 1]? = some (.cells #[.int .i64 0, .slice none 0 0, .slice none 0 0] 25 (0, 0))
  r : Kd.R Kd.bool 4 W w.heap.size (fun _ => True) (.slice (some ⟨g, 0, none⟩) e.length cap) ((e.take j).map (!·) ++ e.drop j)
  b : Below w.heap.size w W
theorem NotW.below {w W W' : World} {s : Int} {A : Option Addr} {n : List (List Int)} {c g cap : Nat} {e : List Bool} {j : Nat} (h : NotW w s A n c g cap e j W) (hb : Below W.heap.size W W') : NotW w s A n c g cap e j W' :=
  ⟨blk_below h.x1 hb, blk_below h.x2 hb, Kd.R_below h.r hb, h.b.trans (hb.mono h.b.size)⟩
theorem NotW.cell {w W : World} {s : Int} {A : Option Addr} {n : List (List Int)} {c g cap : Nat} {e : List Bool} {j : Nat} (h : NotW w s A n c g cap e j W) (hj : j < e.length) : W.cell? ⟨g, j, none⟩ = some (.bool e[j]) ∧ W.frozen? ⟨g, j, none⟩ = false := by
  have hl : ((e.take j).map (!·) ++ e.drop j).length = e.length := by simp; omega
  obtain ⟨_, _, hC⟩ := Kd.R_reads' h.r
  obtain ⟨ad, e1, e2⟩ := cell_bool hC j (by omega)
  obtain rfl := Option.some.inj e1
  obtain ⟨cells, hb⟩ := Kd.R_typed h.r g rfl
  refine ⟨?_, blk_frozen hb j⟩
  have := get_not e j hj
  rw [List.getElem?_eq_getElem (by omega)] at this
  rw [Option.some.inj this] at e2
  rw [show (⟨g, 0, none⟩ : Addr).add j = ⟨g, j, none⟩ from add_plain _ _] at e2
  exact e2
theorem NotW.step {w W : World} {s : Int} {A : Option Addr} {n : List (List Int)} {c g cap : Nat} {e : List Bool} {j : Nat} (h : NotW w s A n c g cap e j W) (hj : j < e.length) : NotW w s A n c g cap e (j + 1) (W.setCell ⟨g, j, none⟩ (.bool (!e[j]))) := by
  obtain ⟨cells, hb⟩ := Kd.R_typed h.r g rfl
  have hbase := Kd.R_base h.r g rfl
  have hn1 : g ≠ w.heap.size := by rintro rfl; rw [h.x1] at hb; simp at hb
  have hn2 : g ≠ w.heap.size + 1 := by rintro rfl; rw [h.x2] at hb; simp at hb
  obtain ⟨r1, r2⟩ := Kd.R_putg h.r (j : Int) (!e[j])
  simp only [Int.toNat_natCast] at r1 r2
  refine ⟨(r2.block _ (blk_lt h.x1) (by simpa using Ne.symm hn1)).trans h.x1, (r2.block _ (blk_lt h.x2) (by simpa using Ne.symm hn2)).trans h.x2, ?_, h.b.setCell hbase _⟩
  rw [drop_set_not e j hj] at r1
  exact r1
/-- What calc.Not answers. -/
def notF (s : Int) (n : List (List Int)) (e : List Bool) : Int × List (List Int) × List Bool × Int := if rightB s n e then (s, n, e.map (!·), 0) else (0, [], [], 1)

set_option maxHeartbeats 4000000 in
theorem calc_not (s : Int) (A : Option Addr) (c : Nat) (n : List (List Int)) (B : Option Addr) (d : Nat) (e : List Bool) (w : World)
    (hr : Kd.C (Kd.slice 3 (Kd.int .i64)) w A n.length n) (hc : n.length ≤ c) (hb : Kd.C Kd.bool w B e.length e) (hd : e.length ≤ d) (h : rightB s n e = true) :
    Calls Try.prog 38 #[.agg #[.int .i64 s, .slice A n.length c, .slice B e.length d]] w
      fun e_ w' => ∃ v2_ : Value, e_ = .returned (.tuple #[.agg #[.int .i64 s, .slice A n.length c, v2_], .int .i64 0]) ∧ Kd.R Kd.bool 4 w' w.heap.size (fun k_ => True) v2_ (e.map (!·)) ∧ Below w.heap.size w w' := by
  have hu25 := Try.underlying25
  obtain ⟨q1, q2, q3, q4, q5, q6⟩ := rightB_spec h
  obtain ⟨bd, rfl⟩ : ∃ bd, B = some bd := by
    obtain ⟨bd, e_, _⟩ := hb.2.2 (by omega)
    exact ⟨bd, e_⟩
  have HR := Aside0.mk hr
  have HBo := Aside0.mk hb
  have H := Aside0.mk h
  have hca := fun W hr hb => det_Right s A c n (some bd) d e W hr hc hb hd
  rw [h] at hca
  have HCA := Aside0.mk hca
  have Q5 := Aside0.mk q5
  clear hr hb h hca q6 q5
  go_enter Try.func38, Try.ntmps38
  go_upto_region 1 with (fail)
  obtain ⟨W, hW⟩ : ∃ W, W = (w.alloc (.cells #[.int .i64 s, .slice A n.length c, .slice (some bd) e.length d] 25)).alloc (.cells #[.int .i64 0, .slice none 0 0, .slice none 0 0] 25) := ⟨_, rfl⟩
  have hx1 : W.heap[w.heap.size]? = some (.cells #[.int .i64 s, .slice A n.length c, .slice (some bd) e.length d] 25 (0, 0)) := by rw [hW]; exact blk_alloc (blk_new _ _) _
  have hx2 : W.heap[w.heap.size + 1]? = some (.cells #[.int .i64 0, .slice none 0 0, .slice none 0 0] 25 (0, 0)) := by
    have := blk_new (w.alloc (.cells #[.int .i64 s, .slice A n.length c, .slice (some bd) e.length d] 25)) (.cells #[.int .i64 0, .slice none 0 0, .slice none 0 0] 25)
    rw [hW]; simpa using this
  have hbl : Below w.heap.size w W := by rw [hW]; exact below_alloc (below_alloc (Below.refl _ _) _) _
  rw [← hW]
  clear hW
  have HR1 := Aside0.mk (Kd.C_below HR.out hbl)
  have HB1 := Aside0.mk (Kd.C_below HBo.out hbl)
  have X1 := Aside0.mk hx1
  have X2 := Aside0.mk hx2
  have BL := Aside0.mk hbl
  clear hx1 hx2 hbl HR HBo
  have k0 := (blk_cell X1.out 0).trans rfl
  have k1 := (blk_cell X1.out 1).trans rfl
  have k2 := (blk_cell X1.out 2).trans rfl
  go_wp2_with fail
  refine (HCA.out W HR1.out HB1.out).mono ?_
  rintro e_ W2 ⟨rfl, hb⟩
  have X1' := Aside0.mk (blk_below X1.out hb)
  have X2' := Aside0.mk (blk_below X2.out hb)
  have BL2 := Aside0.mk (BL.out.trans (hb.mono BL.out.size))
  have HB2 := Aside0.mk (Kd.C_below HB1.out hb)
  clear hb X1 X2 BL HR1 HB1 k0 k1 k2 HCA
  have k0 := (blk_cell X1'.out 0).trans rfl
  have k1 := (blk_cell X1'.out 1).trans rfl
  have k2 := (blk_cell X1'.out 2).trans rfl
  have m0 := blk_frozen X1'.out 0
  have m1 := blk_frozen X1'.out 1
  have m2 := blk_frozen X1'.out 2
  go_wp2_with fail
  refine (clone58 bd d e W2 HB2.out (by rw [Q5.out]; exact q4)).mono ?_
  rintro e_ W3 ⟨v, rfl, hr3, hb⟩
  have X1 := Aside0.mk (blk_below X1'.out hb)
  have X2 := Aside0.mk (blk_below X2'.out hb)
  have BL3 := Aside0.mk (BL2.out.trans (hb.mono BL2.out.size))
  have R3 := Aside0.mk (Kd.R_lower hr3 BL2.out.size)
  have BL2s := BL2.out.size
  clear hb X1' X2' BL2 HB2 k0 k1 k2 m0 m1 m2
  obtain ⟨g, cap, rfl, hg⟩ := R_head hr3 (by rw [Q5.out]; exact q3)
  have G3 := Aside0.mk (Nat.le_trans BL2s hg)
  clear hr3 hg
  have k0 := (blk_cell X1.out 0).trans rfl
  have k1 := (blk_cell X1.out 1).trans rfl
  have k2 := (blk_cell X1.out 2).trans rfl
  have m0 := blk_frozen X1.out 0
  have m1 := blk_frozen X1.out 1
  have m2 := blk_frozen X1.out 2
  go_upto_region 4 with (fail)
  obtain ⟨W4, hW4⟩ : ∃ W4, W4 = W3.setCell ⟨w.heap.size, 2, none⟩ (.slice (some ⟨g, 0, none⟩) e.length cap) := ⟨_, rfl⟩
  have hx1 : W4.heap[w.heap.size]? = some (.cells #[.int .i64 s, .slice A n.length c, .slice (some ⟨g, 0, none⟩) e.length cap] 25 (0, 0)) := by rw [hW4]; exact blk_put X1.out 2 _ rfl
  have hkp : Keeps 25 25 W3 W4 := by rw [hW4]; exact keeps_put X1.out 2 _
  have NW : Aside0 (NotW w s A n c g cap e 0 W4) := ⟨⟨hx1, by
    rw [hW4]; exact blk_far X2.out (show w.heap.size + 1 ≠ w.heap.size by omega) _, R_keeps R3.out hkp (by decide), by rw [hW4]; exact BL3.out.setCell (Nat.le_refl _) _⟩⟩
  rw [← hW4]
  clear hW4 hx1 hkp X1 X2 R3 BL3 k0 k1 k2 m0 m1 m2
  have k0 := (blk_cell NW.out.x1 0).trans rfl
  have k1 := (blk_cell NW.out.x1 1).trans rfl
  have k2 := (blk_cell NW.out.x1 2).trans rfl
  have hle : e.length ≤ 3000 := by rw [Q5.out]; exact q4
  go_wp2_with fail
  clear k0 k1 k2
  go_loopg [4, 5, 17] e.length (fun kq v4 v5 v17 W => ∃ j : Nat, v17 = .int .i64 j ∧ j + kq = e.length ∧ Aside0 (NotW w s A n c g cap e j W))
  case atStart => exact ⟨0, rfl, by omega, NW⟩
  case round =>
    obtain ⟨j, rfl, hj, NJ⟩ := hrel
    have k0 := (blk_cell NJ.out.x1 0).trans rfl
    have k1 := (blk_cell NJ.out.x1 1).trans rfl
    have k2 := (blk_cell NJ.out.x1 2).trans rfl
    by_cases hlt : j < e.length
    · obtain ⟨c1, f1⟩ := NJ.out.cell hlt
      have NS := Aside0.mk (NJ.out.step hlt)
      generalize e[j] = bv at c1 NS
      obtain ⟨gk, rfl⟩ : ∃ q, gk = q + 1 := ⟨gk - 1, by omega⟩
      have hltb : decide ((j : Int) < (e.length : Int)) = true := decide_eq_true (by omega)
      go_wp2_with fail
      go_roundg gk
      case measure => omega
      case rel => exact ⟨j + 1, by go_num, by omega, NS⟩
    · obtain rfl : j = e.length := by omega
      have hltb : decide ((e.length : Int) < (e.length : Int)) = false := decide_eq_false (by omega)
      have x2 := NJ.out.x2
      have m6 := blk_frozen x2 0
      have m7 := blk_frozen x2 1
      have m8 := blk_frozen x2 2
      have n6 := (blk_cell x2 0).trans rfl
      have n7 := (blk_cell x2 1).trans rfl
      have n8 := (blk_cell x2 2).trans rfl
      obtain ⟨kp3, hb3, bl3⟩ := keeps_put3 NJ.out.b (show w.heap.size ≤ w.heap.size + 1 by omega) x2 (.int .i64 s) (.slice A n.length c) (.slice (some ⟨g, 0, none⟩) e.length cap)
      have hR := NJ.out.r
      rw [List.take_length, List.drop_length, List.append_nil] at hR
      have FIN := Aside0.mk (And.intro hb3 (And.intro (R_keeps hR kp3 (by decide)) bl3))
      clear kp3 hb3 bl3 hR x2
      go_wp2_with fail
      refine bodyPost_ret (results_ct rfl _ _ (w.heap.size + 1) 25 #[.int .i64 s, _, _] (0, 0) _ rfl FIN.out.1 Try.underlying25 rfl (by kernel_rfl)) rfl ?_
      exact ⟨_, rfl, FIN.out.2.1, FIN.out.2.2⟩
end Go.Proofs.Ytpedenbcfbflbaa.X
