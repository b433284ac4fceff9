import Derived.Test.YtpedenbcfbflbaaXNum65
namespace Go.Proofs.Ytpedenbcfbflbaa.X
open Go.RowKit Go.Proofs.YtpedenbcfbflbaaW.PrintWords Go.Proofs.YtpedenbcfbflbaaW.PrintLast Go.Proofs.YtpedenbcfbflbaaW.PrintMore Go.Maps Num
set_option linter.unusedVariables false

theorem info55 : (Try.prog.info? 55).map (fun i => (i.zero, i.size, i.bytes)) = some (some (.agg #[.int .i64 0, .int .i64 0]), 2, 16) := by kernel_rfl

attribute [local go_sem ↓] Go.wp_at_zero Go.wp_at_succ
set_option maxHeartbeats 1000000 in
theorem number45_known (x : Int × Int) (l : List (Int × Int)) (D : DataW Unit) (v0 v1 v2 v3 v4 v5 : Value) (g mb base : Nat) (lv : Value) (w : World)
    (w1 : (Lit.int .i64 x.1).wf = true) (w2 : (Lit.int .i64 x.2).wf = true)
    (hb : w.heap[g]? = some (.cells #[v0, v1, v2, v3, v4, v5, .map (some mb), lv] 52 (0, 0))) (hm : w.ownsMap Try.prog 55 (plainElem Try.prog 3) mb l.length D) (hk : Known Try.prog 55 enc2 l D) (hx : x ∈ l) :
    Calls Try.prog 45 #[.pointer (some ⟨g, 0, none⟩), .agg #[.int .i64 x.1, .int .i64 x.2]] w fun e w' => e = .returned (.int .i64 (idx l x)) ∧ Below w.heap.size w w' := by
  obtain ⟨kl, hkl⟩ := key55 w1 w2
  obtain ⟨c, hlook, hc⟩ := Known.look (K := 55) (T := 49) (E := 3) (w := w) law55 Try.underlying49 Try.underlying3 (zero3 w) hm hk (x := x) hkl
  have hlk : ∀ (o : Obj) q, (Instr.lookup 49 (.map (some mb)) (.agg #[.int .i64 x.1, .int .i64 x.2]) true).run Try.prog ((w.alloc o).drewN q) = .ok (.tuple #[.int .i64 (idx l x), .bool true]) ((w.alloc o).drewN q) := by
    intro o q
    obtain ⟨c, hlook, hc⟩ := Known.look (K := 55) (T := 49) (E := 3) (w := (w.alloc o).drewN q) law55 Try.underlying49 Try.underlying3 (zero3 _) (hm.alloc o) hk (x := x) hkl
    rw [hc hx] at hlook
    simpa [hx, enc2] using hlook
  have hg := blk_lt hb
  have c0 : ∀ o, (w.alloc o).cell? ⟨g, 6, none⟩ = some (.map (some mb)) := fun o => (blk_cell (blk_alloc hb o) 6).trans rfl
  clear hb hm
  clear hlook hc hkl hk hx
  generalize (idx l x : Int) = r at *
  go_enter Try.func45, Try.ntmps45
  go_wp2
  go_quiet (fail)
  go_wp2
  go_ret
  exact ⟨rfl, by repeat (first | exact Below.refl _ _ | apply below_alloc | apply pw_below_drewN | apply below_drew1)⟩

set_option maxHeartbeats 2000000 in
theorem number45_new (x : Int × Int) (l : List (Int × Int)) (D : DataW Unit) (v0 v1 v2 v3 v4 v5 : Value) (g mb base : Nat) (A : Option Addr) (cp : Nat) (w : World)
    (w1 : (Lit.int .i64 x.1).wf = true) (w2 : (Lit.int .i64 x.2).wf = true) (hbase : base ≤ w.heap.size) (hlen : l.length ≤ 100000) (hgb : base ≤ g) (hmb : base ≤ mb)
    (hb : w.heap[g]? = some (.cells #[v0, v1, v2, v3, v4, v5, .map (some mb), .slice A l.length cp] 52 (0, 0))) (hm : w.ownsMap Try.prog 55 (plainElem Try.prog 3) mb l.length D) (hk : Known Try.prog 55 enc2 l D) (hx : x ∉ l)
    (hl : w.ownsRow base 55 2 (.slice A l.length cp) l.length (cells2 l)) :
    Calls Try.prog 45 #[.pointer (some ⟨g, 0, none⟩), .agg #[.int .i64 x.1, .int .i64 x.2]] w fun e w' => e = .returned (.int .i64 l.length) ∧ ∃ D' A' cp', w'.heap[g]? = some (.cells #[v0, v1, v2, v3, v4, v5, .map (some mb), .slice A' (l.length + 1) cp'] 52 (0, 0)) ∧
      w'.ownsMap Try.prog 55 (plainElem Try.prog 3) mb (l.length + 1) D' ∧ Known Try.prog 55 enc2 (l ++ [x]) D' ∧ w'.ownsRow base 55 2 (.slice A' (l.length + 1) cp') (l.length + 1) (cells2 (l ++ [x])) ∧
      Chg (fun i => i = g ∨ i = mb ∨ some i = (.slice A l.length cp : Value).ownBlock) w w' ∧ (∀ k, (.slice A' (l.length + 1) cp' : Value).ownBlock = some k → (.slice A l.length cp : Value).ownBlock = some k ∨ w.heap.size ≤ k) := by
  obtain ⟨i0, hi, hz0, hz1, hz2⟩ := info_parts info55
  obtain ⟨kl, hkl⟩ := key55 w1 w2
  obtain ⟨c, hlook, hc⟩ := Known.look (K := 55) (T := 49) (E := 3) (w := w) law55 Try.underlying49 Try.underlying3 (zero3 w) hm hk (x := x) hkl
  have hlk : ∃ c : Int, ∀ (o : Obj) q, (Instr.lookup 49 (.map (some mb)) (.agg #[.int .i64 x.1, .int .i64 x.2]) true).run Try.prog ((w.alloc o).drewN q) = .ok (.tuple #[.int .i64 c, .bool false]) ((w.alloc o).drewN q) := by
    refine ⟨0, fun o q => ?_⟩
    have h := look_not (K := 55) (T := 49) (E := 3) (w := (w.alloc o).drewN q) law55 Try.underlying49 Try.underlying3 (zero3 _) (hm.alloc o) hk hkl hx
    simpa [enc2] using h
  obtain ⟨c1, hlk⟩ := hlk
  have hg := blk_lt hb
  have c0 : ∀ o, (w.alloc o).cell? ⟨g, 6, none⟩ = some (.map (some mb)) := fun o => (blk_cell (blk_alloc hb o) 6).trans rfl
  have c1 : ∀ o, (w.alloc o).cell? ⟨g, 7, none⟩ = some (.slice A l.length cp) := fun o => (blk_cell (blk_alloc hb o) 7).trans rfl
  have HB := Aside0.mk hb
  have HM := Aside0.mk hm
  have HK := Aside0.mk hk
  have HL := Aside0.mk hl
  have HX := Aside0.mk hx
  have HKL := Aside0.mk hkl
  clear hb hm hk hl hx hlook hc hkl
  go_enter Try.func45, Try.ntmps45
  go_wp2
  go_quiet (fail)
  go_wp2
  obtain ⟨W, hW⟩ : ∃ W, W = (w.alloc (.cells #[.int .i64 x.1, .int .i64 x.2] 55)).drewN nq := ⟨_, rfl⟩
  have d0 : W.cell? ⟨g, 6, none⟩ = some (.map (some mb)) := by rw [hW]; exact c0 _
  have d1 : W.cell? ⟨g, 7, none⟩ = some (.slice A l.length cp) := by rw [hW]; exact c1 _
  have e0 : W.cell? ⟨w.heap.size, 0, none⟩ = some (.int .i64 x.1) := by rw [hW]; simp
  have e1 : W.cell? ⟨w.heap.size, 1, none⟩ = some (.int .i64 x.2) := by rw [hW]; simp
  rw [← hW]
  have HW := Aside0.mk hW
  clear hW c0 c1 hlk
  refine wp_region_still_tail 6 (by kernel_rfl) (by kernel_rfl) ?_
  simp only [List.take_succ_cons, List.take_zero, List.drop_succ_cons, List.drop_zero]
  change wpStill _ _ W.drew _ _ _
  repeat still_step
  refine wpStill_nil ?_
  change wpList _ _ _ _ _ W.drew
  have hmW : W.drew.ownsMap Try.prog 55 (plainElem Try.prog 3) mb l.length D := by rw [HW.out]; exact HM.out.alloc _
  refine wpList_mapUpdate_own _ rfl _ _ _ 49 rfl 55 3 law55 Try.underlying49 _ mb l.length D rfl hmW (by unfold maxLen; omega) _ _ kl rfl rfl HKL.out _ [] (plainElem_int Try.underlying3 (wf_of (by omega) (by omega))) ?_
  intro W1 hm1 hg1
  have hsz : W.drew.heap.size = w.heap.size + 1 := by rw [HW.out]; simp
  obtain ⟨es, clock, hmb0, _⟩ := HM.out
  have hmlt := blk_lt hmb0
  have hgm : g ≠ mb := by rintro rfl; rw [HB.out] at hmb0; cases hmb0
  have b1 : W1.heap[g]? = some (.cells #[v0, v1, v2, v3, v4, v5, .map (some mb), .slice A l.length cp] 52 (0, 0)) := by
    rw [hg1.block g (by omega) (by simp; exact hgm), HW.out]; exact blk_alloc HB.out _
  have b2 : W1.heap[w.heap.size]? = some (.cells #[.int .i64 x.1, .int .i64 x.2] 55 (0, 0)) := by
    rw [hg1.block w.heap.size (by omega) (by simp; omega), HW.out]; exact heap_alloc_new _ _
  have hl1 : W1.ownsRow base 55 2 (.slice A l.length cp) l.length (cells2 l) := by
    refine World.ownsRow.kept ?_ hg1 ?_
    · rw [HW.out]; exact (HL.out.alloc _)
    · exact own_map_ne HL.out hmb0
  have hs1 := hg1.size
  have f1 : W1.cell? ⟨g, 7, none⟩ = some (.slice A l.length cp) := (blk_cell b1 7).trans rfl
  have f2 : W1.cell? ⟨w.heap.size, 0, none⟩ = some (.int .i64 x.1) := (blk_cell b2 0).trans rfl
  have f3 : W1.cell? ⟨w.heap.size, 1, none⟩ = some (.int .i64 x.2) := (blk_cell b2 1).trans rfl
  have f4 : W1.frozen? ⟨g, 7, none⟩ = false := blk_frozen b1 7
  have f5 : ∀ o, (W1.alloc o).frozen? ⟨g, 7, none⟩ = false := fun o => blk_frozen (blk_alloc b1 o) 7
  have f6 : ∀ o, (W1.alloc o).cell? ⟨g, 7, none⟩ = some (.slice A l.length cp) := fun o => (blk_cell (blk_alloc b1 o) 7).trans rfl
  have HNE := Aside0.mk (own_block_ne hl1 b1 (by decide))
  have HMV := Aside0.mk (own_map_ne HL.out hmb0)
  have HG1 := Aside0.mk hg1
  have HM1 := Aside0.mk hm1
  have HL1 := Aside0.mk hl1
  have B1 := Aside0.mk b1
  have B2 := Aside0.mk b2
  clear hm1 hg1 hl1 hmW hmb0 b1 b2 d0 d1 e0 e1
  go_wp2
  go_region_law
    ((refine step_append_lies _ (by rfl) _ _ _ (by rfl) base 55 i0 _ 2 16 Try.underlying50 hi hz0 hz1 hz2 rfl (by omega) (.slice A l.length cp) l.length (cells2 l) (by rfl) ((HL1.out.alloc _).drew)
        ⟨W1.heap.size, 0, none⟩ 1 1 [.int .i64 x.1, .int .i64 x.2] (by rfl) (by rfl) (World.news_of_block (cs := #[.int .i64 x.1, .int .i64 x.2]) (t := 55) (fr := (0, 0)) (heap_alloc_new W1 _)) (by simp [Value.oneCell'])
        (by omega) (by unfold maxLen; omega) (by omega) (by simp; omega) (W1.heap.size + 1) (by simp) ?_; intro gg cap w2 hown2 hgrow2 hat2 hlt2; have k1 := (hgrow2.cell_far ⟨g, 7, none⟩ (by simp; omega) HNE.out).trans (f6 _); have k2 := (hgrow2.frozen_far ⟨g, 7, none⟩ (by simp; omega) HNE.out).trans (f5 _)))
  all_goals
    have hfin := num_fin (K := 55) (x := x) (kl := kl) (cells := cells2) (j := 7) law55 enc2_inj HW.out HG1.out hgrow2 HM1.out B1.out HNE.out HMV.out hg hmlt hgm HK.out HKL.out HX.out (by rw [cells2_snoc]; exact hown2) hat2 rfl
    have HF := Aside0.mk hfin
    have HAT : Aside0 (∀ k, (.slice (some ⟨gg, 0, none⟩) (l.length + 1) cap : Value).ownBlock = some k → (.slice A l.length cp : Value).ownBlock = some k ∨ w.heap.size ≤ k) := ⟨fun k hk => by
      have e : gg = k := by simpa [Value.ownBlock] using hk
      subst e
      rcases hat2 with h | h
      · exact .inl h
      · exact .inr (by omega)⟩
    clear hfin hown2 hgrow2 hat2
    go_wp2
    go_ret
    exact ⟨rfl, _, _, _, HF.out.1, HF.out.2.1, HF.out.2.2.1, HF.out.2.2.2.1, HF.out.2.2.2.2, HAT.out⟩

/-- maker.number: the state's number; it comes, if it isn't there. -/
theorem number45 (x : Int × Int) (l : List (Int × Int)) (D : DataW Unit) (v0 v1 v2 v3 v4 v5 : Value) (g mb base : Nat) (A : Option Addr) (cp : Nat) (w : World)
    (w1 : (Lit.int .i64 x.1).wf = true) (w2 : (Lit.int .i64 x.2).wf = true) (hbase : base ≤ w.heap.size) (hlen : l.length ≤ 100000) (hgb : base ≤ g) (hmb : base ≤ mb)
    (hb : w.heap[g]? = some (.cells #[v0, v1, v2, v3, v4, v5, .map (some mb), .slice A l.length cp] 52 (0, 0))) (hm : w.ownsMap Try.prog 55 (plainElem Try.prog 3) mb l.length D) (hk : Known Try.prog 55 enc2 l D)
    (hl : w.ownsRow base 55 2 (.slice A l.length cp) l.length (cells2 l)) :
    Calls Try.prog 45 #[.pointer (some ⟨g, 0, none⟩), .agg #[.int .i64 x.1, .int .i64 x.2]] w fun e w' => e = .returned (.int .i64 (idx l x)) ∧ ∃ D' A' cp', w'.heap[g]? = some (.cells #[v0, v1, v2, v3, v4, v5, .map (some mb), .slice A' (put l x).length cp'] 52 (0, 0)) ∧
      w'.ownsMap Try.prog 55 (plainElem Try.prog 3) mb (put l x).length D' ∧ Known Try.prog 55 enc2 (put l x) D' ∧ w'.ownsRow base 55 2 (.slice A' (put l x).length cp') (put l x).length (cells2 (put l x)) ∧
      Chg (fun i => i = g ∨ i = mb ∨ some i = (.slice A l.length cp : Value).ownBlock) w w' ∧ (∀ k, (.slice A' ((put l x).length) cp' : Value).ownBlock = some k → (.slice A l.length cp : Value).ownBlock = some k ∨ w.heap.size ≤ k) := by
  by_cases hx : x ∈ l
  · have e : put l x = l := by simp [put, hx]
    rw [e]
    refine (number45_known x l D v0 v1 v2 v3 v4 v5 g mb base _ w w1 w2 hb hm hk hx).mono ?_
    rintro e w' ⟨rfl, hbel⟩
    exact ⟨rfl, D, A, cp, blk_below hb hbel, hm.kept (grown_of_below hbel none) (by simp), hk, pw_own_below hl hbel, Chg.of_below hbel, fun k hk => .inl hk⟩
  · have e : put l x = l ++ [x] := by simp [put, hx]
    rw [e, idx_not hx]
    simp only [List.length_append, List.length_cons, List.length_nil, Nat.zero_add]
    exact number45_new x l D v0 v1 v2 v3 v4 v5 g mb base A cp w w1 w2 hbase hlen hgb hmb hb hm hk hx hl
end Go.Proofs.Ytpedenbcfbflbaa.X
