import Derived.Test.YtpedenbcfbflbaaYD
import Derived.Test.YtpedenbcfbflbaaYA
import Derived.Deep.DeepMust
namespace Go.Proofs.Ytpedenbcfbflbaa.X
open Go.RowKit Go.Proofs.YtpedenbcfbflbaaW.PrintWords Go.Proofs.YtpedenbcfbflbaaW.PrintLast Go.Proofs.YtpedenbcfbflbaaW.PrintMore Go.Maps Num
set_option linter.unusedVariables false
set_option linter.unusedSimpArgs false

theorem nodup_le {α : Type} [DecidableEq α] : ∀ (l m : List α), l.Nodup → (∀ x ∈ l, x ∈ m) → l.length ≤ m.length
  | [], m, _, _ => Nat.zero_le _
  | x :: r, m, hn, hs => by
    have hx := hs x List.mem_cons_self
    obtain ⟨h1, h2⟩ := List.nodup_cons.1 hn
    have := nodup_le r (m.erase x) h2 (fun y hy => (List.mem_erase_of_ne (fun e => h1 (by rw [← e]; exact hy))).2 (hs y (List.mem_cons_of_mem _ hy)))
    rw [List.length_erase_of_mem hx] at this
    have hp := List.length_pos_of_mem hx
    simp only [List.length_cons]
    omega
/-- The four states of all marked ones. -/
def four : List (Int × Int) := [(0, 0), (1, 0), (2, 0), (3, 0)]
theorem nextOne_four (n : Int) (x : Int × Int) (hx : x ∈ four) (s : Nat) : nextM [List.replicate n.toNat 0] [true] [List.replicate n.toNat 0] x s ∈ four := by
  have hz : ∀ j : Nat, (List.replicate n.toNat (0 : Int))[j]?.getD 0 = 0 := fun j => by
    rw [List.getElem?_replicate]
    split <;> rfl
  simp only [four, List.mem_cons, List.not_mem_nil, or_false] at hx
  unfold nextM
  rcases hx with rfl | rfl | rfl | rfl <;> (split <;> simp [four, hz])
theorem one_len (n : Int) (d : Nat) : (tableT (nextM [List.replicate n.toNat 0] [true] [List.replicate n.toNat 0]) (2 * n).toNat d 0 [(0, 0)]).1.length ≤ 4 := by
  have h1 := tableT_all (nextM [List.replicate n.toNat 0] [true] [List.replicate n.toNat 0]) (2 * n).toNat (fun x => x ∈ four) (fun x hx s _ => nextOne_four n x hx s) d 0 [(0, 0)] (fun x hx => by simp at hx; subst hx; simp [four])
  have h2 := tableT_nodup (nextM [List.replicate n.toNat 0] [true] [List.replicate n.toNat 0]) (2 * n).toNat d 0 [(0, 0)] (by simp)
  have := nodup_le _ _ h2 (fun x hx => h1 x hx)
  simpa [four] using this
/-- The bound says nothing of it. -/
theorem one_most (n : Int) (h1 : 1 ≤ n) (h2 : n ≤ 200) (hr : rightB n [List.replicate n.toNat 0] [true] = true) : markF n [List.replicate n.toNat 0] [true] n [List.replicate n.toNat 0] [true] 4 = markF n [List.replicate n.toNat 0] [true] n [List.replicate n.toNat 0] [true] 3000 := by
  unfold markF
  rw [markBad_ok hr hr rfl (by omega) (by decide) (by decide), markBad_ok hr hr rfl (by omega) (by decide) (by decide)]
  simp only [Bool.false_eq_true, if_false]
  rw [table_eq _ _ _ _ _ _ (by decide), table_eq _ _ _ _ _ _ (by decide)]
  have l1 := one_len n 5
  have e := tableT_depth (nextM [List.replicate n.toNat 0] [true] [List.replicate n.toNat 0]) (2 * n).toNat 5 0 [(0, 0)] 3001 (by omega) (by decide)
  have e5 : (4 : Int).toNat + 1 = 5 := rfl
  have e6 : (3000 : Int).toNat + 1 = 3001 := rfl
  have e7 : (4 : Int).toNat = 4 := rfl
  have e8 : (3000 : Int).toNat = 3000 := rfl
  rw [e5, e6, e7, e8, e, if_neg (by omega), if_neg (by omega)]
theorem one_right (n : Int) (h1 : 1 ≤ n) (h2 : n ≤ 200) : rightB n [List.replicate n.toNat 0] [true] = true := by
  unfold rightB
  have a1 : decide (n < 1) = false := decide_eq_false (by omega)
  have a2 : decide (400 < n) = false := decide_eq_false (by omega)
  rw [a1, a2]
  have hl : ((n.toNat : Nat) : Int) = n := by omega
  simp [hl]
set_option maxHeartbeats 2000000 in
set_option maxRecDepth 100000 in
theorem ref_one (n : Int) (w : World) (r1 : Int) (r2 : List (List Int)) (r3 : List Bool) (r4 : Int) (h : oneF n = (r1, r2, r3, r4)) :
    Calls Try.prog 20 #[.int .i64 n] w fun e w' => ∃ v1_ v2_ : Value, e = .returned (.tuple #[.agg #[.int .i64 r1, v1_, v2_], .int .i64 r4]) ∧ Kd.S (Kd.slice 3 (Kd.int .i64)) 33 w' w.heap.size (fun k_ => some k_ ≠ (v2_ : Value).ownBlock) v1_ r2 ∧ Kd.R Kd.bool 4 w' w.heap.size (fun k_ => True) v2_ r3 ∧ Below w.heap.size w w' := by
  have hu25 := Try.underlying25
  have H := Aside0.mk h
  clear h
  go_enter Try.func20, Try.ntmps20
  go_upto_region 1 with (fail)
  obtain ⟨W, hW⟩ : ∃ W, W = w.alloc (.cells #[.int .i64 0, .slice none 0 0, .slice none 0 0] 25) := ⟨_, rfl⟩
  have hbx : W.heap[w.heap.size]? = some (.cells #[.int .i64 0, .slice none 0 0, .slice none 0 0] 25 (0, 0)) := by rw [hW]; exact blk_new _ _
  have hbl : Below w.heap.size w W := by rw [hW]; exact below_alloc (Below.refl _ _) _
  rw [← hW]
  clear hW
  have BX := Aside0.mk hbx
  have BL := Aside0.mk hbl
  clear hbx hbl
  by_cases hh : n < 1
  · have hb1 : decide (n < 1) = true := decide_eq_true hh
    have e : r1 = 0 ∧ r2 = [] ∧ r3 = [] ∧ r4 = 1 := by
      have := H.out
      simp only [oneF, hh, or_true, if_true, Prod.mk.injEq] at this
      exact ⟨this.1.symm, this.2.1.symm, this.2.2.1.symm, this.2.2.2.symm⟩
    obtain ⟨rfl, rfl, rfl, rfl⟩ := e
    clear H
    have k6 := blk_cell BX.out 0
    have k7 := blk_cell BX.out 1
    have k8 := blk_cell BX.out 2
    have m6 := blk_frozen BX.out 0
    have m7 := blk_frozen BX.out 1
    have m8 := blk_frozen BX.out 2
    clear hh
    go_wp2_with fail
    refine bodyPost_ret (results_ct rfl _ _ w.heap.size 25 #[.int .i64 0, .slice none 0 0, .slice none 0 0] (0, 0) _ rfl (put3_blk BX.out _ _ _) Try.underlying25 rfl (by kernel_rfl)) rfl ?_
    exact ⟨_, _, rfl, Kd.S_nil _ _ _ _ _, Kd.R_nil _ _ _ _ _, below_put3 BL.out (Nat.le_refl _) _ _ _⟩
  · have hb1 : decide (n < 1) = false := decide_eq_false hh
    by_cases h2 : 200 < n
    · have hb2 : decide (200 < n) = true := decide_eq_true h2
      have H2 := Aside0.mk h2
      have hh := h2
      clear h2
      have e : r1 = 0 ∧ r2 = [] ∧ r3 = [] ∧ r4 = 1 := by
        have := H.out
        simp only [oneF, hh, true_or, if_true, Prod.mk.injEq] at this
        exact ⟨this.1.symm, this.2.1.symm, this.2.2.1.symm, this.2.2.2.symm⟩
      obtain ⟨rfl, rfl, rfl, rfl⟩ := e
      clear H
      have k6 := blk_cell BX.out 0
      have k7 := blk_cell BX.out 1
      have k8 := blk_cell BX.out 2
      have m6 := blk_frozen BX.out 0
      have m7 := blk_frozen BX.out 1
      have m8 := blk_frozen BX.out 2
      clear hh
      go_wp2_with fail
      refine bodyPost_ret (results_ct rfl _ _ w.heap.size 25 #[.int .i64 0, .slice none 0 0, .slice none 0 0] (0, 0) _ rfl (put3_blk BX.out _ _ _) Try.underlying25 rfl (by kernel_rfl)) rfl ?_
      exact ⟨_, _, rfl, Kd.S_nil _ _ _ _ _, Kd.R_nil _ _ _ _ _, below_put3 BL.out (Nat.le_refl _) _ _ _⟩
    · have hb2 : decide (200 < n) = false := decide_eq_false h2
      have HM : Aside0 (markF n [List.replicate n.toNat 0] [true] n [List.replicate n.toNat 0] [true] 4 = (r1, r2, r3, r4)) := ⟨by
        have := H.out
        simp only [oneF, hh, h2, or_self, if_false] at this
        rw [one_most n (by omega) (by omega) (one_right n (by omega) (by omega))]
        exact this⟩
      have h3 : 1 ≤ n := by omega
      have h4 : n ≤ 200 := by omega
      have hBL := BL.out
      have hbs := hBL.size
      have HBQ := Aside0.mk hBL
      clear H hh h2 hBL
      go_upto_region 4 with ((with_reducible refine gate_dst (N := 14) rfl ?_); go_must (refine Kd.R_make (Kd.int .i64) w.heap.size 3 rfl (N := 14) rfl 33 _ _ rfl n rfl rfl Try.underlying33 (.int .i64 0) 8 info3 rfl (by decide) (by omega) 0 (ok := fun _ => True) (okp := fun _ => True) rfl (fun _ hk => hk) (by simp) (by omega) (by omega) HBQ.out (by omega) ?_); intro nx W2 hnx hB2 hg2 hnew2; obtain ⟨ng, nc, hnv, _, hngl, _⟩ := Kd.R_form hnx (by simp; omega); rw [List.length_replicate] at hnv; subst hnv)
      have m2 := (Kd.R_reads' hnx).2.1
      have m3 := (Kd.R_reads' hnx).2.2
      have hb2 : Below w.heap.size w W2 := hB2
      obtain ⟨W3, hW3⟩ : ∃ W3, W3 = ((W2.alloc (.cells #[.slice (some ⟨ng, 0, none⟩) n.toNat nc] 33)).alloc (.cells #[.bool true] 4)).alloc (.cells #[.int .i64 n, .slice (some ⟨W2.heap.size, 0, none⟩) 1 1, .slice (some ⟨W2.heap.size + 1, 0, none⟩) 1 1] 25) := ⟨_, rfl⟩
      rw [← hW3]
      have hA : W3 = allocs W2 [(.cells #[.slice (some ⟨ng, 0, none⟩) n.toNat nc] 33), (.cells #[.bool true] 4), (.cells #[.int .i64 n, .slice (some ⟨W2.heap.size, 0, none⟩) 1 1, .slice (some ⟨W2.heap.size + 1, 0, none⟩) 1 1] 25)] := hW3
      have G := fun i o h => hA ▸ allocs_get [(.cells #[.slice (some ⟨ng, 0, none⟩) n.toNat nc] 33), (.cells #[.bool true] 4), (.cells #[.int .i64 n, .slice (some ⟨W2.heap.size, 0, none⟩) 1 1, .slice (some ⟨W2.heap.size + 1, 0, none⟩) 1 1] 25)] W2 i o h
      have hb3 : Below W2.heap.size W2 W3 := by rw [hA]; exact allocs_below _ W2
      have C1 : Aside0 (Kd.C (Kd.slice 3 (Kd.int .i64)) W3 (some ⟨W2.heap.size, 0, none⟩) [List.replicate n.toNat (0 : Int)].length [List.replicate n.toNat 0]) := ⟨C_box (G 0 _ rfl) (Reps.one ⟨some ⟨ng, 0, none⟩, nc, by simp, by simpa using m2, Kd.C_below m3 hb3⟩ (Reps.none _ _)) (by simp)⟩
      have C2 : Aside0 (Kd.C Kd.bool W3 (some ⟨W2.heap.size + 1, 0, none⟩) [true].length [true]) := ⟨C_bools (xs := [true]) (G 1 _ rfl) (by simp)⟩
      have X3 := Aside0.mk (G 2 _ rfl)
      have L3 := Aside0.mk (hb2.trans (hb3.mono hb2.size))
      have B3 := Aside0.mk (blk_below (blk_grown BX.out hg2 (by simp)) hb3)
      clear hnx hB2 hg2 hnew2 hngl m2 m3 hb2 hW3 hA G hb3
      have k6 := (blk_cell X3.out 0).trans rfl
      have k7 := (blk_cell X3.out 1).trans rfl
      have k8 := (blk_cell X3.out 2).trans rfl
      go_wp2_with fail
      refine (ref_of n _ 1 [List.replicate n.toNat 0] _ 1 [true] n _ 1 [List.replicate n.toNat 0] _ 1 [true] 4 W3 C1.out (by simp) C2.out (by simp) C1.out (by simp) C2.out (by simp) r1 r2 r3 r4 HM.out).mono ?_
      rintro e W4 ⟨v1, v2, rfl, hs4, hr4, hb4⟩
      obtain ⟨D1, d1, rfl⟩ := Kd.S_slice hs4
      obtain ⟨D2, d2, rfl⟩ := Kd.R_slice hr4
      have B4 := Aside0.mk (blk_below B3.out hb4)
      have L4 := Aside0.mk (L3.out.trans (hb4.mono L3.out.size))
      have S4 := Aside0.mk (Kd.S_lower hs4 L3.out.size)
      have R4 := Aside0.mk (Kd.R_lower hr4 L3.out.size)
      clear hs4 hr4 hb4 k6 k7 k8
      have k6 := blk_cell B4.out 0
      have k7 := blk_cell B4.out 1
      have k8 := blk_cell B4.out 2
      have m6 := blk_frozen B4.out 0
      have m7 := blk_frozen B4.out 1
      have m8 := blk_frozen B4.out 2
      obtain ⟨kp3, hb3, bl3⟩ := keeps_put3 L4.out (Nat.le_refl _) B4.out (.int .i64 r1) (.slice D1 r2.length d1) (.slice D2 r3.length d2)
      have FIN := Aside0.mk (And.intro hb3 (And.intro (S_keeps S4.out kp3 (by decide)) (And.intro (R_keeps R4.out kp3 (by decide)) bl3)))
      clear kp3 hb3 bl3 h3 h4 hbs hb1 hb2
      go_wp2_with fail
      refine bodyPost_ret (results_ct rfl _ _ w.heap.size 25 #[.int .i64 r1, _, _] (0, 0) _ rfl FIN.out.1 Try.underlying25 rfl (by kernel_rfl)) rfl ?_
      exact ⟨_, _, rfl, FIN.out.2.1, FIN.out.2.2.1, FIN.out.2.2.2⟩
end Go.Proofs.Ytpedenbcfbflbaa.X
