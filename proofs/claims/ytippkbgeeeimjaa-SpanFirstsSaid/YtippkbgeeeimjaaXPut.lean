/- caesuraref01.put: a number among rising ones, once. -/
import Derived.Test.YtippkbgeeeimjaaAx3
import Derived.IntWalk
import Derived.BigQuiet
import Derived.Deep.QuietTactic
namespace Go.Proofs.Ytippkbgeeeimjaa.L
open Go.RowKit Go.Proofs.YtippkbgeeeimjaaW.PrintWords Go.Proofs.YtippkbgeeeimjaaW.PrintLast Go.Proofs.YtippkbgeeeimjaaW.PrintMore Go.Proofs.Ytippkbgeeeimjaa.A
set_option linter.unusedVariables false
set_option linter.unusedSimpArgs false
def putF : List Int → Int → List Int
  | [], n => [n]
  | x :: t, n => if x < n then x :: putF t n else if x = n then x :: t else n :: x :: t
theorem putF_at : ∀ (l : List Int) (n : Int) (k : Nat), k ≤ l.length → (∀ i, i < k → l.getD i 0 < n) → (k < l.length → ¬ l.getD k 0 < n) → putF l n = if k < l.length ∧ l.getD k 0 = n then l else l.take k ++ [n] ++ l.drop k
  | [], n, k, hk, _, _ => by
    obtain rfl : k = 0 := by simpa using hk
    simp [putF]
  | x :: t, n, 0, hk, _, h2 => by
    have hx : ¬ x < n := by simpa using h2 (by simp)
    unfold putF
    rw [if_neg hx]
    by_cases e : x = n
    · rw [if_pos e, if_pos ⟨by simp, by simpa using e⟩]
    · rw [if_neg e, if_neg (fun q => e (by simpa using q.2))]
      simp
  | x :: t, n, k + 1, hk, h1, h2 => by
    have hx : x < n := by simpa using h1 0 (by omega)
    have ih := putF_at t n k (by simpa using hk) (fun i hi => by simpa using h1 (i + 1) (by omega)) (fun hl => by simpa using h2 (by simpa using hl))
    unfold putF
    rw [if_pos hx, ih]
    by_cases e : k < t.length ∧ t.getD k 0 = n
    · rw [if_pos e, if_pos ⟨by simpa using e.1, by simpa using e.2⟩]
    · rw [if_neg e, if_neg (fun q => e ⟨by simpa using q.1, by simpa using q.2⟩)]
      simp
theorem putF_len (l : List Int) (n : Int) : (putF l n).length ≤ l.length + 1 := by
  induction l with
  | nil => simp [putF]
  | cons x t ih =>
    unfold putF
    split
    · simp; omega
    · split <;> simp
theorem R_empty (W : World) (B : Nat) (h : B ≤ W.heap.size) : Kd.R (Kd.int .i64) 3 (W.alloc (.cells #[] 3)) B (fun _ => True) (.slice (some ⟨W.heap.size, 0, none⟩) 0 0) [] :=
  ⟨fun _ _ => trivial, [], ⟨by simp, .inr ⟨W.heap.size, 0, #[], rfl, h, blk_new _ _, Nat.le_refl _, Nat.zero_le _, by simp, by simp⟩⟩, Reps.none _ _⟩
theorem C_box {α : Type} {d : Kd α} {W : World} {g t : Nat} {inner : List Value} {xs : List α} (hb : W.heap[g]? = some (.cells inner.toArray t (0, 0))) (hr : Reps (d.K W) d.sz xs inner) (hm : xs.length ≤ 9223372036854775807) : d.C W (some ⟨g, 0, none⟩) xs.length xs := by
  refine ⟨rfl, hm, fun _ => ⟨_, rfl, fun j p hp => ⟨(inner.drop (j * d.sz)).take d.sz, d.K_len (hr.2 j p hp), hr.2 j p hp, fun i u hu => ?_⟩⟩⟩
  rw [add_plain, blk_cell hb]
  rw [List.getElem?_take] at hu
  split at hu
  · rw [List.getElem?_drop] at hu
    simpa using hu
  · cases hu
theorem C_ints {W : World} {g t : Nat} {xs : List Int} (hb : W.heap[g]? = some (.cells (xs.map (Value.int .i64)).toArray t (0, 0))) (hm : xs.length ≤ 9223372036854775807) : Kd.C (Kd.int .i64) W (some ⟨g, 0, none⟩) xs.length xs :=
  C_box hb (Kd.reps_scalar xs) hm
/-- The row's block is not g. -/
theorem R_apart {e base g : Nat} {W : World} {v : Value} {xs : List Int} (h : Kd.R (Kd.int .i64) e W base (fun _ => True) v xs) (hg : ∀ k, v.ownBlock = some k → k ≠ g) : Kd.R (Kd.int .i64) e W base (fun k => k ≠ g) v xs := by
  obtain ⟨_, inner, ho, hr⟩ := h
  exact ⟨hg, inner, ho, hr.imp_ (fun _ _ hp => hp)⟩
theorem info3 : (Try.prog.info? 3).map (fun i => (i.zero, i.size, i.bytes)) = some (some (.int .i64 0), 1, 8) := by kernel_rfl
set_option maxHeartbeats 8000000 in
set_option maxRecDepth 100000 in
theorem put_new (A : Option Addr) (c : Nat) (l : List Int) (n : Int) (w : World) (hr : Kd.C (Kd.int .i64) w A l.length l) (hc : l.length ≤ c) (hz : l.length ≤ 100000) :
    Calls Try.prog 74 #[.slice A l.length c, .int .i64 n] w fun e w' => ∃ v, e = .returned v ∧ Below w.heap.size w w' ∧ ((v = .slice A l.length c ∧ putF l n = l) ∨ Kd.R (Kd.int .i64) 3 w' w.heap.size (fun _ => True) v (putF l n)) := by
  have HR := Aside0.mk hr
  clear hr
  go_enter Try.func74, Try.ntmps74
  go_wp2_with fail
  go_loop [5] (fun u => ∃ j : Nat, j ≤ l.length ∧ u = .int .i64 j ∧ Aside0 (∀ i, i < j → l.getD i 0 < n)) (fun u => l.length - (intOf u).toNat)
  case atStart => exact ⟨0, Nat.zero_le _, rfl, ⟨fun i hi => by omega⟩⟩
  case round =>
    obtain ⟨j, hj, rfl, HN⟩ := hrel
    have fin : (j < l.length → ¬ l.getD j 0 < n) → putF l n = if j < l.length ∧ l.getD j 0 = n then l else l.take j ++ [n] ++ l.drop j := putF_at l n j hj HN.out
    have HF := Aside0.mk fin
    clear fin
    by_cases hlt : j < l.length
    · have b1 : decide ((j : Int) < (l.length : Int)) = true := decide_eq_true (by omega)
      have b2 : decide (j < l.length) = true := decide_eq_true hlt
      have q0 : 0 ≤ (j : Int) := by omega
      have q1 : (j : Int) < (l.length : Int) := by omega
      have w2 : IntKind.i64.wrap ((j : Int) + 1) = (j : Int) + 1 := IntWalk.i64_in _ (by omega)
      obtain ⟨ad, rfl, k0⟩ := Kd.at_int HR.out (j : Int) (by omega) (by omega)
      have hrd : rd l (j : Int) = l.getD j 0 := by unfold rd; rw [Int.toNat_natCast]
      rw [hrd, Int.toNat_natCast] at k0
      clear hrd
      obtain ⟨x, hx⟩ : ∃ x, x = l.getD j 0 := ⟨_, rfl⟩
      have HX := Aside0.mk hx
      rw [← hx] at k0
      clear hx
      by_cases hxn : x < n
      · have b3 : decide (x < n) = true := decide_eq_true hxn
        clear hxn
        go_wp2_with fail
        go_round
        case rel => exact ⟨j + 1, hlt, by go_num, ⟨fun i hi => by
          rcases Nat.lt_or_ge i j with h | h
          · exact HN.out i h
          · obtain rfl : i = j := by omega
            rw [← HX.out]
            exact of_decide_eq_true b3⟩⟩
        case measure => simp [intOf]; omega
      · have b3 : decide (x < n) = false := decide_eq_false hxn
        by_cases hxe : x = n
        · have b4 : (x == n) = true := beq_iff_eq.2 hxe
          have hput : putF l n = l := by rw [HF.out (fun _ => by rw [← HX.out]; exact hxn), if_pos ⟨hlt, by rw [← HX.out]; exact hxe⟩]
          have HP := Aside0.mk hput
          clear hxn hxe hput
          go_wp2_with fail
          go_ret
          exact ⟨_, rfl, Below.refl _ _, .inl ⟨rfl, HP.out⟩⟩
        · have b4 : (x == n) = false := beq_eq_false_iff_ne.2 hxe
          have hput : putF l n = l.take j ++ [n] ++ l.drop j := by rw [HF.out (fun _ => by rw [← HX.out]; exact hxn), if_neg (fun q => hxe (by rw [HX.out]; exact q.2))]
          have HP := Aside0.mk hput
          clear hxn hxe hput HF
          go_wp2_with fail
          obtain ⟨i3, hi3, _, hsz3, _⟩ := info_parts info3
          obtain ⟨kk, hkk⟩ : ∃ kk, kk = j := ⟨_, rfl⟩
          have hkl : kk ≤ l.length := by omega
          obtain ⟨hcutT, hAT, _⟩ := print_take_int (P := Try.prog) (k := .i64) 42 3 Try.underlying42 hi3 hsz3 (some ad) c l (kk : Int) (by omega) (by omega) hc
          obtain ⟨A2, hcutD, hAD, _⟩ := print_drop_of (P := Try.prog) (Value.int .i64) 0 42 3 .i64 Try.underlying42 hi3 hsz3 (some ad) c l (kk : Int) (by omega) (by omega) hc
          rw [Int.toNat_natCast] at hcutT hAT hcutD hAD
          have lt_ : (l.take kk).length = kk := List.length_take_of_le hkl
          have hdC := Kd.C_of_reads (h1 := fun _ => rfl) (hAD w (Kd.reads_of_C HR.out))
          obtain ⟨dl, hdl⟩ : ∃ dl, dl = (l.drop kk).length := ⟨_, rfl⟩
          have hdl2 : dl ≤ l.length := by rw [hdl, List.length_drop]; omega
          rw [lt_] at hcutT
          rw [← hdl] at hcutD hdC
          have htC := Kd.C_of_reads (h1 := fun _ => rfl) (hAT w (Kd.reads_of_C HR.out))
          rw [lt_] at htC
          have HT := Aside0.mk htC
          have HD := Aside0.mk hdC
          have QQ : Aside0 (Below w.heap.size w w.drew) := ⟨below_drew (Below.refl _ _)⟩
          rw [← hkk] at HP ⊢
          clear hkk hAT hAD lt_ hdC htC hi3 hsz3 hdl
          refine start_ (n := 13) (S := fun w' => True) (ds := []) #[false, false, false, false, false, false, false, false, false, false, false, false, false] (by kernel_rfl) rfl rfl trivial (fun hHeld => ?_)
          generalize w.drew = Wd at QQ hHeld ⊢
          refine pure_ (i := 1) (N := some 34) (v := ?_) (a' := ?_) #[false, true, false, false, false, false, false, false, false, false, false, false, false] rfl rfl (by kernel_rfl) (fun _ _ _ h => h) (Or.inl ⟨by rfl, ?_⟩) ?_ ?_
          rotate_left
          · intro w'
            go_simp
            with_reducible rfl
          rotate_left
          · simp only [Act.put, List.setIfInBounds_toArray, List.set_cons_zero, List.set_cons_succ, i64_w, i32_w]
            rfl
          refine pure_ (i := 2) (N := some 35) (v := ?_) (a' := ?_) #[false, true, true, false, false, false, false, false, false, false, false, false, false] rfl rfl (by kernel_rfl) (fun _ _ _ h => h) (Or.inl ⟨by rfl, ?_⟩) ?_ ?_
          rotate_left
          · intro w'
            go_simp
            with_reducible rfl
          rotate_left
          · simp only [Act.put, List.setIfInBounds_toArray, List.set_cons_zero, List.set_cons_succ, i64_w, i32_w]
            rfl
          refine pure_ (i := 3) (N := some 36) (v := ?_) (a' := ?_) #[false, true, true, true, false, false, false, false, false, false, false, false, false] rfl rfl (by kernel_rfl) (fun _ _ _ h => h) (Or.inl ⟨by rfl, ?_⟩) ?_ ?_
          rotate_left
          · intro w'
            go_simp
            with_reducible rfl
          rotate_left
          · simp only [Act.put, List.setIfInBounds_toArray, List.set_cons_zero, List.set_cons_succ, i64_w, i32_w]
            rfl
          refine pure_ (i := 5) (N := some 38) (v := ?_) (a' := ?_) #[false, true, true, true, false, true, false, false, false, false, false, false, false] rfl rfl (by kernel_rfl) (fun _ _ _ h => h) (Or.inl ⟨by rfl, ?_⟩) ?_ ?_
          rotate_left
          · intro w'
            go_simp
            with_reducible rfl
          rotate_left
          · simp only [Act.put, List.setIfInBounds_toArray, List.set_cons_zero, List.set_cons_succ, i64_w, i32_w]
            rfl
          refine pure_ (i := 8) (N := some 41) (v := ?_) (a' := ?_) #[false, true, true, true, false, true, false, false, true, false, false, false, false] rfl rfl (by kernel_rfl) (fun _ _ _ h => h) (Or.inl ⟨by rfl, ?_⟩) ?_ ?_
          rotate_left
          · intro w'
            go_simp
            with_reducible rfl
          rotate_left
          · simp only [Act.put, List.setIfInBounds_toArray, List.set_cons_zero, List.set_cons_succ, i64_w, i32_w]
            rfl
          refine pure_ (i := 9) (N := some 42) (v := ?_) (a' := ?_) #[false, true, true, true, false, true, false, false, true, true, false, false, false] rfl rfl (by kernel_rfl) (fun _ _ _ h => h) (Or.inl ⟨by rfl, ?_⟩) ?_ ?_
          rotate_left
          · intro w'
            go_simp
            with_reducible rfl
          rotate_left
          · simp only [Act.put, List.setIfInBounds_toArray, List.set_cons_zero, List.set_cons_succ, i64_w, i32_w]
            rfl
          refine pure_ (i := 10) (N := some 43) (v := ?_) (a' := ?_) #[false, true, true, true, false, true, false, false, true, true, true, false, false] rfl rfl (by kernel_rfl) (fun _ _ _ h => h) (Or.inl ⟨by rfl, ?_⟩) ?_ ?_
          rotate_left
          · intro w'
            go_simp
            with_reducible rfl
          rotate_left
          · simp only [Act.put, List.setIfInBounds_toArray, List.set_cons_zero, List.set_cons_succ, i64_w, i32_w]
            rfl
          refine join_ (σ := Nat × Value × Nat) 3 #[true, true, true, true, true, true, true, false, true, true, true, false, false] (fun s_ => [(33, .slice (some ⟨s_.1, 0, none⟩) 0 0), (37, s_.2.1), (39, .slice (some ⟨s_.2.2, 0, none⟩) 1 1)]) (fun s_ w' => Below w.heap.size w w' ∧ Kd.R (Kd.int .i64) 3 w' w.heap.size (fun k => k ≠ s_.2.2) s_.2.1 (l.take kk) ∧ w'.heap[s_.2.2]? = some (.cells #[.int .i64 n] 3 (0, 0)) ∧ w.heap.size ≤ s_.2.2) ?_ ?_
          rotate_left
          · intro hCont
            refine two_ (i := 0) (j := 6) (Ni := some 33) (Nj := some 39) #[true, true, true, true, false, true, false, false, true, true, true, false, false] #[false, true, true, true, false, true, true, false, true, true, true, false, false] rfl rfl rfl rfl (by kernel_rfl) (by decide) (by decide) (fun K hK => ?_) (fun K hK => ?_)
            · skip
              refine value_ (w1 := ?_) (v := ?_) (by rfl) rfl ?_ ?_
              rotate_left 2
              · go_simp
                constructor
                · rfl
                · rfl
              have r_ := R_empty Wd w.heap.size QQ.out.size
              have m_ := below_alloc QQ.out (.cells #[] 3)
              obtain ⟨g0, hz_⟩ : ∃ z_, z_ = Wd.heap.size := ⟨_, rfl⟩
              rw [← hz_] at r_ ⊢
              generalize Wd.alloc (.cells #[] 3) = We1 at m_ r_ ⊢
              clear hz_ QQ
              have QQ := Aside0.mk m_
              have R0 := Aside0.mk r_
              clear m_ r_
              refine hK.out _ _ trivial (fun hHeld => ?_)
              clear hK K
              refine norm_ (a' := ?_) ?_ ?_
              rotate_left
              · show Act.put _ (some 33) _ = _
                simp only [Act.put, List.setIfInBounds_toArray, List.set_cons_zero, List.set_cons_succ, i64_w, i32_w]
                rfl
              refine two_ (i := 4) (j := 6) (Ni := some 37) (Nj := some 39) #[true, true, true, true, true, true, false, false, true, true, true, false, false] #[true, true, true, true, false, true, true, false, true, true, true, false, false] rfl rfl rfl rfl (by kernel_rfl) (by decide) (by decide) (fun K hK => ?_) (fun K hK => ?_)
              · skip
                refine Kd.R_append_rows_step (Kd.int .i64) (Rr := (Kd.int .i64).K We1) (w0 := w) w.heap.size (by rfl) (.tmp 33) (.tmp 36) 42 3 (.int .i64 0) 8 rfl Try.underlying42 info3 rfl (by decide) (by omega) (.slice (some ⟨g0, 0, none⟩) 0 0) [] (l.take kk) (some ad) kk c (fun _ => True) (fun _ => False) rfl rfl R0.out (Kd.C_below HT.out QQ.out) (fun x cs hx => hx) (fun k hk => hk.elim) (fun _ _ => trivial) QQ.out QQ.out.size (by simp only [List.length_nil]; omega) ?_
                intro v37 We2 r_ m_ hg_ hat_
                rw [List.nil_append] at r_
                clear QQ R0 hg_ hat_
                have QQ := Aside0.mk m_
                have R0 := Aside0.mk r_
                clear m_ r_
                refine hK.out _ _ trivial (fun hHeld => ?_)
                clear hK K
                refine norm_ (a' := ?_) ?_ ?_
                rotate_left
                · show Act.put _ (some 37) _ = _
                  simp only [Act.put, List.setIfInBounds_toArray, List.set_cons_zero, List.set_cons_succ, i64_w, i32_w]
                  rfl
                refine one_ (i := 6) (N := some 39) #[true, true, true, true, true, true, true, false, true, true, true, false, false] rfl rfl (by kernel_rfl) (by decide) (fun K hK => ?_)
                refine value_ (w1 := ?_) (v := ?_) (by rfl) rfl ?_ ?_
                rotate_left 2
                · go_simp
                  constructor
                  · rfl
                  · rfl
                have m_ := below_alloc QQ.out (.cells #[.int .i64 n] 3)
                have b_ := blk_new We2 (.cells #[.int .i64 n] 3)
                have lt_ := Kd.R_lt R0.out
                have r_ := Kd.R_alloc R0.out (.cells #[.int .i64 n] 3)
                clear R0
                have le_ := QQ.out.size
                obtain ⟨g6, hz_⟩ : ∃ z_, z_ = We2.heap.size := ⟨_, rfl⟩
                rw [← hz_] at b_ le_ lt_ ⊢
                generalize We2.alloc (.cells #[.int .i64 n] 3) = We3 at m_ b_ r_ ⊢
                clear hz_ QQ
                have QQ := Aside0.mk m_
                have B6 := Aside0.mk b_
                have L6 := Aside0.mk le_
                have R0 := Aside0.mk (R_apart r_ (g := g6) (by intro k hk; have := lt_ k hk; omega))
                clear m_ b_ le_ r_ lt_
                refine hK.out _ _ trivial (fun hHeld => ?_)
                clear hK K
                refine norm_ (a' := ?_) ?_ ?_
                rotate_left
                · show Act.put _ (some 39) _ = _
                  simp only [Act.put, List.setIfInBounds_toArray, List.set_cons_zero, List.set_cons_succ, i64_w, i32_w]
                  rfl
                exact norm_ (by simp only [putAll, Act.put, List.setIfInBounds_toArray, List.set_cons_zero, List.set_cons_succ]) (hCont (g0, v37, g6) _ ⟨QQ.out, R0.out, B6.out, L6.out⟩)
              · skip
                refine value_ (w1 := ?_) (v := ?_) (by rfl) rfl ?_ ?_
                rotate_left 2
                · go_simp
                  constructor
                  · rfl
                  · rfl
                have m_ := below_alloc QQ.out (.cells #[.int .i64 n] 3)
                have b_ := blk_new We1 (.cells #[.int .i64 n] 3)
                have lt_ := Kd.R_lt R0.out
                have r_ := Kd.R_alloc R0.out (.cells #[.int .i64 n] 3)
                clear R0
                have le_ := QQ.out.size
                obtain ⟨g6, hz_⟩ : ∃ z_, z_ = We1.heap.size := ⟨_, rfl⟩
                rw [← hz_] at b_ le_ lt_ ⊢
                generalize We1.alloc (.cells #[.int .i64 n] 3) = We2 at m_ b_ r_ ⊢
                clear hz_ QQ
                have QQ := Aside0.mk m_
                have B6 := Aside0.mk b_
                have L6 := Aside0.mk le_
                have R0 := Aside0.mk (R_apart r_ (g := g6) (by intro k hk; have := lt_ k hk; omega))
                clear m_ b_ le_ r_ lt_
                refine hK.out _ _ trivial (fun hHeld => ?_)
                clear hK K
                refine norm_ (a' := ?_) ?_ ?_
                rotate_left
                · show Act.put _ (some 39) _ = _
                  simp only [Act.put, List.setIfInBounds_toArray, List.set_cons_zero, List.set_cons_succ, i64_w, i32_w]
                  rfl
                refine one_ (i := 4) (N := some 37) #[true, true, true, true, true, true, true, false, true, true, true, false, false] rfl rfl (by kernel_rfl) (by decide) (fun K hK => ?_)
                refine Kd.R_append_rows_step (Kd.int .i64) (Rr := (Kd.int .i64).K We2) (w0 := w) w.heap.size (by rfl) (.tmp 33) (.tmp 36) 42 3 (.int .i64 0) 8 rfl Try.underlying42 info3 rfl (by decide) (by omega) (.slice (some ⟨g0, 0, none⟩) 0 0) [] (l.take kk) (some ad) kk c (fun k => k ≠ g6) (fun _ => False) rfl rfl R0.out (Kd.C_below HT.out QQ.out) (fun x cs hx => hx) (fun k hk => hk.elim) (fun k hk => by have := blk_lt B6.out; omega) QQ.out QQ.out.size (by simp only [List.length_nil]; omega) ?_
                intro v37 We3 r_ m_ hg_ hat_
                have b_ := blk_grown B6.out hg_ (by intro he; exact R0.out.1 _ he.symm rfl)
                clear B6
                have B6 := Aside0.mk b_
                clear b_
                rw [List.nil_append] at r_
                clear QQ R0 hg_ hat_
                have QQ := Aside0.mk m_
                have R0 := Aside0.mk r_
                clear m_ r_
                refine hK.out _ _ trivial (fun hHeld => ?_)
                clear hK K
                refine norm_ (a' := ?_) ?_ ?_
                rotate_left
                · show Act.put _ (some 37) _ = _
                  simp only [Act.put, List.setIfInBounds_toArray, List.set_cons_zero, List.set_cons_succ, i64_w, i32_w]
                  rfl
                exact norm_ (by simp only [putAll, Act.put, List.setIfInBounds_toArray, List.set_cons_zero, List.set_cons_succ]) (hCont (g0, v37, g6) _ ⟨QQ.out, R0.out, B6.out, L6.out⟩)
            · skip
              refine value_ (w1 := ?_) (v := ?_) (by rfl) rfl ?_ ?_
              rotate_left 2
              · go_simp
                constructor
                · rfl
                · rfl
              have m_ := below_alloc QQ.out (.cells #[.int .i64 n] 3)
              have b_ := blk_new Wd (.cells #[.int .i64 n] 3)
              have le_ := QQ.out.size
              obtain ⟨g6, hz_⟩ : ∃ z_, z_ = Wd.heap.size := ⟨_, rfl⟩
              rw [← hz_] at b_ le_ ⊢
              generalize Wd.alloc (.cells #[.int .i64 n] 3) = We1 at m_ b_ ⊢
              clear hz_ QQ
              have QQ := Aside0.mk m_
              have B6 := Aside0.mk b_
              have L6 := Aside0.mk le_
              clear m_ b_ le_
              refine hK.out _ _ trivial (fun hHeld => ?_)
              clear hK K
              refine norm_ (a' := ?_) ?_ ?_
              rotate_left
              · show Act.put _ (some 39) _ = _
                simp only [Act.put, List.setIfInBounds_toArray, List.set_cons_zero, List.set_cons_succ, i64_w, i32_w]
                rfl
              refine one_ (i := 0) (N := some 33) #[true, true, true, true, false, true, true, false, true, true, true, false, false] rfl rfl (by kernel_rfl) (by decide) (fun K hK => ?_)
              refine value_ (w1 := ?_) (v := ?_) (by rfl) rfl ?_ ?_
              rotate_left 2
              · go_simp
                constructor
                · rfl
                · rfl
              have r_ := R_empty We1 w.heap.size QQ.out.size
              have m_ := below_alloc QQ.out (.cells #[] 3)
              have b_ := blk_alloc B6.out (.cells #[] 3)
              have ne_ : g6 ≠ We1.heap.size := by have := blk_lt B6.out; omega
              clear B6
              obtain ⟨g0, hz_⟩ : ∃ z_, z_ = We1.heap.size := ⟨_, rfl⟩
              rw [← hz_] at r_ ne_ ⊢
              generalize We1.alloc (.cells #[] 3) = We2 at m_ r_ b_ ⊢
              clear hz_ QQ
              have QQ := Aside0.mk m_
              have B6 := Aside0.mk b_
              have R0 := Aside0.mk (R_apart r_ (g := g6) (by intro k hk; simp [Value.ownBlock] at hk; omega))
              clear m_ r_ b_ ne_
              refine hK.out _ _ trivial (fun hHeld => ?_)
              clear hK K
              refine norm_ (a' := ?_) ?_ ?_
              rotate_left
              · show Act.put _ (some 33) _ = _
                simp only [Act.put, List.setIfInBounds_toArray, List.set_cons_zero, List.set_cons_succ, i64_w, i32_w]
                rfl
              refine one_ (i := 4) (N := some 37) #[true, true, true, true, true, true, true, false, true, true, true, false, false] rfl rfl (by kernel_rfl) (by decide) (fun K hK => ?_)
              refine Kd.R_append_rows_step (Kd.int .i64) (Rr := (Kd.int .i64).K We2) (w0 := w) w.heap.size (by rfl) (.tmp 33) (.tmp 36) 42 3 (.int .i64 0) 8 rfl Try.underlying42 info3 rfl (by decide) (by omega) (.slice (some ⟨g0, 0, none⟩) 0 0) [] (l.take kk) (some ad) kk c (fun k => k ≠ g6) (fun _ => False) rfl rfl R0.out (Kd.C_below HT.out QQ.out) (fun x cs hx => hx) (fun k hk => hk.elim) (fun k hk => by have := blk_lt B6.out; omega) QQ.out QQ.out.size (by simp only [List.length_nil]; omega) ?_
              intro v37 We3 r_ m_ hg_ hat_
              have b_ := blk_grown B6.out hg_ (by intro he; exact R0.out.1 _ he.symm rfl)
              clear B6
              have B6 := Aside0.mk b_
              clear b_
              rw [List.nil_append] at r_
              clear QQ R0 hg_ hat_
              have QQ := Aside0.mk m_
              have R0 := Aside0.mk r_
              clear m_ r_
              refine hK.out _ _ trivial (fun hHeld => ?_)
              clear hK K
              refine norm_ (a' := ?_) ?_ ?_
              rotate_left
              · show Act.put _ (some 37) _ = _
                simp only [Act.put, List.setIfInBounds_toArray, List.set_cons_zero, List.set_cons_succ, i64_w, i32_w]
                rfl
              exact norm_ (by simp only [putAll, Act.put, List.setIfInBounds_toArray, List.set_cons_zero, List.set_cons_succ]) (hCont (g0, v37, g6) _ ⟨QQ.out, R0.out, B6.out, L6.out⟩)
          rintro ⟨g0, v37, g6⟩ Wf ⟨qq_, r_, b_, le_⟩
          clear QQ
          have QQ := Aside0.mk qq_
          have R0 : Aside0 (Kd.R (Kd.int .i64) 3 Wf w.heap.size (fun k => k ≠ g6) v37 (l.take kk)) := ⟨r_⟩
          have B6 : Aside0 (Wf.heap[g6]? = some (.cells #[.int .i64 n] 3 (0, 0))) := ⟨b_⟩
          have L6 : Aside0 (w.heap.size ≤ g6) := ⟨le_⟩
          clear qq_ r_ b_ le_
          have hHeld : True := trivial
          refine norm_ (a' := ?_) ?_ ?_
          rotate_left
          · simp only [putAll, Act.put, List.setIfInBounds_toArray, List.set_cons_zero, List.set_cons_succ]
            rfl
          refine one_ (i := 7) (N := some 40) #[true, true, true, true, true, true, true, true, true, true, true, false, false] rfl rfl (by kernel_rfl) (by decide) (fun K hK => ?_)
          refine Kd.R_append_rows_step (Kd.int .i64) (Rr := (Kd.int .i64).K Wf) (w0 := w) w.heap.size (by rfl) (.tmp 37) (.tmp 39) 42 3 (.int .i64 0) 8 rfl Try.underlying42 info3 rfl (by decide) (by omega) v37 (l.take kk) [n] (some ⟨g6, 0, none⟩) 1 1 (fun k => k ≠ g6) (fun _ => False) rfl rfl R0.out (C_ints (xs := [n]) B6.out (by simp)) (fun x cs hx => hx) (fun k hk => hk.elim) (fun k hk => by have := blk_lt B6.out; omega) QQ.out QQ.out.size (by simp only [List.length_take]; omega) ?_
          intro v40 We9 r_ m_ hg_ hat_
          clear QQ R0 hg_ hat_ B6
          have QQ := Aside0.mk m_
          have R0 := Aside0.mk (Kd.R_mono r_ (ok' := fun _ => True) (fun _ _ => trivial))
          clear m_ r_
          refine hK.out _ _ trivial (fun hHeld => ?_)
          clear hK K
          refine norm_ (a' := ?_) ?_ ?_
          rotate_left
          · show Act.put _ (some 40) _ = _
            simp only [Act.put, List.setIfInBounds_toArray, List.set_cons_zero, List.set_cons_succ, i64_w, i32_w]
            rfl
          refine one_ (i := 11) (N := some 44) #[true, true, true, true, true, true, true, true, true, true, true, true, false] rfl rfl (by kernel_rfl) (by decide) (fun K hK => ?_)
          refine Kd.R_append_rows_step (Kd.int .i64) (Rr := (Kd.int .i64).K We9) (w0 := w) w.heap.size (by rfl) (.tmp 40) (.tmp 43) 42 3 (.int .i64 0) 8 rfl Try.underlying42 info3 rfl (by decide) (by omega) v40 (l.take kk ++ [n]) (l.drop kk) A2 dl (c - kk) (fun _ => True) (fun _ => False) rfl rfl R0.out (Kd.C_below HD.out QQ.out) (fun x cs hx => hx) (fun k hk => hk.elim) (fun _ _ => trivial) QQ.out QQ.out.size (by simp only [List.length_append, List.length_take, List.length_singleton]; omega) ?_
          intro v44 We10 r_ m_ hg_ hat_
          clear QQ R0 hg_ hat_
          have QQ := Aside0.mk m_
          have R0 := Aside0.mk r_
          clear m_ r_
          refine hK.out _ _ trivial (fun hHeld => ?_)
          clear hK K
          refine norm_ (a' := ?_) ?_ ?_
          rotate_left
          · show Act.put _ (some 44) _ = _
            simp only [Act.put, List.setIfInBounds_toArray, List.set_cons_zero, List.set_cons_succ, i64_w, i32_w]
            rfl
          refine pure_ (i := 12) (N := some 4) (v := ?_) (a' := ?_) #[true, true, true, true, true, true, true, true, true, true, true, true, true] rfl rfl (by kernel_rfl) (fun _ _ _ h => h) (Or.inl ⟨by rfl, ?_⟩) ?_ ?_
          rotate_left
          · intro w'
            go_simp
            with_reducible rfl
          rotate_left
          · simp only [Act.put, List.setIfInBounds_toArray, List.set_cons_zero, List.set_cons_succ, i64_w, i32_w]
            rfl
          refine done_ (by kernel_rfl) ?_
          go_wp2_with fail
          go_ret
          exact ⟨_, rfl, QQ.out, .inr (by rw [HP.out]; exact R0.out)⟩
    · have b1 : decide ((j : Int) < (l.length : Int)) = false := decide_eq_false (by omega)
      have b2 : decide (j < l.length) = false := decide_eq_false hlt
      have q0 : 0 ≤ (j : Int) := by omega
      have hput : putF l n = l.take j ++ [n] ++ l.drop j := by rw [HF.out (fun h => absurd h hlt), if_neg (fun q => hlt q.1)]
      have HP := Aside0.mk hput
      clear hput HF
      go_wp2_with fail
      obtain ⟨i3, hi3, _, hsz3, _⟩ := info_parts info3
      obtain ⟨kk, hkk⟩ : ∃ kk, kk = j := ⟨_, rfl⟩
      have hkl : kk ≤ l.length := by omega
      obtain ⟨hcutT, hAT, _⟩ := print_take_int (P := Try.prog) (k := .i64) 42 3 Try.underlying42 hi3 hsz3 A c l (kk : Int) (by omega) (by omega) hc
      obtain ⟨A2, hcutD, hAD, _⟩ := print_drop_of (P := Try.prog) (Value.int .i64) 0 42 3 .i64 Try.underlying42 hi3 hsz3 A c l (kk : Int) (by omega) (by omega) hc
      rw [Int.toNat_natCast] at hcutT hAT hcutD hAD
      have lt_ : (l.take kk).length = kk := List.length_take_of_le hkl
      have hdC := Kd.C_of_reads (h1 := fun _ => rfl) (hAD w (Kd.reads_of_C HR.out))
      obtain ⟨dl, hdl⟩ : ∃ dl, dl = (l.drop kk).length := ⟨_, rfl⟩
      have hdl2 : dl ≤ l.length := by rw [hdl, List.length_drop]; omega
      rw [lt_] at hcutT
      rw [← hdl] at hcutD hdC
      have htC := Kd.C_of_reads (h1 := fun _ => rfl) (hAT w (Kd.reads_of_C HR.out))
      rw [lt_] at htC
      have HT := Aside0.mk htC
      have HD := Aside0.mk hdC
      have QQ : Aside0 (Below w.heap.size w w.drew) := ⟨below_drew (Below.refl _ _)⟩
      rw [← hkk] at HP ⊢
      clear hkk hAT hAD lt_ hdC htC hi3 hsz3 hdl
      refine start_ (n := 13) (S := fun w' => True) (ds := []) #[false, false, false, false, false, false, false, false, false, false, false, false, false] (by kernel_rfl) rfl rfl trivial (fun hHeld => ?_)
      generalize w.drew = Wd at QQ hHeld ⊢
      refine pure_ (i := 1) (N := some 34) (v := ?_) (a' := ?_) #[false, true, false, false, false, false, false, false, false, false, false, false, false] rfl rfl (by kernel_rfl) (fun _ _ _ h => h) (Or.inl ⟨by rfl, ?_⟩) ?_ ?_
      rotate_left
      · intro w'
        go_simp
        with_reducible rfl
      rotate_left
      · simp only [Act.put, List.setIfInBounds_toArray, List.set_cons_zero, List.set_cons_succ, i64_w, i32_w]
        rfl
      refine pure_ (i := 2) (N := some 35) (v := ?_) (a' := ?_) #[false, true, true, false, false, false, false, false, false, false, false, false, false] rfl rfl (by kernel_rfl) (fun _ _ _ h => h) (Or.inl ⟨by rfl, ?_⟩) ?_ ?_
      rotate_left
      · intro w'
        go_simp
        with_reducible rfl
      rotate_left
      · simp only [Act.put, List.setIfInBounds_toArray, List.set_cons_zero, List.set_cons_succ, i64_w, i32_w]
        rfl
      refine pure_ (i := 3) (N := some 36) (v := ?_) (a' := ?_) #[false, true, true, true, false, false, false, false, false, false, false, false, false] rfl rfl (by kernel_rfl) (fun _ _ _ h => h) (Or.inl ⟨by rfl, ?_⟩) ?_ ?_
      rotate_left
      · intro w'
        go_simp
        with_reducible rfl
      rotate_left
      · simp only [Act.put, List.setIfInBounds_toArray, List.set_cons_zero, List.set_cons_succ, i64_w, i32_w]
        rfl
      refine pure_ (i := 5) (N := some 38) (v := ?_) (a' := ?_) #[false, true, true, true, false, true, false, false, false, false, false, false, false] rfl rfl (by kernel_rfl) (fun _ _ _ h => h) (Or.inl ⟨by rfl, ?_⟩) ?_ ?_
      rotate_left
      · intro w'
        go_simp
        with_reducible rfl
      rotate_left
      · simp only [Act.put, List.setIfInBounds_toArray, List.set_cons_zero, List.set_cons_succ, i64_w, i32_w]
        rfl
      refine pure_ (i := 8) (N := some 41) (v := ?_) (a' := ?_) #[false, true, true, true, false, true, false, false, true, false, false, false, false] rfl rfl (by kernel_rfl) (fun _ _ _ h => h) (Or.inl ⟨by rfl, ?_⟩) ?_ ?_
      rotate_left
      · intro w'
        go_simp
        with_reducible rfl
      rotate_left
      · simp only [Act.put, List.setIfInBounds_toArray, List.set_cons_zero, List.set_cons_succ, i64_w, i32_w]
        rfl
      refine pure_ (i := 9) (N := some 42) (v := ?_) (a' := ?_) #[false, true, true, true, false, true, false, false, true, true, false, false, false] rfl rfl (by kernel_rfl) (fun _ _ _ h => h) (Or.inl ⟨by rfl, ?_⟩) ?_ ?_
      rotate_left
      · intro w'
        go_simp
        with_reducible rfl
      rotate_left
      · simp only [Act.put, List.setIfInBounds_toArray, List.set_cons_zero, List.set_cons_succ, i64_w, i32_w]
        rfl
      refine pure_ (i := 10) (N := some 43) (v := ?_) (a' := ?_) #[false, true, true, true, false, true, false, false, true, true, true, false, false] rfl rfl (by kernel_rfl) (fun _ _ _ h => h) (Or.inl ⟨by rfl, ?_⟩) ?_ ?_
      rotate_left
      · intro w'
        go_simp
        with_reducible rfl
      rotate_left
      · simp only [Act.put, List.setIfInBounds_toArray, List.set_cons_zero, List.set_cons_succ, i64_w, i32_w]
        rfl
      refine join_ (σ := Nat × Value × Nat) 3 #[true, true, true, true, true, true, true, false, true, true, true, false, false] (fun s_ => [(33, .slice (some ⟨s_.1, 0, none⟩) 0 0), (37, s_.2.1), (39, .slice (some ⟨s_.2.2, 0, none⟩) 1 1)]) (fun s_ w' => Below w.heap.size w w' ∧ Kd.R (Kd.int .i64) 3 w' w.heap.size (fun k => k ≠ s_.2.2) s_.2.1 (l.take kk) ∧ w'.heap[s_.2.2]? = some (.cells #[.int .i64 n] 3 (0, 0)) ∧ w.heap.size ≤ s_.2.2) ?_ ?_
      rotate_left
      · intro hCont
        refine two_ (i := 0) (j := 6) (Ni := some 33) (Nj := some 39) #[true, true, true, true, false, true, false, false, true, true, true, false, false] #[false, true, true, true, false, true, true, false, true, true, true, false, false] rfl rfl rfl rfl (by kernel_rfl) (by decide) (by decide) (fun K hK => ?_) (fun K hK => ?_)
        · skip
          refine value_ (w1 := ?_) (v := ?_) (by rfl) rfl ?_ ?_
          rotate_left 2
          · go_simp
            constructor
            · rfl
            · rfl
          have r_ := R_empty Wd w.heap.size QQ.out.size
          have m_ := below_alloc QQ.out (.cells #[] 3)
          obtain ⟨g0, hz_⟩ : ∃ z_, z_ = Wd.heap.size := ⟨_, rfl⟩
          rw [← hz_] at r_ ⊢
          generalize Wd.alloc (.cells #[] 3) = We1 at m_ r_ ⊢
          clear hz_ QQ
          have QQ := Aside0.mk m_
          have R0 := Aside0.mk r_
          clear m_ r_
          refine hK.out _ _ trivial (fun hHeld => ?_)
          clear hK K
          refine norm_ (a' := ?_) ?_ ?_
          rotate_left
          · show Act.put _ (some 33) _ = _
            simp only [Act.put, List.setIfInBounds_toArray, List.set_cons_zero, List.set_cons_succ, i64_w, i32_w]
            rfl
          refine two_ (i := 4) (j := 6) (Ni := some 37) (Nj := some 39) #[true, true, true, true, true, true, false, false, true, true, true, false, false] #[true, true, true, true, false, true, true, false, true, true, true, false, false] rfl rfl rfl rfl (by kernel_rfl) (by decide) (by decide) (fun K hK => ?_) (fun K hK => ?_)
          · skip
            refine Kd.R_append_rows_step (Kd.int .i64) (Rr := (Kd.int .i64).K We1) (w0 := w) w.heap.size (by rfl) (.tmp 33) (.tmp 36) 42 3 (.int .i64 0) 8 rfl Try.underlying42 info3 rfl (by decide) (by omega) (.slice (some ⟨g0, 0, none⟩) 0 0) [] (l.take kk) A kk c (fun _ => True) (fun _ => False) rfl rfl R0.out (Kd.C_below HT.out QQ.out) (fun x cs hx => hx) (fun k hk => hk.elim) (fun _ _ => trivial) QQ.out QQ.out.size (by simp only [List.length_nil]; omega) ?_
            intro v37 We2 r_ m_ hg_ hat_
            rw [List.nil_append] at r_
            clear QQ R0 hg_ hat_
            have QQ := Aside0.mk m_
            have R0 := Aside0.mk r_
            clear m_ r_
            refine hK.out _ _ trivial (fun hHeld => ?_)
            clear hK K
            refine norm_ (a' := ?_) ?_ ?_
            rotate_left
            · show Act.put _ (some 37) _ = _
              simp only [Act.put, List.setIfInBounds_toArray, List.set_cons_zero, List.set_cons_succ, i64_w, i32_w]
              rfl
            refine one_ (i := 6) (N := some 39) #[true, true, true, true, true, true, true, false, true, true, true, false, false] rfl rfl (by kernel_rfl) (by decide) (fun K hK => ?_)
            refine value_ (w1 := ?_) (v := ?_) (by rfl) rfl ?_ ?_
            rotate_left 2
            · go_simp
              constructor
              · rfl
              · rfl
            have m_ := below_alloc QQ.out (.cells #[.int .i64 n] 3)
            have b_ := blk_new We2 (.cells #[.int .i64 n] 3)
            have lt_ := Kd.R_lt R0.out
            have r_ := Kd.R_alloc R0.out (.cells #[.int .i64 n] 3)
            clear R0
            have le_ := QQ.out.size
            obtain ⟨g6, hz_⟩ : ∃ z_, z_ = We2.heap.size := ⟨_, rfl⟩
            rw [← hz_] at b_ le_ lt_ ⊢
            generalize We2.alloc (.cells #[.int .i64 n] 3) = We3 at m_ b_ r_ ⊢
            clear hz_ QQ
            have QQ := Aside0.mk m_
            have B6 := Aside0.mk b_
            have L6 := Aside0.mk le_
            have R0 := Aside0.mk (R_apart r_ (g := g6) (by intro k hk; have := lt_ k hk; omega))
            clear m_ b_ le_ r_ lt_
            refine hK.out _ _ trivial (fun hHeld => ?_)
            clear hK K
            refine norm_ (a' := ?_) ?_ ?_
            rotate_left
            · show Act.put _ (some 39) _ = _
              simp only [Act.put, List.setIfInBounds_toArray, List.set_cons_zero, List.set_cons_succ, i64_w, i32_w]
              rfl
            exact norm_ (by simp only [putAll, Act.put, List.setIfInBounds_toArray, List.set_cons_zero, List.set_cons_succ]) (hCont (g0, v37, g6) _ ⟨QQ.out, R0.out, B6.out, L6.out⟩)
          · skip
            refine value_ (w1 := ?_) (v := ?_) (by rfl) rfl ?_ ?_
            rotate_left 2
            · go_simp
              constructor
              · rfl
              · rfl
            have m_ := below_alloc QQ.out (.cells #[.int .i64 n] 3)
            have b_ := blk_new We1 (.cells #[.int .i64 n] 3)
            have lt_ := Kd.R_lt R0.out
            have r_ := Kd.R_alloc R0.out (.cells #[.int .i64 n] 3)
            clear R0
            have le_ := QQ.out.size
            obtain ⟨g6, hz_⟩ : ∃ z_, z_ = We1.heap.size := ⟨_, rfl⟩
            rw [← hz_] at b_ le_ lt_ ⊢
            generalize We1.alloc (.cells #[.int .i64 n] 3) = We2 at m_ b_ r_ ⊢
            clear hz_ QQ
            have QQ := Aside0.mk m_
            have B6 := Aside0.mk b_
            have L6 := Aside0.mk le_
            have R0 := Aside0.mk (R_apart r_ (g := g6) (by intro k hk; have := lt_ k hk; omega))
            clear m_ b_ le_ r_ lt_
            refine hK.out _ _ trivial (fun hHeld => ?_)
            clear hK K
            refine norm_ (a' := ?_) ?_ ?_
            rotate_left
            · show Act.put _ (some 39) _ = _
              simp only [Act.put, List.setIfInBounds_toArray, List.set_cons_zero, List.set_cons_succ, i64_w, i32_w]
              rfl
            refine one_ (i := 4) (N := some 37) #[true, true, true, true, true, true, true, false, true, true, true, false, false] rfl rfl (by kernel_rfl) (by decide) (fun K hK => ?_)
            refine Kd.R_append_rows_step (Kd.int .i64) (Rr := (Kd.int .i64).K We2) (w0 := w) w.heap.size (by rfl) (.tmp 33) (.tmp 36) 42 3 (.int .i64 0) 8 rfl Try.underlying42 info3 rfl (by decide) (by omega) (.slice (some ⟨g0, 0, none⟩) 0 0) [] (l.take kk) A kk c (fun k => k ≠ g6) (fun _ => False) rfl rfl R0.out (Kd.C_below HT.out QQ.out) (fun x cs hx => hx) (fun k hk => hk.elim) (fun k hk => by have := blk_lt B6.out; omega) QQ.out QQ.out.size (by simp only [List.length_nil]; omega) ?_
            intro v37 We3 r_ m_ hg_ hat_
            have b_ := blk_grown B6.out hg_ (by intro he; exact R0.out.1 _ he.symm rfl)
            clear B6
            have B6 := Aside0.mk b_
            clear b_
            rw [List.nil_append] at r_
            clear QQ R0 hg_ hat_
            have QQ := Aside0.mk m_
            have R0 := Aside0.mk r_
            clear m_ r_
            refine hK.out _ _ trivial (fun hHeld => ?_)
            clear hK K
            refine norm_ (a' := ?_) ?_ ?_
            rotate_left
            · show Act.put _ (some 37) _ = _
              simp only [Act.put, List.setIfInBounds_toArray, List.set_cons_zero, List.set_cons_succ, i64_w, i32_w]
              rfl
            exact norm_ (by simp only [putAll, Act.put, List.setIfInBounds_toArray, List.set_cons_zero, List.set_cons_succ]) (hCont (g0, v37, g6) _ ⟨QQ.out, R0.out, B6.out, L6.out⟩)
        · skip
          refine value_ (w1 := ?_) (v := ?_) (by rfl) rfl ?_ ?_
          rotate_left 2
          · go_simp
            constructor
            · rfl
            · rfl
          have m_ := below_alloc QQ.out (.cells #[.int .i64 n] 3)
          have b_ := blk_new Wd (.cells #[.int .i64 n] 3)
          have le_ := QQ.out.size
          obtain ⟨g6, hz_⟩ : ∃ z_, z_ = Wd.heap.size := ⟨_, rfl⟩
          rw [← hz_] at b_ le_ ⊢
          generalize Wd.alloc (.cells #[.int .i64 n] 3) = We1 at m_ b_ ⊢
          clear hz_ QQ
          have QQ := Aside0.mk m_
          have B6 := Aside0.mk b_
          have L6 := Aside0.mk le_
          clear m_ b_ le_
          refine hK.out _ _ trivial (fun hHeld => ?_)
          clear hK K
          refine norm_ (a' := ?_) ?_ ?_
          rotate_left
          · show Act.put _ (some 39) _ = _
            simp only [Act.put, List.setIfInBounds_toArray, List.set_cons_zero, List.set_cons_succ, i64_w, i32_w]
            rfl
          refine one_ (i := 0) (N := some 33) #[true, true, true, true, false, true, true, false, true, true, true, false, false] rfl rfl (by kernel_rfl) (by decide) (fun K hK => ?_)
          refine value_ (w1 := ?_) (v := ?_) (by rfl) rfl ?_ ?_
          rotate_left 2
          · go_simp
            constructor
            · rfl
            · rfl
          have r_ := R_empty We1 w.heap.size QQ.out.size
          have m_ := below_alloc QQ.out (.cells #[] 3)
          have b_ := blk_alloc B6.out (.cells #[] 3)
          have ne_ : g6 ≠ We1.heap.size := by have := blk_lt B6.out; omega
          clear B6
          obtain ⟨g0, hz_⟩ : ∃ z_, z_ = We1.heap.size := ⟨_, rfl⟩
          rw [← hz_] at r_ ne_ ⊢
          generalize We1.alloc (.cells #[] 3) = We2 at m_ r_ b_ ⊢
          clear hz_ QQ
          have QQ := Aside0.mk m_
          have B6 := Aside0.mk b_
          have R0 := Aside0.mk (R_apart r_ (g := g6) (by intro k hk; simp [Value.ownBlock] at hk; omega))
          clear m_ r_ b_ ne_
          refine hK.out _ _ trivial (fun hHeld => ?_)
          clear hK K
          refine norm_ (a' := ?_) ?_ ?_
          rotate_left
          · show Act.put _ (some 33) _ = _
            simp only [Act.put, List.setIfInBounds_toArray, List.set_cons_zero, List.set_cons_succ, i64_w, i32_w]
            rfl
          refine one_ (i := 4) (N := some 37) #[true, true, true, true, true, true, true, false, true, true, true, false, false] rfl rfl (by kernel_rfl) (by decide) (fun K hK => ?_)
          refine Kd.R_append_rows_step (Kd.int .i64) (Rr := (Kd.int .i64).K We2) (w0 := w) w.heap.size (by rfl) (.tmp 33) (.tmp 36) 42 3 (.int .i64 0) 8 rfl Try.underlying42 info3 rfl (by decide) (by omega) (.slice (some ⟨g0, 0, none⟩) 0 0) [] (l.take kk) A kk c (fun k => k ≠ g6) (fun _ => False) rfl rfl R0.out (Kd.C_below HT.out QQ.out) (fun x cs hx => hx) (fun k hk => hk.elim) (fun k hk => by have := blk_lt B6.out; omega) QQ.out QQ.out.size (by simp only [List.length_nil]; omega) ?_
          intro v37 We3 r_ m_ hg_ hat_
          have b_ := blk_grown B6.out hg_ (by intro he; exact R0.out.1 _ he.symm rfl)
          clear B6
          have B6 := Aside0.mk b_
          clear b_
          rw [List.nil_append] at r_
          clear QQ R0 hg_ hat_
          have QQ := Aside0.mk m_
          have R0 := Aside0.mk r_
          clear m_ r_
          refine hK.out _ _ trivial (fun hHeld => ?_)
          clear hK K
          refine norm_ (a' := ?_) ?_ ?_
          rotate_left
          · show Act.put _ (some 37) _ = _
            simp only [Act.put, List.setIfInBounds_toArray, List.set_cons_zero, List.set_cons_succ, i64_w, i32_w]
            rfl
          exact norm_ (by simp only [putAll, Act.put, List.setIfInBounds_toArray, List.set_cons_zero, List.set_cons_succ]) (hCont (g0, v37, g6) _ ⟨QQ.out, R0.out, B6.out, L6.out⟩)
      rintro ⟨g0, v37, g6⟩ Wf ⟨qq_, r_, b_, le_⟩
      clear QQ
      have QQ := Aside0.mk qq_
      have R0 : Aside0 (Kd.R (Kd.int .i64) 3 Wf w.heap.size (fun k => k ≠ g6) v37 (l.take kk)) := ⟨r_⟩
      have B6 : Aside0 (Wf.heap[g6]? = some (.cells #[.int .i64 n] 3 (0, 0))) := ⟨b_⟩
      have L6 : Aside0 (w.heap.size ≤ g6) := ⟨le_⟩
      clear qq_ r_ b_ le_
      have hHeld : True := trivial
      refine norm_ (a' := ?_) ?_ ?_
      rotate_left
      · simp only [putAll, Act.put, List.setIfInBounds_toArray, List.set_cons_zero, List.set_cons_succ]
        rfl
      refine one_ (i := 7) (N := some 40) #[true, true, true, true, true, true, true, true, true, true, true, false, false] rfl rfl (by kernel_rfl) (by decide) (fun K hK => ?_)
      refine Kd.R_append_rows_step (Kd.int .i64) (Rr := (Kd.int .i64).K Wf) (w0 := w) w.heap.size (by rfl) (.tmp 37) (.tmp 39) 42 3 (.int .i64 0) 8 rfl Try.underlying42 info3 rfl (by decide) (by omega) v37 (l.take kk) [n] (some ⟨g6, 0, none⟩) 1 1 (fun k => k ≠ g6) (fun _ => False) rfl rfl R0.out (C_ints (xs := [n]) B6.out (by simp)) (fun x cs hx => hx) (fun k hk => hk.elim) (fun k hk => by have := blk_lt B6.out; omega) QQ.out QQ.out.size (by simp only [List.length_take]; omega) ?_
      intro v40 We9 r_ m_ hg_ hat_
      clear QQ R0 hg_ hat_ B6
      have QQ := Aside0.mk m_
      have R0 := Aside0.mk (Kd.R_mono r_ (ok' := fun _ => True) (fun _ _ => trivial))
      clear m_ r_
      refine hK.out _ _ trivial (fun hHeld => ?_)
      clear hK K
      refine norm_ (a' := ?_) ?_ ?_
      rotate_left
      · show Act.put _ (some 40) _ = _
        simp only [Act.put, List.setIfInBounds_toArray, List.set_cons_zero, List.set_cons_succ, i64_w, i32_w]
        rfl
      refine one_ (i := 11) (N := some 44) #[true, true, true, true, true, true, true, true, true, true, true, true, false] rfl rfl (by kernel_rfl) (by decide) (fun K hK => ?_)
      refine Kd.R_append_rows_step (Kd.int .i64) (Rr := (Kd.int .i64).K We9) (w0 := w) w.heap.size (by rfl) (.tmp 40) (.tmp 43) 42 3 (.int .i64 0) 8 rfl Try.underlying42 info3 rfl (by decide) (by omega) v40 (l.take kk ++ [n]) (l.drop kk) A2 dl (c - kk) (fun _ => True) (fun _ => False) rfl rfl R0.out (Kd.C_below HD.out QQ.out) (fun x cs hx => hx) (fun k hk => hk.elim) (fun _ _ => trivial) QQ.out QQ.out.size (by simp only [List.length_append, List.length_take, List.length_singleton]; omega) ?_
      intro v44 We10 r_ m_ hg_ hat_
      clear QQ R0 hg_ hat_
      have QQ := Aside0.mk m_
      have R0 := Aside0.mk r_
      clear m_ r_
      refine hK.out _ _ trivial (fun hHeld => ?_)
      clear hK K
      refine norm_ (a' := ?_) ?_ ?_
      rotate_left
      · show Act.put _ (some 44) _ = _
        simp only [Act.put, List.setIfInBounds_toArray, List.set_cons_zero, List.set_cons_succ, i64_w, i32_w]
        rfl
      refine pure_ (i := 12) (N := some 4) (v := ?_) (a' := ?_) #[true, true, true, true, true, true, true, true, true, true, true, true, true] rfl rfl (by kernel_rfl) (fun _ _ _ h => h) (Or.inl ⟨by rfl, ?_⟩) ?_ ?_
      rotate_left
      · intro w'
        go_simp
        with_reducible rfl
      rotate_left
      · simp only [Act.put, List.setIfInBounds_toArray, List.set_cons_zero, List.set_cons_succ, i64_w, i32_w]
        rfl
      refine done_ (by kernel_rfl) ?_
      go_wp2_with fail
      go_ret
      exact ⟨_, rfl, QQ.out, .inr (by rw [HP.out]; exact R0.out)⟩
end Go.Proofs.Ytippkbgeeeimjaa.L
