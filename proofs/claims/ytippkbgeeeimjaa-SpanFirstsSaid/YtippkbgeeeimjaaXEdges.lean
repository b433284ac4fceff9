/- caesuraref01.Edges: where ranges may begin, or end. -/
import Derived.Test.YtippkbgeeeimjaaXPut
namespace Go.Proofs.Ytippkbgeeeimjaa.L
open Go.RowKit Go.Proofs.YtippkbgeeeimjaaW.PrintWords Go.Proofs.YtippkbgeeeimjaaW.PrintLast Go.Proofs.YtippkbgeeeimjaaW.PrintMore Go.Proofs.Ytippkbgeeeimjaa.A
set_option linter.unusedVariables false
set_option linter.unusedSimpArgs false
def edge1 (out : List Int) (r : S34) : List Int := if 0 ≤ r.f0 ∧ r.f0 ≤ 1114111 then putF out r.f0 else out
def edge2 (out : List Int) (r : S34) : List Int := if -1 ≤ r.f1 ∧ r.f1 < 1114111 then putF out (r.f1 + 1) else out
def edgeS (out : List Int) (l : List S34) : List Int := if l.length ≤ 400 then l.foldl (fun o r => edge2 (edge1 o r) r) out else out
def edgesF (sets : List (List S34)) : List Int := sets.foldl edgeS [0]
theorem edge1_len (o : List Int) (r : S34) : (edge1 o r).length ≤ o.length + 1 := by unfold edge1; split; exact putF_len _ _; omega
theorem edge_len (o : List Int) (r : S34) : (edge2 (edge1 o r) r).length ≤ o.length + 2 := by
  have h1 := edge1_len o r
  have h2 : (edge2 (edge1 o r) r).length ≤ (edge1 o r).length + 1 := by unfold edge2; split; exact putF_len _ _; omega
  omega
theorem edges_len (l : List S34) : ∀ o : List Int, (l.foldl (fun o r => edge2 (edge1 o r) r) o).length ≤ o.length + 2 * l.length := by
  induction l with
  | nil => intro o; simp
  | cons r l ih =>
    intro o
    have := ih (edge2 (edge1 o r) r)
    have := edge_len o r
    simp only [List.foldl_cons, List.length_cons]
    omega
theorem edgeS_len (o : List Int) (l : List S34) : (edgeS o l).length ≤ o.length + 800 := by
  unfold edgeS
  split
  · have := edges_len l o
    omega
  · omega
theorem edgesF_len (sets : List (List S34)) : (edgesF sets).length ≤ 1 + 800 * sets.length := by
  have : ∀ (sets : List (List S34)) (o : List Int), (sets.foldl edgeS o).length ≤ o.length + 800 * sets.length := by
    intro sets
    induction sets with
    | nil => intro o; simp
    | cons l s ih =>
      intro o
      have := ih (edgeS o l)
      have := edgeS_len o l
      simp only [List.foldl_cons, List.length_cons]
      omega
  have := this sets [0]
  simpa [edgesF] using this
/-- put of a row of one's own. -/
theorem put_own {base : Nat} (v : Value) (l : List Int) (n : Int) (w : World) (hr : Kd.R (Kd.int .i64) 3 w base (fun _ => True) v l) (hb : base ≤ w.heap.size) (hz : l.length ≤ 100000) :
    Calls Try.prog 74 #[v, .int .i64 n] w fun e w' => ∃ v', e = .returned v' ∧ Kd.R (Kd.int .i64) 3 w' base (fun _ => True) v' (putF l n) ∧ Below w.heap.size w w' := by
  obtain ⟨A, c, rfl⟩ := Kd.R_slice hr
  obtain ⟨_, hc, hC⟩ := Kd.R_reads' hr
  refine (put_new A c l n w hC hc hz).mono ?_
  rintro e w' ⟨v', rfl, hb', h⟩
  refine ⟨v', rfl, ?_, hb'⟩
  rcases h with ⟨rfl, h⟩ | h
  · rw [h]
    exact Kd.R_below hr hb'
  · exact Kd.R_lower h hb
def rdS (xs : List (List S34)) (i : Nat) : List S34 := xs.getD i []
theorem at_sets {w : World} {A : Option Addr} {n : Nat} {xs : List (List S34)} (h : Kd.C (Kd.slice 34 k34) w A n xs) (i : Nat) (h1 : i < n) : ∃ ad A0 c0, A = some ad ∧ w.cell? (ad.add i) = some (.slice A0 (rdS xs i).length c0) ∧ (rdS xs i).length ≤ c0 ∧ k34.C w A0 (rdS xs i).length (rdS xs i) := by
  obtain ⟨ad, c, e, _, hK, hc0⟩ := Kd.C_get h ([] : List S34) (i : Int) (by omega) (by omega)
  rw [Int.toNat_natCast] at hK hc0
  have hc : ∀ j u, c[j]? = some u → w.cell? (ad.add (i * 1 + j)) = some u := hc0
  obtain ⟨A0, c0, rfl, l0, g0⟩ := hK
  exact ⟨ad, A0, c0, e, by have hq := hc 0 _ rfl; rwa [Nat.mul_one, Nat.add_zero] at hq, l0, g0⟩
theorem take_rd (l : List S34) {j : Nat} (h : j < l.length) : l.take (j + 1) = l.take j ++ [rd_T34 l j] := by
  rw [List.take_succ_eq_append_getElem h]
  unfold rd_T34
  rw [Int.toNat_natCast, List.getD_eq_getElem?_getD, List.getElem?_eq_getElem h]
  rfl
theorem take_rdS (l : List (List S34)) {j : Nat} (h : j < l.length) : l.take (j + 1) = l.take j ++ [rdS l j] := by
  rw [List.take_succ_eq_append_getElem h]
  unfold rdS
  rw [List.getD_eq_getElem?_getD, List.getElem?_eq_getElem h]
  rfl
def Lo (w : World) (sets : List (List S34)) (t3 t4 : Value) (W : World) : Prop := ∃ (i : Nat), i ≤ sets.length ∧ t4 = .int .i64 i ∧ Kd.R (Kd.int .i64) 3 W w.heap.size (fun _ => True) t3 (edgesF (sets.take i)) ∧ Below w.heap.size w W
def Li (w : World) (l : List S34) (o : List Int) (t3 t5 : Value) (W : World) : Prop := ∃ (j : Nat), j ≤ l.length ∧ (j = 0 ∨ l.length ≤ 400) ∧ t5 = .int .i64 j ∧ Kd.R (Kd.int .i64) 3 W w.heap.size (fun _ => True) t3 ((l.take j).foldl (fun o r => edge2 (edge1 o r) r) o) ∧ Below w.heap.size w W
set_option maxHeartbeats 16000000 in
set_option maxRecDepth 100000 in
theorem edges_calls (A : Option Addr) (c : Nat) (sets : List (List S34)) (w : World) (hr : Kd.C (Kd.slice 34 k34) w A sets.length sets) (hc : sets.length ≤ c) (hz : sets.length ≤ 100) :
    Calls Try.prog 66 #[.slice A sets.length c] w fun e w' => ∃ v, e = .returned v ∧ Kd.R (Kd.int .i64) 3 w' w.heap.size (fun _ => True) v (edgesF sets) ∧ Below w.heap.size w w' := by
  have HR := Aside0.mk hr
  clear hr
  go_enter Try.func66, Try.ntmps66
  go_wp2_with fail
  obtain ⟨W0, hW0⟩ : ∃ W0, W0 = w.alloc (.cells #[.int .i64 0] 3) := ⟨_, rfl⟩
  have R0 : Kd.R (Kd.int .i64) 3 W0 w.heap.size (fun _ => True) (.slice (some ⟨w.heap.size, 0, none⟩) 1 1) [0] := by
    rw [hW0]
    exact ⟨fun _ _ => trivial, [.int .i64 0], ⟨rfl, .inr ⟨w.heap.size, 1, #[.int .i64 0], rfl, Nat.le_refl _, blk_new _ _, Nat.le_refl _, by unfold maxLen; omega, rfl, rfl⟩⟩, Kd.reps_scalar [0]⟩
  have B0 : Below w.heap.size w W0 := by rw [hW0]; exact below_alloc (Below.refl _ _) _
  rw [← hW0]
  clear hW0
  have RR0 := Aside0.mk R0
  have BB0 := Aside0.mk B0
  clear R0 B0
  go_loopw [3, 4] (fun t3 t4 W => Lo w sets t3 t4 W) (fun _ t4 _ => sets.length - (intOf t4).toNat)
  case atStart => exact ⟨0, Nat.zero_le _, rfl, RR0.out, BB0.out⟩
  case round =>
    obtain ⟨i, hi, rfl, hR, hB⟩ := hrel
    obtain ⟨wo, hwo⟩ : ∃ wo : World, wo = wr := ⟨_, rfl⟩
    subst hwo
    have ORR := Aside0.mk hR
    have OB := Aside0.mk hB
    clear hR hB RR0 BB0
    by_cases hlt : i < sets.length
    · have b1 : decide ((i : Int) < (sets.length : Int)) = true := decide_eq_true (by omega)
      have b2 : decide (i < sets.length) = true := decide_eq_true hlt
      have q0 : 0 ≤ (i : Int) := by omega
      have q1 : (i : Int) < (sets.length : Int) := by omega
      have w2 : IntKind.i64.wrap ((i : Int) + 1) = (i : Int) + 1 := IntWalk.i64_in _ (by omega)
      obtain ⟨ad, A0, c0, rfl, k0, hl0, hC0⟩ := at_sets (Kd.C_below HR.out OB.out) i hlt
      have hmax : (rdS sets i).length ≤ 9223372036854775807 := Kd.C_max hC0
      have htk : edgesF (sets.take (i + 1)) = edgeS (edgesF (sets.take i)) (rdS sets i) := by
        rw [take_rdS sets hlt]
        unfold edgesF
        rw [List.foldl_append]
        rfl
      have hol := edgesF_len (sets.take i)
      rw [List.length_take] at hol
      have hol2 : (edgesF (sets.take i)).length ≤ 80001 := by omega
      obtain ⟨o, ho⟩ : ∃ o, o = edgesF (sets.take i) := ⟨_, rfl⟩
      obtain ⟨l, hl⟩ : ∃ l, l = rdS sets i := ⟨_, rfl⟩
      rw [← ho, ← hl] at htk
      rw [← ho] at ORR hol2
      rw [← hl] at k0 hl0 hC0 hmax
      have HT := Aside0.mk htk
      have HC0 := Aside0.mk hC0
      have HK0 := Aside0.mk k0
      clear hol ho hl htk hC0
      go_wp2_with fail
      clear k0
      go_loopw [3, 5] (fun t3 t5 W => Li w l o t3 t5 W ∧ Below wo.heap.size wo W) (fun _ t5 _ => l.length - (intOf t5).toNat)
      case atStart => exact ⟨⟨0, Nat.zero_le _, .inl rfl, rfl, ORR.out, OB.out⟩, Below.refl _ _⟩
      case round =>
        obtain ⟨⟨j, hj, hj4, rfl, hR, hB⟩, hBo⟩ := hrel
        have k1 : wr.cell? (ad.add i) = some (.slice A0 l.length c0) := pw_cell_below hBo HK0.out
        have IR := Aside0.mk hR
        have IB := Aside0.mk hB
        have IBo := Aside0.mk hBo
        clear hR hB hBo
        by_cases hlj : j < l.length
        · have e1 : decide ((j : Int) < (l.length : Int)) = true := decide_eq_true (by omega)
          have e2 : decide (j < l.length) = true := decide_eq_true hlj
          by_cases h4 : l.length ≤ 400
          · have e3 : decide ((l.length : Int) ≤ 400) = true := decide_eq_true (by omega)
            have e4 : decide (l.length ≤ 400) = true := decide_eq_true h4
            have p0 : 0 ≤ (j : Int) := by omega
            have p1 : (j : Int) < (l.length : Int) := by omega
            have w3 : IntKind.i64.wrap ((j : Int) + 1) = (j : Int) + 1 := IntWalk.i64_in _ (by omega)
            obtain ⟨al, rfl, c1, c2⟩ := at_T34 (Kd.C_below HC0.out IBo.out) (j : Int) (by omega) (by omega)
            rw [Int.toNat_natCast] at c1 c2
            have htk2 : (l.take (j + 1)).foldl (fun o r => edge2 (edge1 o r) r) o = edge2 (edge1 ((l.take j).foldl (fun o r => edge2 (edge1 o r) r) o) (rd_T34 l j)) (rd_T34 l j) := by
              rw [take_rd l hlj, List.foldl_append]
              rfl
            have hm := edges_len (l.take j) o
            rw [List.length_take] at hm
            obtain ⟨m, hmm⟩ : ∃ m, m = (l.take j).foldl (fun o r => edge2 (edge1 o r) r) o := ⟨_, rfl⟩
            rw [← hmm] at htk2 hm
            rw [← hmm] at IR
            obtain ⟨r, hr⟩ : ∃ r, r = rd_T34 l j := ⟨_, rfl⟩
            rw [← hr] at htk2 c1 c2
            have hm2 : m.length ≤ 90000 := by omega
            have HT2 := Aside0.mk htk2
            clear hmm hr htk2 hm
            obtain ⟨f0, f1⟩ := r
            simp only at c1 c2
            have hm3 := edge1_len m ⟨f0, f1⟩
            have hm4 : (edge1 m ⟨f0, f1⟩).length ≤ 90001 := by omega
            clear hm3
            go_upto_region 9 with (fail)
            obtain ⟨W1, hW1⟩ : ∃ W1, W1 = wr.alloc (.cells #[.int .i64 f0, .int .i64 f1] 34) := ⟨_, rfl⟩
            have X1 : W1.heap[wr.heap.size]? = some (.cells #[.int .i64 f0, .int .i64 f1] 34 (0, 0)) := by rw [hW1]; exact blk_new _ _
            have B1 : Below w.heap.size w W1 := by rw [hW1]; exact below_alloc IB.out _
            have B1o : Below wo.heap.size wo W1 := by rw [hW1]; exact below_alloc IBo.out _
            have R1 : Kd.R (Kd.int .i64) 3 W1 w.heap.size (fun _ => True) u3 m := by rw [hW1]; exact Kd.R_alloc IR.out _
            rw [← hW1]
            clear hW1 c1 c2 k1
            obtain ⟨gb, hgb⟩ : ∃ gb, gb = wr.heap.size := ⟨_, rfl⟩
            rw [← hgb] at X1 ⊢
            clear hgb
            have HX := Aside0.mk X1
            have HB1 := Aside0.mk B1
            have HBo := Aside0.mk B1o
            have HR1 := Aside0.mk R1
            clear X1 B1 B1o R1 IR IB IBo
            have x0 : W1.cell? ⟨gb, 0, none⟩ = some (.int .i64 f0) := (blk_cell HX.out 0).trans rfl
            have x1 : W1.cell? ⟨gb, 1, none⟩ = some (.int .i64 f1) := (blk_cell HX.out 1).trans rfl
            by_cases g1 : 0 ≤ f0
            · have a1 : decide (0 ≤ f0) = true := decide_eq_true g1
              by_cases g2 : f0 ≤ 1114111
              · have a2 : decide (f0 ≤ 1114111) = true := decide_eq_true g2
                go_wp2_with fail
                refine (put_own _ _ _ _ HR1.out HB1.out.size (by omega)).mono ?_
                rintro e W2 ⟨v2, rfl, r2, b2'⟩
                have HR1' : Aside0 (Kd.R (Kd.int .i64) 3 W2 w.heap.size (fun _ => True) v2 (edge1 m ⟨f0, f1⟩)) := ⟨by unfold edge1; rw [if_pos ⟨g1, g2⟩]; exact r2⟩
                have HX' := Aside0.mk (blk_below HX.out b2')
                have HB' := Aside0.mk (HB1.out.trans (b2'.mono HB1.out.size))
                have HBo' := Aside0.mk (HBo.out.trans (b2'.mono HBo.out.size))
                clear HR1 HX HB1 HBo r2 b2' x0 x1
                have HR1 := HR1'
                have HX := HX'
                have HB1 := HB'
                have HBo := HBo'
                clear HR1' HX' HB' HBo'
                have x0 : W2.cell? ⟨gb, 0, none⟩ = some (.int .i64 f0) := (blk_cell HX.out 0).trans rfl
                have x1 : W2.cell? ⟨gb, 1, none⟩ = some (.int .i64 f1) := (blk_cell HX.out 1).trans rfl
                by_cases h1 : -1 ≤ f1
                · have d1 : decide (-1 ≤ f1) = true := decide_eq_true h1
                  by_cases h2 : f1 < 1114111
                  · have d2 : decide (f1 < 1114111) = true := decide_eq_true h2
                    have w4 : IntKind.i64.wrap (f1 + 1) = f1 + 1 := IntWalk.i64_in _ (by omega)
                    go_wp2_with fail
                    refine (put_own _ _ _ _ HR1.out HB1.out.size (by omega)).mono ?_
                    rintro e W3 ⟨v3, rfl, r3, b3⟩
                    have HRf : Aside0 (Kd.R (Kd.int .i64) 3 W3 w.heap.size (fun _ => True) v3 (edge2 (edge1 m ⟨f0, f1⟩) ⟨f0, f1⟩)) := ⟨by unfold edge2; rw [if_pos ⟨h1, h2⟩]; exact r3⟩
                    have HB3 := Aside0.mk (HB1.out.trans (b3.mono HB1.out.size))
                    have HBo3 := Aside0.mk (HBo.out.trans (b3.mono HBo.out.size))
                    clear r3 b3 x0 x1
                    go_wp2_with fail
                    go_roundw
                    case rel => exact ⟨⟨j + 1, hlj, .inr h4, by go_num, by rw [HT2.out]; exact HRf.out, HB3.out⟩, HBo3.out⟩
                    case measure => simp [intOf]; omega
                  · have d2 : decide (f1 < 1114111) = false := decide_eq_false h2
                    have HRf : Aside0 (Kd.R (Kd.int .i64) 3 W2 w.heap.size (fun _ => True) _ (edge2 (edge1 m ⟨f0, f1⟩) ⟨f0, f1⟩)) := ⟨by unfold edge2; rw [if_neg (fun q => h2 q.2)]; exact HR1.out⟩
                    go_wp2_with fail
                    go_roundw
                    case rel => exact ⟨⟨j + 1, hlj, .inr h4, by go_num, by rw [HT2.out]; exact HRf.out, HB1.out⟩, HBo.out⟩
                    case measure => simp [intOf]; omega
                · have d1 : decide (-1 ≤ f1) = false := decide_eq_false h1
                  have HRf : Aside0 (Kd.R (Kd.int .i64) 3 W2 w.heap.size (fun _ => True) _ (edge2 (edge1 m ⟨f0, f1⟩) ⟨f0, f1⟩)) := ⟨by unfold edge2; rw [if_neg (fun q => h1 q.1)]; exact HR1.out⟩
                  go_wp2_with fail
                  go_roundw
                  case rel => exact ⟨⟨j + 1, hlj, .inr h4, by go_num, by rw [HT2.out]; exact HRf.out, HB1.out⟩, HBo.out⟩
                  case measure => simp [intOf]; omega
              · have a2 : decide (f0 ≤ 1114111) = false := decide_eq_false g2
                have HR1' : Aside0 (Kd.R (Kd.int .i64) 3 W1 w.heap.size (fun _ => True) u3 (edge1 m ⟨f0, f1⟩)) := ⟨by unfold edge1; rw [if_neg (fun q => g2 q.2)]; exact HR1.out⟩
                clear HR1
                have HR1 := HR1'
                clear HR1'
                by_cases h1 : -1 ≤ f1
                · have d1 : decide (-1 ≤ f1) = true := decide_eq_true h1
                  by_cases h2 : f1 < 1114111
                  · have d2 : decide (f1 < 1114111) = true := decide_eq_true h2
                    have w4 : IntKind.i64.wrap (f1 + 1) = f1 + 1 := IntWalk.i64_in _ (by omega)
                    go_wp2_with fail
                    refine (put_own _ _ _ _ HR1.out HB1.out.size (by omega)).mono ?_
                    rintro e W3 ⟨v3, rfl, r3, b3⟩
                    have HRf : Aside0 (Kd.R (Kd.int .i64) 3 W3 w.heap.size (fun _ => True) v3 (edge2 (edge1 m ⟨f0, f1⟩) ⟨f0, f1⟩)) := ⟨by unfold edge2; rw [if_pos ⟨h1, h2⟩]; exact r3⟩
                    have HB3 := Aside0.mk (HB1.out.trans (b3.mono HB1.out.size))
                    have HBo3 := Aside0.mk (HBo.out.trans (b3.mono HBo.out.size))
                    clear r3 b3 x0 x1
                    go_wp2_with fail
                    go_roundw
                    case rel => exact ⟨⟨j + 1, hlj, .inr h4, by go_num, by rw [HT2.out]; exact HRf.out, HB3.out⟩, HBo3.out⟩
                    case measure => simp [intOf]; omega
                  · have d2 : decide (f1 < 1114111) = false := decide_eq_false h2
                    have HRf : Aside0 (Kd.R (Kd.int .i64) 3 W1 w.heap.size (fun _ => True) _ (edge2 (edge1 m ⟨f0, f1⟩) ⟨f0, f1⟩)) := ⟨by unfold edge2; rw [if_neg (fun q => h2 q.2)]; exact HR1.out⟩
                    go_wp2_with fail
                    go_roundw
                    case rel => exact ⟨⟨j + 1, hlj, .inr h4, by go_num, by rw [HT2.out]; exact HRf.out, HB1.out⟩, HBo.out⟩
                    case measure => simp [intOf]; omega
                · have d1 : decide (-1 ≤ f1) = false := decide_eq_false h1
                  have HRf : Aside0 (Kd.R (Kd.int .i64) 3 W1 w.heap.size (fun _ => True) _ (edge2 (edge1 m ⟨f0, f1⟩) ⟨f0, f1⟩)) := ⟨by unfold edge2; rw [if_neg (fun q => h1 q.1)]; exact HR1.out⟩
                  go_wp2_with fail
                  go_roundw
                  case rel => exact ⟨⟨j + 1, hlj, .inr h4, by go_num, by rw [HT2.out]; exact HRf.out, HB1.out⟩, HBo.out⟩
                  case measure => simp [intOf]; omega
            · have a1 : decide (0 ≤ f0) = false := decide_eq_false g1
              have HR1' : Aside0 (Kd.R (Kd.int .i64) 3 W1 w.heap.size (fun _ => True) u3 (edge1 m ⟨f0, f1⟩)) := ⟨by unfold edge1; rw [if_neg (fun q => g1 q.1)]; exact HR1.out⟩
              clear HR1
              have HR1 := HR1'
              clear HR1'
              by_cases h1 : -1 ≤ f1
              · have d1 : decide (-1 ≤ f1) = true := decide_eq_true h1
                by_cases h2 : f1 < 1114111
                · have d2 : decide (f1 < 1114111) = true := decide_eq_true h2
                  have w4 : IntKind.i64.wrap (f1 + 1) = f1 + 1 := IntWalk.i64_in _ (by omega)
                  go_wp2_with fail
                  refine (put_own _ _ _ _ HR1.out HB1.out.size (by omega)).mono ?_
                  rintro e W3 ⟨v3, rfl, r3, b3⟩
                  have HRf : Aside0 (Kd.R (Kd.int .i64) 3 W3 w.heap.size (fun _ => True) v3 (edge2 (edge1 m ⟨f0, f1⟩) ⟨f0, f1⟩)) := ⟨by unfold edge2; rw [if_pos ⟨h1, h2⟩]; exact r3⟩
                  have HB3 := Aside0.mk (HB1.out.trans (b3.mono HB1.out.size))
                  have HBo3 := Aside0.mk (HBo.out.trans (b3.mono HBo.out.size))
                  clear r3 b3 x0 x1
                  go_wp2_with fail
                  go_roundw
                  case rel => exact ⟨⟨j + 1, hlj, .inr h4, by go_num, by rw [HT2.out]; exact HRf.out, HB3.out⟩, HBo3.out⟩
                  case measure => simp [intOf]; omega
                · have d2 : decide (f1 < 1114111) = false := decide_eq_false h2
                  have HRf : Aside0 (Kd.R (Kd.int .i64) 3 W1 w.heap.size (fun _ => True) _ (edge2 (edge1 m ⟨f0, f1⟩) ⟨f0, f1⟩)) := ⟨by unfold edge2; rw [if_neg (fun q => h2 q.2)]; exact HR1.out⟩
                  go_wp2_with fail
                  go_roundw
                  case rel => exact ⟨⟨j + 1, hlj, .inr h4, by go_num, by rw [HT2.out]; exact HRf.out, HB1.out⟩, HBo.out⟩
                  case measure => simp [intOf]; omega
              · have d1 : decide (-1 ≤ f1) = false := decide_eq_false h1
                have HRf : Aside0 (Kd.R (Kd.int .i64) 3 W1 w.heap.size (fun _ => True) _ (edge2 (edge1 m ⟨f0, f1⟩) ⟨f0, f1⟩)) := ⟨by unfold edge2; rw [if_neg (fun q => h1 q.1)]; exact HR1.out⟩
                go_wp2_with fail
                go_roundw
                case rel => exact ⟨⟨j + 1, hlj, .inr h4, by go_num, by rw [HT2.out]; exact HRf.out, HB1.out⟩, HBo.out⟩
                case measure => simp [intOf]; omega
          · have e3 : decide ((l.length : Int) ≤ 400) = false := decide_eq_false (by omega)
            have e4 : decide (l.length ≤ 400) = false := decide_eq_false h4
            obtain rfl : j = 0 := hj4.resolve_right h4
            have HF : Aside0 ((l.take 0).foldl (fun o r => edge2 (edge1 o r) r) o = edgesF (sets.take (i + 1))) := ⟨by rw [HT.out]; unfold edgeS; rw [if_neg h4]; rfl⟩
            go_wp2_with fail
            go_roundw
            case rel => exact ⟨i + 1, hlt, by go_num, by rw [← HF.out]; exact IR.out, IB.out⟩
            case measure => simp [intOf]; omega
        · have e1 : decide ((j : Int) < (l.length : Int)) = false := decide_eq_false (by omega)
          have e2 : decide (j < l.length) = false := decide_eq_false hlj
          have HF : Aside0 ((l.take j).foldl (fun o r => edge2 (edge1 o r) r) o = edgesF (sets.take (i + 1))) := ⟨by
            rw [HT.out]
            unfold edgeS
            by_cases h4 : l.length ≤ 400
            · rw [if_pos h4, List.take_of_length_le (by omega)]
            · rw [if_neg h4]
              obtain rfl : j = 0 := hj4.resolve_right h4
              rfl⟩
          go_wp2_with fail
          go_roundw
          case rel => exact ⟨i + 1, hlt, by go_num, by rw [← HF.out]; exact IR.out, IB.out⟩
          case measure => simp [intOf]; omega
    · have b1 : decide ((i : Int) < (sets.length : Int)) = false := decide_eq_false (by omega)
      have b2 : decide (i < sets.length) = false := decide_eq_false hlt
      have HF : Aside0 (edgesF (sets.take i) = edgesF sets) := ⟨by rw [List.take_of_length_le (by omega)]⟩
      go_wp2_with fail
      go_ret
      exact ⟨_, rfl, by rw [← HF.out]; exact ORR.out, OB.out⟩
end Go.Proofs.Ytippkbgeeeimjaa.L
