/- caesuraref01.made: what it makes of two sets. -/
import Derived.Test.YtippkbgeeeimjaaPHas
namespace Go.Proofs.Ytippkbgeeeimjaa.L
open Go.RowKit Go.Proofs.YtippkbgeeeimjaaW.PrintWords Go.Proofs.YtippkbgeeeimjaaW.PrintLast Go.Proofs.YtippkbgeeeimjaaW.PrintMore Go.Proofs.Ytippkbgeeeimjaa.A
set_option linter.unusedVariables false
set_option linter.unusedSimpArgs false
def mkF (keep : Bool) (c tt : Int) (xs : List S34) : List S34 :=
  if keep = true then (if 0 < xs.length ∧ (rd_T34 xs ((xs.length : Int) - 1)).f1 + 1 = c then xs.set (xs.length - 1) ⟨(rd_T34 xs ((xs.length : Int) - 1)).f0, tt⟩ else xs ++ [⟨c, tt⟩]) else xs
def nextE : List Int → Int
  | [] => 1114111
  | d :: _ => d - 1
def madeRun (rb : Bool → Bool → Bool) (a b : List S34) : List Int → List S34 → List S34
  | [], out => out
  | c :: rest, out => madeRun rb a b rest (mkF (rb (hasF a c) (hasF b c)) c (nextE rest) out)
theorem mkF_len (k : Bool) (c tt : Int) (xs : List S34) : (mkF k c tt xs).length ≤ xs.length + 1 := by
  unfold mkF
  split
  · split <;> simp
  · omega
theorem run_step (rb : Bool → Bool → Bool) (a b : List S34) (es : List Int) (j : Nat) (out : List S34) (h : j < es.length) : madeRun rb a b (es.drop j) out = madeRun rb a b (es.drop (j + 1)) (mkF (rb (hasF a (rd es j)) (hasF b (rd es j))) (rd es j) (if j + 1 < es.length then rd es ((j : Int) + 1) - 1 else 1114111) out) := by
  have e : rd es (j : Int) = es[j] := by
    unfold rd
    rw [Int.toNat_natCast, List.getD_eq_getElem?_getD, List.getElem?_eq_getElem h]
    rfl
  rw [List.drop_eq_getElem_cons h, e, madeRun]
  congr 2
  by_cases hn : j + 1 < es.length
  · have e2 : rd es ((j : Int) + 1) = es[j + 1] := by
      unfold rd
      rw [show ((j : Int) + 1).toNat = j + 1 from by omega, List.getD_eq_getElem?_getD, List.getElem?_eq_getElem hn]
      rfl
    rw [if_pos hn, List.drop_eq_getElem_cons hn, e2]
    rfl
  · rw [if_neg hn, List.drop_eq_nil_iff.2 (by omega)]
    rfl
/-- The last range's end is written. -/
theorem R_last {w : World} {base g c : Nat} {xs : List S34} (h : Kd.R k34 34 w base (fun _ => True) (.slice (some ⟨g, 0, none⟩) xs.length c) xs) (hn : 0 < xs.length) (u : Int) :
    Kd.R k34 34 (w.setCell ⟨g, (xs.length - 1) * 2 + 1, none⟩ (.int .i64 u)) base (fun _ => True) (.slice (some ⟨g, 0, none⟩) xs.length c) (xs.set (xs.length - 1) ⟨(rd_T34 xs ((xs.length : Int) - 1)).f0, u⟩) := by
  obtain ⟨cs, hcl, hcM, hcc, hcf⟩ := Kd.R_elem h z34 ((xs.length : Int) - 1) (by omega) (by omega)
  obtain rfl := k34_openM hcM
  have hi : ((xs.length : Int) - 1).toNat = xs.length - 1 := by omega
  have hs : k34.sz = 2 := rfl
  have hfin := Kd.R_seg h ((xs.length : Int) - 1) (by omega) (by omega) hcl hcc (seg := [.int .i64 u]) (j := 1) (by rw [hs]; simp) (x' := ⟨(rd_T34 xs ((xs.length : Int) - 1)).f0, u⟩) (okp := fun _ => False) (k34_mkM w base _ ⟨(rd_T34 xs ((xs.length : Int) - 1)).f0, u⟩) (fun _ hk => hk.elim)
  rw [hi, hs] at hfin
  exact hfin.1
theorem C_sets {W : World} {g : Nat} {A0 A1 : Option Addr} {c0 c1 : Nat} {l0 l1 : List S34} (hb : W.heap[g]? = some (.cells #[.slice A0 l0.length c0, .slice A1 l1.length c1] 22 (0, 0))) (h0 : Kd.C k34 W A0 l0.length l0) (hc0 : l0.length ≤ c0) (h1 : Kd.C k34 W A1 l1.length l1) (hc1 : l1.length ≤ c1) : Kd.C (Kd.slice 34 k34) W (some ⟨g, 0, none⟩) 2 [l0, l1] := by
  refine C_box (xs := [l0, l1]) (inner := [.slice A0 l0.length c0, .slice A1 l1.length c1]) hb ⟨rfl, fun j p hj => ?_⟩ (by simp)
  match j, hj with
  | 0, hj =>
    obtain rfl : l0 = p := by simpa using hj
    exact ⟨A0, c0, rfl, hc0, h0⟩
  | 1, hj =>
    obtain rfl : l1 = p := by simpa using hj
    exact ⟨A1, c1, rfl, hc1, h1⟩
  | j + 2, hj => simp at hj
def Bd (out : List S34) : Prop := ∀ r ∈ out, -1 ≤ r.f1 ∧ r.f1 ≤ 1114111
theorem Bd.mk {out : List S34} (h : Bd out) {k : Bool} {c tt : Int} (ht : -1 ≤ tt ∧ tt ≤ 1114111) : Bd (mkF k c tt out) := by
  unfold mkF
  split
  · split
    · intro r hr
      rcases List.mem_or_eq_of_mem_set hr with hr | rfl
      · exact h r hr
      · exact ht
    · intro r hr
      rcases List.mem_append.1 hr with hr | hr
      · exact h r hr
      · rw [List.mem_singleton] at hr
        subst hr
        exact ht
  · exact h
theorem Bd.last {out : List S34} (h : Bd out) (hn : 0 < out.length) : -1 ≤ (rd_T34 out ((out.length : Int) - 1)).f1 ∧ (rd_T34 out ((out.length : Int) - 1)).f1 ≤ 1114111 := by
  refine h _ ?_
  unfold rd_T34
  rw [show ((out.length : Int) - 1).toNat = out.length - 1 from by omega, List.getD_eq_getElem?_getD, List.getElem?_eq_getElem (by omega)]
  exact List.getElem_mem _
def Lm (rb : Bool → Bool → Bool) (W1 : World) (a b : List S34) (es : List Int) (fin : List S34) (t7 t9 : Value) (W : World) : Prop := ∃ (j : Nat) (out : List S34), j ≤ es.length ∧ t9 = .int .i64 j ∧ Kd.R k34 34 W W1.heap.size (fun _ => True) t7 out ∧ Below W1.heap.size W1 W ∧ madeRun rb a b (es.drop j) out = fin ∧ out.length ≤ j ∧ Bd out
set_option maxHeartbeats 32000000 in
set_option maxRecDepth 100000 in
theorem made_or (A0 : Option Addr) (c0 : Nat) (l0 : List S34) (A1 : Option Addr) (c1 : Nat) (l1 : List S34) (w : World) (hr0 : Kd.C k34 w A0 l0.length l0) (hc0 : l0.length ≤ c0) (hr1 : Kd.C k34 w A1 l1.length l1) (hc1 : l1.length ≤ c1)
    (hes : ∀ i, 0 ≤ i → i < ((edgesF [l0, l1]).length : Int) → 0 ≤ rd (edgesF [l0, l1]) i ∧ rd (edgesF [l0, l1]) i ≤ 1114111) :
    Calls Try.prog 44 #[.slice A0 l0.length c0, .slice A1 l1.length c1, .int .i64 0] w fun e w' => ∃ v, e = .returned v ∧ Kd.R k34 34 w' w.heap.size (fun _ => True) v (madeRun (fun x y => x || y) l0 l1 (edgesF [l0, l1]) []) ∧ Below w.heap.size w w' := by
  obtain ⟨rbK, hrb'⟩ : ∃ rbK : Bool → Bool → Bool, rbK = (fun x y => x || y) := ⟨_, rfl⟩
  rw [← hrb']
  have hrb := Aside0.mk hrb'
  have HR0 := Aside0.mk hr0
  have HR1 := Aside0.mk hr1
  have HC0 := Aside0.mk hc0
  have HC1 := Aside0.mk hc1
  have hel := edgesF_len [l0, l1]
  have hel2 : (edgesF [l0, l1]).length ≤ 1601 := hel
  obtain ⟨es, hesq⟩ : ∃ es, es = edgesF [l0, l1] := ⟨_, rfl⟩
  rw [← hesq] at hes hel2 ⊢
  have HES := Aside0.mk hes
  have HEQ := Aside0.mk hesq
  clear hr0 hr1 hc0 hc1 hrb' hel hes hesq
  go_enter Try.func44, Try.ntmps44
  go_wp2_with fail
  obtain ⟨W0, hW0⟩ : ∃ W0, W0 = w.alloc (.cells #[.slice A0 l0.length c0, .slice A1 l1.length c1] 22) := ⟨_, rfl⟩
  have X0 : W0.heap[w.heap.size]? = some (.cells #[.slice A0 l0.length c0, .slice A1 l1.length c1] 22 (0, 0)) := by rw [hW0]; exact blk_new _ _
  have B0 : Below w.heap.size w W0 := by rw [hW0]; exact below_alloc (Below.refl _ _) _
  rw [← hW0]
  clear hW0
  have hE := edges_calls (some ⟨w.heap.size, 0, none⟩) 2 [l0, l1] W0 (C_sets X0 (Kd.C_below HR0.out B0) HC0.out (Kd.C_below HR1.out B0) HC1.out) (Nat.le_refl _) (by simp)
  rw [← HEQ.out] at hE
  have hE' : Calls Try.prog 66 #[.slice (some ⟨w.heap.size, 0, none⟩) 2 2] W0 (fun e w' => ∃ v, e = .returned v ∧ Kd.R (Kd.int .i64) 3 w' W0.heap.size (fun _ => True) v es ∧ Below W0.heap.size W0 w') := hE
  have HEE := Aside0.mk hE'
  have HB0 := Aside0.mk B0
  clear hE hE' B0 X0 HEQ
  refine HEE.out.mono ?_
  rintro e W1 ⟨ve, rfl, rE, bE⟩
  obtain ⟨Ae, ce, rfl⟩ := Kd.R_slice rE
  have HEC := Aside0.mk (Kd.R_reads' rE).2.2
  have HB01 := Aside0.mk (HB0.out.trans (bE.mono HB0.out.size))
  have CA0 := Aside0.mk (Kd.C_below HR0.out HB01.out)
  have CB0 := Aside0.mk (Kd.C_below HR1.out HB01.out)
  obtain ⟨fin, hfin⟩ : ∃ fin, fin = madeRun rbK l0 l1 es [] := ⟨_, rfl⟩
  have HFIN := Aside0.mk hfin
  clear rE bE hfin HEE HB0
  go_wp2_with fail
  go_loopw [7, 9] (fun t7 t9 W => Lm rbK W1 l0 l1 es fin t7 t9 W) (fun _ t9 _ => es.length - (intOf t9).toNat)
  case atStart => exact ⟨0, [], Nat.zero_le _, rfl, Kd.R_nil _ _ _ _ _, Below.refl _ _, HFIN.out.symm, Nat.le_refl _, (fun r hr => by cases hr)⟩
  case round =>
    obtain ⟨j, out, hj, rfl, hR, hB, hrun, hol, hbd⟩ := hrel
    have HRo := Aside0.mk hR
    have HB1 := Aside0.mk hB
    have HBD := Aside0.mk hbd
    clear hR hB hbd
    by_cases hlt : j < es.length
    · rw [run_step rbK l0 l1 es j out hlt] at hrun
      have HRUN := Aside0.mk hrun
      clear hrun
      have b1 : decide ((j : Int) < (es.length : Int)) = true := decide_eq_true (by omega)
      have b2 : decide (j < es.length) = true := decide_eq_true hlt
      have q0 : 0 ≤ (j : Int) := by omega
      have q1 : (j : Int) < (es.length : Int) := by omega
      have w2 : IntKind.i64.wrap ((j : Int) + 1) = (j : Int) + 1 := IntWalk.i64_in _ (by omega)
      obtain ⟨ad, rfl, k1⟩ := Kd.at_int (Kd.C_below HEC.out HB1.out) (j : Int) (by omega) (by omega)
      rw [Int.toNat_natCast] at k1
      have hcb := HES.out _ q0 q1
      obtain ⟨cc, hcc0⟩ : ∃ cc, cc = rd es (j : Int) := ⟨_, rfl⟩
      rw [← hcc0] at k1 HRUN hcb
      clear hcc0
      have CA := Aside0.mk (Kd.C_below CA0.out HB1.out)
      have CB := Aside0.mk (Kd.C_below CB0.out HB1.out)
      cases hx : hasF l0 cc with
      | true =>
        cases hy : hasF l1 cc with
        | true =>
          have KP : Aside0 (rbK (hasF l0 cc) (hasF l1 cc) = true) := ⟨by rw [hx, hy, hrb.out]; rfl⟩
          have HA : Aside0 (∀ W, Kd.C k34 W A0 l0.length l0 → Calls Try.prog 25 #[.slice A0 l0.length c0, .int .i64 cc] W fun e w' => e = .returned (.bool true) ∧ Drawn0 W w') := ⟨fun W h => by rw [← hx]; exact P.ref_has_calls A0 c0 l0 cc W h HC0.out⟩
          have HBh : Aside0 (∀ W, Kd.C k34 W A1 l1.length l1 → Calls Try.prog 25 #[.slice A1 l1.length c1, .int .i64 cc] W fun e w' => e = .returned (.bool true) ∧ Drawn0 W w') := ⟨fun W h => by rw [← hy]; exact P.ref_has_calls A1 c1 l1 cc W h HC1.out⟩
          clear hx hy
          go_wp2_with fail
          go_quiet ((go_at_call 25; first | ((with_reducible refine (HA.out _ (Kd.C_drewN CA.out _)).mono ?_); rintro e w' ⟨rfl, ⟨nd, rfl⟩⟩; (first | exact ⟨rfl, _, rfl⟩ | exact ⟨rfl, _, World.drewN_drewN _ _ _⟩ | exact ⟨rfl, _, Eq.trans (World.drewN_drewN _ _ _) (congrArg (World.drewN _) (Nat.add_assoc _ _ _))⟩)) | ((with_reducible refine (HA.out _ CA.out).mono ?_); rintro e w' ⟨rfl, ⟨nd, rfl⟩⟩; (first | exact ⟨rfl, _, rfl⟩ | exact ⟨rfl, _, World.drewN_drewN _ _ _⟩ | exact ⟨rfl, _, Eq.trans (World.drewN_drewN _ _ _) (congrArg (World.drewN _) (Nat.add_assoc _ _ _))⟩)) | ((with_reducible refine (HBh.out _ (Kd.C_drewN CB.out _)).mono ?_); rintro e w' ⟨rfl, ⟨nd, rfl⟩⟩; (first | exact ⟨rfl, _, rfl⟩ | exact ⟨rfl, _, World.drewN_drewN _ _ _⟩ | exact ⟨rfl, _, Eq.trans (World.drewN_drewN _ _ _) (congrArg (World.drewN _) (Nat.add_assoc _ _ _))⟩)) | ((with_reducible refine (HBh.out _ CB.out).mono ?_); rintro e w' ⟨rfl, ⟨nd, rfl⟩⟩; (first | exact ⟨rfl, _, rfl⟩ | exact ⟨rfl, _, World.drewN_drewN _ _ _⟩ | exact ⟨rfl, _, Eq.trans (World.drewN_drewN _ _ _) (congrArg (World.drewN _) (Nat.add_assoc _ _ _))⟩))))
          clear HA HBh
          by_cases hn : j + 1 < es.length
          · have n1 : decide ((j : Int) + 1 < (es.length : Int)) = true := decide_eq_true (by omega)
            have n2 : decide (j + 1 < es.length) = true := decide_eq_true hn
            have n3 : 0 ≤ (j : Int) + 1 := by omega
            have n4 : (j : Int) + 1 < (es.length : Int) := by omega
            obtain ⟨ad2, ea2, k2⟩ := Kd.at_int (Kd.C_below HEC.out HB1.out) ((j : Int) + 1) (by omega) (by omega)
            injection ea2 with ea2
            subst ea2
            rw [show ((j : Int) + 1).toNat = j + 1 from by omega] at k2
            have hdb := HES.out _ n3 n4
            obtain ⟨dd, hdd⟩ : ∃ dd, dd = rd es ((j : Int) + 1) := ⟨_, rfl⟩
            rw [← hdd] at k2 HRUN hdb
            clear hdd
            have n5 : IntKind.i64.wrap (dd - 1) = dd - 1 := IntWalk.i64_in _ (by omega)
            have k3 : wr.cell? ⟨ad.block, ad.off + (j + 1), none⟩ = some (.int .i64 dd) := by rw [← k2]; congr 1
            have HE0 : Aside0 (madeRun rbK l0 l1 (es.drop (j + 1)) (mkF true cc (dd - 1) out) = fin) := ⟨by
              have := HRUN.out
              rw [KP.out, if_pos hn] at this
              exact this⟩
            have hml := mkF_len true cc (dd - 1) out
            have HML : Aside0 ((mkF true cc (dd - 1) out).length ≤ j + 1) := ⟨by omega⟩
            have HBD2 : Aside0 (Bd (mkF true cc (dd - 1) out)) := ⟨HBD.out.mk (by omega)⟩
            clear hml
            by_cases ho : 0 < out.length
            · obtain ⟨g, co, rfl, hgb⟩ := R_place HRo.out ho
              have hlb := HBD.out.last ho
              obtain ⟨cs, hcl, hcM, hcc, hcf⟩ := Kd.R_elem HRo.out z34 ((out.length : Int) - 1) (by omega) (by omega)
              obtain rfl := k34_openM hcM
              have hi1 : ((out.length : Int) - 1).toNat = out.length - 1 := by omega
              have y1 : wr.cell? ⟨g, (out.length - 1) * 2 + 1, none⟩ = some (.int .i64 (rd_T34 out ((out.length : Int) - 1)).f1) := by
                have := hcc 1 _ rfl
                rw [hi1] at this
                unfold rd_T34
                rw [hi1]
                exact this
              have z1 : wr.frozen? ⟨g, (out.length - 1) * 2 + 1, none⟩ = false := by
                have := hcf 1
                rw [hi1] at this
                exact this
              have o1 : decide (0 < (out.length : Int)) = true := decide_eq_true (by omega)
              have o2 : decide (0 < out.length) = true := decide_eq_true ho
              have o3 : IntKind.i64.wrap ((out.length : Int) - 1) = (out.length : Int) - 1 := IntWalk.i64_in _ (by omega)
              have o4 : 0 ≤ (out.length : Int) - 1 := by omega
              have o5 : (out.length : Int) - 1 < (out.length : Int) := by omega
              clear hcc hcf hcM hcl
              obtain ⟨lh, hlh⟩ : ∃ lh, lh = (rd_T34 out ((out.length : Int) - 1)).f1 := ⟨_, rfl⟩
              rw [← hlh] at y1 hlb
              have HLH := Aside0.mk hlh
              clear hlh
              have o6 : IntKind.i64.wrap (lh + 1) = lh + 1 := IntWalk.i64_in _ (by omega)
              by_cases hjn : lh + 1 = cc
              · have o7 : ((lh + 1) == cc) = true := beq_iff_eq.2 hjn
                have EQ : Aside0 (mkF true cc (dd - 1) out = out.set (out.length - 1) ⟨(rd_T34 out ((out.length : Int) - 1)).f0, (dd - 1)⟩) := ⟨by
                  unfold mkF
                  rw [if_pos rfl, if_pos ⟨ho, by rw [← HLH.out]; exact hjn⟩]⟩
                have RST : Aside0 (∀ W : World, Kd.R k34 34 W W1.heap.size (fun _ => True) (.slice (some ⟨g, 0, none⟩) out.length co) out → Kd.R k34 34 (W.setCell ⟨g, (out.length - 1) * 2 + 1, none⟩ (.int .i64 (dd - 1))) W1.heap.size (fun _ => True) (.slice (some ⟨g, 0, none⟩) out.length co) (mkF true cc (dd - 1) out)) := ⟨fun W h => by rw [EQ.out]; exact R_last h ho _⟩
                clear hjn
                go_wp2_with fail
                go_quiet (fail)
                go_wp2_with fail
                go_roundw
                case rel => exact ⟨j + 1, _, hlt, by go_num, RST.out _ (by repeat (first | exact HRo.out | refine Kd.R_drewN ?_ _)), Below.setCell (by repeat (first | exact HB1.out | refine pw_below_drewN ?_ _)) hgb _, HE0.out, HML.out, HBD2.out⟩
                case measure => simp [intOf]; omega
              · have o7 : ((lh + 1) == cc) = false := beq_eq_false_iff_ne.2 hjn
                have EQ : Aside0 (mkF true cc (dd - 1) out = out ++ [⟨cc, (dd - 1)⟩]) := ⟨by
                  unfold mkF
                  rw [if_pos rfl, if_neg (fun q => hjn (by rw [HLH.out]; exact q.2))]⟩
                clear hjn
                go_wp2_with fail
                go_quiet (fail)
                go_wp2_with ((with_reducible refine gate_builtin (b := .append) (xs := #[.tmp 104, .tmp 111]) rfl ?_); at_builtin; refine Kd.R_append k34 (w0 := W1) W1.heap.size rfl (.tmp 104) (.tmp 111) 22 34 (.agg #[.int .i64 0, .int .i64 0]) 16 rfl Try.underlying22 info34 rfl (by decide) (by omega) _ out ⟨cc, (dd - 1)⟩ [.int .i64 cc, .int .i64 (dd - 1)] (fun _ => True) (fun _ => False) rfl rfl ?aP (fun _ hk => hk.elim) ?aF ?aO ?aB ?aS ?aL ?_; (case aP => exact k34_mkM _ _ _ ⟨cc, (dd - 1)⟩); (case aF => exact fun _ _ => trivial); (case aO => (repeat (first | exact HRo.out | refine Kd.R_drewN ?_ _))); (case aB => (repeat (first | exact HB1.out | refine pw_below_drewN ?_ _))); (case aS => exact HB1.out.size); (case aL => omega); intro v5 w5 hR5 hb5 hg5 hat5; rw [← EQ.out] at hR5; have HR5 := Aside0.mk hR5; have HB5 := Aside0.mk hb5; clear hR5 hb5 hg5 hat5)
                go_roundw
                case rel => exact ⟨j + 1, _, hlt, by go_num, HR5.out, HB5.out, HE0.out, HML.out, HBD2.out⟩
                case measure => simp [intOf]; omega
            · obtain ⟨Ao, co, rfl⟩ := Kd.R_slice HRo.out
              have o1 : decide (0 < (out.length : Int)) = false := decide_eq_false (by omega)
              have o2 : decide (0 < out.length) = false := decide_eq_false ho
              have EQ : Aside0 (mkF true cc (dd - 1) out = out ++ [⟨cc, (dd - 1)⟩]) := ⟨by
                unfold mkF
                rw [if_pos rfl, if_neg (fun q => ho q.1)]⟩
              go_wp2_with fail
              go_quiet (fail)
              go_wp2_with ((with_reducible refine gate_builtin (b := .append) (xs := #[.tmp 104, .tmp 111]) rfl ?_); at_builtin; refine Kd.R_append k34 (w0 := W1) W1.heap.size rfl (.tmp 104) (.tmp 111) 22 34 (.agg #[.int .i64 0, .int .i64 0]) 16 rfl Try.underlying22 info34 rfl (by decide) (by omega) _ out ⟨cc, (dd - 1)⟩ [.int .i64 cc, .int .i64 (dd - 1)] (fun _ => True) (fun _ => False) rfl rfl ?aP (fun _ hk => hk.elim) ?aF ?aO ?aB ?aS ?aL ?_; (case aP => exact k34_mkM _ _ _ ⟨cc, (dd - 1)⟩); (case aF => exact fun _ _ => trivial); (case aO => (repeat (first | exact HRo.out | refine Kd.R_drewN ?_ _))); (case aB => (repeat (first | exact HB1.out | refine pw_below_drewN ?_ _))); (case aS => exact HB1.out.size); (case aL => omega); intro v5 w5 hR5 hb5 hg5 hat5; rw [← EQ.out] at hR5; have HR5 := Aside0.mk hR5; have HB5 := Aside0.mk hb5; clear hR5 hb5 hg5 hat5)
              go_roundw
              case rel => exact ⟨j + 1, _, hlt, by go_num, HR5.out, HB5.out, HE0.out, HML.out, HBD2.out⟩
              case measure => simp [intOf]; omega
          · have n1 : decide ((j : Int) + 1 < (es.length : Int)) = false := decide_eq_false (by omega)
            have n2 : decide (j + 1 < es.length) = false := decide_eq_false hn
            have HE0 : Aside0 (madeRun rbK l0 l1 (es.drop (j + 1)) (mkF true cc 1114111 out) = fin) := ⟨by
              have := HRUN.out
              rw [KP.out, if_neg hn] at this
              exact this⟩
            have hml := mkF_len true cc 1114111 out
            have HML : Aside0 ((mkF true cc 1114111 out).length ≤ j + 1) := ⟨by omega⟩
            have HBD2 : Aside0 (Bd (mkF true cc 1114111 out)) := ⟨HBD.out.mk (by omega)⟩
            clear hml
            by_cases ho : 0 < out.length
            · obtain ⟨g, co, rfl, hgb⟩ := R_place HRo.out ho
              have hlb := HBD.out.last ho
              obtain ⟨cs, hcl, hcM, hcc, hcf⟩ := Kd.R_elem HRo.out z34 ((out.length : Int) - 1) (by omega) (by omega)
              obtain rfl := k34_openM hcM
              have hi1 : ((out.length : Int) - 1).toNat = out.length - 1 := by omega
              have y1 : wr.cell? ⟨g, (out.length - 1) * 2 + 1, none⟩ = some (.int .i64 (rd_T34 out ((out.length : Int) - 1)).f1) := by
                have := hcc 1 _ rfl
                rw [hi1] at this
                unfold rd_T34
                rw [hi1]
                exact this
              have z1 : wr.frozen? ⟨g, (out.length - 1) * 2 + 1, none⟩ = false := by
                have := hcf 1
                rw [hi1] at this
                exact this
              have o1 : decide (0 < (out.length : Int)) = true := decide_eq_true (by omega)
              have o2 : decide (0 < out.length) = true := decide_eq_true ho
              have o3 : IntKind.i64.wrap ((out.length : Int) - 1) = (out.length : Int) - 1 := IntWalk.i64_in _ (by omega)
              have o4 : 0 ≤ (out.length : Int) - 1 := by omega
              have o5 : (out.length : Int) - 1 < (out.length : Int) := by omega
              clear hcc hcf hcM hcl
              obtain ⟨lh, hlh⟩ : ∃ lh, lh = (rd_T34 out ((out.length : Int) - 1)).f1 := ⟨_, rfl⟩
              rw [← hlh] at y1 hlb
              have HLH := Aside0.mk hlh
              clear hlh
              have o6 : IntKind.i64.wrap (lh + 1) = lh + 1 := IntWalk.i64_in _ (by omega)
              by_cases hjn : lh + 1 = cc
              · have o7 : ((lh + 1) == cc) = true := beq_iff_eq.2 hjn
                have EQ : Aside0 (mkF true cc 1114111 out = out.set (out.length - 1) ⟨(rd_T34 out ((out.length : Int) - 1)).f0, 1114111⟩) := ⟨by
                  unfold mkF
                  rw [if_pos rfl, if_pos ⟨ho, by rw [← HLH.out]; exact hjn⟩]⟩
                have RST : Aside0 (∀ W : World, Kd.R k34 34 W W1.heap.size (fun _ => True) (.slice (some ⟨g, 0, none⟩) out.length co) out → Kd.R k34 34 (W.setCell ⟨g, (out.length - 1) * 2 + 1, none⟩ (.int .i64 1114111)) W1.heap.size (fun _ => True) (.slice (some ⟨g, 0, none⟩) out.length co) (mkF true cc 1114111 out)) := ⟨fun W h => by rw [EQ.out]; exact R_last h ho _⟩
                clear hjn
                go_wp2_with fail
                go_quiet (fail)
                go_wp2_with fail
                go_roundw
                case rel => exact ⟨j + 1, _, hlt, by go_num, RST.out _ (by repeat (first | exact HRo.out | refine Kd.R_drewN ?_ _)), Below.setCell (by repeat (first | exact HB1.out | refine pw_below_drewN ?_ _)) hgb _, HE0.out, HML.out, HBD2.out⟩
                case measure => simp [intOf]; omega
              · have o7 : ((lh + 1) == cc) = false := beq_eq_false_iff_ne.2 hjn
                have EQ : Aside0 (mkF true cc 1114111 out = out ++ [⟨cc, 1114111⟩]) := ⟨by
                  unfold mkF
                  rw [if_pos rfl, if_neg (fun q => hjn (by rw [HLH.out]; exact q.2))]⟩
                clear hjn
                go_wp2_with fail
                go_quiet (fail)
                go_wp2_with ((with_reducible refine gate_builtin (b := .append) (xs := #[.tmp 104, .tmp 111]) rfl ?_); at_builtin; refine Kd.R_append k34 (w0 := W1) W1.heap.size rfl (.tmp 104) (.tmp 111) 22 34 (.agg #[.int .i64 0, .int .i64 0]) 16 rfl Try.underlying22 info34 rfl (by decide) (by omega) _ out ⟨cc, 1114111⟩ [.int .i64 cc, .int .i64 1114111] (fun _ => True) (fun _ => False) rfl rfl ?aP (fun _ hk => hk.elim) ?aF ?aO ?aB ?aS ?aL ?_; (case aP => exact k34_mkM _ _ _ ⟨cc, 1114111⟩); (case aF => exact fun _ _ => trivial); (case aO => (repeat (first | exact HRo.out | refine Kd.R_drewN ?_ _))); (case aB => (repeat (first | exact HB1.out | refine pw_below_drewN ?_ _))); (case aS => exact HB1.out.size); (case aL => omega); intro v5 w5 hR5 hb5 hg5 hat5; rw [← EQ.out] at hR5; have HR5 := Aside0.mk hR5; have HB5 := Aside0.mk hb5; clear hR5 hb5 hg5 hat5)
                go_roundw
                case rel => exact ⟨j + 1, _, hlt, by go_num, HR5.out, HB5.out, HE0.out, HML.out, HBD2.out⟩
                case measure => simp [intOf]; omega
            · obtain ⟨Ao, co, rfl⟩ := Kd.R_slice HRo.out
              have o1 : decide (0 < (out.length : Int)) = false := decide_eq_false (by omega)
              have o2 : decide (0 < out.length) = false := decide_eq_false ho
              have EQ : Aside0 (mkF true cc 1114111 out = out ++ [⟨cc, 1114111⟩]) := ⟨by
                unfold mkF
                rw [if_pos rfl, if_neg (fun q => ho q.1)]⟩
              go_wp2_with fail
              go_quiet (fail)
              go_wp2_with ((with_reducible refine gate_builtin (b := .append) (xs := #[.tmp 104, .tmp 111]) rfl ?_); at_builtin; refine Kd.R_append k34 (w0 := W1) W1.heap.size rfl (.tmp 104) (.tmp 111) 22 34 (.agg #[.int .i64 0, .int .i64 0]) 16 rfl Try.underlying22 info34 rfl (by decide) (by omega) _ out ⟨cc, 1114111⟩ [.int .i64 cc, .int .i64 1114111] (fun _ => True) (fun _ => False) rfl rfl ?aP (fun _ hk => hk.elim) ?aF ?aO ?aB ?aS ?aL ?_; (case aP => exact k34_mkM _ _ _ ⟨cc, 1114111⟩); (case aF => exact fun _ _ => trivial); (case aO => (repeat (first | exact HRo.out | refine Kd.R_drewN ?_ _))); (case aB => (repeat (first | exact HB1.out | refine pw_below_drewN ?_ _))); (case aS => exact HB1.out.size); (case aL => omega); intro v5 w5 hR5 hb5 hg5 hat5; rw [← EQ.out] at hR5; have HR5 := Aside0.mk hR5; have HB5 := Aside0.mk hb5; clear hR5 hb5 hg5 hat5)
              go_roundw
              case rel => exact ⟨j + 1, _, hlt, by go_num, HR5.out, HB5.out, HE0.out, HML.out, HBD2.out⟩
              case measure => simp [intOf]; omega
        | false =>
          have KP : Aside0 (rbK (hasF l0 cc) (hasF l1 cc) = true) := ⟨by rw [hx, hy, hrb.out]; rfl⟩
          have HA : Aside0 (∀ W, Kd.C k34 W A0 l0.length l0 → Calls Try.prog 25 #[.slice A0 l0.length c0, .int .i64 cc] W fun e w' => e = .returned (.bool true) ∧ Drawn0 W w') := ⟨fun W h => by rw [← hx]; exact P.ref_has_calls A0 c0 l0 cc W h HC0.out⟩
          have HBh : Aside0 (∀ W, Kd.C k34 W A1 l1.length l1 → Calls Try.prog 25 #[.slice A1 l1.length c1, .int .i64 cc] W fun e w' => e = .returned (.bool false) ∧ Drawn0 W w') := ⟨fun W h => by rw [← hy]; exact P.ref_has_calls A1 c1 l1 cc W h HC1.out⟩
          clear hx hy
          go_wp2_with fail
          go_quiet ((go_at_call 25; first | ((with_reducible refine (HA.out _ (Kd.C_drewN CA.out _)).mono ?_); rintro e w' ⟨rfl, ⟨nd, rfl⟩⟩; (first | exact ⟨rfl, _, rfl⟩ | exact ⟨rfl, _, World.drewN_drewN _ _ _⟩ | exact ⟨rfl, _, Eq.trans (World.drewN_drewN _ _ _) (congrArg (World.drewN _) (Nat.add_assoc _ _ _))⟩)) | ((with_reducible refine (HA.out _ CA.out).mono ?_); rintro e w' ⟨rfl, ⟨nd, rfl⟩⟩; (first | exact ⟨rfl, _, rfl⟩ | exact ⟨rfl, _, World.drewN_drewN _ _ _⟩ | exact ⟨rfl, _, Eq.trans (World.drewN_drewN _ _ _) (congrArg (World.drewN _) (Nat.add_assoc _ _ _))⟩)) | ((with_reducible refine (HBh.out _ (Kd.C_drewN CB.out _)).mono ?_); rintro e w' ⟨rfl, ⟨nd, rfl⟩⟩; (first | exact ⟨rfl, _, rfl⟩ | exact ⟨rfl, _, World.drewN_drewN _ _ _⟩ | exact ⟨rfl, _, Eq.trans (World.drewN_drewN _ _ _) (congrArg (World.drewN _) (Nat.add_assoc _ _ _))⟩)) | ((with_reducible refine (HBh.out _ CB.out).mono ?_); rintro e w' ⟨rfl, ⟨nd, rfl⟩⟩; (first | exact ⟨rfl, _, rfl⟩ | exact ⟨rfl, _, World.drewN_drewN _ _ _⟩ | exact ⟨rfl, _, Eq.trans (World.drewN_drewN _ _ _) (congrArg (World.drewN _) (Nat.add_assoc _ _ _))⟩))))
          clear HA HBh
          by_cases hn : j + 1 < es.length
          · have n1 : decide ((j : Int) + 1 < (es.length : Int)) = true := decide_eq_true (by omega)
            have n2 : decide (j + 1 < es.length) = true := decide_eq_true hn
            have n3 : 0 ≤ (j : Int) + 1 := by omega
            have n4 : (j : Int) + 1 < (es.length : Int) := by omega
            obtain ⟨ad2, ea2, k2⟩ := Kd.at_int (Kd.C_below HEC.out HB1.out) ((j : Int) + 1) (by omega) (by omega)
            injection ea2 with ea2
            subst ea2
            rw [show ((j : Int) + 1).toNat = j + 1 from by omega] at k2
            have hdb := HES.out _ n3 n4
            obtain ⟨dd, hdd⟩ : ∃ dd, dd = rd es ((j : Int) + 1) := ⟨_, rfl⟩
            rw [← hdd] at k2 HRUN hdb
            clear hdd
            have n5 : IntKind.i64.wrap (dd - 1) = dd - 1 := IntWalk.i64_in _ (by omega)
            have k3 : wr.cell? ⟨ad.block, ad.off + (j + 1), none⟩ = some (.int .i64 dd) := by rw [← k2]; congr 1
            have HE0 : Aside0 (madeRun rbK l0 l1 (es.drop (j + 1)) (mkF true cc (dd - 1) out) = fin) := ⟨by
              have := HRUN.out
              rw [KP.out, if_pos hn] at this
              exact this⟩
            have hml := mkF_len true cc (dd - 1) out
            have HML : Aside0 ((mkF true cc (dd - 1) out).length ≤ j + 1) := ⟨by omega⟩
            have HBD2 : Aside0 (Bd (mkF true cc (dd - 1) out)) := ⟨HBD.out.mk (by omega)⟩
            clear hml
            by_cases ho : 0 < out.length
            · obtain ⟨g, co, rfl, hgb⟩ := R_place HRo.out ho
              have hlb := HBD.out.last ho
              obtain ⟨cs, hcl, hcM, hcc, hcf⟩ := Kd.R_elem HRo.out z34 ((out.length : Int) - 1) (by omega) (by omega)
              obtain rfl := k34_openM hcM
              have hi1 : ((out.length : Int) - 1).toNat = out.length - 1 := by omega
              have y1 : wr.cell? ⟨g, (out.length - 1) * 2 + 1, none⟩ = some (.int .i64 (rd_T34 out ((out.length : Int) - 1)).f1) := by
                have := hcc 1 _ rfl
                rw [hi1] at this
                unfold rd_T34
                rw [hi1]
                exact this
              have z1 : wr.frozen? ⟨g, (out.length - 1) * 2 + 1, none⟩ = false := by
                have := hcf 1
                rw [hi1] at this
                exact this
              have o1 : decide (0 < (out.length : Int)) = true := decide_eq_true (by omega)
              have o2 : decide (0 < out.length) = true := decide_eq_true ho
              have o3 : IntKind.i64.wrap ((out.length : Int) - 1) = (out.length : Int) - 1 := IntWalk.i64_in _ (by omega)
              have o4 : 0 ≤ (out.length : Int) - 1 := by omega
              have o5 : (out.length : Int) - 1 < (out.length : Int) := by omega
              clear hcc hcf hcM hcl
              obtain ⟨lh, hlh⟩ : ∃ lh, lh = (rd_T34 out ((out.length : Int) - 1)).f1 := ⟨_, rfl⟩
              rw [← hlh] at y1 hlb
              have HLH := Aside0.mk hlh
              clear hlh
              have o6 : IntKind.i64.wrap (lh + 1) = lh + 1 := IntWalk.i64_in _ (by omega)
              by_cases hjn : lh + 1 = cc
              · have o7 : ((lh + 1) == cc) = true := beq_iff_eq.2 hjn
                have EQ : Aside0 (mkF true cc (dd - 1) out = out.set (out.length - 1) ⟨(rd_T34 out ((out.length : Int) - 1)).f0, (dd - 1)⟩) := ⟨by
                  unfold mkF
                  rw [if_pos rfl, if_pos ⟨ho, by rw [← HLH.out]; exact hjn⟩]⟩
                have RST : Aside0 (∀ W : World, Kd.R k34 34 W W1.heap.size (fun _ => True) (.slice (some ⟨g, 0, none⟩) out.length co) out → Kd.R k34 34 (W.setCell ⟨g, (out.length - 1) * 2 + 1, none⟩ (.int .i64 (dd - 1))) W1.heap.size (fun _ => True) (.slice (some ⟨g, 0, none⟩) out.length co) (mkF true cc (dd - 1) out)) := ⟨fun W h => by rw [EQ.out]; exact R_last h ho _⟩
                clear hjn
                go_wp2_with fail
                go_quiet (fail)
                go_wp2_with fail
                go_roundw
                case rel => exact ⟨j + 1, _, hlt, by go_num, RST.out _ (by repeat (first | exact HRo.out | refine Kd.R_drewN ?_ _)), Below.setCell (by repeat (first | exact HB1.out | refine pw_below_drewN ?_ _)) hgb _, HE0.out, HML.out, HBD2.out⟩
                case measure => simp [intOf]; omega
              · have o7 : ((lh + 1) == cc) = false := beq_eq_false_iff_ne.2 hjn
                have EQ : Aside0 (mkF true cc (dd - 1) out = out ++ [⟨cc, (dd - 1)⟩]) := ⟨by
                  unfold mkF
                  rw [if_pos rfl, if_neg (fun q => hjn (by rw [HLH.out]; exact q.2))]⟩
                clear hjn
                go_wp2_with fail
                go_quiet (fail)
                go_wp2_with ((with_reducible refine gate_builtin (b := .append) (xs := #[.tmp 104, .tmp 111]) rfl ?_); at_builtin; refine Kd.R_append k34 (w0 := W1) W1.heap.size rfl (.tmp 104) (.tmp 111) 22 34 (.agg #[.int .i64 0, .int .i64 0]) 16 rfl Try.underlying22 info34 rfl (by decide) (by omega) _ out ⟨cc, (dd - 1)⟩ [.int .i64 cc, .int .i64 (dd - 1)] (fun _ => True) (fun _ => False) rfl rfl ?aP (fun _ hk => hk.elim) ?aF ?aO ?aB ?aS ?aL ?_; (case aP => exact k34_mkM _ _ _ ⟨cc, (dd - 1)⟩); (case aF => exact fun _ _ => trivial); (case aO => (repeat (first | exact HRo.out | refine Kd.R_drewN ?_ _))); (case aB => (repeat (first | exact HB1.out | refine pw_below_drewN ?_ _))); (case aS => exact HB1.out.size); (case aL => omega); intro v5 w5 hR5 hb5 hg5 hat5; rw [← EQ.out] at hR5; have HR5 := Aside0.mk hR5; have HB5 := Aside0.mk hb5; clear hR5 hb5 hg5 hat5)
                go_roundw
                case rel => exact ⟨j + 1, _, hlt, by go_num, HR5.out, HB5.out, HE0.out, HML.out, HBD2.out⟩
                case measure => simp [intOf]; omega
            · obtain ⟨Ao, co, rfl⟩ := Kd.R_slice HRo.out
              have o1 : decide (0 < (out.length : Int)) = false := decide_eq_false (by omega)
              have o2 : decide (0 < out.length) = false := decide_eq_false ho
              have EQ : Aside0 (mkF true cc (dd - 1) out = out ++ [⟨cc, (dd - 1)⟩]) := ⟨by
                unfold mkF
                rw [if_pos rfl, if_neg (fun q => ho q.1)]⟩
              go_wp2_with fail
              go_quiet (fail)
              go_wp2_with ((with_reducible refine gate_builtin (b := .append) (xs := #[.tmp 104, .tmp 111]) rfl ?_); at_builtin; refine Kd.R_append k34 (w0 := W1) W1.heap.size rfl (.tmp 104) (.tmp 111) 22 34 (.agg #[.int .i64 0, .int .i64 0]) 16 rfl Try.underlying22 info34 rfl (by decide) (by omega) _ out ⟨cc, (dd - 1)⟩ [.int .i64 cc, .int .i64 (dd - 1)] (fun _ => True) (fun _ => False) rfl rfl ?aP (fun _ hk => hk.elim) ?aF ?aO ?aB ?aS ?aL ?_; (case aP => exact k34_mkM _ _ _ ⟨cc, (dd - 1)⟩); (case aF => exact fun _ _ => trivial); (case aO => (repeat (first | exact HRo.out | refine Kd.R_drewN ?_ _))); (case aB => (repeat (first | exact HB1.out | refine pw_below_drewN ?_ _))); (case aS => exact HB1.out.size); (case aL => omega); intro v5 w5 hR5 hb5 hg5 hat5; rw [← EQ.out] at hR5; have HR5 := Aside0.mk hR5; have HB5 := Aside0.mk hb5; clear hR5 hb5 hg5 hat5)
              go_roundw
              case rel => exact ⟨j + 1, _, hlt, by go_num, HR5.out, HB5.out, HE0.out, HML.out, HBD2.out⟩
              case measure => simp [intOf]; omega
          · have n1 : decide ((j : Int) + 1 < (es.length : Int)) = false := decide_eq_false (by omega)
            have n2 : decide (j + 1 < es.length) = false := decide_eq_false hn
            have HE0 : Aside0 (madeRun rbK l0 l1 (es.drop (j + 1)) (mkF true cc 1114111 out) = fin) := ⟨by
              have := HRUN.out
              rw [KP.out, if_neg hn] at this
              exact this⟩
            have hml := mkF_len true cc 1114111 out
            have HML : Aside0 ((mkF true cc 1114111 out).length ≤ j + 1) := ⟨by omega⟩
            have HBD2 : Aside0 (Bd (mkF true cc 1114111 out)) := ⟨HBD.out.mk (by omega)⟩
            clear hml
            by_cases ho : 0 < out.length
            · obtain ⟨g, co, rfl, hgb⟩ := R_place HRo.out ho
              have hlb := HBD.out.last ho
              obtain ⟨cs, hcl, hcM, hcc, hcf⟩ := Kd.R_elem HRo.out z34 ((out.length : Int) - 1) (by omega) (by omega)
              obtain rfl := k34_openM hcM
              have hi1 : ((out.length : Int) - 1).toNat = out.length - 1 := by omega
              have y1 : wr.cell? ⟨g, (out.length - 1) * 2 + 1, none⟩ = some (.int .i64 (rd_T34 out ((out.length : Int) - 1)).f1) := by
                have := hcc 1 _ rfl
                rw [hi1] at this
                unfold rd_T34
                rw [hi1]
                exact this
              have z1 : wr.frozen? ⟨g, (out.length - 1) * 2 + 1, none⟩ = false := by
                have := hcf 1
                rw [hi1] at this
                exact this
              have o1 : decide (0 < (out.length : Int)) = true := decide_eq_true (by omega)
              have o2 : decide (0 < out.length) = true := decide_eq_true ho
              have o3 : IntKind.i64.wrap ((out.length : Int) - 1) = (out.length : Int) - 1 := IntWalk.i64_in _ (by omega)
              have o4 : 0 ≤ (out.length : Int) - 1 := by omega
              have o5 : (out.length : Int) - 1 < (out.length : Int) := by omega
              clear hcc hcf hcM hcl
              obtain ⟨lh, hlh⟩ : ∃ lh, lh = (rd_T34 out ((out.length : Int) - 1)).f1 := ⟨_, rfl⟩
              rw [← hlh] at y1 hlb
              have HLH := Aside0.mk hlh
              clear hlh
              have o6 : IntKind.i64.wrap (lh + 1) = lh + 1 := IntWalk.i64_in _ (by omega)
              by_cases hjn : lh + 1 = cc
              · have o7 : ((lh + 1) == cc) = true := beq_iff_eq.2 hjn
                have EQ : Aside0 (mkF true cc 1114111 out = out.set (out.length - 1) ⟨(rd_T34 out ((out.length : Int) - 1)).f0, 1114111⟩) := ⟨by
                  unfold mkF
                  rw [if_pos rfl, if_pos ⟨ho, by rw [← HLH.out]; exact hjn⟩]⟩
                have RST : Aside0 (∀ W : World, Kd.R k34 34 W W1.heap.size (fun _ => True) (.slice (some ⟨g, 0, none⟩) out.length co) out → Kd.R k34 34 (W.setCell ⟨g, (out.length - 1) * 2 + 1, none⟩ (.int .i64 1114111)) W1.heap.size (fun _ => True) (.slice (some ⟨g, 0, none⟩) out.length co) (mkF true cc 1114111 out)) := ⟨fun W h => by rw [EQ.out]; exact R_last h ho _⟩
                clear hjn
                go_wp2_with fail
                go_quiet (fail)
                go_wp2_with fail
                go_roundw
                case rel => exact ⟨j + 1, _, hlt, by go_num, RST.out _ (by repeat (first | exact HRo.out | refine Kd.R_drewN ?_ _)), Below.setCell (by repeat (first | exact HB1.out | refine pw_below_drewN ?_ _)) hgb _, HE0.out, HML.out, HBD2.out⟩
                case measure => simp [intOf]; omega
              · have o7 : ((lh + 1) == cc) = false := beq_eq_false_iff_ne.2 hjn
                have EQ : Aside0 (mkF true cc 1114111 out = out ++ [⟨cc, 1114111⟩]) := ⟨by
                  unfold mkF
                  rw [if_pos rfl, if_neg (fun q => hjn (by rw [HLH.out]; exact q.2))]⟩
                clear hjn
                go_wp2_with fail
                go_quiet (fail)
                go_wp2_with ((with_reducible refine gate_builtin (b := .append) (xs := #[.tmp 104, .tmp 111]) rfl ?_); at_builtin; refine Kd.R_append k34 (w0 := W1) W1.heap.size rfl (.tmp 104) (.tmp 111) 22 34 (.agg #[.int .i64 0, .int .i64 0]) 16 rfl Try.underlying22 info34 rfl (by decide) (by omega) _ out ⟨cc, 1114111⟩ [.int .i64 cc, .int .i64 1114111] (fun _ => True) (fun _ => False) rfl rfl ?aP (fun _ hk => hk.elim) ?aF ?aO ?aB ?aS ?aL ?_; (case aP => exact k34_mkM _ _ _ ⟨cc, 1114111⟩); (case aF => exact fun _ _ => trivial); (case aO => (repeat (first | exact HRo.out | refine Kd.R_drewN ?_ _))); (case aB => (repeat (first | exact HB1.out | refine pw_below_drewN ?_ _))); (case aS => exact HB1.out.size); (case aL => omega); intro v5 w5 hR5 hb5 hg5 hat5; rw [← EQ.out] at hR5; have HR5 := Aside0.mk hR5; have HB5 := Aside0.mk hb5; clear hR5 hb5 hg5 hat5)
                go_roundw
                case rel => exact ⟨j + 1, _, hlt, by go_num, HR5.out, HB5.out, HE0.out, HML.out, HBD2.out⟩
                case measure => simp [intOf]; omega
            · obtain ⟨Ao, co, rfl⟩ := Kd.R_slice HRo.out
              have o1 : decide (0 < (out.length : Int)) = false := decide_eq_false (by omega)
              have o2 : decide (0 < out.length) = false := decide_eq_false ho
              have EQ : Aside0 (mkF true cc 1114111 out = out ++ [⟨cc, 1114111⟩]) := ⟨by
                unfold mkF
                rw [if_pos rfl, if_neg (fun q => ho q.1)]⟩
              go_wp2_with fail
              go_quiet (fail)
              go_wp2_with ((with_reducible refine gate_builtin (b := .append) (xs := #[.tmp 104, .tmp 111]) rfl ?_); at_builtin; refine Kd.R_append k34 (w0 := W1) W1.heap.size rfl (.tmp 104) (.tmp 111) 22 34 (.agg #[.int .i64 0, .int .i64 0]) 16 rfl Try.underlying22 info34 rfl (by decide) (by omega) _ out ⟨cc, 1114111⟩ [.int .i64 cc, .int .i64 1114111] (fun _ => True) (fun _ => False) rfl rfl ?aP (fun _ hk => hk.elim) ?aF ?aO ?aB ?aS ?aL ?_; (case aP => exact k34_mkM _ _ _ ⟨cc, 1114111⟩); (case aF => exact fun _ _ => trivial); (case aO => (repeat (first | exact HRo.out | refine Kd.R_drewN ?_ _))); (case aB => (repeat (first | exact HB1.out | refine pw_below_drewN ?_ _))); (case aS => exact HB1.out.size); (case aL => omega); intro v5 w5 hR5 hb5 hg5 hat5; rw [← EQ.out] at hR5; have HR5 := Aside0.mk hR5; have HB5 := Aside0.mk hb5; clear hR5 hb5 hg5 hat5)
              go_roundw
              case rel => exact ⟨j + 1, _, hlt, by go_num, HR5.out, HB5.out, HE0.out, HML.out, HBD2.out⟩
              case measure => simp [intOf]; omega
      | false =>
        cases hy : hasF l1 cc with
        | true =>
          have KP : Aside0 (rbK (hasF l0 cc) (hasF l1 cc) = true) := ⟨by rw [hx, hy, hrb.out]; rfl⟩
          have HA : Aside0 (∀ W, Kd.C k34 W A0 l0.length l0 → Calls Try.prog 25 #[.slice A0 l0.length c0, .int .i64 cc] W fun e w' => e = .returned (.bool false) ∧ Drawn0 W w') := ⟨fun W h => by rw [← hx]; exact P.ref_has_calls A0 c0 l0 cc W h HC0.out⟩
          have HBh : Aside0 (∀ W, Kd.C k34 W A1 l1.length l1 → Calls Try.prog 25 #[.slice A1 l1.length c1, .int .i64 cc] W fun e w' => e = .returned (.bool true) ∧ Drawn0 W w') := ⟨fun W h => by rw [← hy]; exact P.ref_has_calls A1 c1 l1 cc W h HC1.out⟩
          clear hx hy
          go_wp2_with fail
          go_quiet ((go_at_call 25; first | ((with_reducible refine (HA.out _ (Kd.C_drewN CA.out _)).mono ?_); rintro e w' ⟨rfl, ⟨nd, rfl⟩⟩; (first | exact ⟨rfl, _, rfl⟩ | exact ⟨rfl, _, World.drewN_drewN _ _ _⟩ | exact ⟨rfl, _, Eq.trans (World.drewN_drewN _ _ _) (congrArg (World.drewN _) (Nat.add_assoc _ _ _))⟩)) | ((with_reducible refine (HA.out _ CA.out).mono ?_); rintro e w' ⟨rfl, ⟨nd, rfl⟩⟩; (first | exact ⟨rfl, _, rfl⟩ | exact ⟨rfl, _, World.drewN_drewN _ _ _⟩ | exact ⟨rfl, _, Eq.trans (World.drewN_drewN _ _ _) (congrArg (World.drewN _) (Nat.add_assoc _ _ _))⟩)) | ((with_reducible refine (HBh.out _ (Kd.C_drewN CB.out _)).mono ?_); rintro e w' ⟨rfl, ⟨nd, rfl⟩⟩; (first | exact ⟨rfl, _, rfl⟩ | exact ⟨rfl, _, World.drewN_drewN _ _ _⟩ | exact ⟨rfl, _, Eq.trans (World.drewN_drewN _ _ _) (congrArg (World.drewN _) (Nat.add_assoc _ _ _))⟩)) | ((with_reducible refine (HBh.out _ CB.out).mono ?_); rintro e w' ⟨rfl, ⟨nd, rfl⟩⟩; (first | exact ⟨rfl, _, rfl⟩ | exact ⟨rfl, _, World.drewN_drewN _ _ _⟩ | exact ⟨rfl, _, Eq.trans (World.drewN_drewN _ _ _) (congrArg (World.drewN _) (Nat.add_assoc _ _ _))⟩))))
          clear HA HBh
          by_cases hn : j + 1 < es.length
          · have n1 : decide ((j : Int) + 1 < (es.length : Int)) = true := decide_eq_true (by omega)
            have n2 : decide (j + 1 < es.length) = true := decide_eq_true hn
            have n3 : 0 ≤ (j : Int) + 1 := by omega
            have n4 : (j : Int) + 1 < (es.length : Int) := by omega
            obtain ⟨ad2, ea2, k2⟩ := Kd.at_int (Kd.C_below HEC.out HB1.out) ((j : Int) + 1) (by omega) (by omega)
            injection ea2 with ea2
            subst ea2
            rw [show ((j : Int) + 1).toNat = j + 1 from by omega] at k2
            have hdb := HES.out _ n3 n4
            obtain ⟨dd, hdd⟩ : ∃ dd, dd = rd es ((j : Int) + 1) := ⟨_, rfl⟩
            rw [← hdd] at k2 HRUN hdb
            clear hdd
            have n5 : IntKind.i64.wrap (dd - 1) = dd - 1 := IntWalk.i64_in _ (by omega)
            have k3 : wr.cell? ⟨ad.block, ad.off + (j + 1), none⟩ = some (.int .i64 dd) := by rw [← k2]; congr 1
            have HE0 : Aside0 (madeRun rbK l0 l1 (es.drop (j + 1)) (mkF true cc (dd - 1) out) = fin) := ⟨by
              have := HRUN.out
              rw [KP.out, if_pos hn] at this
              exact this⟩
            have hml := mkF_len true cc (dd - 1) out
            have HML : Aside0 ((mkF true cc (dd - 1) out).length ≤ j + 1) := ⟨by omega⟩
            have HBD2 : Aside0 (Bd (mkF true cc (dd - 1) out)) := ⟨HBD.out.mk (by omega)⟩
            clear hml
            by_cases ho : 0 < out.length
            · obtain ⟨g, co, rfl, hgb⟩ := R_place HRo.out ho
              have hlb := HBD.out.last ho
              obtain ⟨cs, hcl, hcM, hcc, hcf⟩ := Kd.R_elem HRo.out z34 ((out.length : Int) - 1) (by omega) (by omega)
              obtain rfl := k34_openM hcM
              have hi1 : ((out.length : Int) - 1).toNat = out.length - 1 := by omega
              have y1 : wr.cell? ⟨g, (out.length - 1) * 2 + 1, none⟩ = some (.int .i64 (rd_T34 out ((out.length : Int) - 1)).f1) := by
                have := hcc 1 _ rfl
                rw [hi1] at this
                unfold rd_T34
                rw [hi1]
                exact this
              have z1 : wr.frozen? ⟨g, (out.length - 1) * 2 + 1, none⟩ = false := by
                have := hcf 1
                rw [hi1] at this
                exact this
              have o1 : decide (0 < (out.length : Int)) = true := decide_eq_true (by omega)
              have o2 : decide (0 < out.length) = true := decide_eq_true ho
              have o3 : IntKind.i64.wrap ((out.length : Int) - 1) = (out.length : Int) - 1 := IntWalk.i64_in _ (by omega)
              have o4 : 0 ≤ (out.length : Int) - 1 := by omega
              have o5 : (out.length : Int) - 1 < (out.length : Int) := by omega
              clear hcc hcf hcM hcl
              obtain ⟨lh, hlh⟩ : ∃ lh, lh = (rd_T34 out ((out.length : Int) - 1)).f1 := ⟨_, rfl⟩
              rw [← hlh] at y1 hlb
              have HLH := Aside0.mk hlh
              clear hlh
              have o6 : IntKind.i64.wrap (lh + 1) = lh + 1 := IntWalk.i64_in _ (by omega)
              by_cases hjn : lh + 1 = cc
              · have o7 : ((lh + 1) == cc) = true := beq_iff_eq.2 hjn
                have EQ : Aside0 (mkF true cc (dd - 1) out = out.set (out.length - 1) ⟨(rd_T34 out ((out.length : Int) - 1)).f0, (dd - 1)⟩) := ⟨by
                  unfold mkF
                  rw [if_pos rfl, if_pos ⟨ho, by rw [← HLH.out]; exact hjn⟩]⟩
                have RST : Aside0 (∀ W : World, Kd.R k34 34 W W1.heap.size (fun _ => True) (.slice (some ⟨g, 0, none⟩) out.length co) out → Kd.R k34 34 (W.setCell ⟨g, (out.length - 1) * 2 + 1, none⟩ (.int .i64 (dd - 1))) W1.heap.size (fun _ => True) (.slice (some ⟨g, 0, none⟩) out.length co) (mkF true cc (dd - 1) out)) := ⟨fun W h => by rw [EQ.out]; exact R_last h ho _⟩
                clear hjn
                go_wp2_with fail
                go_quiet (fail)
                go_wp2_with fail
                go_roundw
                case rel => exact ⟨j + 1, _, hlt, by go_num, RST.out _ (by repeat (first | exact HRo.out | refine Kd.R_drewN ?_ _)), Below.setCell (by repeat (first | exact HB1.out | refine pw_below_drewN ?_ _)) hgb _, HE0.out, HML.out, HBD2.out⟩
                case measure => simp [intOf]; omega
              · have o7 : ((lh + 1) == cc) = false := beq_eq_false_iff_ne.2 hjn
                have EQ : Aside0 (mkF true cc (dd - 1) out = out ++ [⟨cc, (dd - 1)⟩]) := ⟨by
                  unfold mkF
                  rw [if_pos rfl, if_neg (fun q => hjn (by rw [HLH.out]; exact q.2))]⟩
                clear hjn
                go_wp2_with fail
                go_quiet (fail)
                go_wp2_with ((with_reducible refine gate_builtin (b := .append) (xs := #[.tmp 104, .tmp 111]) rfl ?_); at_builtin; refine Kd.R_append k34 (w0 := W1) W1.heap.size rfl (.tmp 104) (.tmp 111) 22 34 (.agg #[.int .i64 0, .int .i64 0]) 16 rfl Try.underlying22 info34 rfl (by decide) (by omega) _ out ⟨cc, (dd - 1)⟩ [.int .i64 cc, .int .i64 (dd - 1)] (fun _ => True) (fun _ => False) rfl rfl ?aP (fun _ hk => hk.elim) ?aF ?aO ?aB ?aS ?aL ?_; (case aP => exact k34_mkM _ _ _ ⟨cc, (dd - 1)⟩); (case aF => exact fun _ _ => trivial); (case aO => (repeat (first | exact HRo.out | refine Kd.R_drewN ?_ _))); (case aB => (repeat (first | exact HB1.out | refine pw_below_drewN ?_ _))); (case aS => exact HB1.out.size); (case aL => omega); intro v5 w5 hR5 hb5 hg5 hat5; rw [← EQ.out] at hR5; have HR5 := Aside0.mk hR5; have HB5 := Aside0.mk hb5; clear hR5 hb5 hg5 hat5)
                go_roundw
                case rel => exact ⟨j + 1, _, hlt, by go_num, HR5.out, HB5.out, HE0.out, HML.out, HBD2.out⟩
                case measure => simp [intOf]; omega
            · obtain ⟨Ao, co, rfl⟩ := Kd.R_slice HRo.out
              have o1 : decide (0 < (out.length : Int)) = false := decide_eq_false (by omega)
              have o2 : decide (0 < out.length) = false := decide_eq_false ho
              have EQ : Aside0 (mkF true cc (dd - 1) out = out ++ [⟨cc, (dd - 1)⟩]) := ⟨by
                unfold mkF
                rw [if_pos rfl, if_neg (fun q => ho q.1)]⟩
              go_wp2_with fail
              go_quiet (fail)
              go_wp2_with ((with_reducible refine gate_builtin (b := .append) (xs := #[.tmp 104, .tmp 111]) rfl ?_); at_builtin; refine Kd.R_append k34 (w0 := W1) W1.heap.size rfl (.tmp 104) (.tmp 111) 22 34 (.agg #[.int .i64 0, .int .i64 0]) 16 rfl Try.underlying22 info34 rfl (by decide) (by omega) _ out ⟨cc, (dd - 1)⟩ [.int .i64 cc, .int .i64 (dd - 1)] (fun _ => True) (fun _ => False) rfl rfl ?aP (fun _ hk => hk.elim) ?aF ?aO ?aB ?aS ?aL ?_; (case aP => exact k34_mkM _ _ _ ⟨cc, (dd - 1)⟩); (case aF => exact fun _ _ => trivial); (case aO => (repeat (first | exact HRo.out | refine Kd.R_drewN ?_ _))); (case aB => (repeat (first | exact HB1.out | refine pw_below_drewN ?_ _))); (case aS => exact HB1.out.size); (case aL => omega); intro v5 w5 hR5 hb5 hg5 hat5; rw [← EQ.out] at hR5; have HR5 := Aside0.mk hR5; have HB5 := Aside0.mk hb5; clear hR5 hb5 hg5 hat5)
              go_roundw
              case rel => exact ⟨j + 1, _, hlt, by go_num, HR5.out, HB5.out, HE0.out, HML.out, HBD2.out⟩
              case measure => simp [intOf]; omega
          · have n1 : decide ((j : Int) + 1 < (es.length : Int)) = false := decide_eq_false (by omega)
            have n2 : decide (j + 1 < es.length) = false := decide_eq_false hn
            have HE0 : Aside0 (madeRun rbK l0 l1 (es.drop (j + 1)) (mkF true cc 1114111 out) = fin) := ⟨by
              have := HRUN.out
              rw [KP.out, if_neg hn] at this
              exact this⟩
            have hml := mkF_len true cc 1114111 out
            have HML : Aside0 ((mkF true cc 1114111 out).length ≤ j + 1) := ⟨by omega⟩
            have HBD2 : Aside0 (Bd (mkF true cc 1114111 out)) := ⟨HBD.out.mk (by omega)⟩
            clear hml
            by_cases ho : 0 < out.length
            · obtain ⟨g, co, rfl, hgb⟩ := R_place HRo.out ho
              have hlb := HBD.out.last ho
              obtain ⟨cs, hcl, hcM, hcc, hcf⟩ := Kd.R_elem HRo.out z34 ((out.length : Int) - 1) (by omega) (by omega)
              obtain rfl := k34_openM hcM
              have hi1 : ((out.length : Int) - 1).toNat = out.length - 1 := by omega
              have y1 : wr.cell? ⟨g, (out.length - 1) * 2 + 1, none⟩ = some (.int .i64 (rd_T34 out ((out.length : Int) - 1)).f1) := by
                have := hcc 1 _ rfl
                rw [hi1] at this
                unfold rd_T34
                rw [hi1]
                exact this
              have z1 : wr.frozen? ⟨g, (out.length - 1) * 2 + 1, none⟩ = false := by
                have := hcf 1
                rw [hi1] at this
                exact this
              have o1 : decide (0 < (out.length : Int)) = true := decide_eq_true (by omega)
              have o2 : decide (0 < out.length) = true := decide_eq_true ho
              have o3 : IntKind.i64.wrap ((out.length : Int) - 1) = (out.length : Int) - 1 := IntWalk.i64_in _ (by omega)
              have o4 : 0 ≤ (out.length : Int) - 1 := by omega
              have o5 : (out.length : Int) - 1 < (out.length : Int) := by omega
              clear hcc hcf hcM hcl
              obtain ⟨lh, hlh⟩ : ∃ lh, lh = (rd_T34 out ((out.length : Int) - 1)).f1 := ⟨_, rfl⟩
              rw [← hlh] at y1 hlb
              have HLH := Aside0.mk hlh
              clear hlh
              have o6 : IntKind.i64.wrap (lh + 1) = lh + 1 := IntWalk.i64_in _ (by omega)
              by_cases hjn : lh + 1 = cc
              · have o7 : ((lh + 1) == cc) = true := beq_iff_eq.2 hjn
                have EQ : Aside0 (mkF true cc 1114111 out = out.set (out.length - 1) ⟨(rd_T34 out ((out.length : Int) - 1)).f0, 1114111⟩) := ⟨by
                  unfold mkF
                  rw [if_pos rfl, if_pos ⟨ho, by rw [← HLH.out]; exact hjn⟩]⟩
                have RST : Aside0 (∀ W : World, Kd.R k34 34 W W1.heap.size (fun _ => True) (.slice (some ⟨g, 0, none⟩) out.length co) out → Kd.R k34 34 (W.setCell ⟨g, (out.length - 1) * 2 + 1, none⟩ (.int .i64 1114111)) W1.heap.size (fun _ => True) (.slice (some ⟨g, 0, none⟩) out.length co) (mkF true cc 1114111 out)) := ⟨fun W h => by rw [EQ.out]; exact R_last h ho _⟩
                clear hjn
                go_wp2_with fail
                go_quiet (fail)
                go_wp2_with fail
                go_roundw
                case rel => exact ⟨j + 1, _, hlt, by go_num, RST.out _ (by repeat (first | exact HRo.out | refine Kd.R_drewN ?_ _)), Below.setCell (by repeat (first | exact HB1.out | refine pw_below_drewN ?_ _)) hgb _, HE0.out, HML.out, HBD2.out⟩
                case measure => simp [intOf]; omega
              · have o7 : ((lh + 1) == cc) = false := beq_eq_false_iff_ne.2 hjn
                have EQ : Aside0 (mkF true cc 1114111 out = out ++ [⟨cc, 1114111⟩]) := ⟨by
                  unfold mkF
                  rw [if_pos rfl, if_neg (fun q => hjn (by rw [HLH.out]; exact q.2))]⟩
                clear hjn
                go_wp2_with fail
                go_quiet (fail)
                go_wp2_with ((with_reducible refine gate_builtin (b := .append) (xs := #[.tmp 104, .tmp 111]) rfl ?_); at_builtin; refine Kd.R_append k34 (w0 := W1) W1.heap.size rfl (.tmp 104) (.tmp 111) 22 34 (.agg #[.int .i64 0, .int .i64 0]) 16 rfl Try.underlying22 info34 rfl (by decide) (by omega) _ out ⟨cc, 1114111⟩ [.int .i64 cc, .int .i64 1114111] (fun _ => True) (fun _ => False) rfl rfl ?aP (fun _ hk => hk.elim) ?aF ?aO ?aB ?aS ?aL ?_; (case aP => exact k34_mkM _ _ _ ⟨cc, 1114111⟩); (case aF => exact fun _ _ => trivial); (case aO => (repeat (first | exact HRo.out | refine Kd.R_drewN ?_ _))); (case aB => (repeat (first | exact HB1.out | refine pw_below_drewN ?_ _))); (case aS => exact HB1.out.size); (case aL => omega); intro v5 w5 hR5 hb5 hg5 hat5; rw [← EQ.out] at hR5; have HR5 := Aside0.mk hR5; have HB5 := Aside0.mk hb5; clear hR5 hb5 hg5 hat5)
                go_roundw
                case rel => exact ⟨j + 1, _, hlt, by go_num, HR5.out, HB5.out, HE0.out, HML.out, HBD2.out⟩
                case measure => simp [intOf]; omega
            · obtain ⟨Ao, co, rfl⟩ := Kd.R_slice HRo.out
              have o1 : decide (0 < (out.length : Int)) = false := decide_eq_false (by omega)
              have o2 : decide (0 < out.length) = false := decide_eq_false ho
              have EQ : Aside0 (mkF true cc 1114111 out = out ++ [⟨cc, 1114111⟩]) := ⟨by
                unfold mkF
                rw [if_pos rfl, if_neg (fun q => ho q.1)]⟩
              go_wp2_with fail
              go_quiet (fail)
              go_wp2_with ((with_reducible refine gate_builtin (b := .append) (xs := #[.tmp 104, .tmp 111]) rfl ?_); at_builtin; refine Kd.R_append k34 (w0 := W1) W1.heap.size rfl (.tmp 104) (.tmp 111) 22 34 (.agg #[.int .i64 0, .int .i64 0]) 16 rfl Try.underlying22 info34 rfl (by decide) (by omega) _ out ⟨cc, 1114111⟩ [.int .i64 cc, .int .i64 1114111] (fun _ => True) (fun _ => False) rfl rfl ?aP (fun _ hk => hk.elim) ?aF ?aO ?aB ?aS ?aL ?_; (case aP => exact k34_mkM _ _ _ ⟨cc, 1114111⟩); (case aF => exact fun _ _ => trivial); (case aO => (repeat (first | exact HRo.out | refine Kd.R_drewN ?_ _))); (case aB => (repeat (first | exact HB1.out | refine pw_below_drewN ?_ _))); (case aS => exact HB1.out.size); (case aL => omega); intro v5 w5 hR5 hb5 hg5 hat5; rw [← EQ.out] at hR5; have HR5 := Aside0.mk hR5; have HB5 := Aside0.mk hb5; clear hR5 hb5 hg5 hat5)
              go_roundw
              case rel => exact ⟨j + 1, _, hlt, by go_num, HR5.out, HB5.out, HE0.out, HML.out, HBD2.out⟩
              case measure => simp [intOf]; omega
        | false =>
          have KP : Aside0 (rbK (hasF l0 cc) (hasF l1 cc) = false) := ⟨by rw [hx, hy, hrb.out]; rfl⟩
          have HA : Aside0 (∀ W, Kd.C k34 W A0 l0.length l0 → Calls Try.prog 25 #[.slice A0 l0.length c0, .int .i64 cc] W fun e w' => e = .returned (.bool false) ∧ Drawn0 W w') := ⟨fun W h => by rw [← hx]; exact P.ref_has_calls A0 c0 l0 cc W h HC0.out⟩
          have HBh : Aside0 (∀ W, Kd.C k34 W A1 l1.length l1 → Calls Try.prog 25 #[.slice A1 l1.length c1, .int .i64 cc] W fun e w' => e = .returned (.bool false) ∧ Drawn0 W w') := ⟨fun W h => by rw [← hy]; exact P.ref_has_calls A1 c1 l1 cc W h HC1.out⟩
          clear hx hy
          go_wp2_with fail
          go_quiet ((go_at_call 25; first | ((with_reducible refine (HA.out _ (Kd.C_drewN CA.out _)).mono ?_); rintro e w' ⟨rfl, ⟨nd, rfl⟩⟩; (first | exact ⟨rfl, _, rfl⟩ | exact ⟨rfl, _, World.drewN_drewN _ _ _⟩ | exact ⟨rfl, _, Eq.trans (World.drewN_drewN _ _ _) (congrArg (World.drewN _) (Nat.add_assoc _ _ _))⟩)) | ((with_reducible refine (HA.out _ CA.out).mono ?_); rintro e w' ⟨rfl, ⟨nd, rfl⟩⟩; (first | exact ⟨rfl, _, rfl⟩ | exact ⟨rfl, _, World.drewN_drewN _ _ _⟩ | exact ⟨rfl, _, Eq.trans (World.drewN_drewN _ _ _) (congrArg (World.drewN _) (Nat.add_assoc _ _ _))⟩)) | ((with_reducible refine (HBh.out _ (Kd.C_drewN CB.out _)).mono ?_); rintro e w' ⟨rfl, ⟨nd, rfl⟩⟩; (first | exact ⟨rfl, _, rfl⟩ | exact ⟨rfl, _, World.drewN_drewN _ _ _⟩ | exact ⟨rfl, _, Eq.trans (World.drewN_drewN _ _ _) (congrArg (World.drewN _) (Nat.add_assoc _ _ _))⟩)) | ((with_reducible refine (HBh.out _ CB.out).mono ?_); rintro e w' ⟨rfl, ⟨nd, rfl⟩⟩; (first | exact ⟨rfl, _, rfl⟩ | exact ⟨rfl, _, World.drewN_drewN _ _ _⟩ | exact ⟨rfl, _, Eq.trans (World.drewN_drewN _ _ _) (congrArg (World.drewN _) (Nat.add_assoc _ _ _))⟩))))
          clear HA HBh
          have HE0 : Aside0 (madeRun rbK l0 l1 (es.drop (j + 1)) out = fin) := ⟨by
            have := HRUN.out
            rw [KP.out] at this
            exact this⟩
          go_wp2_with fail
          go_roundw
          case rel => exact ⟨j + 1, _, hlt, by go_num, Kd.R_drewN HRo.out _, pw_below_drewN HB1.out _, HE0.out, by omega, HBD.out⟩
          case measure => simp [intOf]; omega
    · have b1 : decide ((j : Int) < (es.length : Int)) = false := decide_eq_false (by omega)
      have b2 : decide (j < es.length) = false := decide_eq_false hlt
      have HF : Aside0 (out = fin) := ⟨by rw [List.drop_eq_nil_iff.2 (by omega)] at hrun; exact hrun⟩
      clear hrun
      go_wp2_with fail
      go_ret
      exact ⟨_, rfl, by rw [← HFIN.out, ← HF.out]; exact Kd.R_lower HRo.out HB01.out.size, HB01.out.trans (HB1.out.mono HB01.out.size)⟩
set_option maxHeartbeats 32000000 in
set_option maxRecDepth 100000 in
theorem made_and (A0 : Option Addr) (c0 : Nat) (l0 : List S34) (A1 : Option Addr) (c1 : Nat) (l1 : List S34) (w : World) (hr0 : Kd.C k34 w A0 l0.length l0) (hc0 : l0.length ≤ c0) (hr1 : Kd.C k34 w A1 l1.length l1) (hc1 : l1.length ≤ c1)
    (hes : ∀ i, 0 ≤ i → i < ((edgesF [l0, l1]).length : Int) → 0 ≤ rd (edgesF [l0, l1]) i ∧ rd (edgesF [l0, l1]) i ≤ 1114111) :
    Calls Try.prog 44 #[.slice A0 l0.length c0, .slice A1 l1.length c1, .int .i64 1] w fun e w' => ∃ v, e = .returned v ∧ Kd.R k34 34 w' w.heap.size (fun _ => True) v (madeRun (fun x y => x && y) l0 l1 (edgesF [l0, l1]) []) ∧ Below w.heap.size w w' := by
  obtain ⟨rbK, hrb'⟩ : ∃ rbK : Bool → Bool → Bool, rbK = (fun x y => x && y) := ⟨_, rfl⟩
  rw [← hrb']
  have hrb := Aside0.mk hrb'
  have HR0 := Aside0.mk hr0
  have HR1 := Aside0.mk hr1
  have HC0 := Aside0.mk hc0
  have HC1 := Aside0.mk hc1
  have hel := edgesF_len [l0, l1]
  have hel2 : (edgesF [l0, l1]).length ≤ 1601 := hel
  obtain ⟨es, hesq⟩ : ∃ es, es = edgesF [l0, l1] := ⟨_, rfl⟩
  rw [← hesq] at hes hel2 ⊢
  have HES := Aside0.mk hes
  have HEQ := Aside0.mk hesq
  clear hr0 hr1 hc0 hc1 hrb' hel hes hesq
  go_enter Try.func44, Try.ntmps44
  go_wp2_with fail
  obtain ⟨W0, hW0⟩ : ∃ W0, W0 = w.alloc (.cells #[.slice A0 l0.length c0, .slice A1 l1.length c1] 22) := ⟨_, rfl⟩
  have X0 : W0.heap[w.heap.size]? = some (.cells #[.slice A0 l0.length c0, .slice A1 l1.length c1] 22 (0, 0)) := by rw [hW0]; exact blk_new _ _
  have B0 : Below w.heap.size w W0 := by rw [hW0]; exact below_alloc (Below.refl _ _) _
  rw [← hW0]
  clear hW0
  have hE := edges_calls (some ⟨w.heap.size, 0, none⟩) 2 [l0, l1] W0 (C_sets X0 (Kd.C_below HR0.out B0) HC0.out (Kd.C_below HR1.out B0) HC1.out) (Nat.le_refl _) (by simp)
  rw [← HEQ.out] at hE
  have hE' : Calls Try.prog 66 #[.slice (some ⟨w.heap.size, 0, none⟩) 2 2] W0 (fun e w' => ∃ v, e = .returned v ∧ Kd.R (Kd.int .i64) 3 w' W0.heap.size (fun _ => True) v es ∧ Below W0.heap.size W0 w') := hE
  have HEE := Aside0.mk hE'
  have HB0 := Aside0.mk B0
  clear hE hE' B0 X0 HEQ
  refine HEE.out.mono ?_
  rintro e W1 ⟨ve, rfl, rE, bE⟩
  obtain ⟨Ae, ce, rfl⟩ := Kd.R_slice rE
  have HEC := Aside0.mk (Kd.R_reads' rE).2.2
  have HB01 := Aside0.mk (HB0.out.trans (bE.mono HB0.out.size))
  have CA0 := Aside0.mk (Kd.C_below HR0.out HB01.out)
  have CB0 := Aside0.mk (Kd.C_below HR1.out HB01.out)
  obtain ⟨fin, hfin⟩ : ∃ fin, fin = madeRun rbK l0 l1 es [] := ⟨_, rfl⟩
  have HFIN := Aside0.mk hfin
  clear rE bE hfin HEE HB0
  go_wp2_with fail
  go_loopw [7, 9] (fun t7 t9 W => Lm rbK W1 l0 l1 es fin t7 t9 W) (fun _ t9 _ => es.length - (intOf t9).toNat)
  case atStart => exact ⟨0, [], Nat.zero_le _, rfl, Kd.R_nil _ _ _ _ _, Below.refl _ _, HFIN.out.symm, Nat.le_refl _, (fun r hr => by cases hr)⟩
  case round =>
    obtain ⟨j, out, hj, rfl, hR, hB, hrun, hol, hbd⟩ := hrel
    have HRo := Aside0.mk hR
    have HB1 := Aside0.mk hB
    have HBD := Aside0.mk hbd
    clear hR hB hbd
    by_cases hlt : j < es.length
    · rw [run_step rbK l0 l1 es j out hlt] at hrun
      have HRUN := Aside0.mk hrun
      clear hrun
      have b1 : decide ((j : Int) < (es.length : Int)) = true := decide_eq_true (by omega)
      have b2 : decide (j < es.length) = true := decide_eq_true hlt
      have q0 : 0 ≤ (j : Int) := by omega
      have q1 : (j : Int) < (es.length : Int) := by omega
      have w2 : IntKind.i64.wrap ((j : Int) + 1) = (j : Int) + 1 := IntWalk.i64_in _ (by omega)
      obtain ⟨ad, rfl, k1⟩ := Kd.at_int (Kd.C_below HEC.out HB1.out) (j : Int) (by omega) (by omega)
      rw [Int.toNat_natCast] at k1
      have hcb := HES.out _ q0 q1
      obtain ⟨cc, hcc0⟩ : ∃ cc, cc = rd es (j : Int) := ⟨_, rfl⟩
      rw [← hcc0] at k1 HRUN hcb
      clear hcc0
      have CA := Aside0.mk (Kd.C_below CA0.out HB1.out)
      have CB := Aside0.mk (Kd.C_below CB0.out HB1.out)
      cases hx : hasF l0 cc with
      | true =>
        cases hy : hasF l1 cc with
        | true =>
          have KP : Aside0 (rbK (hasF l0 cc) (hasF l1 cc) = true) := ⟨by rw [hx, hy, hrb.out]; rfl⟩
          have HA : Aside0 (∀ W, Kd.C k34 W A0 l0.length l0 → Calls Try.prog 25 #[.slice A0 l0.length c0, .int .i64 cc] W fun e w' => e = .returned (.bool true) ∧ Drawn0 W w') := ⟨fun W h => by rw [← hx]; exact P.ref_has_calls A0 c0 l0 cc W h HC0.out⟩
          have HBh : Aside0 (∀ W, Kd.C k34 W A1 l1.length l1 → Calls Try.prog 25 #[.slice A1 l1.length c1, .int .i64 cc] W fun e w' => e = .returned (.bool true) ∧ Drawn0 W w') := ⟨fun W h => by rw [← hy]; exact P.ref_has_calls A1 c1 l1 cc W h HC1.out⟩
          clear hx hy
          go_wp2_with fail
          go_quiet ((go_at_call 25; first | ((with_reducible refine (HA.out _ (Kd.C_drewN CA.out _)).mono ?_); rintro e w' ⟨rfl, ⟨nd, rfl⟩⟩; (first | exact ⟨rfl, _, rfl⟩ | exact ⟨rfl, _, World.drewN_drewN _ _ _⟩ | exact ⟨rfl, _, Eq.trans (World.drewN_drewN _ _ _) (congrArg (World.drewN _) (Nat.add_assoc _ _ _))⟩)) | ((with_reducible refine (HA.out _ CA.out).mono ?_); rintro e w' ⟨rfl, ⟨nd, rfl⟩⟩; (first | exact ⟨rfl, _, rfl⟩ | exact ⟨rfl, _, World.drewN_drewN _ _ _⟩ | exact ⟨rfl, _, Eq.trans (World.drewN_drewN _ _ _) (congrArg (World.drewN _) (Nat.add_assoc _ _ _))⟩)) | ((with_reducible refine (HBh.out _ (Kd.C_drewN CB.out _)).mono ?_); rintro e w' ⟨rfl, ⟨nd, rfl⟩⟩; (first | exact ⟨rfl, _, rfl⟩ | exact ⟨rfl, _, World.drewN_drewN _ _ _⟩ | exact ⟨rfl, _, Eq.trans (World.drewN_drewN _ _ _) (congrArg (World.drewN _) (Nat.add_assoc _ _ _))⟩)) | ((with_reducible refine (HBh.out _ CB.out).mono ?_); rintro e w' ⟨rfl, ⟨nd, rfl⟩⟩; (first | exact ⟨rfl, _, rfl⟩ | exact ⟨rfl, _, World.drewN_drewN _ _ _⟩ | exact ⟨rfl, _, Eq.trans (World.drewN_drewN _ _ _) (congrArg (World.drewN _) (Nat.add_assoc _ _ _))⟩))))
          clear HA HBh
          by_cases hn : j + 1 < es.length
          · have n1 : decide ((j : Int) + 1 < (es.length : Int)) = true := decide_eq_true (by omega)
            have n2 : decide (j + 1 < es.length) = true := decide_eq_true hn
            have n3 : 0 ≤ (j : Int) + 1 := by omega
            have n4 : (j : Int) + 1 < (es.length : Int) := by omega
            obtain ⟨ad2, ea2, k2⟩ := Kd.at_int (Kd.C_below HEC.out HB1.out) ((j : Int) + 1) (by omega) (by omega)
            injection ea2 with ea2
            subst ea2
            rw [show ((j : Int) + 1).toNat = j + 1 from by omega] at k2
            have hdb := HES.out _ n3 n4
            obtain ⟨dd, hdd⟩ : ∃ dd, dd = rd es ((j : Int) + 1) := ⟨_, rfl⟩
            rw [← hdd] at k2 HRUN hdb
            clear hdd
            have n5 : IntKind.i64.wrap (dd - 1) = dd - 1 := IntWalk.i64_in _ (by omega)
            have k3 : wr.cell? ⟨ad.block, ad.off + (j + 1), none⟩ = some (.int .i64 dd) := by rw [← k2]; congr 1
            have HE0 : Aside0 (madeRun rbK l0 l1 (es.drop (j + 1)) (mkF true cc (dd - 1) out) = fin) := ⟨by
              have := HRUN.out
              rw [KP.out, if_pos hn] at this
              exact this⟩
            have hml := mkF_len true cc (dd - 1) out
            have HML : Aside0 ((mkF true cc (dd - 1) out).length ≤ j + 1) := ⟨by omega⟩
            have HBD2 : Aside0 (Bd (mkF true cc (dd - 1) out)) := ⟨HBD.out.mk (by omega)⟩
            clear hml
            by_cases ho : 0 < out.length
            · obtain ⟨g, co, rfl, hgb⟩ := R_place HRo.out ho
              have hlb := HBD.out.last ho
              obtain ⟨cs, hcl, hcM, hcc, hcf⟩ := Kd.R_elem HRo.out z34 ((out.length : Int) - 1) (by omega) (by omega)
              obtain rfl := k34_openM hcM
              have hi1 : ((out.length : Int) - 1).toNat = out.length - 1 := by omega
              have y1 : wr.cell? ⟨g, (out.length - 1) * 2 + 1, none⟩ = some (.int .i64 (rd_T34 out ((out.length : Int) - 1)).f1) := by
                have := hcc 1 _ rfl
                rw [hi1] at this
                unfold rd_T34
                rw [hi1]
                exact this
              have z1 : wr.frozen? ⟨g, (out.length - 1) * 2 + 1, none⟩ = false := by
                have := hcf 1
                rw [hi1] at this
                exact this
              have o1 : decide (0 < (out.length : Int)) = true := decide_eq_true (by omega)
              have o2 : decide (0 < out.length) = true := decide_eq_true ho
              have o3 : IntKind.i64.wrap ((out.length : Int) - 1) = (out.length : Int) - 1 := IntWalk.i64_in _ (by omega)
              have o4 : 0 ≤ (out.length : Int) - 1 := by omega
              have o5 : (out.length : Int) - 1 < (out.length : Int) := by omega
              clear hcc hcf hcM hcl
              obtain ⟨lh, hlh⟩ : ∃ lh, lh = (rd_T34 out ((out.length : Int) - 1)).f1 := ⟨_, rfl⟩
              rw [← hlh] at y1 hlb
              have HLH := Aside0.mk hlh
              clear hlh
              have o6 : IntKind.i64.wrap (lh + 1) = lh + 1 := IntWalk.i64_in _ (by omega)
              by_cases hjn : lh + 1 = cc
              · have o7 : ((lh + 1) == cc) = true := beq_iff_eq.2 hjn
                have EQ : Aside0 (mkF true cc (dd - 1) out = out.set (out.length - 1) ⟨(rd_T34 out ((out.length : Int) - 1)).f0, (dd - 1)⟩) := ⟨by
                  unfold mkF
                  rw [if_pos rfl, if_pos ⟨ho, by rw [← HLH.out]; exact hjn⟩]⟩
                have RST : Aside0 (∀ W : World, Kd.R k34 34 W W1.heap.size (fun _ => True) (.slice (some ⟨g, 0, none⟩) out.length co) out → Kd.R k34 34 (W.setCell ⟨g, (out.length - 1) * 2 + 1, none⟩ (.int .i64 (dd - 1))) W1.heap.size (fun _ => True) (.slice (some ⟨g, 0, none⟩) out.length co) (mkF true cc (dd - 1) out)) := ⟨fun W h => by rw [EQ.out]; exact R_last h ho _⟩
                clear hjn
                go_wp2_with fail
                go_quiet (fail)
                go_wp2_with fail
                go_roundw
                case rel => exact ⟨j + 1, _, hlt, by go_num, RST.out _ (by repeat (first | exact HRo.out | refine Kd.R_drewN ?_ _)), Below.setCell (by repeat (first | exact HB1.out | refine pw_below_drewN ?_ _)) hgb _, HE0.out, HML.out, HBD2.out⟩
                case measure => simp [intOf]; omega
              · have o7 : ((lh + 1) == cc) = false := beq_eq_false_iff_ne.2 hjn
                have EQ : Aside0 (mkF true cc (dd - 1) out = out ++ [⟨cc, (dd - 1)⟩]) := ⟨by
                  unfold mkF
                  rw [if_pos rfl, if_neg (fun q => hjn (by rw [HLH.out]; exact q.2))]⟩
                clear hjn
                go_wp2_with fail
                go_quiet (fail)
                go_wp2_with ((with_reducible refine gate_builtin (b := .append) (xs := #[.tmp 104, .tmp 111]) rfl ?_); at_builtin; refine Kd.R_append k34 (w0 := W1) W1.heap.size rfl (.tmp 104) (.tmp 111) 22 34 (.agg #[.int .i64 0, .int .i64 0]) 16 rfl Try.underlying22 info34 rfl (by decide) (by omega) _ out ⟨cc, (dd - 1)⟩ [.int .i64 cc, .int .i64 (dd - 1)] (fun _ => True) (fun _ => False) rfl rfl ?aP (fun _ hk => hk.elim) ?aF ?aO ?aB ?aS ?aL ?_; (case aP => exact k34_mkM _ _ _ ⟨cc, (dd - 1)⟩); (case aF => exact fun _ _ => trivial); (case aO => (repeat (first | exact HRo.out | refine Kd.R_drewN ?_ _))); (case aB => (repeat (first | exact HB1.out | refine pw_below_drewN ?_ _))); (case aS => exact HB1.out.size); (case aL => omega); intro v5 w5 hR5 hb5 hg5 hat5; rw [← EQ.out] at hR5; have HR5 := Aside0.mk hR5; have HB5 := Aside0.mk hb5; clear hR5 hb5 hg5 hat5)
                go_roundw
                case rel => exact ⟨j + 1, _, hlt, by go_num, HR5.out, HB5.out, HE0.out, HML.out, HBD2.out⟩
                case measure => simp [intOf]; omega
            · obtain ⟨Ao, co, rfl⟩ := Kd.R_slice HRo.out
              have o1 : decide (0 < (out.length : Int)) = false := decide_eq_false (by omega)
              have o2 : decide (0 < out.length) = false := decide_eq_false ho
              have EQ : Aside0 (mkF true cc (dd - 1) out = out ++ [⟨cc, (dd - 1)⟩]) := ⟨by
                unfold mkF
                rw [if_pos rfl, if_neg (fun q => ho q.1)]⟩
              go_wp2_with fail
              go_quiet (fail)
              go_wp2_with ((with_reducible refine gate_builtin (b := .append) (xs := #[.tmp 104, .tmp 111]) rfl ?_); at_builtin; refine Kd.R_append k34 (w0 := W1) W1.heap.size rfl (.tmp 104) (.tmp 111) 22 34 (.agg #[.int .i64 0, .int .i64 0]) 16 rfl Try.underlying22 info34 rfl (by decide) (by omega) _ out ⟨cc, (dd - 1)⟩ [.int .i64 cc, .int .i64 (dd - 1)] (fun _ => True) (fun _ => False) rfl rfl ?aP (fun _ hk => hk.elim) ?aF ?aO ?aB ?aS ?aL ?_; (case aP => exact k34_mkM _ _ _ ⟨cc, (dd - 1)⟩); (case aF => exact fun _ _ => trivial); (case aO => (repeat (first | exact HRo.out | refine Kd.R_drewN ?_ _))); (case aB => (repeat (first | exact HB1.out | refine pw_below_drewN ?_ _))); (case aS => exact HB1.out.size); (case aL => omega); intro v5 w5 hR5 hb5 hg5 hat5; rw [← EQ.out] at hR5; have HR5 := Aside0.mk hR5; have HB5 := Aside0.mk hb5; clear hR5 hb5 hg5 hat5)
              go_roundw
              case rel => exact ⟨j + 1, _, hlt, by go_num, HR5.out, HB5.out, HE0.out, HML.out, HBD2.out⟩
              case measure => simp [intOf]; omega
          · have n1 : decide ((j : Int) + 1 < (es.length : Int)) = false := decide_eq_false (by omega)
            have n2 : decide (j + 1 < es.length) = false := decide_eq_false hn
            have HE0 : Aside0 (madeRun rbK l0 l1 (es.drop (j + 1)) (mkF true cc 1114111 out) = fin) := ⟨by
              have := HRUN.out
              rw [KP.out, if_neg hn] at this
              exact this⟩
            have hml := mkF_len true cc 1114111 out
            have HML : Aside0 ((mkF true cc 1114111 out).length ≤ j + 1) := ⟨by omega⟩
            have HBD2 : Aside0 (Bd (mkF true cc 1114111 out)) := ⟨HBD.out.mk (by omega)⟩
            clear hml
            by_cases ho : 0 < out.length
            · obtain ⟨g, co, rfl, hgb⟩ := R_place HRo.out ho
              have hlb := HBD.out.last ho
              obtain ⟨cs, hcl, hcM, hcc, hcf⟩ := Kd.R_elem HRo.out z34 ((out.length : Int) - 1) (by omega) (by omega)
              obtain rfl := k34_openM hcM
              have hi1 : ((out.length : Int) - 1).toNat = out.length - 1 := by omega
              have y1 : wr.cell? ⟨g, (out.length - 1) * 2 + 1, none⟩ = some (.int .i64 (rd_T34 out ((out.length : Int) - 1)).f1) := by
                have := hcc 1 _ rfl
                rw [hi1] at this
                unfold rd_T34
                rw [hi1]
                exact this
              have z1 : wr.frozen? ⟨g, (out.length - 1) * 2 + 1, none⟩ = false := by
                have := hcf 1
                rw [hi1] at this
                exact this
              have o1 : decide (0 < (out.length : Int)) = true := decide_eq_true (by omega)
              have o2 : decide (0 < out.length) = true := decide_eq_true ho
              have o3 : IntKind.i64.wrap ((out.length : Int) - 1) = (out.length : Int) - 1 := IntWalk.i64_in _ (by omega)
              have o4 : 0 ≤ (out.length : Int) - 1 := by omega
              have o5 : (out.length : Int) - 1 < (out.length : Int) := by omega
              clear hcc hcf hcM hcl
              obtain ⟨lh, hlh⟩ : ∃ lh, lh = (rd_T34 out ((out.length : Int) - 1)).f1 := ⟨_, rfl⟩
              rw [← hlh] at y1 hlb
              have HLH := Aside0.mk hlh
              clear hlh
              have o6 : IntKind.i64.wrap (lh + 1) = lh + 1 := IntWalk.i64_in _ (by omega)
              by_cases hjn : lh + 1 = cc
              · have o7 : ((lh + 1) == cc) = true := beq_iff_eq.2 hjn
                have EQ : Aside0 (mkF true cc 1114111 out = out.set (out.length - 1) ⟨(rd_T34 out ((out.length : Int) - 1)).f0, 1114111⟩) := ⟨by
                  unfold mkF
                  rw [if_pos rfl, if_pos ⟨ho, by rw [← HLH.out]; exact hjn⟩]⟩
                have RST : Aside0 (∀ W : World, Kd.R k34 34 W W1.heap.size (fun _ => True) (.slice (some ⟨g, 0, none⟩) out.length co) out → Kd.R k34 34 (W.setCell ⟨g, (out.length - 1) * 2 + 1, none⟩ (.int .i64 1114111)) W1.heap.size (fun _ => True) (.slice (some ⟨g, 0, none⟩) out.length co) (mkF true cc 1114111 out)) := ⟨fun W h => by rw [EQ.out]; exact R_last h ho _⟩
                clear hjn
                go_wp2_with fail
                go_quiet (fail)
                go_wp2_with fail
                go_roundw
                case rel => exact ⟨j + 1, _, hlt, by go_num, RST.out _ (by repeat (first | exact HRo.out | refine Kd.R_drewN ?_ _)), Below.setCell (by repeat (first | exact HB1.out | refine pw_below_drewN ?_ _)) hgb _, HE0.out, HML.out, HBD2.out⟩
                case measure => simp [intOf]; omega
              · have o7 : ((lh + 1) == cc) = false := beq_eq_false_iff_ne.2 hjn
                have EQ : Aside0 (mkF true cc 1114111 out = out ++ [⟨cc, 1114111⟩]) := ⟨by
                  unfold mkF
                  rw [if_pos rfl, if_neg (fun q => hjn (by rw [HLH.out]; exact q.2))]⟩
                clear hjn
                go_wp2_with fail
                go_quiet (fail)
                go_wp2_with ((with_reducible refine gate_builtin (b := .append) (xs := #[.tmp 104, .tmp 111]) rfl ?_); at_builtin; refine Kd.R_append k34 (w0 := W1) W1.heap.size rfl (.tmp 104) (.tmp 111) 22 34 (.agg #[.int .i64 0, .int .i64 0]) 16 rfl Try.underlying22 info34 rfl (by decide) (by omega) _ out ⟨cc, 1114111⟩ [.int .i64 cc, .int .i64 1114111] (fun _ => True) (fun _ => False) rfl rfl ?aP (fun _ hk => hk.elim) ?aF ?aO ?aB ?aS ?aL ?_; (case aP => exact k34_mkM _ _ _ ⟨cc, 1114111⟩); (case aF => exact fun _ _ => trivial); (case aO => (repeat (first | exact HRo.out | refine Kd.R_drewN ?_ _))); (case aB => (repeat (first | exact HB1.out | refine pw_below_drewN ?_ _))); (case aS => exact HB1.out.size); (case aL => omega); intro v5 w5 hR5 hb5 hg5 hat5; rw [← EQ.out] at hR5; have HR5 := Aside0.mk hR5; have HB5 := Aside0.mk hb5; clear hR5 hb5 hg5 hat5)
                go_roundw
                case rel => exact ⟨j + 1, _, hlt, by go_num, HR5.out, HB5.out, HE0.out, HML.out, HBD2.out⟩
                case measure => simp [intOf]; omega
            · obtain ⟨Ao, co, rfl⟩ := Kd.R_slice HRo.out
              have o1 : decide (0 < (out.length : Int)) = false := decide_eq_false (by omega)
              have o2 : decide (0 < out.length) = false := decide_eq_false ho
              have EQ : Aside0 (mkF true cc 1114111 out = out ++ [⟨cc, 1114111⟩]) := ⟨by
                unfold mkF
                rw [if_pos rfl, if_neg (fun q => ho q.1)]⟩
              go_wp2_with fail
              go_quiet (fail)
              go_wp2_with ((with_reducible refine gate_builtin (b := .append) (xs := #[.tmp 104, .tmp 111]) rfl ?_); at_builtin; refine Kd.R_append k34 (w0 := W1) W1.heap.size rfl (.tmp 104) (.tmp 111) 22 34 (.agg #[.int .i64 0, .int .i64 0]) 16 rfl Try.underlying22 info34 rfl (by decide) (by omega) _ out ⟨cc, 1114111⟩ [.int .i64 cc, .int .i64 1114111] (fun _ => True) (fun _ => False) rfl rfl ?aP (fun _ hk => hk.elim) ?aF ?aO ?aB ?aS ?aL ?_; (case aP => exact k34_mkM _ _ _ ⟨cc, 1114111⟩); (case aF => exact fun _ _ => trivial); (case aO => (repeat (first | exact HRo.out | refine Kd.R_drewN ?_ _))); (case aB => (repeat (first | exact HB1.out | refine pw_below_drewN ?_ _))); (case aS => exact HB1.out.size); (case aL => omega); intro v5 w5 hR5 hb5 hg5 hat5; rw [← EQ.out] at hR5; have HR5 := Aside0.mk hR5; have HB5 := Aside0.mk hb5; clear hR5 hb5 hg5 hat5)
              go_roundw
              case rel => exact ⟨j + 1, _, hlt, by go_num, HR5.out, HB5.out, HE0.out, HML.out, HBD2.out⟩
              case measure => simp [intOf]; omega
        | false =>
          have KP : Aside0 (rbK (hasF l0 cc) (hasF l1 cc) = false) := ⟨by rw [hx, hy, hrb.out]; rfl⟩
          have HA : Aside0 (∀ W, Kd.C k34 W A0 l0.length l0 → Calls Try.prog 25 #[.slice A0 l0.length c0, .int .i64 cc] W fun e w' => e = .returned (.bool true) ∧ Drawn0 W w') := ⟨fun W h => by rw [← hx]; exact P.ref_has_calls A0 c0 l0 cc W h HC0.out⟩
          have HBh : Aside0 (∀ W, Kd.C k34 W A1 l1.length l1 → Calls Try.prog 25 #[.slice A1 l1.length c1, .int .i64 cc] W fun e w' => e = .returned (.bool false) ∧ Drawn0 W w') := ⟨fun W h => by rw [← hy]; exact P.ref_has_calls A1 c1 l1 cc W h HC1.out⟩
          clear hx hy
          go_wp2_with fail
          go_quiet ((go_at_call 25; first | ((with_reducible refine (HA.out _ (Kd.C_drewN CA.out _)).mono ?_); rintro e w' ⟨rfl, ⟨nd, rfl⟩⟩; (first | exact ⟨rfl, _, rfl⟩ | exact ⟨rfl, _, World.drewN_drewN _ _ _⟩ | exact ⟨rfl, _, Eq.trans (World.drewN_drewN _ _ _) (congrArg (World.drewN _) (Nat.add_assoc _ _ _))⟩)) | ((with_reducible refine (HA.out _ CA.out).mono ?_); rintro e w' ⟨rfl, ⟨nd, rfl⟩⟩; (first | exact ⟨rfl, _, rfl⟩ | exact ⟨rfl, _, World.drewN_drewN _ _ _⟩ | exact ⟨rfl, _, Eq.trans (World.drewN_drewN _ _ _) (congrArg (World.drewN _) (Nat.add_assoc _ _ _))⟩)) | ((with_reducible refine (HBh.out _ (Kd.C_drewN CB.out _)).mono ?_); rintro e w' ⟨rfl, ⟨nd, rfl⟩⟩; (first | exact ⟨rfl, _, rfl⟩ | exact ⟨rfl, _, World.drewN_drewN _ _ _⟩ | exact ⟨rfl, _, Eq.trans (World.drewN_drewN _ _ _) (congrArg (World.drewN _) (Nat.add_assoc _ _ _))⟩)) | ((with_reducible refine (HBh.out _ CB.out).mono ?_); rintro e w' ⟨rfl, ⟨nd, rfl⟩⟩; (first | exact ⟨rfl, _, rfl⟩ | exact ⟨rfl, _, World.drewN_drewN _ _ _⟩ | exact ⟨rfl, _, Eq.trans (World.drewN_drewN _ _ _) (congrArg (World.drewN _) (Nat.add_assoc _ _ _))⟩))))
          clear HA HBh
          have HE0 : Aside0 (madeRun rbK l0 l1 (es.drop (j + 1)) out = fin) := ⟨by
            have := HRUN.out
            rw [KP.out] at this
            exact this⟩
          go_wp2_with fail
          go_roundw
          case rel => exact ⟨j + 1, _, hlt, by go_num, Kd.R_drewN HRo.out _, pw_below_drewN HB1.out _, HE0.out, by omega, HBD.out⟩
          case measure => simp [intOf]; omega
      | false =>
        cases hy : hasF l1 cc with
        | true =>
          have KP : Aside0 (rbK (hasF l0 cc) (hasF l1 cc) = false) := ⟨by rw [hx, hy, hrb.out]; rfl⟩
          have HA : Aside0 (∀ W, Kd.C k34 W A0 l0.length l0 → Calls Try.prog 25 #[.slice A0 l0.length c0, .int .i64 cc] W fun e w' => e = .returned (.bool false) ∧ Drawn0 W w') := ⟨fun W h => by rw [← hx]; exact P.ref_has_calls A0 c0 l0 cc W h HC0.out⟩
          have HBh : Aside0 (∀ W, Kd.C k34 W A1 l1.length l1 → Calls Try.prog 25 #[.slice A1 l1.length c1, .int .i64 cc] W fun e w' => e = .returned (.bool true) ∧ Drawn0 W w') := ⟨fun W h => by rw [← hy]; exact P.ref_has_calls A1 c1 l1 cc W h HC1.out⟩
          clear hx hy
          go_wp2_with fail
          go_quiet ((go_at_call 25; first | ((with_reducible refine (HA.out _ (Kd.C_drewN CA.out _)).mono ?_); rintro e w' ⟨rfl, ⟨nd, rfl⟩⟩; (first | exact ⟨rfl, _, rfl⟩ | exact ⟨rfl, _, World.drewN_drewN _ _ _⟩ | exact ⟨rfl, _, Eq.trans (World.drewN_drewN _ _ _) (congrArg (World.drewN _) (Nat.add_assoc _ _ _))⟩)) | ((with_reducible refine (HA.out _ CA.out).mono ?_); rintro e w' ⟨rfl, ⟨nd, rfl⟩⟩; (first | exact ⟨rfl, _, rfl⟩ | exact ⟨rfl, _, World.drewN_drewN _ _ _⟩ | exact ⟨rfl, _, Eq.trans (World.drewN_drewN _ _ _) (congrArg (World.drewN _) (Nat.add_assoc _ _ _))⟩)) | ((with_reducible refine (HBh.out _ (Kd.C_drewN CB.out _)).mono ?_); rintro e w' ⟨rfl, ⟨nd, rfl⟩⟩; (first | exact ⟨rfl, _, rfl⟩ | exact ⟨rfl, _, World.drewN_drewN _ _ _⟩ | exact ⟨rfl, _, Eq.trans (World.drewN_drewN _ _ _) (congrArg (World.drewN _) (Nat.add_assoc _ _ _))⟩)) | ((with_reducible refine (HBh.out _ CB.out).mono ?_); rintro e w' ⟨rfl, ⟨nd, rfl⟩⟩; (first | exact ⟨rfl, _, rfl⟩ | exact ⟨rfl, _, World.drewN_drewN _ _ _⟩ | exact ⟨rfl, _, Eq.trans (World.drewN_drewN _ _ _) (congrArg (World.drewN _) (Nat.add_assoc _ _ _))⟩))))
          clear HA HBh
          have HE0 : Aside0 (madeRun rbK l0 l1 (es.drop (j + 1)) out = fin) := ⟨by
            have := HRUN.out
            rw [KP.out] at this
            exact this⟩
          go_wp2_with fail
          go_roundw
          case rel => exact ⟨j + 1, _, hlt, by go_num, Kd.R_drewN HRo.out _, pw_below_drewN HB1.out _, HE0.out, by omega, HBD.out⟩
          case measure => simp [intOf]; omega
        | false =>
          have KP : Aside0 (rbK (hasF l0 cc) (hasF l1 cc) = false) := ⟨by rw [hx, hy, hrb.out]; rfl⟩
          have HA : Aside0 (∀ W, Kd.C k34 W A0 l0.length l0 → Calls Try.prog 25 #[.slice A0 l0.length c0, .int .i64 cc] W fun e w' => e = .returned (.bool false) ∧ Drawn0 W w') := ⟨fun W h => by rw [← hx]; exact P.ref_has_calls A0 c0 l0 cc W h HC0.out⟩
          have HBh : Aside0 (∀ W, Kd.C k34 W A1 l1.length l1 → Calls Try.prog 25 #[.slice A1 l1.length c1, .int .i64 cc] W fun e w' => e = .returned (.bool false) ∧ Drawn0 W w') := ⟨fun W h => by rw [← hy]; exact P.ref_has_calls A1 c1 l1 cc W h HC1.out⟩
          clear hx hy
          go_wp2_with fail
          go_quiet ((go_at_call 25; first | ((with_reducible refine (HA.out _ (Kd.C_drewN CA.out _)).mono ?_); rintro e w' ⟨rfl, ⟨nd, rfl⟩⟩; (first | exact ⟨rfl, _, rfl⟩ | exact ⟨rfl, _, World.drewN_drewN _ _ _⟩ | exact ⟨rfl, _, Eq.trans (World.drewN_drewN _ _ _) (congrArg (World.drewN _) (Nat.add_assoc _ _ _))⟩)) | ((with_reducible refine (HA.out _ CA.out).mono ?_); rintro e w' ⟨rfl, ⟨nd, rfl⟩⟩; (first | exact ⟨rfl, _, rfl⟩ | exact ⟨rfl, _, World.drewN_drewN _ _ _⟩ | exact ⟨rfl, _, Eq.trans (World.drewN_drewN _ _ _) (congrArg (World.drewN _) (Nat.add_assoc _ _ _))⟩)) | ((with_reducible refine (HBh.out _ (Kd.C_drewN CB.out _)).mono ?_); rintro e w' ⟨rfl, ⟨nd, rfl⟩⟩; (first | exact ⟨rfl, _, rfl⟩ | exact ⟨rfl, _, World.drewN_drewN _ _ _⟩ | exact ⟨rfl, _, Eq.trans (World.drewN_drewN _ _ _) (congrArg (World.drewN _) (Nat.add_assoc _ _ _))⟩)) | ((with_reducible refine (HBh.out _ CB.out).mono ?_); rintro e w' ⟨rfl, ⟨nd, rfl⟩⟩; (first | exact ⟨rfl, _, rfl⟩ | exact ⟨rfl, _, World.drewN_drewN _ _ _⟩ | exact ⟨rfl, _, Eq.trans (World.drewN_drewN _ _ _) (congrArg (World.drewN _) (Nat.add_assoc _ _ _))⟩))))
          clear HA HBh
          have HE0 : Aside0 (madeRun rbK l0 l1 (es.drop (j + 1)) out = fin) := ⟨by
            have := HRUN.out
            rw [KP.out] at this
            exact this⟩
          go_wp2_with fail
          go_roundw
          case rel => exact ⟨j + 1, _, hlt, by go_num, Kd.R_drewN HRo.out _, pw_below_drewN HB1.out _, HE0.out, by omega, HBD.out⟩
          case measure => simp [intOf]; omega
    · have b1 : decide ((j : Int) < (es.length : Int)) = false := decide_eq_false (by omega)
      have b2 : decide (j < es.length) = false := decide_eq_false hlt
      have HF : Aside0 (out = fin) := ⟨by rw [List.drop_eq_nil_iff.2 (by omega)] at hrun; exact hrun⟩
      clear hrun
      go_wp2_with fail
      go_ret
      exact ⟨_, rfl, by rw [← HFIN.out, ← HF.out]; exact Kd.R_lower HRo.out HB01.out.size, HB01.out.trans (HB1.out.mono HB01.out.size)⟩
set_option maxHeartbeats 32000000 in
set_option maxRecDepth 100000 in
theorem made_less (A0 : Option Addr) (c0 : Nat) (l0 : List S34) (A1 : Option Addr) (c1 : Nat) (l1 : List S34) (w : World) (hr0 : Kd.C k34 w A0 l0.length l0) (hc0 : l0.length ≤ c0) (hr1 : Kd.C k34 w A1 l1.length l1) (hc1 : l1.length ≤ c1)
    (hes : ∀ i, 0 ≤ i → i < ((edgesF [l0, l1]).length : Int) → 0 ≤ rd (edgesF [l0, l1]) i ∧ rd (edgesF [l0, l1]) i ≤ 1114111) :
    Calls Try.prog 44 #[.slice A0 l0.length c0, .slice A1 l1.length c1, .int .i64 2] w fun e w' => ∃ v, e = .returned v ∧ Kd.R k34 34 w' w.heap.size (fun _ => True) v (madeRun (fun x y => x && !y) l0 l1 (edgesF [l0, l1]) []) ∧ Below w.heap.size w w' := by
  obtain ⟨rbK, hrb'⟩ : ∃ rbK : Bool → Bool → Bool, rbK = (fun x y => x && !y) := ⟨_, rfl⟩
  rw [← hrb']
  have hrb := Aside0.mk hrb'
  have HR0 := Aside0.mk hr0
  have HR1 := Aside0.mk hr1
  have HC0 := Aside0.mk hc0
  have HC1 := Aside0.mk hc1
  have hel := edgesF_len [l0, l1]
  have hel2 : (edgesF [l0, l1]).length ≤ 1601 := hel
  obtain ⟨es, hesq⟩ : ∃ es, es = edgesF [l0, l1] := ⟨_, rfl⟩
  rw [← hesq] at hes hel2 ⊢
  have HES := Aside0.mk hes
  have HEQ := Aside0.mk hesq
  clear hr0 hr1 hc0 hc1 hrb' hel hes hesq
  go_enter Try.func44, Try.ntmps44
  go_wp2_with fail
  obtain ⟨W0, hW0⟩ : ∃ W0, W0 = w.alloc (.cells #[.slice A0 l0.length c0, .slice A1 l1.length c1] 22) := ⟨_, rfl⟩
  have X0 : W0.heap[w.heap.size]? = some (.cells #[.slice A0 l0.length c0, .slice A1 l1.length c1] 22 (0, 0)) := by rw [hW0]; exact blk_new _ _
  have B0 : Below w.heap.size w W0 := by rw [hW0]; exact below_alloc (Below.refl _ _) _
  rw [← hW0]
  clear hW0
  have hE := edges_calls (some ⟨w.heap.size, 0, none⟩) 2 [l0, l1] W0 (C_sets X0 (Kd.C_below HR0.out B0) HC0.out (Kd.C_below HR1.out B0) HC1.out) (Nat.le_refl _) (by simp)
  rw [← HEQ.out] at hE
  have hE' : Calls Try.prog 66 #[.slice (some ⟨w.heap.size, 0, none⟩) 2 2] W0 (fun e w' => ∃ v, e = .returned v ∧ Kd.R (Kd.int .i64) 3 w' W0.heap.size (fun _ => True) v es ∧ Below W0.heap.size W0 w') := hE
  have HEE := Aside0.mk hE'
  have HB0 := Aside0.mk B0
  clear hE hE' B0 X0 HEQ
  refine HEE.out.mono ?_
  rintro e W1 ⟨ve, rfl, rE, bE⟩
  obtain ⟨Ae, ce, rfl⟩ := Kd.R_slice rE
  have HEC := Aside0.mk (Kd.R_reads' rE).2.2
  have HB01 := Aside0.mk (HB0.out.trans (bE.mono HB0.out.size))
  have CA0 := Aside0.mk (Kd.C_below HR0.out HB01.out)
  have CB0 := Aside0.mk (Kd.C_below HR1.out HB01.out)
  obtain ⟨fin, hfin⟩ : ∃ fin, fin = madeRun rbK l0 l1 es [] := ⟨_, rfl⟩
  have HFIN := Aside0.mk hfin
  clear rE bE hfin HEE HB0
  go_wp2_with fail
  go_loopw [7, 9] (fun t7 t9 W => Lm rbK W1 l0 l1 es fin t7 t9 W) (fun _ t9 _ => es.length - (intOf t9).toNat)
  case atStart => exact ⟨0, [], Nat.zero_le _, rfl, Kd.R_nil _ _ _ _ _, Below.refl _ _, HFIN.out.symm, Nat.le_refl _, (fun r hr => by cases hr)⟩
  case round =>
    obtain ⟨j, out, hj, rfl, hR, hB, hrun, hol, hbd⟩ := hrel
    have HRo := Aside0.mk hR
    have HB1 := Aside0.mk hB
    have HBD := Aside0.mk hbd
    clear hR hB hbd
    by_cases hlt : j < es.length
    · rw [run_step rbK l0 l1 es j out hlt] at hrun
      have HRUN := Aside0.mk hrun
      clear hrun
      have b1 : decide ((j : Int) < (es.length : Int)) = true := decide_eq_true (by omega)
      have b2 : decide (j < es.length) = true := decide_eq_true hlt
      have q0 : 0 ≤ (j : Int) := by omega
      have q1 : (j : Int) < (es.length : Int) := by omega
      have w2 : IntKind.i64.wrap ((j : Int) + 1) = (j : Int) + 1 := IntWalk.i64_in _ (by omega)
      obtain ⟨ad, rfl, k1⟩ := Kd.at_int (Kd.C_below HEC.out HB1.out) (j : Int) (by omega) (by omega)
      rw [Int.toNat_natCast] at k1
      have hcb := HES.out _ q0 q1
      obtain ⟨cc, hcc0⟩ : ∃ cc, cc = rd es (j : Int) := ⟨_, rfl⟩
      rw [← hcc0] at k1 HRUN hcb
      clear hcc0
      have CA := Aside0.mk (Kd.C_below CA0.out HB1.out)
      have CB := Aside0.mk (Kd.C_below CB0.out HB1.out)
      cases hx : hasF l0 cc with
      | true =>
        cases hy : hasF l1 cc with
        | true =>
          have KP : Aside0 (rbK (hasF l0 cc) (hasF l1 cc) = false) := ⟨by rw [hx, hy, hrb.out]; rfl⟩
          have HA : Aside0 (∀ W, Kd.C k34 W A0 l0.length l0 → Calls Try.prog 25 #[.slice A0 l0.length c0, .int .i64 cc] W fun e w' => e = .returned (.bool true) ∧ Drawn0 W w') := ⟨fun W h => by rw [← hx]; exact P.ref_has_calls A0 c0 l0 cc W h HC0.out⟩
          have HBh : Aside0 (∀ W, Kd.C k34 W A1 l1.length l1 → Calls Try.prog 25 #[.slice A1 l1.length c1, .int .i64 cc] W fun e w' => e = .returned (.bool true) ∧ Drawn0 W w') := ⟨fun W h => by rw [← hy]; exact P.ref_has_calls A1 c1 l1 cc W h HC1.out⟩
          clear hx hy
          go_wp2_with fail
          go_quiet ((go_at_call 25; first | ((with_reducible refine (HA.out _ (Kd.C_drewN CA.out _)).mono ?_); rintro e w' ⟨rfl, ⟨nd, rfl⟩⟩; (first | exact ⟨rfl, _, rfl⟩ | exact ⟨rfl, _, World.drewN_drewN _ _ _⟩ | exact ⟨rfl, _, Eq.trans (World.drewN_drewN _ _ _) (congrArg (World.drewN _) (Nat.add_assoc _ _ _))⟩)) | ((with_reducible refine (HA.out _ CA.out).mono ?_); rintro e w' ⟨rfl, ⟨nd, rfl⟩⟩; (first | exact ⟨rfl, _, rfl⟩ | exact ⟨rfl, _, World.drewN_drewN _ _ _⟩ | exact ⟨rfl, _, Eq.trans (World.drewN_drewN _ _ _) (congrArg (World.drewN _) (Nat.add_assoc _ _ _))⟩)) | ((with_reducible refine (HBh.out _ (Kd.C_drewN CB.out _)).mono ?_); rintro e w' ⟨rfl, ⟨nd, rfl⟩⟩; (first | exact ⟨rfl, _, rfl⟩ | exact ⟨rfl, _, World.drewN_drewN _ _ _⟩ | exact ⟨rfl, _, Eq.trans (World.drewN_drewN _ _ _) (congrArg (World.drewN _) (Nat.add_assoc _ _ _))⟩)) | ((with_reducible refine (HBh.out _ CB.out).mono ?_); rintro e w' ⟨rfl, ⟨nd, rfl⟩⟩; (first | exact ⟨rfl, _, rfl⟩ | exact ⟨rfl, _, World.drewN_drewN _ _ _⟩ | exact ⟨rfl, _, Eq.trans (World.drewN_drewN _ _ _) (congrArg (World.drewN _) (Nat.add_assoc _ _ _))⟩))))
          clear HA HBh
          have HE0 : Aside0 (madeRun rbK l0 l1 (es.drop (j + 1)) out = fin) := ⟨by
            have := HRUN.out
            rw [KP.out] at this
            exact this⟩
          go_wp2_with fail
          go_roundw
          case rel => exact ⟨j + 1, _, hlt, by go_num, Kd.R_drewN HRo.out _, pw_below_drewN HB1.out _, HE0.out, by omega, HBD.out⟩
          case measure => simp [intOf]; omega
        | false =>
          have KP : Aside0 (rbK (hasF l0 cc) (hasF l1 cc) = true) := ⟨by rw [hx, hy, hrb.out]; rfl⟩
          have HA : Aside0 (∀ W, Kd.C k34 W A0 l0.length l0 → Calls Try.prog 25 #[.slice A0 l0.length c0, .int .i64 cc] W fun e w' => e = .returned (.bool true) ∧ Drawn0 W w') := ⟨fun W h => by rw [← hx]; exact P.ref_has_calls A0 c0 l0 cc W h HC0.out⟩
          have HBh : Aside0 (∀ W, Kd.C k34 W A1 l1.length l1 → Calls Try.prog 25 #[.slice A1 l1.length c1, .int .i64 cc] W fun e w' => e = .returned (.bool false) ∧ Drawn0 W w') := ⟨fun W h => by rw [← hy]; exact P.ref_has_calls A1 c1 l1 cc W h HC1.out⟩
          clear hx hy
          go_wp2_with fail
          go_quiet ((go_at_call 25; first | ((with_reducible refine (HA.out _ (Kd.C_drewN CA.out _)).mono ?_); rintro e w' ⟨rfl, ⟨nd, rfl⟩⟩; (first | exact ⟨rfl, _, rfl⟩ | exact ⟨rfl, _, World.drewN_drewN _ _ _⟩ | exact ⟨rfl, _, Eq.trans (World.drewN_drewN _ _ _) (congrArg (World.drewN _) (Nat.add_assoc _ _ _))⟩)) | ((with_reducible refine (HA.out _ CA.out).mono ?_); rintro e w' ⟨rfl, ⟨nd, rfl⟩⟩; (first | exact ⟨rfl, _, rfl⟩ | exact ⟨rfl, _, World.drewN_drewN _ _ _⟩ | exact ⟨rfl, _, Eq.trans (World.drewN_drewN _ _ _) (congrArg (World.drewN _) (Nat.add_assoc _ _ _))⟩)) | ((with_reducible refine (HBh.out _ (Kd.C_drewN CB.out _)).mono ?_); rintro e w' ⟨rfl, ⟨nd, rfl⟩⟩; (first | exact ⟨rfl, _, rfl⟩ | exact ⟨rfl, _, World.drewN_drewN _ _ _⟩ | exact ⟨rfl, _, Eq.trans (World.drewN_drewN _ _ _) (congrArg (World.drewN _) (Nat.add_assoc _ _ _))⟩)) | ((with_reducible refine (HBh.out _ CB.out).mono ?_); rintro e w' ⟨rfl, ⟨nd, rfl⟩⟩; (first | exact ⟨rfl, _, rfl⟩ | exact ⟨rfl, _, World.drewN_drewN _ _ _⟩ | exact ⟨rfl, _, Eq.trans (World.drewN_drewN _ _ _) (congrArg (World.drewN _) (Nat.add_assoc _ _ _))⟩))))
          clear HA HBh
          by_cases hn : j + 1 < es.length
          · have n1 : decide ((j : Int) + 1 < (es.length : Int)) = true := decide_eq_true (by omega)
            have n2 : decide (j + 1 < es.length) = true := decide_eq_true hn
            have n3 : 0 ≤ (j : Int) + 1 := by omega
            have n4 : (j : Int) + 1 < (es.length : Int) := by omega
            obtain ⟨ad2, ea2, k2⟩ := Kd.at_int (Kd.C_below HEC.out HB1.out) ((j : Int) + 1) (by omega) (by omega)
            injection ea2 with ea2
            subst ea2
            rw [show ((j : Int) + 1).toNat = j + 1 from by omega] at k2
            have hdb := HES.out _ n3 n4
            obtain ⟨dd, hdd⟩ : ∃ dd, dd = rd es ((j : Int) + 1) := ⟨_, rfl⟩
            rw [← hdd] at k2 HRUN hdb
            clear hdd
            have n5 : IntKind.i64.wrap (dd - 1) = dd - 1 := IntWalk.i64_in _ (by omega)
            have k3 : wr.cell? ⟨ad.block, ad.off + (j + 1), none⟩ = some (.int .i64 dd) := by rw [← k2]; congr 1
            have HE0 : Aside0 (madeRun rbK l0 l1 (es.drop (j + 1)) (mkF true cc (dd - 1) out) = fin) := ⟨by
              have := HRUN.out
              rw [KP.out, if_pos hn] at this
              exact this⟩
            have hml := mkF_len true cc (dd - 1) out
            have HML : Aside0 ((mkF true cc (dd - 1) out).length ≤ j + 1) := ⟨by omega⟩
            have HBD2 : Aside0 (Bd (mkF true cc (dd - 1) out)) := ⟨HBD.out.mk (by omega)⟩
            clear hml
            by_cases ho : 0 < out.length
            · obtain ⟨g, co, rfl, hgb⟩ := R_place HRo.out ho
              have hlb := HBD.out.last ho
              obtain ⟨cs, hcl, hcM, hcc, hcf⟩ := Kd.R_elem HRo.out z34 ((out.length : Int) - 1) (by omega) (by omega)
              obtain rfl := k34_openM hcM
              have hi1 : ((out.length : Int) - 1).toNat = out.length - 1 := by omega
              have y1 : wr.cell? ⟨g, (out.length - 1) * 2 + 1, none⟩ = some (.int .i64 (rd_T34 out ((out.length : Int) - 1)).f1) := by
                have := hcc 1 _ rfl
                rw [hi1] at this
                unfold rd_T34
                rw [hi1]
                exact this
              have z1 : wr.frozen? ⟨g, (out.length - 1) * 2 + 1, none⟩ = false := by
                have := hcf 1
                rw [hi1] at this
                exact this
              have o1 : decide (0 < (out.length : Int)) = true := decide_eq_true (by omega)
              have o2 : decide (0 < out.length) = true := decide_eq_true ho
              have o3 : IntKind.i64.wrap ((out.length : Int) - 1) = (out.length : Int) - 1 := IntWalk.i64_in _ (by omega)
              have o4 : 0 ≤ (out.length : Int) - 1 := by omega
              have o5 : (out.length : Int) - 1 < (out.length : Int) := by omega
              clear hcc hcf hcM hcl
              obtain ⟨lh, hlh⟩ : ∃ lh, lh = (rd_T34 out ((out.length : Int) - 1)).f1 := ⟨_, rfl⟩
              rw [← hlh] at y1 hlb
              have HLH := Aside0.mk hlh
              clear hlh
              have o6 : IntKind.i64.wrap (lh + 1) = lh + 1 := IntWalk.i64_in _ (by omega)
              by_cases hjn : lh + 1 = cc
              · have o7 : ((lh + 1) == cc) = true := beq_iff_eq.2 hjn
                have EQ : Aside0 (mkF true cc (dd - 1) out = out.set (out.length - 1) ⟨(rd_T34 out ((out.length : Int) - 1)).f0, (dd - 1)⟩) := ⟨by
                  unfold mkF
                  rw [if_pos rfl, if_pos ⟨ho, by rw [← HLH.out]; exact hjn⟩]⟩
                have RST : Aside0 (∀ W : World, Kd.R k34 34 W W1.heap.size (fun _ => True) (.slice (some ⟨g, 0, none⟩) out.length co) out → Kd.R k34 34 (W.setCell ⟨g, (out.length - 1) * 2 + 1, none⟩ (.int .i64 (dd - 1))) W1.heap.size (fun _ => True) (.slice (some ⟨g, 0, none⟩) out.length co) (mkF true cc (dd - 1) out)) := ⟨fun W h => by rw [EQ.out]; exact R_last h ho _⟩
                clear hjn
                go_wp2_with fail
                go_quiet (fail)
                go_wp2_with fail
                go_roundw
                case rel => exact ⟨j + 1, _, hlt, by go_num, RST.out _ (by repeat (first | exact HRo.out | refine Kd.R_drewN ?_ _)), Below.setCell (by repeat (first | exact HB1.out | refine pw_below_drewN ?_ _)) hgb _, HE0.out, HML.out, HBD2.out⟩
                case measure => simp [intOf]; omega
              · have o7 : ((lh + 1) == cc) = false := beq_eq_false_iff_ne.2 hjn
                have EQ : Aside0 (mkF true cc (dd - 1) out = out ++ [⟨cc, (dd - 1)⟩]) := ⟨by
                  unfold mkF
                  rw [if_pos rfl, if_neg (fun q => hjn (by rw [HLH.out]; exact q.2))]⟩
                clear hjn
                go_wp2_with fail
                go_quiet (fail)
                go_wp2_with ((with_reducible refine gate_builtin (b := .append) (xs := #[.tmp 104, .tmp 111]) rfl ?_); at_builtin; refine Kd.R_append k34 (w0 := W1) W1.heap.size rfl (.tmp 104) (.tmp 111) 22 34 (.agg #[.int .i64 0, .int .i64 0]) 16 rfl Try.underlying22 info34 rfl (by decide) (by omega) _ out ⟨cc, (dd - 1)⟩ [.int .i64 cc, .int .i64 (dd - 1)] (fun _ => True) (fun _ => False) rfl rfl ?aP (fun _ hk => hk.elim) ?aF ?aO ?aB ?aS ?aL ?_; (case aP => exact k34_mkM _ _ _ ⟨cc, (dd - 1)⟩); (case aF => exact fun _ _ => trivial); (case aO => (repeat (first | exact HRo.out | refine Kd.R_drewN ?_ _))); (case aB => (repeat (first | exact HB1.out | refine pw_below_drewN ?_ _))); (case aS => exact HB1.out.size); (case aL => omega); intro v5 w5 hR5 hb5 hg5 hat5; rw [← EQ.out] at hR5; have HR5 := Aside0.mk hR5; have HB5 := Aside0.mk hb5; clear hR5 hb5 hg5 hat5)
                go_roundw
                case rel => exact ⟨j + 1, _, hlt, by go_num, HR5.out, HB5.out, HE0.out, HML.out, HBD2.out⟩
                case measure => simp [intOf]; omega
            · obtain ⟨Ao, co, rfl⟩ := Kd.R_slice HRo.out
              have o1 : decide (0 < (out.length : Int)) = false := decide_eq_false (by omega)
              have o2 : decide (0 < out.length) = false := decide_eq_false ho
              have EQ : Aside0 (mkF true cc (dd - 1) out = out ++ [⟨cc, (dd - 1)⟩]) := ⟨by
                unfold mkF
                rw [if_pos rfl, if_neg (fun q => ho q.1)]⟩
              go_wp2_with fail
              go_quiet (fail)
              go_wp2_with ((with_reducible refine gate_builtin (b := .append) (xs := #[.tmp 104, .tmp 111]) rfl ?_); at_builtin; refine Kd.R_append k34 (w0 := W1) W1.heap.size rfl (.tmp 104) (.tmp 111) 22 34 (.agg #[.int .i64 0, .int .i64 0]) 16 rfl Try.underlying22 info34 rfl (by decide) (by omega) _ out ⟨cc, (dd - 1)⟩ [.int .i64 cc, .int .i64 (dd - 1)] (fun _ => True) (fun _ => False) rfl rfl ?aP (fun _ hk => hk.elim) ?aF ?aO ?aB ?aS ?aL ?_; (case aP => exact k34_mkM _ _ _ ⟨cc, (dd - 1)⟩); (case aF => exact fun _ _ => trivial); (case aO => (repeat (first | exact HRo.out | refine Kd.R_drewN ?_ _))); (case aB => (repeat (first | exact HB1.out | refine pw_below_drewN ?_ _))); (case aS => exact HB1.out.size); (case aL => omega); intro v5 w5 hR5 hb5 hg5 hat5; rw [← EQ.out] at hR5; have HR5 := Aside0.mk hR5; have HB5 := Aside0.mk hb5; clear hR5 hb5 hg5 hat5)
              go_roundw
              case rel => exact ⟨j + 1, _, hlt, by go_num, HR5.out, HB5.out, HE0.out, HML.out, HBD2.out⟩
              case measure => simp [intOf]; omega
          · have n1 : decide ((j : Int) + 1 < (es.length : Int)) = false := decide_eq_false (by omega)
            have n2 : decide (j + 1 < es.length) = false := decide_eq_false hn
            have HE0 : Aside0 (madeRun rbK l0 l1 (es.drop (j + 1)) (mkF true cc 1114111 out) = fin) := ⟨by
              have := HRUN.out
              rw [KP.out, if_neg hn] at this
              exact this⟩
            have hml := mkF_len true cc 1114111 out
            have HML : Aside0 ((mkF true cc 1114111 out).length ≤ j + 1) := ⟨by omega⟩
            have HBD2 : Aside0 (Bd (mkF true cc 1114111 out)) := ⟨HBD.out.mk (by omega)⟩
            clear hml
            by_cases ho : 0 < out.length
            · obtain ⟨g, co, rfl, hgb⟩ := R_place HRo.out ho
              have hlb := HBD.out.last ho
              obtain ⟨cs, hcl, hcM, hcc, hcf⟩ := Kd.R_elem HRo.out z34 ((out.length : Int) - 1) (by omega) (by omega)
              obtain rfl := k34_openM hcM
              have hi1 : ((out.length : Int) - 1).toNat = out.length - 1 := by omega
              have y1 : wr.cell? ⟨g, (out.length - 1) * 2 + 1, none⟩ = some (.int .i64 (rd_T34 out ((out.length : Int) - 1)).f1) := by
                have := hcc 1 _ rfl
                rw [hi1] at this
                unfold rd_T34
                rw [hi1]
                exact this
              have z1 : wr.frozen? ⟨g, (out.length - 1) * 2 + 1, none⟩ = false := by
                have := hcf 1
                rw [hi1] at this
                exact this
              have o1 : decide (0 < (out.length : Int)) = true := decide_eq_true (by omega)
              have o2 : decide (0 < out.length) = true := decide_eq_true ho
              have o3 : IntKind.i64.wrap ((out.length : Int) - 1) = (out.length : Int) - 1 := IntWalk.i64_in _ (by omega)
              have o4 : 0 ≤ (out.length : Int) - 1 := by omega
              have o5 : (out.length : Int) - 1 < (out.length : Int) := by omega
              clear hcc hcf hcM hcl
              obtain ⟨lh, hlh⟩ : ∃ lh, lh = (rd_T34 out ((out.length : Int) - 1)).f1 := ⟨_, rfl⟩
              rw [← hlh] at y1 hlb
              have HLH := Aside0.mk hlh
              clear hlh
              have o6 : IntKind.i64.wrap (lh + 1) = lh + 1 := IntWalk.i64_in _ (by omega)
              by_cases hjn : lh + 1 = cc
              · have o7 : ((lh + 1) == cc) = true := beq_iff_eq.2 hjn
                have EQ : Aside0 (mkF true cc 1114111 out = out.set (out.length - 1) ⟨(rd_T34 out ((out.length : Int) - 1)).f0, 1114111⟩) := ⟨by
                  unfold mkF
                  rw [if_pos rfl, if_pos ⟨ho, by rw [← HLH.out]; exact hjn⟩]⟩
                have RST : Aside0 (∀ W : World, Kd.R k34 34 W W1.heap.size (fun _ => True) (.slice (some ⟨g, 0, none⟩) out.length co) out → Kd.R k34 34 (W.setCell ⟨g, (out.length - 1) * 2 + 1, none⟩ (.int .i64 1114111)) W1.heap.size (fun _ => True) (.slice (some ⟨g, 0, none⟩) out.length co) (mkF true cc 1114111 out)) := ⟨fun W h => by rw [EQ.out]; exact R_last h ho _⟩
                clear hjn
                go_wp2_with fail
                go_quiet (fail)
                go_wp2_with fail
                go_roundw
                case rel => exact ⟨j + 1, _, hlt, by go_num, RST.out _ (by repeat (first | exact HRo.out | refine Kd.R_drewN ?_ _)), Below.setCell (by repeat (first | exact HB1.out | refine pw_below_drewN ?_ _)) hgb _, HE0.out, HML.out, HBD2.out⟩
                case measure => simp [intOf]; omega
              · have o7 : ((lh + 1) == cc) = false := beq_eq_false_iff_ne.2 hjn
                have EQ : Aside0 (mkF true cc 1114111 out = out ++ [⟨cc, 1114111⟩]) := ⟨by
                  unfold mkF
                  rw [if_pos rfl, if_neg (fun q => hjn (by rw [HLH.out]; exact q.2))]⟩
                clear hjn
                go_wp2_with fail
                go_quiet (fail)
                go_wp2_with ((with_reducible refine gate_builtin (b := .append) (xs := #[.tmp 104, .tmp 111]) rfl ?_); at_builtin; refine Kd.R_append k34 (w0 := W1) W1.heap.size rfl (.tmp 104) (.tmp 111) 22 34 (.agg #[.int .i64 0, .int .i64 0]) 16 rfl Try.underlying22 info34 rfl (by decide) (by omega) _ out ⟨cc, 1114111⟩ [.int .i64 cc, .int .i64 1114111] (fun _ => True) (fun _ => False) rfl rfl ?aP (fun _ hk => hk.elim) ?aF ?aO ?aB ?aS ?aL ?_; (case aP => exact k34_mkM _ _ _ ⟨cc, 1114111⟩); (case aF => exact fun _ _ => trivial); (case aO => (repeat (first | exact HRo.out | refine Kd.R_drewN ?_ _))); (case aB => (repeat (first | exact HB1.out | refine pw_below_drewN ?_ _))); (case aS => exact HB1.out.size); (case aL => omega); intro v5 w5 hR5 hb5 hg5 hat5; rw [← EQ.out] at hR5; have HR5 := Aside0.mk hR5; have HB5 := Aside0.mk hb5; clear hR5 hb5 hg5 hat5)
                go_roundw
                case rel => exact ⟨j + 1, _, hlt, by go_num, HR5.out, HB5.out, HE0.out, HML.out, HBD2.out⟩
                case measure => simp [intOf]; omega
            · obtain ⟨Ao, co, rfl⟩ := Kd.R_slice HRo.out
              have o1 : decide (0 < (out.length : Int)) = false := decide_eq_false (by omega)
              have o2 : decide (0 < out.length) = false := decide_eq_false ho
              have EQ : Aside0 (mkF true cc 1114111 out = out ++ [⟨cc, 1114111⟩]) := ⟨by
                unfold mkF
                rw [if_pos rfl, if_neg (fun q => ho q.1)]⟩
              go_wp2_with fail
              go_quiet (fail)
              go_wp2_with ((with_reducible refine gate_builtin (b := .append) (xs := #[.tmp 104, .tmp 111]) rfl ?_); at_builtin; refine Kd.R_append k34 (w0 := W1) W1.heap.size rfl (.tmp 104) (.tmp 111) 22 34 (.agg #[.int .i64 0, .int .i64 0]) 16 rfl Try.underlying22 info34 rfl (by decide) (by omega) _ out ⟨cc, 1114111⟩ [.int .i64 cc, .int .i64 1114111] (fun _ => True) (fun _ => False) rfl rfl ?aP (fun _ hk => hk.elim) ?aF ?aO ?aB ?aS ?aL ?_; (case aP => exact k34_mkM _ _ _ ⟨cc, 1114111⟩); (case aF => exact fun _ _ => trivial); (case aO => (repeat (first | exact HRo.out | refine Kd.R_drewN ?_ _))); (case aB => (repeat (first | exact HB1.out | refine pw_below_drewN ?_ _))); (case aS => exact HB1.out.size); (case aL => omega); intro v5 w5 hR5 hb5 hg5 hat5; rw [← EQ.out] at hR5; have HR5 := Aside0.mk hR5; have HB5 := Aside0.mk hb5; clear hR5 hb5 hg5 hat5)
              go_roundw
              case rel => exact ⟨j + 1, _, hlt, by go_num, HR5.out, HB5.out, HE0.out, HML.out, HBD2.out⟩
              case measure => simp [intOf]; omega
      | false =>
        cases hy : hasF l1 cc with
        | true =>
          have KP : Aside0 (rbK (hasF l0 cc) (hasF l1 cc) = false) := ⟨by rw [hx, hy, hrb.out]; rfl⟩
          have HA : Aside0 (∀ W, Kd.C k34 W A0 l0.length l0 → Calls Try.prog 25 #[.slice A0 l0.length c0, .int .i64 cc] W fun e w' => e = .returned (.bool false) ∧ Drawn0 W w') := ⟨fun W h => by rw [← hx]; exact P.ref_has_calls A0 c0 l0 cc W h HC0.out⟩
          have HBh : Aside0 (∀ W, Kd.C k34 W A1 l1.length l1 → Calls Try.prog 25 #[.slice A1 l1.length c1, .int .i64 cc] W fun e w' => e = .returned (.bool true) ∧ Drawn0 W w') := ⟨fun W h => by rw [← hy]; exact P.ref_has_calls A1 c1 l1 cc W h HC1.out⟩
          clear hx hy
          go_wp2_with fail
          go_quiet ((go_at_call 25; first | ((with_reducible refine (HA.out _ (Kd.C_drewN CA.out _)).mono ?_); rintro e w' ⟨rfl, ⟨nd, rfl⟩⟩; (first | exact ⟨rfl, _, rfl⟩ | exact ⟨rfl, _, World.drewN_drewN _ _ _⟩ | exact ⟨rfl, _, Eq.trans (World.drewN_drewN _ _ _) (congrArg (World.drewN _) (Nat.add_assoc _ _ _))⟩)) | ((with_reducible refine (HA.out _ CA.out).mono ?_); rintro e w' ⟨rfl, ⟨nd, rfl⟩⟩; (first | exact ⟨rfl, _, rfl⟩ | exact ⟨rfl, _, World.drewN_drewN _ _ _⟩ | exact ⟨rfl, _, Eq.trans (World.drewN_drewN _ _ _) (congrArg (World.drewN _) (Nat.add_assoc _ _ _))⟩)) | ((with_reducible refine (HBh.out _ (Kd.C_drewN CB.out _)).mono ?_); rintro e w' ⟨rfl, ⟨nd, rfl⟩⟩; (first | exact ⟨rfl, _, rfl⟩ | exact ⟨rfl, _, World.drewN_drewN _ _ _⟩ | exact ⟨rfl, _, Eq.trans (World.drewN_drewN _ _ _) (congrArg (World.drewN _) (Nat.add_assoc _ _ _))⟩)) | ((with_reducible refine (HBh.out _ CB.out).mono ?_); rintro e w' ⟨rfl, ⟨nd, rfl⟩⟩; (first | exact ⟨rfl, _, rfl⟩ | exact ⟨rfl, _, World.drewN_drewN _ _ _⟩ | exact ⟨rfl, _, Eq.trans (World.drewN_drewN _ _ _) (congrArg (World.drewN _) (Nat.add_assoc _ _ _))⟩))))
          clear HA HBh
          have HE0 : Aside0 (madeRun rbK l0 l1 (es.drop (j + 1)) out = fin) := ⟨by
            have := HRUN.out
            rw [KP.out] at this
            exact this⟩
          go_wp2_with fail
          go_roundw
          case rel => exact ⟨j + 1, _, hlt, by go_num, Kd.R_drewN HRo.out _, pw_below_drewN HB1.out _, HE0.out, by omega, HBD.out⟩
          case measure => simp [intOf]; omega
        | false =>
          have KP : Aside0 (rbK (hasF l0 cc) (hasF l1 cc) = false) := ⟨by rw [hx, hy, hrb.out]; rfl⟩
          have HA : Aside0 (∀ W, Kd.C k34 W A0 l0.length l0 → Calls Try.prog 25 #[.slice A0 l0.length c0, .int .i64 cc] W fun e w' => e = .returned (.bool false) ∧ Drawn0 W w') := ⟨fun W h => by rw [← hx]; exact P.ref_has_calls A0 c0 l0 cc W h HC0.out⟩
          have HBh : Aside0 (∀ W, Kd.C k34 W A1 l1.length l1 → Calls Try.prog 25 #[.slice A1 l1.length c1, .int .i64 cc] W fun e w' => e = .returned (.bool false) ∧ Drawn0 W w') := ⟨fun W h => by rw [← hy]; exact P.ref_has_calls A1 c1 l1 cc W h HC1.out⟩
          clear hx hy
          go_wp2_with fail
          go_quiet ((go_at_call 25; first | ((with_reducible refine (HA.out _ (Kd.C_drewN CA.out _)).mono ?_); rintro e w' ⟨rfl, ⟨nd, rfl⟩⟩; (first | exact ⟨rfl, _, rfl⟩ | exact ⟨rfl, _, World.drewN_drewN _ _ _⟩ | exact ⟨rfl, _, Eq.trans (World.drewN_drewN _ _ _) (congrArg (World.drewN _) (Nat.add_assoc _ _ _))⟩)) | ((with_reducible refine (HA.out _ CA.out).mono ?_); rintro e w' ⟨rfl, ⟨nd, rfl⟩⟩; (first | exact ⟨rfl, _, rfl⟩ | exact ⟨rfl, _, World.drewN_drewN _ _ _⟩ | exact ⟨rfl, _, Eq.trans (World.drewN_drewN _ _ _) (congrArg (World.drewN _) (Nat.add_assoc _ _ _))⟩)) | ((with_reducible refine (HBh.out _ (Kd.C_drewN CB.out _)).mono ?_); rintro e w' ⟨rfl, ⟨nd, rfl⟩⟩; (first | exact ⟨rfl, _, rfl⟩ | exact ⟨rfl, _, World.drewN_drewN _ _ _⟩ | exact ⟨rfl, _, Eq.trans (World.drewN_drewN _ _ _) (congrArg (World.drewN _) (Nat.add_assoc _ _ _))⟩)) | ((with_reducible refine (HBh.out _ CB.out).mono ?_); rintro e w' ⟨rfl, ⟨nd, rfl⟩⟩; (first | exact ⟨rfl, _, rfl⟩ | exact ⟨rfl, _, World.drewN_drewN _ _ _⟩ | exact ⟨rfl, _, Eq.trans (World.drewN_drewN _ _ _) (congrArg (World.drewN _) (Nat.add_assoc _ _ _))⟩))))
          clear HA HBh
          have HE0 : Aside0 (madeRun rbK l0 l1 (es.drop (j + 1)) out = fin) := ⟨by
            have := HRUN.out
            rw [KP.out] at this
            exact this⟩
          go_wp2_with fail
          go_roundw
          case rel => exact ⟨j + 1, _, hlt, by go_num, Kd.R_drewN HRo.out _, pw_below_drewN HB1.out _, HE0.out, by omega, HBD.out⟩
          case measure => simp [intOf]; omega
    · have b1 : decide ((j : Int) < (es.length : Int)) = false := decide_eq_false (by omega)
      have b2 : decide (j < es.length) = false := decide_eq_false hlt
      have HF : Aside0 (out = fin) := ⟨by rw [List.drop_eq_nil_iff.2 (by omega)] at hrun; exact hrun⟩
      clear hrun
      go_wp2_with fail
      go_ret
      exact ⟨_, rfl, by rw [← HFIN.out, ← HF.out]; exact Kd.R_lower HRo.out HB01.out.size, HB01.out.trans (HB1.out.mono HB01.out.size)⟩
end Go.Proofs.Ytippkbgeeeimjaa.L
