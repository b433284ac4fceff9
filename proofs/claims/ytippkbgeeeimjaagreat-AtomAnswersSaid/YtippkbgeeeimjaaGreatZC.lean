/- The reference's sets. -/
import Derived.Test.YtippkbgeeeimjaaGreatZB
import Derived.Test.YtippkbgeeeimjaaGreatProg
import Derived.Below
import Derived.Deep.Draws
import Derived.Deep.AppendLies
import Derived.Maps.AppendAt
import Derived.OwnWalk
import Derived.Laws.BytesArg
import Derived.Laws.MakeOwn
import Derived.Laws.OwnMore
import Derived.Deep.OwnRows
import Derived.Tactics
import Derived.Lib.ConvBytes
import Derived.Laws.Slices
import Derived.WalkKit
import Derived.KernelRfl
import Derived.RowKit3
import Derived.Deep.LoopGhost
import Derived.Deep.QuietTactic
import Derived.BigQuiet
import Derived.WideLaws
import Derived.Deep.DeepCutAuto
import Derived.Deep.CutBlock
import Derived.Deep.RegionHeld3
import Derived.Laws.Rows
import Derived.Lib.AppendStr
import Derived.ArgAppend
import Derived.Laws.IdiomCopy
import Derived.OrdersHeld
import Derived.Laws.BitsLemmas
import Derived.RowKit
import Derived.Test.YtippkbgeeeimjaaGreatZW
/- caesuraref01.made: what it makes of two sets. -/
namespace Go.Proofs.YtippkbgeeeimjaaGreat.L
open Go.RowKit Go.Proofs.YtippkbgeeeimjaaGreatW.PrintWords Go.Proofs.YtippkbgeeeimjaaGreatW.PrintLast Go.Proofs.YtippkbgeeeimjaaGreatW.PrintMore Go.Proofs.YtippkbgeeeimjaaGreat.A
set_option linter.unusedVariables false
set_option linter.unusedSimpArgs false
def mkF (keep : Bool) (c tt : Int) (xs : List S38) : List S38 :=
  if keep = true then (if 0 < xs.length ∧ (rd_T38 xs ((xs.length : Int) - 1)).f1 + 1 = c then xs.set (xs.length - 1) ⟨(rd_T38 xs ((xs.length : Int) - 1)).f0, tt⟩ else xs ++ [⟨c, tt⟩]) else xs
def nextE : List Int → Int
  | [] => 1114111
  | d :: _ => d - 1
def madeRun (rb : Bool → Bool → Bool) (a b : List S38) : List Int → List S38 → List S38
  | [], out => out
  | c :: rest, out => madeRun rb a b rest (mkF (rb (hasF a c) (hasF b c)) c (nextE rest) out)
theorem mkF_len (k : Bool) (c tt : Int) (xs : List S38) : (mkF k c tt xs).length ≤ xs.length + 1 := by
  unfold mkF
  split
  · split <;> simp
  · omega
theorem run_step (rb : Bool → Bool → Bool) (a b : List S38) (es : List Int) (j : Nat) (out : List S38) (h : j < es.length) : madeRun rb a b (es.drop j) out = madeRun rb a b (es.drop (j + 1)) (mkF (rb (hasF a (rd es j)) (hasF b (rd es j))) (rd es j) (if j + 1 < es.length then rd es ((j : Int) + 1) - 1 else 1114111) out) := by
  have e : rd es (j : Int) = es[j] := by
    unfold rd
    rw [Int.toNat_natCast, List.getD_eq_getElem?_getD, List.getElem?_eq_getElem h]
    rfl
  rw [List.drop_eq_getElem_cons h, e, madeRun]
  congr 2
  by_cases hn : j + 1 < es.length
  · have e2 : rd es ((j : Int) + 1) = es[j + 1] := by
      unfold rd
      rw [show ((j : Int) + 1).toNat = j + 1 from by omega, List.getD_eq_getElem?_getD, List.getElem?_eq_getElem hn]
      rfl
    rw [if_pos hn, List.drop_eq_getElem_cons hn, e2]
    rfl
  · rw [if_neg hn, List.drop_eq_nil_iff.2 (by omega)]
    rfl
/-- The last range's end is written. -/
theorem R_last {w : World} {base g c : Nat} {xs : List S38} (h : Kd.R k38 38 w base (fun _ => True) (.slice (some ⟨g, 0, none⟩) xs.length c) xs) (hn : 0 < xs.length) (u : Int) :
    Kd.R k38 38 (w.setCell ⟨g, (xs.length - 1) * 2 + 1, none⟩ (.int .i64 u)) base (fun _ => True) (.slice (some ⟨g, 0, none⟩) xs.length c) (xs.set (xs.length - 1) ⟨(rd_T38 xs ((xs.length : Int) - 1)).f0, u⟩) := by
  obtain ⟨cs, hcl, hcM, hcc, hcf⟩ := Kd.R_elem h z38 ((xs.length : Int) - 1) (by omega) (by omega)
  obtain rfl := k38_openM hcM
  have hi : ((xs.length : Int) - 1).toNat = xs.length - 1 := by omega
  have hs : k38.sz = 2 := rfl
  have hfin := Kd.R_seg h ((xs.length : Int) - 1) (by omega) (by omega) hcl hcc (seg := [.int .i64 u]) (j := 1) (by rw [hs]; simp) (x' := ⟨(rd_T38 xs ((xs.length : Int) - 1)).f0, u⟩) (okp := fun _ => False) (k38_mkM w base _ ⟨(rd_T38 xs ((xs.length : Int) - 1)).f0, u⟩) (fun _ hk => hk.elim)
  rw [hi, hs] at hfin
  exact hfin.1
theorem C_sets {W : World} {g : Nat} {A0 A1 : Option Addr} {c0 c1 : Nat} {l0 l1 : List S38} (hb : W.heap[g]? = some (.cells #[.slice A0 l0.length c0, .slice A1 l1.length c1] 23 (0, 0))) (h0 : Kd.C k38 W A0 l0.length l0) (hc0 : l0.length ≤ c0) (h1 : Kd.C k38 W A1 l1.length l1) (hc1 : l1.length ≤ c1) : Kd.C (Kd.slice 38 k38) W (some ⟨g, 0, none⟩) 2 [l0, l1] := by
  refine C_box (xs := [l0, l1]) (inner := [.slice A0 l0.length c0, .slice A1 l1.length c1]) hb ⟨rfl, fun j p hj => ?_⟩ (by simp)
  match j, hj with
  | 0, hj =>
    obtain rfl : l0 = p := by simpa using hj
    exact ⟨A0, c0, rfl, hc0, h0⟩
  | 1, hj =>
    obtain rfl : l1 = p := by simpa using hj
    exact ⟨A1, c1, rfl, hc1, h1⟩
  | j + 2, hj => simp at hj
def Bd (out : List S38) : Prop := ∀ r ∈ out, -1 ≤ r.f1 ∧ r.f1 ≤ 1114111
theorem Bd.mk {out : List S38} (h : Bd out) {k : Bool} {c tt : Int} (ht : -1 ≤ tt ∧ tt ≤ 1114111) : Bd (mkF k c tt out) := by
  unfold mkF
  split
  · split
    · intro r hr
      rcases List.mem_or_eq_of_mem_set hr with hr | rfl
      · exact h r hr
      · exact ht
    · intro r hr
      rcases List.mem_append.1 hr with hr | hr
      · exact h r hr
      · rw [List.mem_singleton] at hr
        subst hr
        exact ht
  · exact h
theorem Bd.last {out : List S38} (h : Bd out) (hn : 0 < out.length) : -1 ≤ (rd_T38 out ((out.length : Int) - 1)).f1 ∧ (rd_T38 out ((out.length : Int) - 1)).f1 ≤ 1114111 := by
  refine h _ ?_
  unfold rd_T38
  rw [show ((out.length : Int) - 1).toNat = out.length - 1 from by omega, List.getD_eq_getElem?_getD, List.getElem?_eq_getElem (by omega)]
  exact List.getElem_mem _
def Lm (rb : Bool → Bool → Bool) (W1 : World) (a b : List S38) (es : List Int) (fin : List S38) (t7 t9 : Value) (W : World) : Prop := ∃ (j : Nat) (out : List S38), j ≤ es.length ∧ t9 = .int .i64 j ∧ Kd.R k38 38 W W1.heap.size (fun _ => True) t7 out ∧ Below W1.heap.size W1 W ∧ madeRun rb a b (es.drop j) out = fin ∧ out.length ≤ j ∧ Bd out
set_option maxHeartbeats 32000000 in
set_option maxRecDepth 100000 in
theorem made_or (A0 : Option Addr) (c0 : Nat) (l0 : List S38) (A1 : Option Addr) (c1 : Nat) (l1 : List S38) (w : World) (hr0 : Kd.C k38 w A0 l0.length l0) (hc0 : l0.length ≤ c0) (hr1 : Kd.C k38 w A1 l1.length l1) (hc1 : l1.length ≤ c1)
    (hes : ∀ i, 0 ≤ i → i < ((edgesF [l0, l1]).length : Int) → 0 ≤ rd (edgesF [l0, l1]) i ∧ rd (edgesF [l0, l1]) i ≤ 1114111) :
    Calls Tryz.prog 57 #[.slice A0 l0.length c0, .slice A1 l1.length c1, .int .i64 0] w fun e w' => ∃ v, e = .returned v ∧ Kd.R k38 38 w' w.heap.size (fun _ => True) v (madeRun (fun x y => x || y) l0 l1 (edgesF [l0, l1]) []) ∧ Below w.heap.size w w' := by
  obtain ⟨rbK, hrb'⟩ : ∃ rbK : Bool → Bool → Bool, rbK = (fun x y => x || y) := ⟨_, rfl⟩
  rw [← hrb']
  have hrb := Aside0.mk hrb'
  have HR0 := Aside0.mk hr0
  have HR1 := Aside0.mk hr1
  have HC0 := Aside0.mk hc0
  have HC1 := Aside0.mk hc1
  have hel := edgesF_len [l0, l1]
  have hel2 : (edgesF [l0, l1]).length ≤ 1601 := hel
  obtain ⟨es, hesq⟩ : ∃ es, es = edgesF [l0, l1] := ⟨_, rfl⟩
  rw [← hesq] at hes hel2 ⊢
  have HES := Aside0.mk hes
  have HEQ := Aside0.mk hesq
  clear hr0 hr1 hc0 hc1 hrb' hel hes hesq
  go_enter Tryz.func57, Tryz.ntmps57
  go_wp2_with fail
  obtain ⟨W0, hW0⟩ : ∃ W0, W0 = w.alloc (.cells #[.slice A0 l0.length c0, .slice A1 l1.length c1] 23) := ⟨_, rfl⟩
  have X0 : W0.heap[w.heap.size]? = some (.cells #[.slice A0 l0.length c0, .slice A1 l1.length c1] 23 (0, 0)) := by rw [hW0]; exact blk_new _ _
  have B0 : Below w.heap.size w W0 := by rw [hW0]; exact below_alloc (Below.refl _ _) _
  rw [← hW0]
  clear hW0
  have hE := edges_calls (some ⟨w.heap.size, 0, none⟩) 2 [l0, l1] W0 (C_sets X0 (Kd.C_below HR0.out B0) HC0.out (Kd.C_below HR1.out B0) HC1.out) (Nat.le_refl _) (by simp)
  rw [← HEQ.out] at hE
  have hE' : Calls Tryz.prog 25 #[.slice (some ⟨w.heap.size, 0, none⟩) 2 2] W0 (fun e w' => ∃ v, e = .returned v ∧ Kd.R (Kd.int .i64) 3 w' W0.heap.size (fun _ => True) v es ∧ Below W0.heap.size W0 w') := hE
  have HEE := Aside0.mk hE'
  have HB0 := Aside0.mk B0
  clear hE hE' B0 X0 HEQ
  refine HEE.out.mono ?_
  rintro e W1 ⟨ve, rfl, rE, bE⟩
  obtain ⟨Ae, ce, rfl⟩ := Kd.R_slice rE
  have HEC := Aside0.mk (Kd.R_reads' rE).2.2
  have HB01 := Aside0.mk (HB0.out.trans (bE.mono HB0.out.size))
  have CA0 := Aside0.mk (Kd.C_below HR0.out HB01.out)
  have CB0 := Aside0.mk (Kd.C_below HR1.out HB01.out)
  obtain ⟨fin, hfin⟩ : ∃ fin, fin = madeRun rbK l0 l1 es [] := ⟨_, rfl⟩
  have HFIN := Aside0.mk hfin
  clear rE bE hfin HEE HB0
  go_wp2_with fail
  go_loopw [7, 9] (fun t7 t9 W => Lm rbK W1 l0 l1 es fin t7 t9 W) (fun _ t9 _ => es.length - (intOf t9).toNat)
  case atStart => exact ⟨0, [], Nat.zero_le _, rfl, Kd.R_nil _ _ _ _ _, Below.refl _ _, HFIN.out.symm, Nat.le_refl _, (fun r hr => by cases hr)⟩
  case round =>
    obtain ⟨j, out, hj, rfl, hR, hB, hrun, hol, hbd⟩ := hrel
    have HRo := Aside0.mk hR
    have HB1 := Aside0.mk hB
    have HBD := Aside0.mk hbd
    clear hR hB hbd
    by_cases hlt : j < es.length
    · rw [run_step rbK l0 l1 es j out hlt] at hrun
      have HRUN := Aside0.mk hrun
      clear hrun
      have b1 : decide ((j : Int) < (es.length : Int)) = true := decide_eq_true (by omega)
      have b2 : decide (j < es.length) = true := decide_eq_true hlt
      have q0 : 0 ≤ (j : Int) := by omega
      have q1 : (j : Int) < (es.length : Int) := by omega
      have w2 : IntKind.i64.wrap ((j : Int) + 1) = (j : Int) + 1 := IntWalk.i64_in _ (by omega)
      obtain ⟨ad, rfl, k1⟩ := Kd.at_int (Kd.C_below HEC.out HB1.out) (j : Int) (by omega) (by omega)
      rw [Int.toNat_natCast] at k1
      have hcb := HES.out _ q0 q1
      obtain ⟨cc, hcc0⟩ : ∃ cc, cc = rd es (j : Int) := ⟨_, rfl⟩
      rw [← hcc0] at k1 HRUN hcb
      clear hcc0
      have CA := Aside0.mk (Kd.C_below CA0.out HB1.out)
      have CB := Aside0.mk (Kd.C_below CB0.out HB1.out)
      cases hx : hasF l0 cc with
      | true =>
        cases hy : hasF l1 cc with
        | true =>
          have KP : Aside0 (rbK (hasF l0 cc) (hasF l1 cc) = true) := ⟨by rw [hx, hy, hrb.out]; rfl⟩
          have HA : Aside0 (∀ W, Kd.C k38 W A0 l0.length l0 → Calls Tryz.prog 32 #[.slice A0 l0.length c0, .int .i64 cc] W fun e w' => e = .returned (.bool true) ∧ Drawn0 W w') := ⟨fun W h => by rw [← hx]; exact P.ref_has_calls A0 c0 l0 cc W h HC0.out⟩
          have HBh : Aside0 (∀ W, Kd.C k38 W A1 l1.length l1 → Calls Tryz.prog 32 #[.slice A1 l1.length c1, .int .i64 cc] W fun e w' => e = .returned (.bool true) ∧ Drawn0 W w') := ⟨fun W h => by rw [← hy]; exact P.ref_has_calls A1 c1 l1 cc W h HC1.out⟩
          clear hx hy
          go_wp2_with fail
          go_quiet ((go_at_call 32; first | ((with_reducible refine (HA.out _ (Kd.C_drewN CA.out _)).mono ?_); rintro e w' ⟨rfl, ⟨nd, rfl⟩⟩; (first | exact ⟨rfl, _, rfl⟩ | exact ⟨rfl, _, World.drewN_drewN _ _ _⟩ | exact ⟨rfl, _, Eq.trans (World.drewN_drewN _ _ _) (congrArg (World.drewN _) (Nat.add_assoc _ _ _))⟩)) | ((with_reducible refine (HA.out _ CA.out).mono ?_); rintro e w' ⟨rfl, ⟨nd, rfl⟩⟩; (first | exact ⟨rfl, _, rfl⟩ | exact ⟨rfl, _, World.drewN_drewN _ _ _⟩ | exact ⟨rfl, _, Eq.trans (World.drewN_drewN _ _ _) (congrArg (World.drewN _) (Nat.add_assoc _ _ _))⟩)) | ((with_reducible refine (HBh.out _ (Kd.C_drewN CB.out _)).mono ?_); rintro e w' ⟨rfl, ⟨nd, rfl⟩⟩; (first | exact ⟨rfl, _, rfl⟩ | exact ⟨rfl, _, World.drewN_drewN _ _ _⟩ | exact ⟨rfl, _, Eq.trans (World.drewN_drewN _ _ _) (congrArg (World.drewN _) (Nat.add_assoc _ _ _))⟩)) | ((with_reducible refine (HBh.out _ CB.out).mono ?_); rintro e w' ⟨rfl, ⟨nd, rfl⟩⟩; (first | exact ⟨rfl, _, rfl⟩ | exact ⟨rfl, _, World.drewN_drewN _ _ _⟩ | exact ⟨rfl, _, Eq.trans (World.drewN_drewN _ _ _) (congrArg (World.drewN _) (Nat.add_assoc _ _ _))⟩))))
          clear HA HBh
          by_cases hn : j + 1 < es.length
          · have n1 : decide ((j : Int) + 1 < (es.length : Int)) = true := decide_eq_true (by omega)
            have n2 : decide (j + 1 < es.length) = true := decide_eq_true hn
            have n3 : 0 ≤ (j : Int) + 1 := by omega
            have n4 : (j : Int) + 1 < (es.length : Int) := by omega
            obtain ⟨ad2, ea2, k2⟩ := Kd.at_int (Kd.C_below HEC.out HB1.out) ((j : Int) + 1) (by omega) (by omega)
            injection ea2 with ea2
            subst ea2
            rw [show ((j : Int) + 1).toNat = j + 1 from by omega] at k2
            have hdb := HES.out _ n3 n4
            obtain ⟨dd, hdd⟩ : ∃ dd, dd = rd es ((j : Int) + 1) := ⟨_, rfl⟩
            rw [← hdd] at k2 HRUN hdb
            clear hdd
            have n5 : IntKind.i64.wrap (dd - 1) = dd - 1 := IntWalk.i64_in _ (by omega)
            have k3 : wr.cell? ⟨ad.block, ad.off + (j + 1), none⟩ = some (.int .i64 dd) := by rw [← k2]; congr 1
            have HE0 : Aside0 (madeRun rbK l0 l1 (es.drop (j + 1)) (mkF true cc (dd - 1) out) = fin) := ⟨by
              have := HRUN.out
              rw [KP.out, if_pos hn] at this
              exact this⟩
            have hml := mkF_len true cc (dd - 1) out
            have HML : Aside0 ((mkF true cc (dd - 1) out).length ≤ j + 1) := ⟨by omega⟩
            have HBD2 : Aside0 (Bd (mkF true cc (dd - 1) out)) := ⟨HBD.out.mk (by omega)⟩
            clear hml
            by_cases ho : 0 < out.length
            · obtain ⟨g, co, rfl, hgb⟩ := R_place HRo.out ho
              have hlb := HBD.out.last ho
              obtain ⟨cs, hcl, hcM, hcc, hcf⟩ := Kd.R_elem HRo.out z38 ((out.length : Int) - 1) (by omega) (by omega)
              obtain rfl := k38_openM hcM
              have hi1 : ((out.length : Int) - 1).toNat = out.length - 1 := by omega
              have y1 : wr.cell? ⟨g, (out.length - 1) * 2 + 1, none⟩ = some (.int .i64 (rd_T38 out ((out.length : Int) - 1)).f1) := by
                have := hcc 1 _ rfl
                rw [hi1] at this
                unfold rd_T38
                rw [hi1]
                exact this
              have z1 : wr.frozen? ⟨g, (out.length - 1) * 2 + 1, none⟩ = false := by
                have := hcf 1
                rw [hi1] at this
                exact this
              have o1 : decide (0 < (out.length : Int)) = true := decide_eq_true (by omega)
              have o2 : decide (0 < out.length) = true := decide_eq_true ho
              have o3 : IntKind.i64.wrap ((out.length : Int) - 1) = (out.length : Int) - 1 := IntWalk.i64_in _ (by omega)
              have o4 : 0 ≤ (out.length : Int) - 1 := by omega
              have o5 : (out.length : Int) - 1 < (out.length : Int) := by omega
              clear hcc hcf hcM hcl
              obtain ⟨lh, hlh⟩ : ∃ lh, lh = (rd_T38 out ((out.length : Int) - 1)).f1 := ⟨_, rfl⟩
              rw [← hlh] at y1 hlb
              have HLH := Aside0.mk hlh
              clear hlh
              have o6 : IntKind.i64.wrap (lh + 1) = lh + 1 := IntWalk.i64_in _ (by omega)
              by_cases hjn : lh + 1 = cc
              · have o7 : ((lh + 1) == cc) = true := beq_iff_eq.2 hjn
                have EQ : Aside0 (mkF true cc (dd - 1) out = out.set (out.length - 1) ⟨(rd_T38 out ((out.length : Int) - 1)).f0, (dd - 1)⟩) := ⟨by
                  unfold mkF
                  rw [if_pos rfl, if_pos ⟨ho, by rw [← HLH.out]; exact hjn⟩]⟩
                have RST : Aside0 (∀ W : World, Kd.R k38 38 W W1.heap.size (fun _ => True) (.slice (some ⟨g, 0, none⟩) out.length co) out → Kd.R k38 38 (W.setCell ⟨g, (out.length - 1) * 2 + 1, none⟩ (.int .i64 (dd - 1))) W1.heap.size (fun _ => True) (.slice (some ⟨g, 0, none⟩) out.length co) (mkF true cc (dd - 1) out)) := ⟨fun W h => by rw [EQ.out]; exact R_last h ho _⟩
                clear hjn
                go_wp2_with fail
                go_quiet (fail)
                go_wp2_with fail
                go_roundw
                case rel => exact ⟨j + 1, _, hlt, by go_num, RST.out _ (by repeat (first | exact HRo.out | refine Kd.R_drewN ?_ _)), Below.setCell (by repeat (first | exact HB1.out | refine pw_below_drewN ?_ _)) hgb _, HE0.out, HML.out, HBD2.out⟩
                case measure => simp [intOf]; omega
              · have o7 : ((lh + 1) == cc) = false := beq_eq_false_iff_ne.2 hjn
                have EQ : Aside0 (mkF true cc (dd - 1) out = out ++ [⟨cc, (dd - 1)⟩]) := ⟨by
                  unfold mkF
                  rw [if_pos rfl, if_neg (fun q => hjn (by rw [HLH.out]; exact q.2))]⟩
                clear hjn
                go_wp2_with fail
                go_quiet (fail)
                go_wp2_with ((with_reducible refine gate_builtin (b := .append) (xs := #[.tmp 104, .tmp 111]) rfl ?_); at_builtin; refine Kd.R_append k38 (w0 := W1) W1.heap.size rfl (.tmp 104) (.tmp 111) 23 38 (.agg #[.int .i64 0, .int .i64 0]) 16 rfl Tryz.underlying23 info38 rfl (by decide) (by omega) _ out ⟨cc, (dd - 1)⟩ [.int .i64 cc, .int .i64 (dd - 1)] (fun _ => True) (fun _ => False) rfl rfl ?aP (fun _ hk => hk.elim) ?aF ?aO ?aB ?aS ?aL ?_; (case aP => exact k38_mkM _ _ _ ⟨cc, (dd - 1)⟩); (case aF => exact fun _ _ => trivial); (case aO => (repeat (first | exact HRo.out | refine Kd.R_drewN ?_ _))); (case aB => (repeat (first | exact HB1.out | refine pw_below_drewN ?_ _))); (case aS => exact HB1.out.size); (case aL => omega); intro v5 w5 hR5 hb5 hg5 hat5; rw [← EQ.out] at hR5; have HR5 := Aside0.mk hR5; have HB5 := Aside0.mk hb5; clear hR5 hb5 hg5 hat5)
                go_roundw
                case rel => exact ⟨j + 1, _, hlt, by go_num, HR5.out, HB5.out, HE0.out, HML.out, HBD2.out⟩
                case measure => simp [intOf]; omega
            · obtain ⟨Ao, co, rfl⟩ := Kd.R_slice HRo.out
              have o1 : decide (0 < (out.length : Int)) = false := decide_eq_false (by omega)
              have o2 : decide (0 < out.length) = false := decide_eq_false ho
              have EQ : Aside0 (mkF true cc (dd - 1) out = out ++ [⟨cc, (dd - 1)⟩]) := ⟨by
                unfold mkF
                rw [if_pos rfl, if_neg (fun q => ho q.1)]⟩
              go_wp2_with fail
              go_quiet (fail)
              go_wp2_with ((with_reducible refine gate_builtin (b := .append) (xs := #[.tmp 104, .tmp 111]) rfl ?_); at_builtin; refine Kd.R_append k38 (w0 := W1) W1.heap.size rfl (.tmp 104) (.tmp 111) 23 38 (.agg #[.int .i64 0, .int .i64 0]) 16 rfl Tryz.underlying23 info38 rfl (by decide) (by omega) _ out ⟨cc, (dd - 1)⟩ [.int .i64 cc, .int .i64 (dd - 1)] (fun _ => True) (fun _ => False) rfl rfl ?aP (fun _ hk => hk.elim) ?aF ?aO ?aB ?aS ?aL ?_; (case aP => exact k38_mkM _ _ _ ⟨cc, (dd - 1)⟩); (case aF => exact fun _ _ => trivial); (case aO => (repeat (first | exact HRo.out | refine Kd.R_drewN ?_ _))); (case aB => (repeat (first | exact HB1.out | refine pw_below_drewN ?_ _))); (case aS => exact HB1.out.size); (case aL => omega); intro v5 w5 hR5 hb5 hg5 hat5; rw [← EQ.out] at hR5; have HR5 := Aside0.mk hR5; have HB5 := Aside0.mk hb5; clear hR5 hb5 hg5 hat5)
              go_roundw
              case rel => exact ⟨j + 1, _, hlt, by go_num, HR5.out, HB5.out, HE0.out, HML.out, HBD2.out⟩
              case measure => simp [intOf]; omega
          · have n1 : decide ((j : Int) + 1 < (es.length : Int)) = false := decide_eq_false (by omega)
            have n2 : decide (j + 1 < es.length) = false := decide_eq_false hn
            have HE0 : Aside0 (madeRun rbK l0 l1 (es.drop (j + 1)) (mkF true cc 1114111 out) = fin) := ⟨by
              have := HRUN.out
              rw [KP.out, if_neg hn] at this
              exact this⟩
            have hml := mkF_len true cc 1114111 out
            have HML : Aside0 ((mkF true cc 1114111 out).length ≤ j + 1) := ⟨by omega⟩
            have HBD2 : Aside0 (Bd (mkF true cc 1114111 out)) := ⟨HBD.out.mk (by omega)⟩
            clear hml
            by_cases ho : 0 < out.length
            · obtain ⟨g, co, rfl, hgb⟩ := R_place HRo.out ho
              have hlb := HBD.out.last ho
              obtain ⟨cs, hcl, hcM, hcc, hcf⟩ := Kd.R_elem HRo.out z38 ((out.length : Int) - 1) (by omega) (by omega)
              obtain rfl := k38_openM hcM
              have hi1 : ((out.length : Int) - 1).toNat = out.length - 1 := by omega
              have y1 : wr.cell? ⟨g, (out.length - 1) * 2 + 1, none⟩ = some (.int .i64 (rd_T38 out ((out.length : Int) - 1)).f1) := by
                have := hcc 1 _ rfl
                rw [hi1] at this
                unfold rd_T38
                rw [hi1]
                exact this
              have z1 : wr.frozen? ⟨g, (out.length - 1) * 2 + 1, none⟩ = false := by
                have := hcf 1
                rw [hi1] at this
                exact this
              have o1 : decide (0 < (out.length : Int)) = true := decide_eq_true (by omega)
              have o2 : decide (0 < out.length) = true := decide_eq_true ho
              have o3 : IntKind.i64.wrap ((out.length : Int) - 1) = (out.length : Int) - 1 := IntWalk.i64_in _ (by omega)
              have o4 : 0 ≤ (out.length : Int) - 1 := by omega
              have o5 : (out.length : Int) - 1 < (out.length : Int) := by omega
              clear hcc hcf hcM hcl
              obtain ⟨lh, hlh⟩ : ∃ lh, lh = (rd_T38 out ((out.length : Int) - 1)).f1 := ⟨_, rfl⟩
              rw [← hlh] at y1 hlb
              have HLH := Aside0.mk hlh
              clear hlh
              have o6 : IntKind.i64.wrap (lh + 1) = lh + 1 := IntWalk.i64_in _ (by omega)
              by_cases hjn : lh + 1 = cc
              · have o7 : ((lh + 1) == cc) = true := beq_iff_eq.2 hjn
                have EQ : Aside0 (mkF true cc 1114111 out = out.set (out.length - 1) ⟨(rd_T38 out ((out.length : Int) - 1)).f0, 1114111⟩) := ⟨by
                  unfold mkF
                  rw [if_pos rfl, if_pos ⟨ho, by rw [← HLH.out]; exact hjn⟩]⟩
                have RST : Aside0 (∀ W : World, Kd.R k38 38 W W1.heap.size (fun _ => True) (.slice (some ⟨g, 0, none⟩) out.length co) out → Kd.R k38 38 (W.setCell ⟨g, (out.length - 1) * 2 + 1, none⟩ (.int .i64 1114111)) W1.heap.size (fun _ => True) (.slice (some ⟨g, 0, none⟩) out.length co) (mkF true cc 1114111 out)) := ⟨fun W h => by rw [EQ.out]; exact R_last h ho _⟩
                clear hjn
                go_wp2_with fail
                go_quiet (fail)
                go_wp2_with fail
                go_roundw
                case rel => exact ⟨j + 1, _, hlt, by go_num, RST.out _ (by repeat (first | exact HRo.out | refine Kd.R_drewN ?_ _)), Below.setCell (by repeat (first | exact HB1.out | refine pw_below_drewN ?_ _)) hgb _, HE0.out, HML.out, HBD2.out⟩
                case measure => simp [intOf]; omega
              · have o7 : ((lh + 1) == cc) = false := beq_eq_false_iff_ne.2 hjn
                have EQ : Aside0 (mkF true cc 1114111 out = out ++ [⟨cc, 1114111⟩]) := ⟨by
                  unfold mkF
                  rw [if_pos rfl, if_neg (fun q => hjn (by rw [HLH.out]; exact q.2))]⟩
                clear hjn
                go_wp2_with fail
                go_quiet (fail)
                go_wp2_with ((with_reducible refine gate_builtin (b := .append) (xs := #[.tmp 104, .tmp 111]) rfl ?_); at_builtin; refine Kd.R_append k38 (w0 := W1) W1.heap.size rfl (.tmp 104) (.tmp 111) 23 38 (.agg #[.int .i64 0, .int .i64 0]) 16 rfl Tryz.underlying23 info38 rfl (by decide) (by omega) _ out ⟨cc, 1114111⟩ [.int .i64 cc, .int .i64 1114111] (fun _ => True) (fun _ => False) rfl rfl ?aP (fun _ hk => hk.elim) ?aF ?aO ?aB ?aS ?aL ?_; (case aP => exact k38_mkM _ _ _ ⟨cc, 1114111⟩); (case aF => exact fun _ _ => trivial); (case aO => (repeat (first | exact HRo.out | refine Kd.R_drewN ?_ _))); (case aB => (repeat (first | exact HB1.out | refine pw_below_drewN ?_ _))); (case aS => exact HB1.out.size); (case aL => omega); intro v5 w5 hR5 hb5 hg5 hat5; rw [← EQ.out] at hR5; have HR5 := Aside0.mk hR5; have HB5 := Aside0.mk hb5; clear hR5 hb5 hg5 hat5)
                go_roundw
                case rel => exact ⟨j + 1, _, hlt, by go_num, HR5.out, HB5.out, HE0.out, HML.out, HBD2.out⟩
                case measure => simp [intOf]; omega
            · obtain ⟨Ao, co, rfl⟩ := Kd.R_slice HRo.out
              have o1 : decide (0 < (out.length : Int)) = false := decide_eq_false (by omega)
              have o2 : decide (0 < out.length) = false := decide_eq_false ho
              have EQ : Aside0 (mkF true cc 1114111 out = out ++ [⟨cc, 1114111⟩]) := ⟨by
                unfold mkF
                rw [if_pos rfl, if_neg (fun q => ho q.1)]⟩
              go_wp2_with fail
              go_quiet (fail)
              go_wp2_with ((with_reducible refine gate_builtin (b := .append) (xs := #[.tmp 104, .tmp 111]) rfl ?_); at_builtin; refine Kd.R_append k38 (w0 := W1) W1.heap.size rfl (.tmp 104) (.tmp 111) 23 38 (.agg #[.int .i64 0, .int .i64 0]) 16 rfl Tryz.underlying23 info38 rfl (by decide) (by omega) _ out ⟨cc, 1114111⟩ [.int .i64 cc, .int .i64 1114111] (fun _ => True) (fun _ => False) rfl rfl ?aP (fun _ hk => hk.elim) ?aF ?aO ?aB ?aS ?aL ?_; (case aP => exact k38_mkM _ _ _ ⟨cc, 1114111⟩); (case aF => exact fun _ _ => trivial); (case aO => (repeat (first | exact HRo.out | refine Kd.R_drewN ?_ _))); (case aB => (repeat (first | exact HB1.out | refine pw_below_drewN ?_ _))); (case aS => exact HB1.out.size); (case aL => omega); intro v5 w5 hR5 hb5 hg5 hat5; rw [← EQ.out] at hR5; have HR5 := Aside0.mk hR5; have HB5 := Aside0.mk hb5; clear hR5 hb5 hg5 hat5)
              go_roundw
              case rel => exact ⟨j + 1, _, hlt, by go_num, HR5.out, HB5.out, HE0.out, HML.out, HBD2.out⟩
              case measure => simp [intOf]; omega
        | false =>
          have KP : Aside0 (rbK (hasF l0 cc) (hasF l1 cc) = true) := ⟨by rw [hx, hy, hrb.out]; rfl⟩
          have HA : Aside0 (∀ W, Kd.C k38 W A0 l0.length l0 → Calls Tryz.prog 32 #[.slice A0 l0.length c0, .int .i64 cc] W fun e w' => e = .returned (.bool true) ∧ Drawn0 W w') := ⟨fun W h => by rw [← hx]; exact P.ref_has_calls A0 c0 l0 cc W h HC0.out⟩
          have HBh : Aside0 (∀ W, Kd.C k38 W A1 l1.length l1 → Calls Tryz.prog 32 #[.slice A1 l1.length c1, .int .i64 cc] W fun e w' => e = .returned (.bool false) ∧ Drawn0 W w') := ⟨fun W h => by rw [← hy]; exact P.ref_has_calls A1 c1 l1 cc W h HC1.out⟩
          clear hx hy
          go_wp2_with fail
          go_quiet ((go_at_call 32; first | ((with_reducible refine (HA.out _ (Kd.C_drewN CA.out _)).mono ?_); rintro e w' ⟨rfl, ⟨nd, rfl⟩⟩; (first | exact ⟨rfl, _, rfl⟩ | exact ⟨rfl, _, World.drewN_drewN _ _ _⟩ | exact ⟨rfl, _, Eq.trans (World.drewN_drewN _ _ _) (congrArg (World.drewN _) (Nat.add_assoc _ _ _))⟩)) | ((with_reducible refine (HA.out _ CA.out).mono ?_); rintro e w' ⟨rfl, ⟨nd, rfl⟩⟩; (first | exact ⟨rfl, _, rfl⟩ | exact ⟨rfl, _, World.drewN_drewN _ _ _⟩ | exact ⟨rfl, _, Eq.trans (World.drewN_drewN _ _ _) (congrArg (World.drewN _) (Nat.add_assoc _ _ _))⟩)) | ((with_reducible refine (HBh.out _ (Kd.C_drewN CB.out _)).mono ?_); rintro e w' ⟨rfl, ⟨nd, rfl⟩⟩; (first | exact ⟨rfl, _, rfl⟩ | exact ⟨rfl, _, World.drewN_drewN _ _ _⟩ | exact ⟨rfl, _, Eq.trans (World.drewN_drewN _ _ _) (congrArg (World.drewN _) (Nat.add_assoc _ _ _))⟩)) | ((with_reducible refine (HBh.out _ CB.out).mono ?_); rintro e w' ⟨rfl, ⟨nd, rfl⟩⟩; (first | exact ⟨rfl, _, rfl⟩ | exact ⟨rfl, _, World.drewN_drewN _ _ _⟩ | exact ⟨rfl, _, Eq.trans (World.drewN_drewN _ _ _) (congrArg (World.drewN _) (Nat.add_assoc _ _ _))⟩))))
          clear HA HBh
          by_cases hn : j + 1 < es.length
          · have n1 : decide ((j : Int) + 1 < (es.length : Int)) = true := decide_eq_true (by omega)
            have n2 : decide (j + 1 < es.length) = true := decide_eq_true hn
            have n3 : 0 ≤ (j : Int) + 1 := by omega
            have n4 : (j : Int) + 1 < (es.length : Int) := by omega
            obtain ⟨ad2, ea2, k2⟩ := Kd.at_int (Kd.C_below HEC.out HB1.out) ((j : Int) + 1) (by omega) (by omega)
            injection ea2 with ea2
            subst ea2
            rw [show ((j : Int) + 1).toNat = j + 1 from by omega] at k2
            have hdb := HES.out _ n3 n4
            obtain ⟨dd, hdd⟩ : ∃ dd, dd = rd es ((j : Int) + 1) := ⟨_, rfl⟩
            rw [← hdd] at k2 HRUN hdb
            clear hdd
            have n5 : IntKind.i64.wrap (dd - 1) = dd - 1 := IntWalk.i64_in _ (by omega)
            have k3 : wr.cell? ⟨ad.block, ad.off + (j + 1), none⟩ = some (.int .i64 dd) := by rw [← k2]; congr 1
            have HE0 : Aside0 (madeRun rbK l0 l1 (es.drop (j + 1)) (mkF true cc (dd - 1) out) = fin) := ⟨by
              have := HRUN.out
              rw [KP.out, if_pos hn] at this
              exact this⟩
            have hml := mkF_len true cc (dd - 1) out
            have HML : Aside0 ((mkF true cc (dd - 1) out).length ≤ j + 1) := ⟨by omega⟩
            have HBD2 : Aside0 (Bd (mkF true cc (dd - 1) out)) := ⟨HBD.out.mk (by omega)⟩
            clear hml
            by_cases ho : 0 < out.length
            · obtain ⟨g, co, rfl, hgb⟩ := R_place HRo.out ho
              have hlb := HBD.out.last ho
              obtain ⟨cs, hcl, hcM, hcc, hcf⟩ := Kd.R_elem HRo.out z38 ((out.length : Int) - 1) (by omega) (by omega)
              obtain rfl := k38_openM hcM
              have hi1 : ((out.length : Int) - 1).toNat = out.length - 1 := by omega
              have y1 : wr.cell? ⟨g, (out.length - 1) * 2 + 1, none⟩ = some (.int .i64 (rd_T38 out ((out.length : Int) - 1)).f1) := by
                have := hcc 1 _ rfl
                rw [hi1] at this
                unfold rd_T38
                rw [hi1]
                exact this
              have z1 : wr.frozen? ⟨g, (out.length - 1) * 2 + 1, none⟩ = false := by
                have := hcf 1
                rw [hi1] at this
                exact this
              have o1 : decide (0 < (out.length : Int)) = true := decide_eq_true (by omega)
              have o2 : decide (0 < out.length) = true := decide_eq_true ho
              have o3 : IntKind.i64.wrap ((out.length : Int) - 1) = (out.length : Int) - 1 := IntWalk.i64_in _ (by omega)
              have o4 : 0 ≤ (out.length : Int) - 1 := by omega
              have o5 : (out.length : Int) - 1 < (out.length : Int) := by omega
              clear hcc hcf hcM hcl
              obtain ⟨lh, hlh⟩ : ∃ lh, lh = (rd_T38 out ((out.length : Int) - 1)).f1 := ⟨_, rfl⟩
              rw [← hlh] at y1 hlb
              have HLH := Aside0.mk hlh
              clear hlh
              have o6 : IntKind.i64.wrap (lh + 1) = lh + 1 := IntWalk.i64_in _ (by omega)
              by_cases hjn : lh + 1 = cc
              · have o7 : ((lh + 1) == cc) = true := beq_iff_eq.2 hjn
                have EQ : Aside0 (mkF true cc (dd - 1) out = out.set (out.length - 1) ⟨(rd_T38 out ((out.length : Int) - 1)).f0, (dd - 1)⟩) := ⟨by
                  unfold mkF
                  rw [if_pos rfl, if_pos ⟨ho, by rw [← HLH.out]; exact hjn⟩]⟩
                have RST : Aside0 (∀ W : World, Kd.R k38 38 W W1.heap.size (fun _ => True) (.slice (some ⟨g, 0, none⟩) out.length co) out → Kd.R k38 38 (W.setCell ⟨g, (out.length - 1) * 2 + 1, none⟩ (.int .i64 (dd - 1))) W1.heap.size (fun _ => True) (.slice (some ⟨g, 0, none⟩) out.length co) (mkF true cc (dd - 1) out)) := ⟨fun W h => by rw [EQ.out]; exact R_last h ho _⟩
                clear hjn
                go_wp2_with fail
                go_quiet (fail)
                go_wp2_with fail
                go_roundw
                case rel => exact ⟨j + 1, _, hlt, by go_num, RST.out _ (by repeat (first | exact HRo.out | refine Kd.R_drewN ?_ _)), Below.setCell (by repeat (first | exact HB1.out | refine pw_below_drewN ?_ _)) hgb _, HE0.out, HML.out, HBD2.out⟩
                case measure => simp [intOf]; omega
              · have o7 : ((lh + 1) == cc) = false := beq_eq_false_iff_ne.2 hjn
                have EQ : Aside0 (mkF true cc (dd - 1) out = out ++ [⟨cc, (dd - 1)⟩]) := ⟨by
                  unfold mkF
                  rw [if_pos rfl, if_neg (fun q => hjn (by rw [HLH.out]; exact q.2))]⟩
                clear hjn
                go_wp2_with fail
                go_quiet (fail)
                go_wp2_with ((with_reducible refine gate_builtin (b := .append) (xs := #[.tmp 104, .tmp 111]) rfl ?_); at_builtin; refine Kd.R_append k38 (w0 := W1) W1.heap.size rfl (.tmp 104) (.tmp 111) 23 38 (.agg #[.int .i64 0, .int .i64 0]) 16 rfl Tryz.underlying23 info38 rfl (by decide) (by omega) _ out ⟨cc, (dd - 1)⟩ [.int .i64 cc, .int .i64 (dd - 1)] (fun _ => True) (fun _ => False) rfl rfl ?aP (fun _ hk => hk.elim) ?aF ?aO ?aB ?aS ?aL ?_; (case aP => exact k38_mkM _ _ _ ⟨cc, (dd - 1)⟩); (case aF => exact fun _ _ => trivial); (case aO => (repeat (first | exact HRo.out | refine Kd.R_drewN ?_ _))); (case aB => (repeat (first | exact HB1.out | refine pw_below_drewN ?_ _))); (case aS => exact HB1.out.size); (case aL => omega); intro v5 w5 hR5 hb5 hg5 hat5; rw [← EQ.out] at hR5; have HR5 := Aside0.mk hR5; have HB5 := Aside0.mk hb5; clear hR5 hb5 hg5 hat5)
                go_roundw
                case rel => exact ⟨j + 1, _, hlt, by go_num, HR5.out, HB5.out, HE0.out, HML.out, HBD2.out⟩
                case measure => simp [intOf]; omega
            · obtain ⟨Ao, co, rfl⟩ := Kd.R_slice HRo.out
              have o1 : decide (0 < (out.length : Int)) = false := decide_eq_false (by omega)
              have o2 : decide (0 < out.length) = false := decide_eq_false ho
              have EQ : Aside0 (mkF true cc (dd - 1) out = out ++ [⟨cc, (dd - 1)⟩]) := ⟨by
                unfold mkF
                rw [if_pos rfl, if_neg (fun q => ho q.1)]⟩
              go_wp2_with fail
              go_quiet (fail)
              go_wp2_with ((with_reducible refine gate_builtin (b := .append) (xs := #[.tmp 104, .tmp 111]) rfl ?_); at_builtin; refine Kd.R_append k38 (w0 := W1) W1.heap.size rfl (.tmp 104) (.tmp 111) 23 38 (.agg #[.int .i64 0, .int .i64 0]) 16 rfl Tryz.underlying23 info38 rfl (by decide) (by omega) _ out ⟨cc, (dd - 1)⟩ [.int .i64 cc, .int .i64 (dd - 1)] (fun _ => True) (fun _ => False) rfl rfl ?aP (fun _ hk => hk.elim) ?aF ?aO ?aB ?aS ?aL ?_; (case aP => exact k38_mkM _ _ _ ⟨cc, (dd - 1)⟩); (case aF => exact fun _ _ => trivial); (case aO => (repeat (first | exact HRo.out | refine Kd.R_drewN ?_ _))); (case aB => (repeat (first | exact HB1.out | refine pw_below_drewN ?_ _))); (case aS => exact HB1.out.size); (case aL => omega); intro v5 w5 hR5 hb5 hg5 hat5; rw [← EQ.out] at hR5; have HR5 := Aside0.mk hR5; have HB5 := Aside0.mk hb5; clear hR5 hb5 hg5 hat5)
              go_roundw
              case rel => exact ⟨j + 1, _, hlt, by go_num, HR5.out, HB5.out, HE0.out, HML.out, HBD2.out⟩
              case measure => simp [intOf]; omega
          · have n1 : decide ((j : Int) + 1 < (es.length : Int)) = false := decide_eq_false (by omega)
            have n2 : decide (j + 1 < es.length) = false := decide_eq_false hn
            have HE0 : Aside0 (madeRun rbK l0 l1 (es.drop (j + 1)) (mkF true cc 1114111 out) = fin) := ⟨by
              have := HRUN.out
              rw [KP.out, if_neg hn] at this
              exact this⟩
            have hml := mkF_len true cc 1114111 out
            have HML : Aside0 ((mkF true cc 1114111 out).length ≤ j + 1) := ⟨by omega⟩
            have HBD2 : Aside0 (Bd (mkF true cc 1114111 out)) := ⟨HBD.out.mk (by omega)⟩
            clear hml
            by_cases ho : 0 < out.length
            · obtain ⟨g, co, rfl, hgb⟩ := R_place HRo.out ho
              have hlb := HBD.out.last ho
              obtain ⟨cs, hcl, hcM, hcc, hcf⟩ := Kd.R_elem HRo.out z38 ((out.length : Int) - 1) (by omega) (by omega)
              obtain rfl := k38_openM hcM
              have hi1 : ((out.length : Int) - 1).toNat = out.length - 1 := by omega
              have y1 : wr.cell? ⟨g, (out.length - 1) * 2 + 1, none⟩ = some (.int .i64 (rd_T38 out ((out.length : Int) - 1)).f1) := by
                have := hcc 1 _ rfl
                rw [hi1] at this
                unfold rd_T38
                rw [hi1]
                exact this
              have z1 : wr.frozen? ⟨g, (out.length - 1) * 2 + 1, none⟩ = false := by
                have := hcf 1
                rw [hi1] at this
                exact this
              have o1 : decide (0 < (out.length : Int)) = true := decide_eq_true (by omega)
              have o2 : decide (0 < out.length) = true := decide_eq_true ho
              have o3 : IntKind.i64.wrap ((out.length : Int) - 1) = (out.length : Int) - 1 := IntWalk.i64_in _ (by omega)
              have o4 : 0 ≤ (out.length : Int) - 1 := by omega
              have o5 : (out.length : Int) - 1 < (out.length : Int) := by omega
              clear hcc hcf hcM hcl
              obtain ⟨lh, hlh⟩ : ∃ lh, lh = (rd_T38 out ((out.length : Int) - 1)).f1 := ⟨_, rfl⟩
              rw [← hlh] at y1 hlb
              have HLH := Aside0.mk hlh
              clear hlh
              have o6 : IntKind.i64.wrap (lh + 1) = lh + 1 := IntWalk.i64_in _ (by omega)
              by_cases hjn : lh + 1 = cc
              · have o7 : ((lh + 1) == cc) = true := beq_iff_eq.2 hjn
                have EQ : Aside0 (mkF true cc 1114111 out = out.set (out.length - 1) ⟨(rd_T38 out ((out.length : Int) - 1)).f0, 1114111⟩) := ⟨by
                  unfold mkF
                  rw [if_pos rfl, if_pos ⟨ho, by rw [← HLH.out]; exact hjn⟩]⟩
                have RST : Aside0 (∀ W : World, Kd.R k38 38 W W1.heap.size (fun _ => True) (.slice (some ⟨g, 0, none⟩) out.length co) out → Kd.R k38 38 (W.setCell ⟨g, (out.length - 1) * 2 + 1, none⟩ (.int .i64 1114111)) W1.heap.size (fun _ => True) (.slice (some ⟨g, 0, none⟩) out.length co) (mkF true cc 1114111 out)) := ⟨fun W h => by rw [EQ.out]; exact R_last h ho _⟩
                clear hjn
                go_wp2_with fail
                go_quiet (fail)
                go_wp2_with fail
                go_roundw
                case rel => exact ⟨j + 1, _, hlt, by go_num, RST.out _ (by repeat (first | exact HRo.out | refine Kd.R_drewN ?_ _)), Below.setCell (by repeat (first | exact HB1.out | refine pw_below_drewN ?_ _)) hgb _, HE0.out, HML.out, HBD2.out⟩
                case measure => simp [intOf]; omega
              · have o7 : ((lh + 1) == cc) = false := beq_eq_false_iff_ne.2 hjn
                have EQ : Aside0 (mkF true cc 1114111 out = out ++ [⟨cc, 1114111⟩]) := ⟨by
                  unfold mkF
                  rw [if_pos rfl, if_neg (fun q => hjn (by rw [HLH.out]; exact q.2))]⟩
                clear hjn
                go_wp2_with fail
                go_quiet (fail)
                go_wp2_with ((with_reducible refine gate_builtin (b := .append) (xs := #[.tmp 104, .tmp 111]) rfl ?_); at_builtin; refine Kd.R_append k38 (w0 := W1) W1.heap.size rfl (.tmp 104) (.tmp 111) 23 38 (.agg #[.int .i64 0, .int .i64 0]) 16 rfl Tryz.underlying23 info38 rfl (by decide) (by omega) _ out ⟨cc, 1114111⟩ [.int .i64 cc, .int .i64 1114111] (fun _ => True) (fun _ => False) rfl rfl ?aP (fun _ hk => hk.elim) ?aF ?aO ?aB ?aS ?aL ?_; (case aP => exact k38_mkM _ _ _ ⟨cc, 1114111⟩); (case aF => exact fun _ _ => trivial); (case aO => (repeat (first | exact HRo.out | refine Kd.R_drewN ?_ _))); (case aB => (repeat (first | exact HB1.out | refine pw_below_drewN ?_ _))); (case aS => exact HB1.out.size); (case aL => omega); intro v5 w5 hR5 hb5 hg5 hat5; rw [← EQ.out] at hR5; have HR5 := Aside0.mk hR5; have HB5 := Aside0.mk hb5; clear hR5 hb5 hg5 hat5)
                go_roundw
                case rel => exact ⟨j + 1, _, hlt, by go_num, HR5.out, HB5.out, HE0.out, HML.out, HBD2.out⟩
                case measure => simp [intOf]; omega
            · obtain ⟨Ao, co, rfl⟩ := Kd.R_slice HRo.out
              have o1 : decide (0 < (out.length : Int)) = false := decide_eq_false (by omega)
              have o2 : decide (0 < out.length) = false := decide_eq_false ho
              have EQ : Aside0 (mkF true cc 1114111 out = out ++ [⟨cc, 1114111⟩]) := ⟨by
                unfold mkF
                rw [if_pos rfl, if_neg (fun q => ho q.1)]⟩
              go_wp2_with fail
              go_quiet (fail)
              go_wp2_with ((with_reducible refine gate_builtin (b := .append) (xs := #[.tmp 104, .tmp 111]) rfl ?_); at_builtin; refine Kd.R_append k38 (w0 := W1) W1.heap.size rfl (.tmp 104) (.tmp 111) 23 38 (.agg #[.int .i64 0, .int .i64 0]) 16 rfl Tryz.underlying23 info38 rfl (by decide) (by omega) _ out ⟨cc, 1114111⟩ [.int .i64 cc, .int .i64 1114111] (fun _ => True) (fun _ => False) rfl rfl ?aP (fun _ hk => hk.elim) ?aF ?aO ?aB ?aS ?aL ?_; (case aP => exact k38_mkM _ _ _ ⟨cc, 1114111⟩); (case aF => exact fun _ _ => trivial); (case aO => (repeat (first | exact HRo.out | refine Kd.R_drewN ?_ _))); (case aB => (repeat (first | exact HB1.out | refine pw_below_drewN ?_ _))); (case aS => exact HB1.out.size); (case aL => omega); intro v5 w5 hR5 hb5 hg5 hat5; rw [← EQ.out] at hR5; have HR5 := Aside0.mk hR5; have HB5 := Aside0.mk hb5; clear hR5 hb5 hg5 hat5)
              go_roundw
              case rel => exact ⟨j + 1, _, hlt, by go_num, HR5.out, HB5.out, HE0.out, HML.out, HBD2.out⟩
              case measure => simp [intOf]; omega
      | false =>
        cases hy : hasF l1 cc with
        | true =>
          have KP : Aside0 (rbK (hasF l0 cc) (hasF l1 cc) = true) := ⟨by rw [hx, hy, hrb.out]; rfl⟩
          have HA : Aside0 (∀ W, Kd.C k38 W A0 l0.length l0 → Calls Tryz.prog 32 #[.slice A0 l0.length c0, .int .i64 cc] W fun e w' => e = .returned (.bool false) ∧ Drawn0 W w') := ⟨fun W h => by rw [← hx]; exact P.ref_has_calls A0 c0 l0 cc W h HC0.out⟩
          have HBh : Aside0 (∀ W, Kd.C k38 W A1 l1.length l1 → Calls Tryz.prog 32 #[.slice A1 l1.length c1, .int .i64 cc] W fun e w' => e = .returned (.bool true) ∧ Drawn0 W w') := ⟨fun W h => by rw [← hy]; exact P.ref_has_calls A1 c1 l1 cc W h HC1.out⟩
          clear hx hy
          go_wp2_with fail
          go_quiet ((go_at_call 32; first | ((with_reducible refine (HA.out _ (Kd.C_drewN CA.out _)).mono ?_); rintro e w' ⟨rfl, ⟨nd, rfl⟩⟩; (first | exact ⟨rfl, _, rfl⟩ | exact ⟨rfl, _, World.drewN_drewN _ _ _⟩ | exact ⟨rfl, _, Eq.trans (World.drewN_drewN _ _ _) (congrArg (World.drewN _) (Nat.add_assoc _ _ _))⟩)) | ((with_reducible refine (HA.out _ CA.out).mono ?_); rintro e w' ⟨rfl, ⟨nd, rfl⟩⟩; (first | exact ⟨rfl, _, rfl⟩ | exact ⟨rfl, _, World.drewN_drewN _ _ _⟩ | exact ⟨rfl, _, Eq.trans (World.drewN_drewN _ _ _) (congrArg (World.drewN _) (Nat.add_assoc _ _ _))⟩)) | ((with_reducible refine (HBh.out _ (Kd.C_drewN CB.out _)).mono ?_); rintro e w' ⟨rfl, ⟨nd, rfl⟩⟩; (first | exact ⟨rfl, _, rfl⟩ | exact ⟨rfl, _, World.drewN_drewN _ _ _⟩ | exact ⟨rfl, _, Eq.trans (World.drewN_drewN _ _ _) (congrArg (World.drewN _) (Nat.add_assoc _ _ _))⟩)) | ((with_reducible refine (HBh.out _ CB.out).mono ?_); rintro e w' ⟨rfl, ⟨nd, rfl⟩⟩; (first | exact ⟨rfl, _, rfl⟩ | exact ⟨rfl, _, World.drewN_drewN _ _ _⟩ | exact ⟨rfl, _, Eq.trans (World.drewN_drewN _ _ _) (congrArg (World.drewN _) (Nat.add_assoc _ _ _))⟩))))
          clear HA HBh
          by_cases hn : j + 1 < es.length
          · have n1 : decide ((j : Int) + 1 < (es.length : Int)) = true := decide_eq_true (by omega)
            have n2 : decide (j + 1 < es.length) = true := decide_eq_true hn
            have n3 : 0 ≤ (j : Int) + 1 := by omega
            have n4 : (j : Int) + 1 < (es.length : Int) := by omega
            obtain ⟨ad2, ea2, k2⟩ := Kd.at_int (Kd.C_below HEC.out HB1.out) ((j : Int) + 1) (by omega) (by omega)
            injection ea2 with ea2
            subst ea2
            rw [show ((j : Int) + 1).toNat = j + 1 from by omega] at k2
            have hdb := HES.out _ n3 n4
            obtain ⟨dd, hdd⟩ : ∃ dd, dd = rd es ((j : Int) + 1) := ⟨_, rfl⟩
            rw [← hdd] at k2 HRUN hdb
            clear hdd
            have n5 : IntKind.i64.wrap (dd - 1) = dd - 1 := IntWalk.i64_in _ (by omega)
            have k3 : wr.cell? ⟨ad.block, ad.off + (j + 1), none⟩ = some (.int .i64 dd) := by rw [← k2]; congr 1
            have HE0 : Aside0 (madeRun rbK l0 l1 (es.drop (j + 1)) (mkF true cc (dd - 1) out) = fin) := ⟨by
              have := HRUN.out
              rw [KP.out, if_pos hn] at this
              exact this⟩
            have hml := mkF_len true cc (dd - 1) out
            have HML : Aside0 ((mkF true cc (dd - 1) out).length ≤ j + 1) := ⟨by omega⟩
            have HBD2 : Aside0 (Bd (mkF true cc (dd - 1) out)) := ⟨HBD.out.mk (by omega)⟩
            clear hml
            by_cases ho : 0 < out.length
            · obtain ⟨g, co, rfl, hgb⟩ := R_place HRo.out ho
              have hlb := HBD.out.last ho
              obtain ⟨cs, hcl, hcM, hcc, hcf⟩ := Kd.R_elem HRo.out z38 ((out.length : Int) - 1) (by omega) (by omega)
              obtain rfl := k38_openM hcM
              have hi1 : ((out.length : Int) - 1).toNat = out.length - 1 := by omega
              have y1 : wr.cell? ⟨g, (out.length - 1) * 2 + 1, none⟩ = some (.int .i64 (rd_T38 out ((out.length : Int) - 1)).f1) := by
                have := hcc 1 _ rfl
                rw [hi1] at this
                unfold rd_T38
                rw [hi1]
                exact this
              have z1 : wr.frozen? ⟨g, (out.length - 1) * 2 + 1, none⟩ = false := by
                have := hcf 1
                rw [hi1] at this
                exact this
              have o1 : decide (0 < (out.length : Int)) = true := decide_eq_true (by omega)
              have o2 : decide (0 < out.length) = true := decide_eq_true ho
              have o3 : IntKind.i64.wrap ((out.length : Int) - 1) = (out.length : Int) - 1 := IntWalk.i64_in _ (by omega)
              have o4 : 0 ≤ (out.length : Int) - 1 := by omega
              have o5 : (out.length : Int) - 1 < (out.length : Int) := by omega
              clear hcc hcf hcM hcl
              obtain ⟨lh, hlh⟩ : ∃ lh, lh = (rd_T38 out ((out.length : Int) - 1)).f1 := ⟨_, rfl⟩
              rw [← hlh] at y1 hlb
              have HLH := Aside0.mk hlh
              clear hlh
              have o6 : IntKind.i64.wrap (lh + 1) = lh + 1 := IntWalk.i64_in _ (by omega)
              by_cases hjn : lh + 1 = cc
              · have o7 : ((lh + 1) == cc) = true := beq_iff_eq.2 hjn
                have EQ : Aside0 (mkF true cc (dd - 1) out = out.set (out.length - 1) ⟨(rd_T38 out ((out.length : Int) - 1)).f0, (dd - 1)⟩) := ⟨by
                  unfold mkF
                  rw [if_pos rfl, if_pos ⟨ho, by rw [← HLH.out]; exact hjn⟩]⟩
                have RST : Aside0 (∀ W : World, Kd.R k38 38 W W1.heap.size (fun _ => True) (.slice (some ⟨g, 0, none⟩) out.length co) out → Kd.R k38 38 (W.setCell ⟨g, (out.length - 1) * 2 + 1, none⟩ (.int .i64 (dd - 1))) W1.heap.size (fun _ => True) (.slice (some ⟨g, 0, none⟩) out.length co) (mkF true cc (dd - 1) out)) := ⟨fun W h => by rw [EQ.out]; exact R_last h ho _⟩
                clear hjn
                go_wp2_with fail
                go_quiet (fail)
                go_wp2_with fail
                go_roundw
                case rel => exact ⟨j + 1, _, hlt, by go_num, RST.out _ (by repeat (first | exact HRo.out | refine Kd.R_drewN ?_ _)), Below.setCell (by repeat (first | exact HB1.out | refine pw_below_drewN ?_ _)) hgb _, HE0.out, HML.out, HBD2.out⟩
                case measure => simp [intOf]; omega
              · have o7 : ((lh + 1) == cc) = false := beq_eq_false_iff_ne.2 hjn
                have EQ : Aside0 (mkF true cc (dd - 1) out = out ++ [⟨cc, (dd - 1)⟩]) := ⟨by
                  unfold mkF
                  rw [if_pos rfl, if_neg (fun q => hjn (by rw [HLH.out]; exact q.2))]⟩
                clear hjn
                go_wp2_with fail
                go_quiet (fail)
                go_wp2_with ((with_reducible refine gate_builtin (b := .append) (xs := #[.tmp 104, .tmp 111]) rfl ?_); at_builtin; refine Kd.R_append k38 (w0 := W1) W1.heap.size rfl (.tmp 104) (.tmp 111) 23 38 (.agg #[.int .i64 0, .int .i64 0]) 16 rfl Tryz.underlying23 info38 rfl (by decide) (by omega) _ out ⟨cc, (dd - 1)⟩ [.int .i64 cc, .int .i64 (dd - 1)] (fun _ => True) (fun _ => False) rfl rfl ?aP (fun _ hk => hk.elim) ?aF ?aO ?aB ?aS ?aL ?_; (case aP => exact k38_mkM _ _ _ ⟨cc, (dd - 1)⟩); (case aF => exact fun _ _ => trivial); (case aO => (repeat (first | exact HRo.out | refine Kd.R_drewN ?_ _))); (case aB => (repeat (first | exact HB1.out | refine pw_below_drewN ?_ _))); (case aS => exact HB1.out.size); (case aL => omega); intro v5 w5 hR5 hb5 hg5 hat5; rw [← EQ.out] at hR5; have HR5 := Aside0.mk hR5; have HB5 := Aside0.mk hb5; clear hR5 hb5 hg5 hat5)
                go_roundw
                case rel => exact ⟨j + 1, _, hlt, by go_num, HR5.out, HB5.out, HE0.out, HML.out, HBD2.out⟩
                case measure => simp [intOf]; omega
            · obtain ⟨Ao, co, rfl⟩ := Kd.R_slice HRo.out
              have o1 : decide (0 < (out.length : Int)) = false := decide_eq_false (by omega)
              have o2 : decide (0 < out.length) = false := decide_eq_false ho
              have EQ : Aside0 (mkF true cc (dd - 1) out = out ++ [⟨cc, (dd - 1)⟩]) := ⟨by
                unfold mkF
                rw [if_pos rfl, if_neg (fun q => ho q.1)]⟩
              go_wp2_with fail
              go_quiet (fail)
              go_wp2_with ((with_reducible refine gate_builtin (b := .append) (xs := #[.tmp 104, .tmp 111]) rfl ?_); at_builtin; refine Kd.R_append k38 (w0 := W1) W1.heap.size rfl (.tmp 104) (.tmp 111) 23 38 (.agg #[.int .i64 0, .int .i64 0]) 16 rfl Tryz.underlying23 info38 rfl (by decide) (by omega) _ out ⟨cc, (dd - 1)⟩ [.int .i64 cc, .int .i64 (dd - 1)] (fun _ => True) (fun _ => False) rfl rfl ?aP (fun _ hk => hk.elim) ?aF ?aO ?aB ?aS ?aL ?_; (case aP => exact k38_mkM _ _ _ ⟨cc, (dd - 1)⟩); (case aF => exact fun _ _ => trivial); (case aO => (repeat (first | exact HRo.out | refine Kd.R_drewN ?_ _))); (case aB => (repeat (first | exact HB1.out | refine pw_below_drewN ?_ _))); (case aS => exact HB1.out.size); (case aL => omega); intro v5 w5 hR5 hb5 hg5 hat5; rw [← EQ.out] at hR5; have HR5 := Aside0.mk hR5; have HB5 := Aside0.mk hb5; clear hR5 hb5 hg5 hat5)
              go_roundw
              case rel => exact ⟨j + 1, _, hlt, by go_num, HR5.out, HB5.out, HE0.out, HML.out, HBD2.out⟩
              case measure => simp [intOf]; omega
          · have n1 : decide ((j : Int) + 1 < (es.length : Int)) = false := decide_eq_false (by omega)
            have n2 : decide (j + 1 < es.length) = false := decide_eq_false hn
            have HE0 : Aside0 (madeRun rbK l0 l1 (es.drop (j + 1)) (mkF true cc 1114111 out) = fin) := ⟨by
              have := HRUN.out
              rw [KP.out, if_neg hn] at this
              exact this⟩
            have hml := mkF_len true cc 1114111 out
            have HML : Aside0 ((mkF true cc 1114111 out).length ≤ j + 1) := ⟨by omega⟩
            have HBD2 : Aside0 (Bd (mkF true cc 1114111 out)) := ⟨HBD.out.mk (by omega)⟩
            clear hml
            by_cases ho : 0 < out.length
            · obtain ⟨g, co, rfl, hgb⟩ := R_place HRo.out ho
              have hlb := HBD.out.last ho
              obtain ⟨cs, hcl, hcM, hcc, hcf⟩ := Kd.R_elem HRo.out z38 ((out.length : Int) - 1) (by omega) (by omega)
              obtain rfl := k38_openM hcM
              have hi1 : ((out.length : Int) - 1).toNat = out.length - 1 := by omega
              have y1 : wr.cell? ⟨g, (out.length - 1) * 2 + 1, none⟩ = some (.int .i64 (rd_T38 out ((out.length : Int) - 1)).f1) := by
                have := hcc 1 _ rfl
                rw [hi1] at this
                unfold rd_T38
                rw [hi1]
                exact this
              have z1 : wr.frozen? ⟨g, (out.length - 1) * 2 + 1, none⟩ = false := by
                have := hcf 1
                rw [hi1] at this
                exact this
              have o1 : decide (0 < (out.length : Int)) = true := decide_eq_true (by omega)
              have o2 : decide (0 < out.length) = true := decide_eq_true ho
              have o3 : IntKind.i64.wrap ((out.length : Int) - 1) = (out.length : Int) - 1 := IntWalk.i64_in _ (by omega)
              have o4 : 0 ≤ (out.length : Int) - 1 := by omega
              have o5 : (out.length : Int) - 1 < (out.length : Int) := by omega
              clear hcc hcf hcM hcl
              obtain ⟨lh, hlh⟩ : ∃ lh, lh = (rd_T38 out ((out.length : Int) - 1)).f1 := ⟨_, rfl⟩
              rw [← hlh] at y1 hlb
              have HLH := Aside0.mk hlh
              clear hlh
              have o6 : IntKind.i64.wrap (lh + 1) = lh + 1 := IntWalk.i64_in _ (by omega)
              by_cases hjn : lh + 1 = cc
              · have o7 : ((lh + 1) == cc) = true := beq_iff_eq.2 hjn
                have EQ : Aside0 (mkF true cc 1114111 out = out.set (out.length - 1) ⟨(rd_T38 out ((out.length : Int) - 1)).f0, 1114111⟩) := ⟨by
                  unfold mkF
                  rw [if_pos rfl, if_pos ⟨ho, by rw [← HLH.out]; exact hjn⟩]⟩
                have RST : Aside0 (∀ W : World, Kd.R k38 38 W W1.heap.size (fun _ => True) (.slice (some ⟨g, 0, none⟩) out.length co) out → Kd.R k38 38 (W.setCell ⟨g, (out.length - 1) * 2 + 1, none⟩ (.int .i64 1114111)) W1.heap.size (fun _ => True) (.slice (some ⟨g, 0, none⟩) out.length co) (mkF true cc 1114111 out)) := ⟨fun W h => by rw [EQ.out]; exact R_last h ho _⟩
                clear hjn
                go_wp2_with fail
                go_quiet (fail)
                go_wp2_with fail
                go_roundw
                case rel => exact ⟨j + 1, _, hlt, by go_num, RST.out _ (by repeat (first | exact HRo.out | refine Kd.R_drewN ?_ _)), Below.setCell (by repeat (first | exact HB1.out | refine pw_below_drewN ?_ _)) hgb _, HE0.out, HML.out, HBD2.out⟩
                case measure => simp [intOf]; omega
              · have o7 : ((lh + 1) == cc) = false := beq_eq_false_iff_ne.2 hjn
                have EQ : Aside0 (mkF true cc 1114111 out = out ++ [⟨cc, 1114111⟩]) := ⟨by
                  unfold mkF
                  rw [if_pos rfl, if_neg (fun q => hjn (by rw [HLH.out]; exact q.2))]⟩
                clear hjn
                go_wp2_with fail
                go_quiet (fail)
                go_wp2_with ((with_reducible refine gate_builtin (b := .append) (xs := #[.tmp 104, .tmp 111]) rfl ?_); at_builtin; refine Kd.R_append k38 (w0 := W1) W1.heap.size rfl (.tmp 104) (.tmp 111) 23 38 (.agg #[.int .i64 0, .int .i64 0]) 16 rfl Tryz.underlying23 info38 rfl (by decide) (by omega) _ out ⟨cc, 1114111⟩ [.int .i64 cc, .int .i64 1114111] (fun _ => True) (fun _ => False) rfl rfl ?aP (fun _ hk => hk.elim) ?aF ?aO ?aB ?aS ?aL ?_; (case aP => exact k38_mkM _ _ _ ⟨cc, 1114111⟩); (case aF => exact fun _ _ => trivial); (case aO => (repeat (first | exact HRo.out | refine Kd.R_drewN ?_ _))); (case aB => (repeat (first | exact HB1.out | refine pw_below_drewN ?_ _))); (case aS => exact HB1.out.size); (case aL => omega); intro v5 w5 hR5 hb5 hg5 hat5; rw [← EQ.out] at hR5; have HR5 := Aside0.mk hR5; have HB5 := Aside0.mk hb5; clear hR5 hb5 hg5 hat5)
                go_roundw
                case rel => exact ⟨j + 1, _, hlt, by go_num, HR5.out, HB5.out, HE0.out, HML.out, HBD2.out⟩
                case measure => simp [intOf]; omega
            · obtain ⟨Ao, co, rfl⟩ := Kd.R_slice HRo.out
              have o1 : decide (0 < (out.length : Int)) = false := decide_eq_false (by omega)
              have o2 : decide (0 < out.length) = false := decide_eq_false ho
              have EQ : Aside0 (mkF true cc 1114111 out = out ++ [⟨cc, 1114111⟩]) := ⟨by
                unfold mkF
                rw [if_pos rfl, if_neg (fun q => ho q.1)]⟩
              go_wp2_with fail
              go_quiet (fail)
              go_wp2_with ((with_reducible refine gate_builtin (b := .append) (xs := #[.tmp 104, .tmp 111]) rfl ?_); at_builtin; refine Kd.R_append k38 (w0 := W1) W1.heap.size rfl (.tmp 104) (.tmp 111) 23 38 (.agg #[.int .i64 0, .int .i64 0]) 16 rfl Tryz.underlying23 info38 rfl (by decide) (by omega) _ out ⟨cc, 1114111⟩ [.int .i64 cc, .int .i64 1114111] (fun _ => True) (fun _ => False) rfl rfl ?aP (fun _ hk => hk.elim) ?aF ?aO ?aB ?aS ?aL ?_; (case aP => exact k38_mkM _ _ _ ⟨cc, 1114111⟩); (case aF => exact fun _ _ => trivial); (case aO => (repeat (first | exact HRo.out | refine Kd.R_drewN ?_ _))); (case aB => (repeat (first | exact HB1.out | refine pw_below_drewN ?_ _))); (case aS => exact HB1.out.size); (case aL => omega); intro v5 w5 hR5 hb5 hg5 hat5; rw [← EQ.out] at hR5; have HR5 := Aside0.mk hR5; have HB5 := Aside0.mk hb5; clear hR5 hb5 hg5 hat5)
              go_roundw
              case rel => exact ⟨j + 1, _, hlt, by go_num, HR5.out, HB5.out, HE0.out, HML.out, HBD2.out⟩
              case measure => simp [intOf]; omega
        | false =>
          have KP : Aside0 (rbK (hasF l0 cc) (hasF l1 cc) = false) := ⟨by rw [hx, hy, hrb.out]; rfl⟩
          have HA : Aside0 (∀ W, Kd.C k38 W A0 l0.length l0 → Calls Tryz.prog 32 #[.slice A0 l0.length c0, .int .i64 cc] W fun e w' => e = .returned (.bool false) ∧ Drawn0 W w') := ⟨fun W h => by rw [← hx]; exact P.ref_has_calls A0 c0 l0 cc W h HC0.out⟩
          have HBh : Aside0 (∀ W, Kd.C k38 W A1 l1.length l1 → Calls Tryz.prog 32 #[.slice A1 l1.length c1, .int .i64 cc] W fun e w' => e = .returned (.bool false) ∧ Drawn0 W w') := ⟨fun W h => by rw [← hy]; exact P.ref_has_calls A1 c1 l1 cc W h HC1.out⟩
          clear hx hy
          go_wp2_with fail
          go_quiet ((go_at_call 32; first | ((with_reducible refine (HA.out _ (Kd.C_drewN CA.out _)).mono ?_); rintro e w' ⟨rfl, ⟨nd, rfl⟩⟩; (first | exact ⟨rfl, _, rfl⟩ | exact ⟨rfl, _, World.drewN_drewN _ _ _⟩ | exact ⟨rfl, _, Eq.trans (World.drewN_drewN _ _ _) (congrArg (World.drewN _) (Nat.add_assoc _ _ _))⟩)) | ((with_reducible refine (HA.out _ CA.out).mono ?_); rintro e w' ⟨rfl, ⟨nd, rfl⟩⟩; (first | exact ⟨rfl, _, rfl⟩ | exact ⟨rfl, _, World.drewN_drewN _ _ _⟩ | exact ⟨rfl, _, Eq.trans (World.drewN_drewN _ _ _) (congrArg (World.drewN _) (Nat.add_assoc _ _ _))⟩)) | ((with_reducible refine (HBh.out _ (Kd.C_drewN CB.out _)).mono ?_); rintro e w' ⟨rfl, ⟨nd, rfl⟩⟩; (first | exact ⟨rfl, _, rfl⟩ | exact ⟨rfl, _, World.drewN_drewN _ _ _⟩ | exact ⟨rfl, _, Eq.trans (World.drewN_drewN _ _ _) (congrArg (World.drewN _) (Nat.add_assoc _ _ _))⟩)) | ((with_reducible refine (HBh.out _ CB.out).mono ?_); rintro e w' ⟨rfl, ⟨nd, rfl⟩⟩; (first | exact ⟨rfl, _, rfl⟩ | exact ⟨rfl, _, World.drewN_drewN _ _ _⟩ | exact ⟨rfl, _, Eq.trans (World.drewN_drewN _ _ _) (congrArg (World.drewN _) (Nat.add_assoc _ _ _))⟩))))
          clear HA HBh
          have HE0 : Aside0 (madeRun rbK l0 l1 (es.drop (j + 1)) out = fin) := ⟨by
            have := HRUN.out
            rw [KP.out] at this
            exact this⟩
          go_wp2_with fail
          go_roundw
          case rel => exact ⟨j + 1, _, hlt, by go_num, Kd.R_drewN HRo.out _, pw_below_drewN HB1.out _, HE0.out, by omega, HBD.out⟩
          case measure => simp [intOf]; omega
    · have b1 : decide ((j : Int) < (es.length : Int)) = false := decide_eq_false (by omega)
      have b2 : decide (j < es.length) = false := decide_eq_false hlt
      have HF : Aside0 (out = fin) := ⟨by rw [List.drop_eq_nil_iff.2 (by omega)] at hrun; exact hrun⟩
      clear hrun
      go_wp2_with fail
      go_ret
      exact ⟨_, rfl, by rw [← HFIN.out, ← HF.out]; exact Kd.R_lower HRo.out HB01.out.size, HB01.out.trans (HB1.out.mono HB01.out.size)⟩
set_option maxHeartbeats 32000000 in
set_option maxRecDepth 100000 in
theorem made_and (A0 : Option Addr) (c0 : Nat) (l0 : List S38) (A1 : Option Addr) (c1 : Nat) (l1 : List S38) (w : World) (hr0 : Kd.C k38 w A0 l0.length l0) (hc0 : l0.length ≤ c0) (hr1 : Kd.C k38 w A1 l1.length l1) (hc1 : l1.length ≤ c1)
    (hes : ∀ i, 0 ≤ i → i < ((edgesF [l0, l1]).length : Int) → 0 ≤ rd (edgesF [l0, l1]) i ∧ rd (edgesF [l0, l1]) i ≤ 1114111) :
    Calls Tryz.prog 57 #[.slice A0 l0.length c0, .slice A1 l1.length c1, .int .i64 1] w fun e w' => ∃ v, e = .returned v ∧ Kd.R k38 38 w' w.heap.size (fun _ => True) v (madeRun (fun x y => x && y) l0 l1 (edgesF [l0, l1]) []) ∧ Below w.heap.size w w' := by
  obtain ⟨rbK, hrb'⟩ : ∃ rbK : Bool → Bool → Bool, rbK = (fun x y => x && y) := ⟨_, rfl⟩
  rw [← hrb']
  have hrb := Aside0.mk hrb'
  have HR0 := Aside0.mk hr0
  have HR1 := Aside0.mk hr1
  have HC0 := Aside0.mk hc0
  have HC1 := Aside0.mk hc1
  have hel := edgesF_len [l0, l1]
  have hel2 : (edgesF [l0, l1]).length ≤ 1601 := hel
  obtain ⟨es, hesq⟩ : ∃ es, es = edgesF [l0, l1] := ⟨_, rfl⟩
  rw [← hesq] at hes hel2 ⊢
  have HES := Aside0.mk hes
  have HEQ := Aside0.mk hesq
  clear hr0 hr1 hc0 hc1 hrb' hel hes hesq
  go_enter Tryz.func57, Tryz.ntmps57
  go_wp2_with fail
  obtain ⟨W0, hW0⟩ : ∃ W0, W0 = w.alloc (.cells #[.slice A0 l0.length c0, .slice A1 l1.length c1] 23) := ⟨_, rfl⟩
  have X0 : W0.heap[w.heap.size]? = some (.cells #[.slice A0 l0.length c0, .slice A1 l1.length c1] 23 (0, 0)) := by rw [hW0]; exact blk_new _ _
  have B0 : Below w.heap.size w W0 := by rw [hW0]; exact below_alloc (Below.refl _ _) _
  rw [← hW0]
  clear hW0
  have hE := edges_calls (some ⟨w.heap.size, 0, none⟩) 2 [l0, l1] W0 (C_sets X0 (Kd.C_below HR0.out B0) HC0.out (Kd.C_below HR1.out B0) HC1.out) (Nat.le_refl _) (by simp)
  rw [← HEQ.out] at hE
  have hE' : Calls Tryz.prog 25 #[.slice (some ⟨w.heap.size, 0, none⟩) 2 2] W0 (fun e w' => ∃ v, e = .returned v ∧ Kd.R (Kd.int .i64) 3 w' W0.heap.size (fun _ => True) v es ∧ Below W0.heap.size W0 w') := hE
  have HEE := Aside0.mk hE'
  have HB0 := Aside0.mk B0
  clear hE hE' B0 X0 HEQ
  refine HEE.out.mono ?_
  rintro e W1 ⟨ve, rfl, rE, bE⟩
  obtain ⟨Ae, ce, rfl⟩ := Kd.R_slice rE
  have HEC := Aside0.mk (Kd.R_reads' rE).2.2
  have HB01 := Aside0.mk (HB0.out.trans (bE.mono HB0.out.size))
  have CA0 := Aside0.mk (Kd.C_below HR0.out HB01.out)
  have CB0 := Aside0.mk (Kd.C_below HR1.out HB01.out)
  obtain ⟨fin, hfin⟩ : ∃ fin, fin = madeRun rbK l0 l1 es [] := ⟨_, rfl⟩
  have HFIN := Aside0.mk hfin
  clear rE bE hfin HEE HB0
  go_wp2_with fail
  go_loopw [7, 9] (fun t7 t9 W => Lm rbK W1 l0 l1 es fin t7 t9 W) (fun _ t9 _ => es.length - (intOf t9).toNat)
  case atStart => exact ⟨0, [], Nat.zero_le _, rfl, Kd.R_nil _ _ _ _ _, Below.refl _ _, HFIN.out.symm, Nat.le_refl _, (fun r hr => by cases hr)⟩
  case round =>
    obtain ⟨j, out, hj, rfl, hR, hB, hrun, hol, hbd⟩ := hrel
    have HRo := Aside0.mk hR
    have HB1 := Aside0.mk hB
    have HBD := Aside0.mk hbd
    clear hR hB hbd
    by_cases hlt : j < es.length
    · rw [run_step rbK l0 l1 es j out hlt] at hrun
      have HRUN := Aside0.mk hrun
      clear hrun
      have b1 : decide ((j : Int) < (es.length : Int)) = true := decide_eq_true (by omega)
      have b2 : decide (j < es.length) = true := decide_eq_true hlt
      have q0 : 0 ≤ (j : Int) := by omega
      have q1 : (j : Int) < (es.length : Int) := by omega
      have w2 : IntKind.i64.wrap ((j : Int) + 1) = (j : Int) + 1 := IntWalk.i64_in _ (by omega)
      obtain ⟨ad, rfl, k1⟩ := Kd.at_int (Kd.C_below HEC.out HB1.out) (j : Int) (by omega) (by omega)
      rw [Int.toNat_natCast] at k1
      have hcb := HES.out _ q0 q1
      obtain ⟨cc, hcc0⟩ : ∃ cc, cc = rd es (j : Int) := ⟨_, rfl⟩
      rw [← hcc0] at k1 HRUN hcb
      clear hcc0
      have CA := Aside0.mk (Kd.C_below CA0.out HB1.out)
      have CB := Aside0.mk (Kd.C_below CB0.out HB1.out)
      cases hx : hasF l0 cc with
      | true =>
        cases hy : hasF l1 cc with
        | true =>
          have KP : Aside0 (rbK (hasF l0 cc) (hasF l1 cc) = true) := ⟨by rw [hx, hy, hrb.out]; rfl⟩
          have HA : Aside0 (∀ W, Kd.C k38 W A0 l0.length l0 → Calls Tryz.prog 32 #[.slice A0 l0.length c0, .int .i64 cc] W fun e w' => e = .returned (.bool true) ∧ Drawn0 W w') := ⟨fun W h => by rw [← hx]; exact P.ref_has_calls A0 c0 l0 cc W h HC0.out⟩
          have HBh : Aside0 (∀ W, Kd.C k38 W A1 l1.length l1 → Calls Tryz.prog 32 #[.slice A1 l1.length c1, .int .i64 cc] W fun e w' => e = .returned (.bool true) ∧ Drawn0 W w') := ⟨fun W h => by rw [← hy]; exact P.ref_has_calls A1 c1 l1 cc W h HC1.out⟩
          clear hx hy
          go_wp2_with fail
          go_quiet ((go_at_call 32; first | ((with_reducible refine (HA.out _ (Kd.C_drewN CA.out _)).mono ?_); rintro e w' ⟨rfl, ⟨nd, rfl⟩⟩; (first | exact ⟨rfl, _, rfl⟩ | exact ⟨rfl, _, World.drewN_drewN _ _ _⟩ | exact ⟨rfl, _, Eq.trans (World.drewN_drewN _ _ _) (congrArg (World.drewN _) (Nat.add_assoc _ _ _))⟩)) | ((with_reducible refine (HA.out _ CA.out).mono ?_); rintro e w' ⟨rfl, ⟨nd, rfl⟩⟩; (first | exact ⟨rfl, _, rfl⟩ | exact ⟨rfl, _, World.drewN_drewN _ _ _⟩ | exact ⟨rfl, _, Eq.trans (World.drewN_drewN _ _ _) (congrArg (World.drewN _) (Nat.add_assoc _ _ _))⟩)) | ((with_reducible refine (HBh.out _ (Kd.C_drewN CB.out _)).mono ?_); rintro e w' ⟨rfl, ⟨nd, rfl⟩⟩; (first | exact ⟨rfl, _, rfl⟩ | exact ⟨rfl, _, World.drewN_drewN _ _ _⟩ | exact ⟨rfl, _, Eq.trans (World.drewN_drewN _ _ _) (congrArg (World.drewN _) (Nat.add_assoc _ _ _))⟩)) | ((with_reducible refine (HBh.out _ CB.out).mono ?_); rintro e w' ⟨rfl, ⟨nd, rfl⟩⟩; (first | exact ⟨rfl, _, rfl⟩ | exact ⟨rfl, _, World.drewN_drewN _ _ _⟩ | exact ⟨rfl, _, Eq.trans (World.drewN_drewN _ _ _) (congrArg (World.drewN _) (Nat.add_assoc _ _ _))⟩))))
          clear HA HBh
          by_cases hn : j + 1 < es.length
          · have n1 : decide ((j : Int) + 1 < (es.length : Int)) = true := decide_eq_true (by omega)
            have n2 : decide (j + 1 < es.length) = true := decide_eq_true hn
            have n3 : 0 ≤ (j : Int) + 1 := by omega
            have n4 : (j : Int) + 1 < (es.length : Int) := by omega
            obtain ⟨ad2, ea2, k2⟩ := Kd.at_int (Kd.C_below HEC.out HB1.out) ((j : Int) + 1) (by omega) (by omega)
            injection ea2 with ea2
            subst ea2
            rw [show ((j : Int) + 1).toNat = j + 1 from by omega] at k2
            have hdb := HES.out _ n3 n4
            obtain ⟨dd, hdd⟩ : ∃ dd, dd = rd es ((j : Int) + 1) := ⟨_, rfl⟩
            rw [← hdd] at k2 HRUN hdb
            clear hdd
            have n5 : IntKind.i64.wrap (dd - 1) = dd - 1 := IntWalk.i64_in _ (by omega)
            have k3 : wr.cell? ⟨ad.block, ad.off + (j + 1), none⟩ = some (.int .i64 dd) := by rw [← k2]; congr 1
            have HE0 : Aside0 (madeRun rbK l0 l1 (es.drop (j + 1)) (mkF true cc (dd - 1) out) = fin) := ⟨by
              have := HRUN.out
              rw [KP.out, if_pos hn] at this
              exact this⟩
            have hml := mkF_len true cc (dd - 1) out
            have HML : Aside0 ((mkF true cc (dd - 1) out).length ≤ j + 1) := ⟨by omega⟩
            have HBD2 : Aside0 (Bd (mkF true cc (dd - 1) out)) := ⟨HBD.out.mk (by omega)⟩
            clear hml
            by_cases ho : 0 < out.length
            · obtain ⟨g, co, rfl, hgb⟩ := R_place HRo.out ho
              have hlb := HBD.out.last ho
              obtain ⟨cs, hcl, hcM, hcc, hcf⟩ := Kd.R_elem HRo.out z38 ((out.length : Int) - 1) (by omega) (by omega)
              obtain rfl := k38_openM hcM
              have hi1 : ((out.length : Int) - 1).toNat = out.length - 1 := by omega
              have y1 : wr.cell? ⟨g, (out.length - 1) * 2 + 1, none⟩ = some (.int .i64 (rd_T38 out ((out.length : Int) - 1)).f1) := by
                have := hcc 1 _ rfl
                rw [hi1] at this
                unfold rd_T38
                rw [hi1]
                exact this
              have z1 : wr.frozen? ⟨g, (out.length - 1) * 2 + 1, none⟩ = false := by
                have := hcf 1
                rw [hi1] at this
                exact this
              have o1 : decide (0 < (out.length : Int)) = true := decide_eq_true (by omega)
              have o2 : decide (0 < out.length) = true := decide_eq_true ho
              have o3 : IntKind.i64.wrap ((out.length : Int) - 1) = (out.length : Int) - 1 := IntWalk.i64_in _ (by omega)
              have o4 : 0 ≤ (out.length : Int) - 1 := by omega
              have o5 : (out.length : Int) - 1 < (out.length : Int) := by omega
              clear hcc hcf hcM hcl
              obtain ⟨lh, hlh⟩ : ∃ lh, lh = (rd_T38 out ((out.length : Int) - 1)).f1 := ⟨_, rfl⟩
              rw [← hlh] at y1 hlb
              have HLH := Aside0.mk hlh
              clear hlh
              have o6 : IntKind.i64.wrap (lh + 1) = lh + 1 := IntWalk.i64_in _ (by omega)
              by_cases hjn : lh + 1 = cc
              · have o7 : ((lh + 1) == cc) = true := beq_iff_eq.2 hjn
                have EQ : Aside0 (mkF true cc (dd - 1) out = out.set (out.length - 1) ⟨(rd_T38 out ((out.length : Int) - 1)).f0, (dd - 1)⟩) := ⟨by
                  unfold mkF
                  rw [if_pos rfl, if_pos ⟨ho, by rw [← HLH.out]; exact hjn⟩]⟩
                have RST : Aside0 (∀ W : World, Kd.R k38 38 W W1.heap.size (fun _ => True) (.slice (some ⟨g, 0, none⟩) out.length co) out → Kd.R k38 38 (W.setCell ⟨g, (out.length - 1) * 2 + 1, none⟩ (.int .i64 (dd - 1))) W1.heap.size (fun _ => True) (.slice (some ⟨g, 0, none⟩) out.length co) (mkF true cc (dd - 1) out)) := ⟨fun W h => by rw [EQ.out]; exact R_last h ho _⟩
                clear hjn
                go_wp2_with fail
                go_quiet (fail)
                go_wp2_with fail
                go_roundw
                case rel => exact ⟨j + 1, _, hlt, by go_num, RST.out _ (by repeat (first | exact HRo.out | refine Kd.R_drewN ?_ _)), Below.setCell (by repeat (first | exact HB1.out | refine pw_below_drewN ?_ _)) hgb _, HE0.out, HML.out, HBD2.out⟩
                case measure => simp [intOf]; omega
              · have o7 : ((lh + 1) == cc) = false := beq_eq_false_iff_ne.2 hjn
                have EQ : Aside0 (mkF true cc (dd - 1) out = out ++ [⟨cc, (dd - 1)⟩]) := ⟨by
                  unfold mkF
                  rw [if_pos rfl, if_neg (fun q => hjn (by rw [HLH.out]; exact q.2))]⟩
                clear hjn
                go_wp2_with fail
                go_quiet (fail)
                go_wp2_with ((with_reducible refine gate_builtin (b := .append) (xs := #[.tmp 104, .tmp 111]) rfl ?_); at_builtin; refine Kd.R_append k38 (w0 := W1) W1.heap.size rfl (.tmp 104) (.tmp 111) 23 38 (.agg #[.int .i64 0, .int .i64 0]) 16 rfl Tryz.underlying23 info38 rfl (by decide) (by omega) _ out ⟨cc, (dd - 1)⟩ [.int .i64 cc, .int .i64 (dd - 1)] (fun _ => True) (fun _ => False) rfl rfl ?aP (fun _ hk => hk.elim) ?aF ?aO ?aB ?aS ?aL ?_; (case aP => exact k38_mkM _ _ _ ⟨cc, (dd - 1)⟩); (case aF => exact fun _ _ => trivial); (case aO => (repeat (first | exact HRo.out | refine Kd.R_drewN ?_ _))); (case aB => (repeat (first | exact HB1.out | refine pw_below_drewN ?_ _))); (case aS => exact HB1.out.size); (case aL => omega); intro v5 w5 hR5 hb5 hg5 hat5; rw [← EQ.out] at hR5; have HR5 := Aside0.mk hR5; have HB5 := Aside0.mk hb5; clear hR5 hb5 hg5 hat5)
                go_roundw
                case rel => exact ⟨j + 1, _, hlt, by go_num, HR5.out, HB5.out, HE0.out, HML.out, HBD2.out⟩
                case measure => simp [intOf]; omega
            · obtain ⟨Ao, co, rfl⟩ := Kd.R_slice HRo.out
              have o1 : decide (0 < (out.length : Int)) = false := decide_eq_false (by omega)
              have o2 : decide (0 < out.length) = false := decide_eq_false ho
              have EQ : Aside0 (mkF true cc (dd - 1) out = out ++ [⟨cc, (dd - 1)⟩]) := ⟨by
                unfold mkF
                rw [if_pos rfl, if_neg (fun q => ho q.1)]⟩
              go_wp2_with fail
              go_quiet (fail)
              go_wp2_with ((with_reducible refine gate_builtin (b := .append) (xs := #[.tmp 104, .tmp 111]) rfl ?_); at_builtin; refine Kd.R_append k38 (w0 := W1) W1.heap.size rfl (.tmp 104) (.tmp 111) 23 38 (.agg #[.int .i64 0, .int .i64 0]) 16 rfl Tryz.underlying23 info38 rfl (by decide) (by omega) _ out ⟨cc, (dd - 1)⟩ [.int .i64 cc, .int .i64 (dd - 1)] (fun _ => True) (fun _ => False) rfl rfl ?aP (fun _ hk => hk.elim) ?aF ?aO ?aB ?aS ?aL ?_; (case aP => exact k38_mkM _ _ _ ⟨cc, (dd - 1)⟩); (case aF => exact fun _ _ => trivial); (case aO => (repeat (first | exact HRo.out | refine Kd.R_drewN ?_ _))); (case aB => (repeat (first | exact HB1.out | refine pw_below_drewN ?_ _))); (case aS => exact HB1.out.size); (case aL => omega); intro v5 w5 hR5 hb5 hg5 hat5; rw [← EQ.out] at hR5; have HR5 := Aside0.mk hR5; have HB5 := Aside0.mk hb5; clear hR5 hb5 hg5 hat5)
              go_roundw
              case rel => exact ⟨j + 1, _, hlt, by go_num, HR5.out, HB5.out, HE0.out, HML.out, HBD2.out⟩
              case measure => simp [intOf]; omega
          · have n1 : decide ((j : Int) + 1 < (es.length : Int)) = false := decide_eq_false (by omega)
            have n2 : decide (j + 1 < es.length) = false := decide_eq_false hn
            have HE0 : Aside0 (madeRun rbK l0 l1 (es.drop (j + 1)) (mkF true cc 1114111 out) = fin) := ⟨by
              have := HRUN.out
              rw [KP.out, if_neg hn] at this
              exact this⟩
            have hml := mkF_len true cc 1114111 out
            have HML : Aside0 ((mkF true cc 1114111 out).length ≤ j + 1) := ⟨by omega⟩
            have HBD2 : Aside0 (Bd (mkF true cc 1114111 out)) := ⟨HBD.out.mk (by omega)⟩
            clear hml
            by_cases ho : 0 < out.length
            · obtain ⟨g, co, rfl, hgb⟩ := R_place HRo.out ho
              have hlb := HBD.out.last ho
              obtain ⟨cs, hcl, hcM, hcc, hcf⟩ := Kd.R_elem HRo.out z38 ((out.length : Int) - 1) (by omega) (by omega)
              obtain rfl := k38_openM hcM
              have hi1 : ((out.length : Int) - 1).toNat = out.length - 1 := by omega
              have y1 : wr.cell? ⟨g, (out.length - 1) * 2 + 1, none⟩ = some (.int .i64 (rd_T38 out ((out.length : Int) - 1)).f1) := by
                have := hcc 1 _ rfl
                rw [hi1] at this
                unfold rd_T38
                rw [hi1]
                exact this
              have z1 : wr.frozen? ⟨g, (out.length - 1) * 2 + 1, none⟩ = false := by
                have := hcf 1
                rw [hi1] at this
                exact this
              have o1 : decide (0 < (out.length : Int)) = true := decide_eq_true (by omega)
              have o2 : decide (0 < out.length) = true := decide_eq_true ho
              have o3 : IntKind.i64.wrap ((out.length : Int) - 1) = (out.length : Int) - 1 := IntWalk.i64_in _ (by omega)
              have o4 : 0 ≤ (out.length : Int) - 1 := by omega
              have o5 : (out.length : Int) - 1 < (out.length : Int) := by omega
              clear hcc hcf hcM hcl
              obtain ⟨lh, hlh⟩ : ∃ lh, lh = (rd_T38 out ((out.length : Int) - 1)).f1 := ⟨_, rfl⟩
              rw [← hlh] at y1 hlb
              have HLH := Aside0.mk hlh
              clear hlh
              have o6 : IntKind.i64.wrap (lh + 1) = lh + 1 := IntWalk.i64_in _ (by omega)
              by_cases hjn : lh + 1 = cc
              · have o7 : ((lh + 1) == cc) = true := beq_iff_eq.2 hjn
                have EQ : Aside0 (mkF true cc 1114111 out = out.set (out.length - 1) ⟨(rd_T38 out ((out.length : Int) - 1)).f0, 1114111⟩) := ⟨by
                  unfold mkF
                  rw [if_pos rfl, if_pos ⟨ho, by rw [← HLH.out]; exact hjn⟩]⟩
                have RST : Aside0 (∀ W : World, Kd.R k38 38 W W1.heap.size (fun _ => True) (.slice (some ⟨g, 0, none⟩) out.length co) out → Kd.R k38 38 (W.setCell ⟨g, (out.length - 1) * 2 + 1, none⟩ (.int .i64 1114111)) W1.heap.size (fun _ => True) (.slice (some ⟨g, 0, none⟩) out.length co) (mkF true cc 1114111 out)) := ⟨fun W h => by rw [EQ.out]; exact R_last h ho _⟩
                clear hjn
                go_wp2_with fail
                go_quiet (fail)
                go_wp2_with fail
                go_roundw
                case rel => exact ⟨j + 1, _, hlt, by go_num, RST.out _ (by repeat (first | exact HRo.out | refine Kd.R_drewN ?_ _)), Below.setCell (by repeat (first | exact HB1.out | refine pw_below_drewN ?_ _)) hgb _, HE0.out, HML.out, HBD2.out⟩
                case measure => simp [intOf]; omega
              · have o7 : ((lh + 1) == cc) = false := beq_eq_false_iff_ne.2 hjn
                have EQ : Aside0 (mkF true cc 1114111 out = out ++ [⟨cc, 1114111⟩]) := ⟨by
                  unfold mkF
                  rw [if_pos rfl, if_neg (fun q => hjn (by rw [HLH.out]; exact q.2))]⟩
                clear hjn
                go_wp2_with fail
                go_quiet (fail)
                go_wp2_with ((with_reducible refine gate_builtin (b := .append) (xs := #[.tmp 104, .tmp 111]) rfl ?_); at_builtin; refine Kd.R_append k38 (w0 := W1) W1.heap.size rfl (.tmp 104) (.tmp 111) 23 38 (.agg #[.int .i64 0, .int .i64 0]) 16 rfl Tryz.underlying23 info38 rfl (by decide) (by omega) _ out ⟨cc, 1114111⟩ [.int .i64 cc, .int .i64 1114111] (fun _ => True) (fun _ => False) rfl rfl ?aP (fun _ hk => hk.elim) ?aF ?aO ?aB ?aS ?aL ?_; (case aP => exact k38_mkM _ _ _ ⟨cc, 1114111⟩); (case aF => exact fun _ _ => trivial); (case aO => (repeat (first | exact HRo.out | refine Kd.R_drewN ?_ _))); (case aB => (repeat (first | exact HB1.out | refine pw_below_drewN ?_ _))); (case aS => exact HB1.out.size); (case aL => omega); intro v5 w5 hR5 hb5 hg5 hat5; rw [← EQ.out] at hR5; have HR5 := Aside0.mk hR5; have HB5 := Aside0.mk hb5; clear hR5 hb5 hg5 hat5)
                go_roundw
                case rel => exact ⟨j + 1, _, hlt, by go_num, HR5.out, HB5.out, HE0.out, HML.out, HBD2.out⟩
                case measure => simp [intOf]; omega
            · obtain ⟨Ao, co, rfl⟩ := Kd.R_slice HRo.out
              have o1 : decide (0 < (out.length : Int)) = false := decide_eq_false (by omega)
              have o2 : decide (0 < out.length) = false := decide_eq_false ho
              have EQ : Aside0 (mkF true cc 1114111 out = out ++ [⟨cc, 1114111⟩]) := ⟨by
                unfold mkF
                rw [if_pos rfl, if_neg (fun q => ho q.1)]⟩
              go_wp2_with fail
              go_quiet (fail)
              go_wp2_with ((with_reducible refine gate_builtin (b := .append) (xs := #[.tmp 104, .tmp 111]) rfl ?_); at_builtin; refine Kd.R_append k38 (w0 := W1) W1.heap.size rfl (.tmp 104) (.tmp 111) 23 38 (.agg #[.int .i64 0, .int .i64 0]) 16 rfl Tryz.underlying23 info38 rfl (by decide) (by omega) _ out ⟨cc, 1114111⟩ [.int .i64 cc, .int .i64 1114111] (fun _ => True) (fun _ => False) rfl rfl ?aP (fun _ hk => hk.elim) ?aF ?aO ?aB ?aS ?aL ?_; (case aP => exact k38_mkM _ _ _ ⟨cc, 1114111⟩); (case aF => exact fun _ _ => trivial); (case aO => (repeat (first | exact HRo.out | refine Kd.R_drewN ?_ _))); (case aB => (repeat (first | exact HB1.out | refine pw_below_drewN ?_ _))); (case aS => exact HB1.out.size); (case aL => omega); intro v5 w5 hR5 hb5 hg5 hat5; rw [← EQ.out] at hR5; have HR5 := Aside0.mk hR5; have HB5 := Aside0.mk hb5; clear hR5 hb5 hg5 hat5)
              go_roundw
              case rel => exact ⟨j + 1, _, hlt, by go_num, HR5.out, HB5.out, HE0.out, HML.out, HBD2.out⟩
              case measure => simp [intOf]; omega
        | false =>
          have KP : Aside0 (rbK (hasF l0 cc) (hasF l1 cc) = false) := ⟨by rw [hx, hy, hrb.out]; rfl⟩
          have HA : Aside0 (∀ W, Kd.C k38 W A0 l0.length l0 → Calls Tryz.prog 32 #[.slice A0 l0.length c0, .int .i64 cc] W fun e w' => e = .returned (.bool true) ∧ Drawn0 W w') := ⟨fun W h => by rw [← hx]; exact P.ref_has_calls A0 c0 l0 cc W h HC0.out⟩
          have HBh : Aside0 (∀ W, Kd.C k38 W A1 l1.length l1 → Calls Tryz.prog 32 #[.slice A1 l1.length c1, .int .i64 cc] W fun e w' => e = .returned (.bool false) ∧ Drawn0 W w') := ⟨fun W h => by rw [← hy]; exact P.ref_has_calls A1 c1 l1 cc W h HC1.out⟩
          clear hx hy
          go_wp2_with fail
          go_quiet ((go_at_call 32; first | ((with_reducible refine (HA.out _ (Kd.C_drewN CA.out _)).mono ?_); rintro e w' ⟨rfl, ⟨nd, rfl⟩⟩; (first | exact ⟨rfl, _, rfl⟩ | exact ⟨rfl, _, World.drewN_drewN _ _ _⟩ | exact ⟨rfl, _, Eq.trans (World.drewN_drewN _ _ _) (congrArg (World.drewN _) (Nat.add_assoc _ _ _))⟩)) | ((with_reducible refine (HA.out _ CA.out).mono ?_); rintro e w' ⟨rfl, ⟨nd, rfl⟩⟩; (first | exact ⟨rfl, _, rfl⟩ | exact ⟨rfl, _, World.drewN_drewN _ _ _⟩ | exact ⟨rfl, _, Eq.trans (World.drewN_drewN _ _ _) (congrArg (World.drewN _) (Nat.add_assoc _ _ _))⟩)) | ((with_reducible refine (HBh.out _ (Kd.C_drewN CB.out _)).mono ?_); rintro e w' ⟨rfl, ⟨nd, rfl⟩⟩; (first | exact ⟨rfl, _, rfl⟩ | exact ⟨rfl, _, World.drewN_drewN _ _ _⟩ | exact ⟨rfl, _, Eq.trans (World.drewN_drewN _ _ _) (congrArg (World.drewN _) (Nat.add_assoc _ _ _))⟩)) | ((with_reducible refine (HBh.out _ CB.out).mono ?_); rintro e w' ⟨rfl, ⟨nd, rfl⟩⟩; (first | exact ⟨rfl, _, rfl⟩ | exact ⟨rfl, _, World.drewN_drewN _ _ _⟩ | exact ⟨rfl, _, Eq.trans (World.drewN_drewN _ _ _) (congrArg (World.drewN _) (Nat.add_assoc _ _ _))⟩))))
          clear HA HBh
          have HE0 : Aside0 (madeRun rbK l0 l1 (es.drop (j + 1)) out = fin) := ⟨by
            have := HRUN.out
            rw [KP.out] at this
            exact this⟩
          go_wp2_with fail
          go_roundw
          case rel => exact ⟨j + 1, _, hlt, by go_num, Kd.R_drewN HRo.out _, pw_below_drewN HB1.out _, HE0.out, by omega, HBD.out⟩
          case measure => simp [intOf]; omega
      | false =>
        cases hy : hasF l1 cc with
        | true =>
          have KP : Aside0 (rbK (hasF l0 cc) (hasF l1 cc) = false) := ⟨by rw [hx, hy, hrb.out]; rfl⟩
          have HA : Aside0 (∀ W, Kd.C k38 W A0 l0.length l0 → Calls Tryz.prog 32 #[.slice A0 l0.length c0, .int .i64 cc] W fun e w' => e = .returned (.bool false) ∧ Drawn0 W w') := ⟨fun W h => by rw [← hx]; exact P.ref_has_calls A0 c0 l0 cc W h HC0.out⟩
          have HBh : Aside0 (∀ W, Kd.C k38 W A1 l1.length l1 → Calls Tryz.prog 32 #[.slice A1 l1.length c1, .int .i64 cc] W fun e w' => e = .returned (.bool true) ∧ Drawn0 W w') := ⟨fun W h => by rw [← hy]; exact P.ref_has_calls A1 c1 l1 cc W h HC1.out⟩
          clear hx hy
          go_wp2_with fail
          go_quiet ((go_at_call 32; first | ((with_reducible refine (HA.out _ (Kd.C_drewN CA.out _)).mono ?_); rintro e w' ⟨rfl, ⟨nd, rfl⟩⟩; (first | exact ⟨rfl, _, rfl⟩ | exact ⟨rfl, _, World.drewN_drewN _ _ _⟩ | exact ⟨rfl, _, Eq.trans (World.drewN_drewN _ _ _) (congrArg (World.drewN _) (Nat.add_assoc _ _ _))⟩)) | ((with_reducible refine (HA.out _ CA.out).mono ?_); rintro e w' ⟨rfl, ⟨nd, rfl⟩⟩; (first | exact ⟨rfl, _, rfl⟩ | exact ⟨rfl, _, World.drewN_drewN _ _ _⟩ | exact ⟨rfl, _, Eq.trans (World.drewN_drewN _ _ _) (congrArg (World.drewN _) (Nat.add_assoc _ _ _))⟩)) | ((with_reducible refine (HBh.out _ (Kd.C_drewN CB.out _)).mono ?_); rintro e w' ⟨rfl, ⟨nd, rfl⟩⟩; (first | exact ⟨rfl, _, rfl⟩ | exact ⟨rfl, _, World.drewN_drewN _ _ _⟩ | exact ⟨rfl, _, Eq.trans (World.drewN_drewN _ _ _) (congrArg (World.drewN _) (Nat.add_assoc _ _ _))⟩)) | ((with_reducible refine (HBh.out _ CB.out).mono ?_); rintro e w' ⟨rfl, ⟨nd, rfl⟩⟩; (first | exact ⟨rfl, _, rfl⟩ | exact ⟨rfl, _, World.drewN_drewN _ _ _⟩ | exact ⟨rfl, _, Eq.trans (World.drewN_drewN _ _ _) (congrArg (World.drewN _) (Nat.add_assoc _ _ _))⟩))))
          clear HA HBh
          have HE0 : Aside0 (madeRun rbK l0 l1 (es.drop (j + 1)) out = fin) := ⟨by
            have := HRUN.out
            rw [KP.out] at this
            exact this⟩
          go_wp2_with fail
          go_roundw
          case rel => exact ⟨j + 1, _, hlt, by go_num, Kd.R_drewN HRo.out _, pw_below_drewN HB1.out _, HE0.out, by omega, HBD.out⟩
          case measure => simp [intOf]; omega
        | false =>
          have KP : Aside0 (rbK (hasF l0 cc) (hasF l1 cc) = false) := ⟨by rw [hx, hy, hrb.out]; rfl⟩
          have HA : Aside0 (∀ W, Kd.C k38 W A0 l0.length l0 → Calls Tryz.prog 32 #[.slice A0 l0.length c0, .int .i64 cc] W fun e w' => e = .returned (.bool false) ∧ Drawn0 W w') := ⟨fun W h => by rw [← hx]; exact P.ref_has_calls A0 c0 l0 cc W h HC0.out⟩
          have HBh : Aside0 (∀ W, Kd.C k38 W A1 l1.length l1 → Calls Tryz.prog 32 #[.slice A1 l1.length c1, .int .i64 cc] W fun e w' => e = .returned (.bool false) ∧ Drawn0 W w') := ⟨fun W h => by rw [← hy]; exact P.ref_has_calls A1 c1 l1 cc W h HC1.out⟩
          clear hx hy
          go_wp2_with fail
          go_quiet ((go_at_call 32; first | ((with_reducible refine (HA.out _ (Kd.C_drewN CA.out _)).mono ?_); rintro e w' ⟨rfl, ⟨nd, rfl⟩⟩; (first | exact ⟨rfl, _, rfl⟩ | exact ⟨rfl, _, World.drewN_drewN _ _ _⟩ | exact ⟨rfl, _, Eq.trans (World.drewN_drewN _ _ _) (congrArg (World.drewN _) (Nat.add_assoc _ _ _))⟩)) | ((with_reducible refine (HA.out _ CA.out).mono ?_); rintro e w' ⟨rfl, ⟨nd, rfl⟩⟩; (first | exact ⟨rfl, _, rfl⟩ | exact ⟨rfl, _, World.drewN_drewN _ _ _⟩ | exact ⟨rfl, _, Eq.trans (World.drewN_drewN _ _ _) (congrArg (World.drewN _) (Nat.add_assoc _ _ _))⟩)) | ((with_reducible refine (HBh.out _ (Kd.C_drewN CB.out _)).mono ?_); rintro e w' ⟨rfl, ⟨nd, rfl⟩⟩; (first | exact ⟨rfl, _, rfl⟩ | exact ⟨rfl, _, World.drewN_drewN _ _ _⟩ | exact ⟨rfl, _, Eq.trans (World.drewN_drewN _ _ _) (congrArg (World.drewN _) (Nat.add_assoc _ _ _))⟩)) | ((with_reducible refine (HBh.out _ CB.out).mono ?_); rintro e w' ⟨rfl, ⟨nd, rfl⟩⟩; (first | exact ⟨rfl, _, rfl⟩ | exact ⟨rfl, _, World.drewN_drewN _ _ _⟩ | exact ⟨rfl, _, Eq.trans (World.drewN_drewN _ _ _) (congrArg (World.drewN _) (Nat.add_assoc _ _ _))⟩))))
          clear HA HBh
          have HE0 : Aside0 (madeRun rbK l0 l1 (es.drop (j + 1)) out = fin) := ⟨by
            have := HRUN.out
            rw [KP.out] at this
            exact this⟩
          go_wp2_with fail
          go_roundw
          case rel => exact ⟨j + 1, _, hlt, by go_num, Kd.R_drewN HRo.out _, pw_below_drewN HB1.out _, HE0.out, by omega, HBD.out⟩
          case measure => simp [intOf]; omega
    · have b1 : decide ((j : Int) < (es.length : Int)) = false := decide_eq_false (by omega)
      have b2 : decide (j < es.length) = false := decide_eq_false hlt
      have HF : Aside0 (out = fin) := ⟨by rw [List.drop_eq_nil_iff.2 (by omega)] at hrun; exact hrun⟩
      clear hrun
      go_wp2_with fail
      go_ret
      exact ⟨_, rfl, by rw [← HFIN.out, ← HF.out]; exact Kd.R_lower HRo.out HB01.out.size, HB01.out.trans (HB1.out.mono HB01.out.size)⟩
end Go.Proofs.YtippkbgeeeimjaaGreat.L
/- Plain lists: the document's made is the least list of the set that its kind says; its Or, And, Less in the print's shape. -/
namespace Go.Proofs.YtippkbgeeeimjaaGreat.P
open Go.RowKit Go.Proofs.YtippkbgeeeimjaaGreatW.PrintWords Go.Proofs.YtippkbgeeeimjaaGreatW.PrintLast Go.Proofs.YtippkbgeeeimjaaGreatW.PrintMore Go.Proofs.YtippkbgeeeimjaaGreat.A Go.Proofs.YtippkbgeeeimjaaGreat.L
set_option linter.unusedVariables false
set_option linter.unusedSimpArgs false
theorem putF_mem : ∀ (l : List Int) (n x : Int), x ∈ putF l n ↔ x ∈ l ∨ x = n
  | [], n, x => by simp [putF]
  | y :: t, n, x => by
    unfold putF
    split
    · rw [List.mem_cons, putF_mem t n x, List.mem_cons, or_assoc]
    · split
      · rename_i h
        rw [List.mem_cons]
        constructor
        · intro q; exact .inl q
        · rintro (q | q)
          · exact q
          · exact .inl (q.trans h.symm)
      · rw [List.mem_cons]
        constructor
        · rintro (q | q)
          · exact .inr q
          · exact .inl q
        · rintro (q | q)
          · exact .inr q
          · exact .inl q
def Up (l : List Int) : Prop := l.Pairwise (· < ·)
theorem putF_up : ∀ (l : List Int) (n : Int), Up l → Up (putF l n)
  | [], n, _ => List.pairwise_singleton _ _
  | y :: t, n, h => by
    obtain ⟨h1, h2⟩ := List.pairwise_cons.1 h
    unfold putF
    split
    · rename_i hy
      refine List.pairwise_cons.2 ⟨fun x hx => ?_, putF_up t n h2⟩
      rcases (putF_mem t n x).1 hx with hx | rfl
      · exact h1 x hx
      · exact hy
    · split
      · exact h
      · rename_i hy hne
        refine List.pairwise_cons.2 ⟨fun x hx => ?_, h⟩
        rcases List.mem_cons.1 hx with rfl | hx
        · omega
        · have := h1 x hx
          omega
/-- What is known of edges. -/
structure Eg (o : List Int) : Prop where
  up : Up o
  zero : (0 : Int) ∈ o
  rng : ∀ x ∈ o, 0 ≤ x ∧ x ≤ 1114111
theorem Eg.put {o : List Int} (h : Eg o) {n : Int} (h0 : 0 ≤ n) (h1 : n ≤ 1114111) : Eg (putF o n) :=
  ⟨putF_up o n h.up, (putF_mem o n 0).2 (.inl h.zero), fun x hx => ((putF_mem o n x).1 hx).elim (h.rng x) (fun e => by omega)⟩
theorem Eg.one {o : List Int} (h : Eg o) (r : S38) : Eg (edge2 (edge1 o r) r) ∧ (∀ x ∈ o, x ∈ edge2 (edge1 o r) r) ∧ (0 ≤ r.f0 → r.f0 ≤ 1114111 → r.f0 ∈ edge2 (edge1 o r) r) ∧ (-1 ≤ r.f1 → r.f1 < 1114111 → r.f1 + 1 ∈ edge2 (edge1 o r) r) := by
  have a : Eg (edge1 o r) ∧ (∀ x ∈ o, x ∈ edge1 o r) ∧ (0 ≤ r.f0 → r.f0 ≤ 1114111 → r.f0 ∈ edge1 o r) := by
    unfold edge1
    split
    · rename_i q
      exact ⟨h.put q.1 q.2, fun x hx => (putF_mem _ _ _).2 (.inl hx), fun _ _ => (putF_mem _ _ _).2 (.inr rfl)⟩
    · rename_i q
      exact ⟨h, fun x hx => hx, fun q1 q2 => absurd ⟨q1, q2⟩ q⟩
  obtain ⟨a1, a2, a3⟩ := a
  unfold edge2
  split
  · rename_i q
    exact ⟨a1.put (by omega) (by omega), fun x hx => (putF_mem _ _ _).2 (.inl (a2 x hx)), fun q1 q2 => (putF_mem _ _ _).2 (.inl (a3 q1 q2)), fun _ _ => (putF_mem _ _ _).2 (.inr rfl)⟩
  · rename_i q
    exact ⟨a1, a2, a3, fun q1 q2 => absurd ⟨q1, q2⟩ q⟩
def Has (o : List Int) (l : List S38) : Prop := ∀ r ∈ l, (0 ≤ r.f0 → r.f0 ≤ 1114111 → r.f0 ∈ o) ∧ (-1 ≤ r.f1 → r.f1 < 1114111 → r.f1 + 1 ∈ o)
theorem Eg.row : ∀ (l : List S38) {o : List Int}, Eg o → Eg (l.foldl (fun o r => edge2 (edge1 o r) r) o) ∧ (∀ x ∈ o, x ∈ l.foldl (fun o r => edge2 (edge1 o r) r) o) ∧ Has (l.foldl (fun o r => edge2 (edge1 o r) r) o) l
  | [], o, h => ⟨h, fun x hx => hx, fun r hr => by cases hr⟩
  | r :: t, o, h => by
    obtain ⟨a1, a2, a3, a4⟩ := h.one r
    obtain ⟨b1, b2, b3⟩ := Eg.row t a1
    refine ⟨b1, fun x hx => b2 x (a2 x hx), fun s hs => ?_⟩
    rcases List.mem_cons.1 hs with rfl | hs
    · exact ⟨fun q1 q2 => b2 _ (a3 q1 q2), fun q1 q2 => b2 _ (a4 q1 q2)⟩
    · exact b3 s hs
theorem Eg.set {o : List Int} (h : Eg o) (l : List S38) : Eg (edgeS o l) ∧ (∀ x ∈ o, x ∈ edgeS o l) ∧ (l.length ≤ 400 → Has (edgeS o l) l) := by
  unfold edgeS
  split
  · have := Eg.row l h
    exact ⟨this.1, this.2.1, fun _ => this.2.2⟩
  · rename_i q
    exact ⟨h, fun x hx => hx, fun q' => absurd q' q⟩
theorem Eg.sets : ∀ (s : List (List S38)) {o : List Int}, Eg o → Eg (s.foldl edgeS o) ∧ (∀ x ∈ o, x ∈ s.foldl edgeS o) ∧ (∀ l ∈ s, l.length ≤ 400 → Has (s.foldl edgeS o) l)
  | [], o, h => ⟨h, fun x hx => hx, fun l hl => by cases hl⟩
  | l :: t, o, h => by
    obtain ⟨a1, a2, a3⟩ := h.set l
    obtain ⟨b1, b2, b3⟩ := Eg.sets t a1
    refine ⟨b1, fun x hx => b2 x (a2 x hx), fun m hm hz => ?_⟩
    rcases List.mem_cons.1 hm with rfl | hm
    · exact fun r hr => ⟨fun q1 q2 => b2 _ ((a3 hz r hr).1 q1 q2), fun q1 q2 => b2 _ ((a3 hz r hr).2 q1 q2)⟩
    · exact b3 m hm hz
theorem edges_eg (s : List (List S38)) : Eg (edgesF s) ∧ (∀ l ∈ s, l.length ≤ 400 → Has (edgesF s) l) := by
  have h : Eg [0] := ⟨List.pairwise_singleton _ _, by simp, fun x hx => by simp at hx; omega⟩
  have := Eg.sets s h
  exact ⟨this.1, this.2.2⟩
/-- Between two edges nothing changes. -/
theorem has_const {es : List Int} {l : List S38} (hh : l.length ≤ 400 → Has es l) {x y : Int} (h0 : 0 ≤ x) (hxy : x ≤ y) (h1 : y ≤ 1114111) (hno : ∀ e ∈ es, ¬ (x < e ∧ e ≤ y)) : hasB l x = hasB l y := by
  unfold hasB
  by_cases hz : l.length ≤ 400
  · rw [decide_eq_true hz, Bool.true_and, Bool.true_and, Bool.eq_iff_iff, mem_iff, mem_iff]
    constructor
    · rintro ⟨r, hr, q1, q2⟩
      refine ⟨r, hr, by omega, ?_⟩
      by_cases q3 : y ≤ r.f1
      · exact q3
      · exact absurd ⟨by omega, by omega⟩ (hno _ ((hh hz r hr).2 (by omega) (by omega)))
    · rintro ⟨r, hr, q1, q2⟩
      refine ⟨r, hr, ?_, by omega⟩
      by_cases q3 : r.f0 ≤ x
      · exact q3
      · exact absurd ⟨by omega, by omega⟩ (hno _ ((hh hz r hr).1 (by omega) (by omega)))
  · rw [decide_eq_false hz]
    rfl
theorem hasF_in {l : List S38} {c : Int} (h0 : 0 ≤ c) (h1 : c ≤ 1114111) : hasF l c = hasB l c := by
  unfold hasF
  rw [decide_eq_true h0, decide_eq_true h1]
  rfl
theorem mk_tell {k : Bool} {c tt : Int} {xs : List S38} (h : c ≤ tt) : mkF k c tt xs = tellF k c (tt + 1) xs := by
  unfold mkF tellF
  cases k with
  | false => rw [if_neg (by decide), if_neg (by simp)]
  | true =>
    rw [if_pos rfl, if_pos (show c < tt + 1 ∧ true = true from ⟨by omega, rfl⟩), show tt + 1 - 1 = tt from by omega]
    by_cases hn : 0 < xs.length ∧ (rd_T38 xs ((xs.length : Int) - 1)).f1 + 1 = c
    · rw [if_pos hn, if_pos ⟨hn.1, by omega⟩]
    · rw [if_neg hn, if_neg (fun q => hn ⟨q.1, by omega⟩)]
theorem run_made {P : Int → Bool} {rb : Bool → Bool → Bool} {a b : List S38} {ES : List Int} (hP : ∀ c, 0 ≤ c → c ≤ 1114111 → P c = rb (hasF a c) (hasF b c)) (hc : ∀ x y, 0 ≤ x → x ≤ y → y ≤ 1114111 → (∀ e ∈ ES, ¬ (x < e ∧ e ≤ y)) → P x = P y) :
    ∀ (rest : List Int) (c : Int) (out : List S38), Up (c :: rest) → (∀ e ∈ c :: rest, 0 ≤ e ∧ e ≤ 1114111) → (∀ e ∈ ES, e ≤ c ∨ e ∈ rest) → Spec P out c → Spec P (madeRun rb a b (c :: rest) out) 1114112
  | [], c, out, hu, hr, hes, hs => by
    have hcr := hr c List.mem_cons_self
    rw [madeRun, madeRun, ← hP c hcr.1 hcr.2, mk_tell (show c ≤ nextE [] by show c ≤ 1114111; omega)]
    refine tell_spec hs hcr.1 (by show c ≤ 1114111 + 1; omega) (fun x h1 h2 => ?_)
    have h2' : x < 1114111 + 1 := h2
    exact (hc c x hcr.1 h1 (by omega) (fun e he q => by rcases hes e he with h | h; omega; cases h)).symm
  | d :: rest, c, out, hu, hr, hes, hs => by
    have hcr := hr c List.mem_cons_self
    obtain ⟨u1, u2⟩ := List.pairwise_cons.1 hu
    obtain ⟨v1, _⟩ := List.pairwise_cons.1 u2
    have hcd := u1 d List.mem_cons_self
    rw [madeRun, ← hP c hcr.1 hcr.2, mk_tell (show c ≤ nextE (d :: rest) by show c ≤ d - 1; omega)]
    refine run_made hP hc rest d _ u2 (fun e he => hr e (List.mem_cons_of_mem _ he)) (fun e he => ?_) ?_
    · rcases hes e he with h | h
      · left; omega
      · rcases List.mem_cons.1 h with rfl | h
        · left; omega
        · exact .inr h
    · have hdr := hr d (List.mem_cons_of_mem _ List.mem_cons_self)
      have : nextE (d :: rest) + 1 = d := by show d - 1 + 1 = d; omega
      rw [this]
      refine tell_spec hs hcr.1 (by omega) (fun x h1 h2 => ?_)
      refine (hc c x hcr.1 h1 (by omega) (fun e he q => ?_)).symm
      rcases hes e he with h | h
      · omega
      · rcases List.mem_cons.1 h with rfl | h
        · omega
        · have := v1 e h
          omega
theorem made_canon (rb : Bool → Bool → Bool) (a b : List S38) : madeRun rb a b (edgesF [a, b]) [] = canonF fun c => rb (hasB a c) (hasB b c) := by
  obtain ⟨h1, h2⟩ := edges_eg [a, b]
  generalize edgesF [a, b] = es at h1 h2
  refine canon_of ?_
  cases es with
  | nil => exact absurd h1.zero (by simp)
  | cons c rest =>
    have hc0 : c = 0 := by
      have := h1.rng c List.mem_cons_self
      rcases List.mem_cons.1 h1.zero with h | h
      · exact h.symm
      · have := (List.pairwise_cons.1 h1.up).1 0 h
        omega
    refine run_made (P := fun c => rb (hasB a c) (hasB b c)) (ES := c :: rest) (fun c q0 q1 => by rw [hasF_in q0 q1, hasF_in q0 q1]) (fun x y q0 q1 q2 q3 => ?_) rest c [] h1.up h1.rng (fun e he => ?_) ?_
    · show rb (hasB a x) (hasB b x) = rb (hasB a y) (hasB b y)
      rw [has_const (h2 a (by simp)) q0 q1 q2 q3, has_const (h2 b (by simp)) q0 q1 q2 q3]
    · rcases List.mem_cons.1 he with rfl | he
      · exact .inl (Int.le_refl _)
      · exact .inr he
    · subst hc0
      exact ⟨⟨(fun r hr => by cases hr), List.Pairwise.nil⟩, fun c q1 q2 => by omega⟩
theorem edges_rng (a b : List S38) : ∀ i, 0 ≤ i → i < ((edgesF [a, b]).length : Int) → 0 ≤ rd (edgesF [a, b]) i ∧ rd (edgesF [a, b]) i ≤ 1114111 := by
  intro i h0 h1
  refine (edges_eg [a, b]).1.rng _ ?_
  unfold rd
  rw [List.getD_eq_getElem?_getD, List.getElem?_eq_getElem (by omega)]
  exact List.getElem_mem _
end Go.Proofs.YtippkbgeeeimjaaGreat.P
namespace Go.Proofs.YtippkbgeeeimjaaGreat.L
open Go.RowKit Go.Proofs.YtippkbgeeeimjaaGreatW.PrintWords Go.Proofs.YtippkbgeeeimjaaGreatW.PrintLast Go.Proofs.YtippkbgeeeimjaaGreatW.PrintMore Go.Proofs.YtippkbgeeeimjaaGreat.A Go.Proofs.YtippkbgeeeimjaaGreat.P
set_option linter.unusedVariables false
set_option linter.unusedSimpArgs false
def caesuraref01_Or.f (l0 l1 : List S38) : Option (List S38) := some (orF l0 l1)
theorem caesuraref01_Or.calls (A0 : Option Addr) (c0 : Nat) (l0 : List S38) (A1 : Option Addr) (c1 : Nat) (l1 : List S38) (r : List S38) (w : World) (hr0 : Kd.C k38 w A0 l0.length l0) (hc0 : l0.length ≤ c0) (hr1 : Kd.C k38 w A1 l1.length l1) (hc1 : l1.length ≤ c1) (h : caesuraref01_Or.f l0 l1 = some r) :
    Calls Tryz.prog 77 #[.slice A0 l0.length c0, .slice A1 l1.length c1] w fun e w' => ∃ v0_ : Value, e = .returned v0_ ∧ Kd.R k38 38 w' w.heap.size (fun _ => True) v0_ r ∧ Below w.heap.size w w' := by
  obtain rfl : orF l0 l1 = r := Option.some.inj h
  clear h
  have hs := made_or A0 c0 l0 A1 c1 l1 w hr0 hc0 hr1 hc1 (edges_rng l0 l1)
  rw [made_canon] at hs
  change Calls Tryz.prog 57 _ w (fun e w' => ∃ v, e = .returned v ∧ Kd.R k38 38 w' w.heap.size (fun _ => True) v (orF l0 l1) ∧ Below w.heap.size w w') at hs
  generalize orF l0 l1 = r at hs ⊢
  have HS := Aside0.mk hs
  clear hs hr0 hc0 hr1 hc1
  go_enter Tryz.func77, Tryz.ntmps77
  go_wp2_with fail
  refine HS.out.mono ?_
  rintro e w' ⟨v, rfl, hR, hb⟩
  obtain ⟨A, c, rfl⟩ := Kd.R_slice hR
  have HR := Aside0.mk hR
  have HB := Aside0.mk hb
  clear hR hb
  go_wp2_with fail
  go_ret
  exact ⟨_, rfl, HR.out, HB.out⟩
def caesuraref01_And.f (l0 l1 : List S38) : Option (List S38) := some (andF l0 l1)
theorem caesuraref01_And.calls (A0 : Option Addr) (c0 : Nat) (l0 : List S38) (A1 : Option Addr) (c1 : Nat) (l1 : List S38) (r : List S38) (w : World) (hr0 : Kd.C k38 w A0 l0.length l0) (hc0 : l0.length ≤ c0) (hr1 : Kd.C k38 w A1 l1.length l1) (hc1 : l1.length ≤ c1) (h : caesuraref01_And.f l0 l1 = some r) :
    Calls Tryz.prog 41 #[.slice A0 l0.length c0, .slice A1 l1.length c1] w fun e w' => ∃ v0_ : Value, e = .returned v0_ ∧ Kd.R k38 38 w' w.heap.size (fun _ => True) v0_ r ∧ Below w.heap.size w w' := by
  obtain rfl : andF l0 l1 = r := Option.some.inj h
  clear h
  have hs := made_and A0 c0 l0 A1 c1 l1 w hr0 hc0 hr1 hc1 (edges_rng l0 l1)
  rw [made_canon] at hs
  change Calls Tryz.prog 57 _ w (fun e w' => ∃ v, e = .returned v ∧ Kd.R k38 38 w' w.heap.size (fun _ => True) v (andF l0 l1) ∧ Below w.heap.size w w') at hs
  generalize andF l0 l1 = r at hs ⊢
  have HS := Aside0.mk hs
  clear hs hr0 hc0 hr1 hc1
  go_enter Tryz.func41, Tryz.ntmps41
  go_wp2_with fail
  refine HS.out.mono ?_
  rintro e w' ⟨v, rfl, hR, hb⟩
  obtain ⟨A, c, rfl⟩ := Kd.R_slice hR
  have HR := Aside0.mk hR
  have HB := Aside0.mk hb
  clear hR hb
  go_wp2_with fail
  go_ret
  exact ⟨_, rfl, HR.out, HB.out⟩
def caesuraref01_Less.f (l0 l1 : List S38) : Option (List S38) := some (lessF l0 l1)
end Go.Proofs.YtippkbgeeeimjaaGreat.L
namespace Go.Proofs.YtippkbgeeeimjaaGreat.B
open Go.RowKit Go.Proofs.YtippkbgeeeimjaaGreatW.PrintWords Go.Proofs.YtippkbgeeeimjaaGreatW.PrintLast Go.Proofs.YtippkbgeeeimjaaGreatW.PrintMore Go.Proofs.YtippkbgeeeimjaaGreat.A Go.Proofs.YtippkbgeeeimjaaGreat.L
attribute [local go_sem] max2_int min2_int max_two min_two max_three min_three max_four min_four   -- for this text's walks alone
set_option linter.unusedVariables false
set_option linter.unusedSimpArgs false
def errW : Option Int → Value
  | none => .nilIface
  | some c => .iface 0 (.int .i64 c)
theorem errW_none : errW none = .nilIface := rfl
theorem errW_some (c : Int) : errW (some c) = .iface 0 (.int .i64 c) := rfl
end Go.Proofs.YtippkbgeeeimjaaGreat.B
namespace Go.Proofs.YtippkbgeeeimjaaGreat.B
open Go.RowKit Go.Proofs.YtippkbgeeeimjaaGreatW.PrintWords Go.Proofs.YtippkbgeeeimjaaGreatW.PrintLast Go.Proofs.YtippkbgeeeimjaaGreatW.PrintMore Go.Proofs.YtippkbgeeeimjaaGreat.A Go.Proofs.YtippkbgeeeimjaaGreat.L
attribute [local go_sem] max2_int min2_int max_two min_two max_three min_three max_four min_four   -- for this text's walks alone
set_option linter.unusedVariables false
set_option linter.unusedSimpArgs false
def caesuraref01_Plain.f (l0 : List (S38)) : Option ((List (S38))) := (caesuraref01_Or.f l0 ([] : List (S38))).bind fun t101 => (some t101)
set_option maxHeartbeats 8000000 in
set_option maxRecDepth 100000 in
theorem caesuraref01_Plain.calls (A0 : Option Addr) (c0 : Nat) (l0 : List (S38)) (r : List (S38)) (w : World) (hr0 : Kd.C k38 w A0 l0.length l0) (hc0 : l0.length ≤ c0) (h : caesuraref01_Plain.f l0 = some r) :
    Calls Tryz.prog 54 #[.slice A0 l0.length c0] w fun e w' => ∃ v0_ : Value, e = .returned (v0_) ∧ Kd.R k38 38 w' w.heap.size (fun _ => True) v0_ r ∧ Below w.heap.size w w' := by
  have HR0 := Aside0.mk hr0
  have HC0 := Aside0.mk hc0
  clear hr0 hc0
  have HB := Aside0.mk (Below.refl w.heap.size w)
  have H : ((caesuraref01_Or.f l0 ([] : List (S38))).bind fun t101 => (some t101)) = some r := h
  clear h
  replace H := Option.bind_eq_some_iff.mp H
  obtain ⟨t101, A20, H⟩ := H
  replace H : (some t101) = some r := H
  have A2 := Aside0.mk A20
  clear A20
  obtain rfl := Option.some.inj H
  go_enter Tryz.func54, Tryz.ntmps54
  go_wp2_with (first | ((with_reducible refine gate_callee (f := 77) rfl ?_); refine goesL_ (some 4) rfl rfl Tryz.func77 (by kernel_rfl) rfl #[.slice A0 l0.length c0, .slice none 0 0] rfl (by (try simp only [List.map_toArray, List.map_cons, List.map_nil]); first | done | rfl | (simp only [List.length_drop, List.length_take]; rfl)) ?_; (refine (caesuraref01_Or.calls _ _ l0 _ _ ([] : List (S38)) t101 _ ?side1 ?side2 ?side3 ?side4 A2.out).mono ?_); (case side1 => repeat (first | exact HR0.out | (with_reducible refine Kd.C_alloc ?_ _) | (with_reducible refine Kd.C_drewN ?_ _) | (with_reducible refine Kd.C_drew ?_))); (case side2 => exact HC0.out); (case side3 => exact Kd.C_nil _ _); (case side4 => exact Nat.le_refl _); rintro e w3 ⟨v102, rfl, ho0, hb⟩; refine ⟨_, rfl, ?_⟩; have n0_ := Aside0.mk (Kd.R_lower ho0 (below_size (by repeat (first | (with_reducible first | exact HB.out | apply below_alloc | apply pw_below_drewN | apply below_drew1) | exact HB.out)))); have n1_ := Aside0.mk (below_step (by repeat (first | (with_reducible first | exact HB.out | apply below_alloc | apply pw_below_drewN | apply below_drew1) | exact HB.out)) hb); clear HB; have HO103 := n0_; have HB := n1_; clear n0_ n1_; (try clear hb); (try clear hb2); (try clear hk); (try clear hi); (try clear ho0)))
  go_ret
  exact ⟨_, by first | rfl | (simp [errW_none, errW_some] <;> rfl) | (simp [*, errW_none, errW_some] <;> rfl), by (with_reducible repeat (first | apply Kd.R_alloc | apply Kd.R_drewN | apply Kd.R_drew)); exact HO103.out, by repeat (first | (with_reducible first | exact HB.out | apply below_alloc | apply pw_below_drewN | apply below_drew1) | exact HB.out)⟩
def caesuraref01_First.f (l0 : List (S38)) : Option (Int) := (caesuraref01_Plain.f l0).bind fun t104 => (if (t104.length : Int) = 0 then (some (-1)) else (if 0 < (t104.length : Int) then (some ((rd_T38 t104 0).f0)) else (none)))
set_option maxHeartbeats 8000000 in
set_option maxRecDepth 100000 in
theorem caesuraref01_First.calls (A0 : Option Addr) (c0 : Nat) (l0 : List (S38)) (r : Int) (w : World) (hr0 : Kd.C k38 w A0 l0.length l0) (hc0 : l0.length ≤ c0) (h : caesuraref01_First.f l0 = some r) :
    Calls Tryz.prog 34 #[.slice A0 l0.length c0] w fun e w' => e = .returned (.int .i64 r) ∧ Below w.heap.size w w' := by
  have HR0 := Aside0.mk hr0
  have HC0 := Aside0.mk hc0
  clear hr0 hc0
  have HB := Aside0.mk (Below.refl w.heap.size w)
  have H : ((caesuraref01_Plain.f l0).bind fun t104 => (if (t104.length : Int) = 0 then (some (-1)) else (if 0 < (t104.length : Int) then (some ((rd_T38 t104 0).f0)) else (none)))) = some r := h
  clear h
  replace H := Option.bind_eq_some_iff.mp H
  obtain ⟨t104, A20, H⟩ := H
  replace H : (if (t104.length : Int) = 0 then (some (-1)) else (if 0 < (t104.length : Int) then (some ((rd_T38 t104 0).f0)) else (none))) = some r := H
  have A2 := Aside0.mk A20
  clear A20
  by_cases c3 : (t104.length : Int) = 0
  · rw [if_pos c3] at H
    have c3b0 : ((t104.length : Int) == 0) = true := beq_iff_eq.mpr c3
    have c3b1 : ((t104.length : Int) != 0) = false := bne_eq_false_iff_eq.mpr c3
    clear c3
    obtain rfl := Option.some.inj H
    go_enter Tryz.func34, Tryz.ntmps34
    go_wp2_with (first | ((with_reducible refine gate_callee (f := 54) rfl ?_); refine goesL_ (some 5) rfl rfl Tryz.func54 (by kernel_rfl) rfl #[.slice A0 l0.length c0] rfl (by (try simp only [List.map_toArray, List.map_cons, List.map_nil]); first | done | rfl | (simp only [List.length_drop, List.length_take]; rfl)) ?_; (with_reducible refine (caesuraref01_Plain.calls _ _ l0 t104 _ ?side1 ?side2 A2.out).mono ?_); (case side1 => repeat (first | exact HR0.out | (with_reducible refine Kd.C_alloc ?_ _) | (with_reducible refine Kd.C_drewN ?_ _) | (with_reducible refine Kd.C_drew ?_))); (case side2 => exact HC0.out); rintro e w4 ⟨v105, rfl, ho0, hb⟩; refine ⟨_, rfl, ?_⟩; have n0_ := Aside0.mk (Kd.R_lower ho0 (below_size (by repeat (first | (with_reducible first | exact HB.out | apply below_alloc | apply pw_below_drewN | apply below_drew1) | exact HB.out)))); have n1_ := Aside0.mk (below_step (by repeat (first | (with_reducible first | exact HB.out | apply below_alloc | apply pw_below_drewN | apply below_drew1) | exact HB.out)) hb); clear HB; have HO106 := n0_; have HB := n1_; clear n0_ n1_; (try clear hb); (try clear hb2); (try clear hk); (try clear hi); (try clear ho0); obtain ⟨Ao5, co5, eo5⟩ := Kd.R_slice HO106.out; subst eo5))
    go_ret
    exact ⟨by first | rfl | (simp [errW_none, errW_some] <;> rfl) | (simp [*, errW_none, errW_some] <;> rfl), by repeat (first | (with_reducible first | exact HB.out | apply below_alloc | apply pw_below_drewN | apply below_drew1) | exact HB.out)⟩
  · rw [if_neg c3] at H
    have c3b0 : ((t104.length : Int) == 0) = false := beq_eq_false_iff_ne.mpr c3
    have c3b1 : ((t104.length : Int) != 0) = true := bne_iff_ne.mpr c3
    have c3b2 : ¬ (t104 = []) := fun h_ => c3 (by rw [h_]; rfl)
    by_cases c6 : 0 < (t104.length : Int)
    · rw [if_pos c6] at H
      have c6b0 : decide (0 < (t104.length : Int)) = true := decide_eq_true c6
      have c6b1 : decide (0 < t104.length) = true := decide_eq_true (by omega)
      clear c6
      obtain rfl := Option.some.inj H
      go_enter Tryz.func34, Tryz.ntmps34
      go_wp2_with (first | ((with_reducible refine gate_callee (f := 54) rfl ?_); refine goesL_ (some 5) rfl rfl Tryz.func54 (by kernel_rfl) rfl #[.slice A0 l0.length c0] rfl (by (try simp only [List.map_toArray, List.map_cons, List.map_nil]); first | done | rfl | (simp only [List.length_drop, List.length_take]; rfl)) ?_; (with_reducible refine (caesuraref01_Plain.calls _ _ l0 t104 _ ?side1 ?side2 A2.out).mono ?_); (case side1 => repeat (first | exact HR0.out | (with_reducible refine Kd.C_alloc ?_ _) | (with_reducible refine Kd.C_drewN ?_ _) | (with_reducible refine Kd.C_drew ?_))); (case side2 => exact HC0.out); rintro e w7 ⟨v105, rfl, ho0, hb⟩; refine ⟨_, rfl, ?_⟩; have n0_ := Aside0.mk (Kd.R_lower ho0 (below_size (by repeat (first | (with_reducible first | exact HB.out | apply below_alloc | apply pw_below_drewN | apply below_drew1) | exact HB.out)))); have n1_ := Aside0.mk (below_step (by repeat (first | (with_reducible first | exact HB.out | apply below_alloc | apply pw_below_drewN | apply below_drew1) | exact HB.out)) hb); clear HB; have HO106 := n0_; have HB := n1_; clear n0_ n1_; (try clear hb); (try clear hb2); (try clear hk); (try clear hi); (try clear ho0); obtain ⟨Ao8, co8, eo8⟩ := Kd.R_slice HO106.out; subst eo8; have p107 : 0 ≤ (0 : Int) := (by omega); have q107 : 0 < (t104.length : Int) := of_decide_eq_true (by first | (with_reducible assumption) | assumption); obtain ⟨ad107, e107, hx107_0, hx107_1⟩ := at_T38 (Kd.R_reads' HO106.out).2.2 0 p107 q107; cases e107; have qi107 : (0 < t104.length) = True := eq_true (by omega); (try rw [show ((0 : Int)).toNat = 0 from rfl] at hx107_0); (try rw [show 0 * 2 = 0 from rfl] at hx107_0); (try rw [Addr.add_zero'] at hx107_0); (try rw [show ((0 : Int)).toNat = 0 from rfl] at hx107_1); (try rw [show 0 * 2 = 0 from rfl] at hx107_1); (try rw [Addr.add_zero'] at hx107_1); replace p107 := eq_true p107; replace q107 := eq_true q107))
      go_ret
      exact ⟨by first | rfl | (simp [errW_none, errW_some] <;> rfl) | (simp [*, errW_none, errW_some] <;> rfl), by repeat (first | (with_reducible first | exact HB.out | apply below_alloc | apply pw_below_drewN | apply below_drew1) | exact HB.out)⟩
    · rw [if_neg c6] at H
      exact absurd H (by simp)
def caesuraref01_Size.l0 : Nat → Int → List (S38) → Int → Option (Int)
  | 0, _, _, _ => none
  | k + 1, x3, x4, x5 => if x5 < (x4.length : Int) then (if 0 ≤ x5 then (caesuraref01_Size.l0 k (wrap64 ((wrap64 ((wrap64 (x3 + ((rd_T38 x4 x5).f1))) - ((rd_T38 x4 x5).f0))) + 1)) x4 (wrap64 (x5 + 1))) else (none)) else (some x3)
def caesuraref01_Size.f (k : Nat) (l0 : List (S38)) : Option (Int) := (caesuraref01_Plain.f l0).bind fun t108 => (caesuraref01_Size.l0 k 0 t108 0)
theorem caesuraref01_Size.mono_l : ∀ k, (∀ y0 y1 y2, LeO (caesuraref01_Size.l0 k y0 y1 y2) (caesuraref01_Size.l0 (k + 1) y0 y1 y2))
  | 0 => fun _ _ _ r h => by simp [caesuraref01_Size.l0] at h
  | k + 1 => by
    have ih0 := caesuraref01_Size.mono_l k
    · intro y0 y1 y2
      unfold caesuraref01_Size.l0
      repeat' first
      | (with_reducible exact ih0 _ _ _)
      | (with_reducible exact LeO.refl _)
      | (with_reducible exact LeO.none _)
      | (with_reducible refine LeO.ite ?_ ?_)
      | (with_reducible refine LeO.bind ?_ (fun _ => ?_))
      | exact ih0 _ _ _
      | exact LeO.none _
      | refine LeO.ite ?_ ?_
      | refine LeO.bind ?_ (fun _ => ?_)
theorem caesuraref01_Size.mono : ∀ a0 k, LeO (caesuraref01_Size.f k a0) (caesuraref01_Size.f (k + 1) a0) := by
  intro a0 k
  have ih0 := caesuraref01_Size.mono_l k
  unfold caesuraref01_Size.f
  repeat' first
      | (with_reducible exact ih0 _ _ _)
      | (with_reducible exact LeO.refl _)
      | (with_reducible exact LeO.none _)
      | (with_reducible refine LeO.ite ?_ ?_)
      | (with_reducible refine LeO.bind ?_ (fun _ => ?_))
      | exact ih0 _ _ _
      | exact LeO.none _
      | refine LeO.ite ?_ ?_
      | refine LeO.bind ?_ (fun _ => ?_)
set_option maxHeartbeats 8000000 in
set_option maxRecDepth 100000 in
theorem caesuraref01_Size.calls (k : Nat) (A0 : Option Addr) (c0 : Nat) (l0 : List (S38)) (r : Int) (w : World) (hr0 : Kd.C k38 w A0 l0.length l0) (hc0 : l0.length ≤ c0) (h : caesuraref01_Size.f k l0 = some r) :
    Calls Tryz.prog 40 #[.slice A0 l0.length c0] w fun e w' => e = .returned (.int .i64 r) ∧ Below w.heap.size w w' := by
  have HR0 := Aside0.mk hr0
  have HC0 := Aside0.mk hc0
  clear hr0 hc0
  have HB := Aside0.mk (Below.refl w.heap.size w)
  have H : ((caesuraref01_Plain.f l0).bind fun t108 => (caesuraref01_Size.l0 k 0 t108 0)) = some r := h
  clear h
  replace H := Option.bind_eq_some_iff.mp H
  obtain ⟨t108, A20, H⟩ := H
  replace H : (caesuraref01_Size.l0 k 0 t108 0) = some r := H
  have A2 := Aside0.mk A20
  clear A20
  have H' := Aside0.mk H
  clear H
  go_enter Tryz.func40, Tryz.ntmps40
  go_wp2_with (first | (go_at_call 54; (with_reducible refine (caesuraref01_Plain.calls _ _ l0 t108 _ ?side1 ?side2 A2.out).mono ?_); (case side1 => repeat (first | exact HR0.out | (with_reducible refine Kd.C_alloc ?_ _) | (with_reducible refine Kd.C_drewN ?_ _) | (with_reducible refine Kd.C_drew ?_))); (case side2 => exact HC0.out); rintro e w3 ⟨v109, rfl, ho0, hb⟩; have n0_ := Aside0.mk (Kd.R_lower ho0 (below_size (by repeat (first | (with_reducible first | exact HB.out | apply below_alloc | apply pw_below_drewN | apply below_drew1) | exact HB.out)))); have n1_ := Aside0.mk (below_step (by repeat (first | (with_reducible first | exact HB.out | apply below_alloc | apply pw_below_drewN | apply below_drew1) | exact HB.out)) hb); clear HB; have HO110 := n0_; have HB := n1_; clear n0_ n1_; (try clear hb); (try clear hb2); (try clear hk); (try clear hi); (try clear ho0)))
  repeat (go_quiet (first | (go_at_call 54; (with_reducible refine (caesuraref01_Plain.calls _ _ l0 t108 _ ?side1 ?side2 A2.out).mono ?_); (case side1 => repeat (first | exact HR0.out | (with_reducible refine Kd.C_alloc ?_ _) | (with_reducible refine Kd.C_drewN ?_ _) | (with_reducible refine Kd.C_drew ?_))); (case side2 => exact HC0.out); rintro e w3 ⟨v109, rfl, ho0, hb⟩; have n0_ := Aside0.mk (Kd.R_lower ho0 (below_size (by repeat (first | (with_reducible first | exact HB.out | apply below_alloc | apply pw_below_drewN | apply below_drew1) | exact HB.out)))); have n1_ := Aside0.mk (below_step (by repeat (first | (with_reducible first | exact HB.out | apply below_alloc | apply pw_below_drewN | apply below_drew1) | exact HB.out)) hb); clear HB; have HO110 := n0_; have HB := n1_; clear n0_ n1_; (try clear hb); (try clear hb2); (try clear hk); (try clear hi); (try clear ho0))); try go_wp2_with (first | (go_at_call 54; (with_reducible refine (caesuraref01_Plain.calls _ _ l0 t108 _ ?side1 ?side2 A2.out).mono ?_); (case side1 => repeat (first | exact HR0.out | (with_reducible refine Kd.C_alloc ?_ _) | (with_reducible refine Kd.C_drewN ?_ _) | (with_reducible refine Kd.C_drew ?_))); (case side2 => exact HC0.out); rintro e w3 ⟨v109, rfl, ho0, hb⟩; have n0_ := Aside0.mk (Kd.R_lower ho0 (below_size (by repeat (first | (with_reducible first | exact HB.out | apply below_alloc | apply pw_below_drewN | apply below_drew1) | exact HB.out)))); have n1_ := Aside0.mk (below_step (by repeat (first | (with_reducible first | exact HB.out | apply below_alloc | apply pw_below_drewN | apply below_drew1) | exact HB.out)) hb); clear HB; have HO110 := n0_; have HB := n1_; clear n0_ n1_; (try clear hb); (try clear hb2); (try clear hk); (try clear hi); (try clear ho0))))
  go_loopg [3, 5] k (fun kq v3 v5 w' => ∃ (x3_1 : Int) (x5_1 : Int), v3 = .int .i64 x3_1 ∧ v5 = .int .i64 x5_1 ∧ Aside0 (caesuraref01_Size.l0 kq x3_1 t108 x5_1 = some r) ∧ Aside0 (kq ≤ k) ∧ Aside0 (Kd.R k38 38 w' w.heap.size (fun _ => True) v109 t108) ∧ Aside0 (Below w.heap.size w w'))
  case atStart => exact ⟨(0), (0), (by first | rfl | (simp; done) | (simp [*]; done)), (by first | rfl | (simp; done) | (simp [*]; done)), H', ⟨Nat.le_refl _⟩, ⟨by (with_reducible repeat (first | apply Kd.R_alloc | apply Kd.R_drewN | apply Kd.R_drew)); exact HO110.out⟩, ⟨by repeat (first | (with_reducible first | exact HB.out | apply below_alloc | apply pw_below_drewN | apply below_drew1) | exact HB.out)⟩⟩
  case round =>
    clear H'
    try clear p2
    obtain ⟨x3_1, x5_1, rfl, rfl, HA, HK1, HO_4, HB⟩ := hrel
    cases gk with
    | zero => exact absurd HA.out (by simp [caesuraref01_Size.l0])
    | succ k1 =>
      have H := HA.out
      clear HA
      simp only [caesuraref01_Size.l0] at H
      by_cases c4 : x5_1 < (t108.length : Int)
      · rw [if_pos c4] at H
        have c4b0 : decide (x5_1 < (t108.length : Int)) = true := decide_eq_true c4
        clear c4
        by_cases c5 : 0 ≤ x5_1
        · rw [if_pos c5] at H
          have c5b0 : decide (0 ≤ x5_1) = true := decide_eq_true c5
          clear c5
          have H' := Aside0.mk H
          clear H
          obtain ⟨Ao6, co6, eo6⟩ := Kd.R_slice HO_4.out
          subst eo6
          have p111 : 0 ≤ (x5_1 : Int) := of_decide_eq_true (by first | (with_reducible assumption) | assumption)
          have q111 : x5_1 < (t108.length : Int) := of_decide_eq_true (by first | (with_reducible assumption) | assumption)
          obtain ⟨ad111, e111, hx111_0, hx111_1⟩ := at_T38 (Kd.R_reads' HO_4.out).2.2 x5_1 p111 q111
          cases e111
          replace p111 := eq_true p111
          replace q111 := eq_true q111
          have p112 : 0 ≤ (x5_1 : Int) := of_decide_eq_true (by first | (with_reducible assumption) | assumption)
          have q112 : x5_1 < (t108.length : Int) := of_decide_eq_true (by first | (with_reducible assumption) | assumption)
          obtain ⟨ad112, e112, hx112_0, hx112_1⟩ := at_T38 (Kd.R_reads' HO_4.out).2.2 x5_1 p112 q112
          obtain rfl : ad111 = ad112 := (by injection e112)
          replace p112 := eq_true p112
          replace q112 := eq_true q112
          go_wp2
          repeat (go_quiet (fail); try go_wp2)
          go_roundg k1
          case measure => have := HK1.out; omega
          case rel => exact ⟨(wrap64 ((wrap64 ((wrap64 (x3_1 + ((rd_T38 t108 x5_1).f1))) - ((rd_T38 t108 x5_1).f0))) + 1)), (wrap64 (x5_1 + 1)), (by first | rfl | (simp; done) | (simp [*]; done)), (by first | rfl | (simp; done) | (simp [*]; done)), H', ⟨by have := HK1.out; omega⟩, ⟨by (with_reducible repeat (first | apply Kd.R_alloc | apply Kd.R_drewN | apply Kd.R_drew)); exact HO_4.out⟩, ⟨by repeat (first | (with_reducible first | exact HB.out | apply below_alloc | apply pw_below_drewN | apply below_drew1) | exact HB.out)⟩⟩
        · rw [if_neg c5] at H
          exact absurd H (by simp)
      · rw [if_neg c4] at H
        have c4b0 : decide (x5_1 < (t108.length : Int)) = false := decide_eq_false c4
        clear c4
        obtain rfl := Option.some.inj H
        obtain ⟨Ao7, co7, eo7⟩ := Kd.R_slice HO_4.out
        subst eo7
        go_wp2
        repeat (go_quiet (fail); try go_wp2)
        go_ret
        exact ⟨by first | rfl | (simp [errW_none, errW_some] <;> rfl) | (simp [*, errW_none, errW_some] <;> rfl), by repeat (first | (with_reducible first | exact HB.out | apply below_alloc | apply pw_below_drewN | apply below_drew1) | exact HB.out)⟩
def caesuraref01_Right.f (k : Nat) (l0 : List (S38)) : Option (Bool) := if (l0.length : Int) ≤ 400 then ((caesuraref01_Plain.f l0).bind fun t113 => ((caesuraref01_Ranges.f k t113 l0).bind fun t116 => (some t116))) else (some false)
theorem caesuraref01_Right.mono : ∀ a0 k, LeO (caesuraref01_Right.f k a0) (caesuraref01_Right.f (k + 1) a0) := by
  intro a0 k
  unfold caesuraref01_Right.f
  repeat' first
      | (with_reducible exact caesuraref01_Ranges.mono _ _ _)
      | (with_reducible exact LeO.refl _)
      | (with_reducible exact LeO.none _)
      | (with_reducible refine LeO.ite ?_ ?_)
      | (with_reducible refine LeO.bind ?_ (fun _ => ?_))
      | exact caesuraref01_Ranges.mono _ _ _
      | exact LeO.none _
      | refine LeO.ite ?_ ?_
      | refine LeO.bind ?_ (fun _ => ?_)
set_option maxHeartbeats 8000000 in
set_option maxRecDepth 100000 in
theorem caesuraref01_Right.calls (k : Nat) (A0 : Option Addr) (c0 : Nat) (l0 : List (S38)) (r : Bool) (w : World) (hr0 : Kd.C k38 w A0 l0.length l0) (hc0 : l0.length ≤ c0) (h : caesuraref01_Right.f k l0 = some r) :
    Calls Tryz.prog 39 #[.slice A0 l0.length c0] w fun e w' => e = .returned (.bool r) ∧ Below w.heap.size w w' := by
  have HR0 := Aside0.mk hr0
  have HC0 := Aside0.mk hc0
  clear hr0 hc0
  have HB := Aside0.mk (Below.refl w.heap.size w)
  have H : (if (l0.length : Int) ≤ 400 then ((caesuraref01_Plain.f l0).bind fun t113 => ((caesuraref01_Ranges.f k t113 l0).bind fun t116 => (some t116))) else (some false)) = some r := h
  clear h
  by_cases c2 : (l0.length : Int) ≤ 400
  · rw [if_pos c2] at H
    have c2b0 : decide ((l0.length : Int) ≤ 400) = true := decide_eq_true c2
    have c2b1 : decide (l0.length ≤ 400) = true := decide_eq_true (by omega)
    clear c2
    replace H := Option.bind_eq_some_iff.mp H
    obtain ⟨t113, A30, H⟩ := H
    replace H : ((caesuraref01_Ranges.f k t113 l0).bind fun t116 => (some t116)) = some r := H
    have A3 := Aside0.mk A30
    clear A30
    replace H := Option.bind_eq_some_iff.mp H
    obtain ⟨t116, A40, H⟩ := H
    replace H : (some t116) = some r := H
    have A4 := Aside0.mk A40
    clear A40
    obtain rfl := Option.some.inj H
    go_enter Tryz.func39, Tryz.ntmps39
    go_wp2_with (first | (go_at_call 54; (with_reducible refine (caesuraref01_Plain.calls _ _ l0 t113 _ ?side1 ?side2 A3.out).mono ?_); (case side1 => repeat (first | exact HR0.out | (with_reducible refine Kd.C_alloc ?_ _) | (with_reducible refine Kd.C_drewN ?_ _) | (with_reducible refine Kd.C_drew ?_))); (case side2 => exact HC0.out); rintro e w5 ⟨v114, rfl, ho0, hb⟩; have n0_ := Aside0.mk (Kd.R_lower ho0 (below_size (by repeat (first | (with_reducible first | exact HB.out | apply below_alloc | apply pw_below_drewN | apply below_drew1) | exact HB.out)))); have n1_ := Aside0.mk (below_step (by repeat (first | (with_reducible first | exact HB.out | apply below_alloc | apply pw_below_drewN | apply below_drew1) | exact HB.out)) hb); clear HB; have HO115 := n0_; have HB := n1_; clear n0_ n1_; (try clear hb); (try clear hb2); (try clear hk); (try clear hi); (try clear ho0); obtain ⟨Ao6, co6, eo6⟩ := Kd.R_slice HO115.out; subst eo6) | (go_at_call 28; (with_reducible refine (caesuraref01_Ranges.calls k _ _ t113 _ _ l0 t116 _ ?side1 ?side2 ?side3 ?side4 A4.out).mono ?_); (case side1 => repeat (first | exact (Kd.R_reads' HO115.out).2.2 | (with_reducible refine Kd.C_alloc ?_ _) | (with_reducible refine Kd.C_drewN ?_ _) | (with_reducible refine Kd.C_drew ?_))); (case side2 => exact (Kd.R_reads' HO115.out).2.1); (case side3 => repeat (first | exact (Kd.C_below HR0.out HB.out) | (with_reducible refine Kd.C_alloc ?_ _) | (with_reducible refine Kd.C_drewN ?_ _) | (with_reducible refine Kd.C_drew ?_))); (case side4 => exact HC0.out); rintro e w' ⟨rfl, ⟨nd, rfl⟩⟩))
    go_ret
    exact ⟨by first | rfl | (simp [errW_none, errW_some] <;> rfl) | (simp [*, errW_none, errW_some] <;> rfl), by repeat (first | (with_reducible first | exact HB.out | apply below_alloc | apply pw_below_drewN | apply below_drew1) | exact HB.out)⟩
  · rw [if_neg c2] at H
    have c2b0 : decide ((l0.length : Int) ≤ 400) = false := decide_eq_false c2
    have c2b1 : decide (l0.length ≤ 400) = false := decide_eq_false (by omega)
    clear c2
    obtain rfl := Option.some.inj H
    go_enter Tryz.func39, Tryz.ntmps39
    go_wp2
    go_ret
    exact ⟨by first | rfl | (simp [errW_none, errW_some] <;> rfl) | (simp [*, errW_none, errW_some] <;> rfl), by repeat (first | (with_reducible first | exact HB.out | apply below_alloc | apply pw_below_drewN | apply below_drew1) | exact HB.out)⟩
def span_Plain.f (l0 : List (S38)) : Option ((List (S38))) := (span_Or.f l0 ([] : List (S38))).bind fun t117 => (some t117)
set_option maxHeartbeats 8000000 in
set_option maxRecDepth 100000 in
theorem span_Plain.calls (A0 : Option Addr) (c0 : Nat) (l0 : List (S38)) (r : List (S38)) (w : World) (hr0 : Kd.C k38 w A0 l0.length l0) (hc0 : l0.length ≤ c0) (h : span_Plain.f l0 = some r) :
    Calls Tryz.prog 53 #[.slice A0 l0.length c0] w fun e w' => ∃ v0_ : Value, e = .returned (v0_) ∧ Kd.R k38 38 w' w.heap.size (fun _ => True) v0_ r ∧ Below w.heap.size w w' := by
  have HR0 := Aside0.mk hr0
  have HC0 := Aside0.mk hc0
  clear hr0 hc0
  have HB := Aside0.mk (Below.refl w.heap.size w)
  have H : ((span_Or.f l0 ([] : List (S38))).bind fun t117 => (some t117)) = some r := h
  clear h
  replace H := Option.bind_eq_some_iff.mp H
  obtain ⟨t117, A20, H⟩ := H
  replace H : (some t117) = some r := H
  have A2 := Aside0.mk A20
  clear A20
  obtain rfl := Option.some.inj H
  go_enter Tryz.func53, Tryz.ntmps53
  go_wp2_with (first | ((with_reducible refine gate_callee (f := 76) rfl ?_); refine goesL_ (some 4) rfl rfl Tryz.func76 (by kernel_rfl) rfl #[.slice A0 l0.length c0, .slice none 0 0] rfl (by (try simp only [List.map_toArray, List.map_cons, List.map_nil]); first | done | rfl | (simp only [List.length_drop, List.length_take]; rfl)) ?_; (refine (span_Or.calls _ _ l0 _ _ ([] : List (S38)) t117 _ ?side1 ?side2 ?side3 ?side4 A2.out).mono ?_); (case side1 => repeat (first | exact HR0.out | (with_reducible refine Kd.C_alloc ?_ _) | (with_reducible refine Kd.C_drewN ?_ _) | (with_reducible refine Kd.C_drew ?_))); (case side2 => exact HC0.out); (case side3 => exact Kd.C_nil _ _); (case side4 => exact Nat.le_refl _); rintro e w3 ⟨v118, rfl, ho0, hb⟩; refine ⟨_, rfl, ?_⟩; have n0_ := Aside0.mk (Kd.R_lower ho0 (below_size (by repeat (first | (with_reducible first | exact HB.out | apply below_alloc | apply pw_below_drewN | apply below_drew1) | exact HB.out)))); have n1_ := Aside0.mk (below_step (by repeat (first | (with_reducible first | exact HB.out | apply below_alloc | apply pw_below_drewN | apply below_drew1) | exact HB.out)) hb); clear HB; have HO119 := n0_; have HB := n1_; clear n0_ n1_; (try clear hb); (try clear hb2); (try clear hk); (try clear hi); (try clear ho0)))
  go_ret
  exact ⟨_, by first | rfl | (simp [errW_none, errW_some] <;> rfl) | (simp [*, errW_none, errW_some] <;> rfl), by (with_reducible repeat (first | apply Kd.R_alloc | apply Kd.R_drewN | apply Kd.R_drew)); exact HO119.out, by repeat (first | (with_reducible first | exact HB.out | apply below_alloc | apply pw_below_drewN | apply below_drew1) | exact HB.out)⟩
def span_First.l0 : Nat → List (S38) → Int → Int → Option (Int)
  | 0, _, _, _ => none
  | k + 1, x6, x7, x8 => if x8 < x7 then (if 0 ≤ x8 then (if x8 < (x6.length : Int) then (some ((rd_T38 x6 x8).f0)) else (none)) else (none)) else (some (-1))
def span_First.f (k : Nat) (l0 : List (S38)) : Option (Int) := (span_Plain.f l0).bind fun t120 => (span_First.l0 k t120 (t120.length : Int) 0)
theorem span_First.mono_l : ∀ k, (∀ y0 y1 y2, LeO (span_First.l0 k y0 y1 y2) (span_First.l0 (k + 1) y0 y1 y2))
  | 0 => fun _ _ _ r h => by simp [span_First.l0] at h
  | k + 1 => by
    have ih0 := span_First.mono_l k
    · intro y0 y1 y2
      unfold span_First.l0
      repeat' first
      | (with_reducible exact ih0 _ _ _)
      | (with_reducible exact LeO.refl _)
      | (with_reducible exact LeO.none _)
      | (with_reducible refine LeO.ite ?_ ?_)
      | (with_reducible refine LeO.bind ?_ (fun _ => ?_))
      | exact ih0 _ _ _
      | exact LeO.none _
      | refine LeO.ite ?_ ?_
      | refine LeO.bind ?_ (fun _ => ?_)
theorem span_First.mono : ∀ a0 k, LeO (span_First.f k a0) (span_First.f (k + 1) a0) := by
  intro a0 k
  have ih0 := span_First.mono_l k
  unfold span_First.f
  repeat' first
      | (with_reducible exact ih0 _ _ _)
      | (with_reducible exact LeO.refl _)
      | (with_reducible exact LeO.none _)
      | (with_reducible refine LeO.ite ?_ ?_)
      | (with_reducible refine LeO.bind ?_ (fun _ => ?_))
      | exact ih0 _ _ _
      | exact LeO.none _
      | refine LeO.ite ?_ ?_
      | refine LeO.bind ?_ (fun _ => ?_)
set_option maxHeartbeats 8000000 in
set_option maxRecDepth 100000 in
theorem span_First.calls (k : Nat) (A0 : Option Addr) (c0 : Nat) (l0 : List (S38)) (r : Int) (w : World) (hr0 : Kd.C k38 w A0 l0.length l0) (hc0 : l0.length ≤ c0) (h : span_First.f k l0 = some r) :
    Calls Tryz.prog 33 #[.slice A0 l0.length c0] w fun e w' => e = .returned (.int .i64 r) ∧ Below w.heap.size w w' := by
  have hu38 := Tryz.underlying38
  have HR0 := Aside0.mk hr0
  have HC0 := Aside0.mk hc0
  clear hr0 hc0
  have HB := Aside0.mk (Below.refl w.heap.size w)
  have H : ((span_Plain.f l0).bind fun t120 => (span_First.l0 k t120 (t120.length : Int) 0)) = some r := h
  clear h
  replace H := Option.bind_eq_some_iff.mp H
  obtain ⟨t120, A20, H⟩ := H
  replace H : (span_First.l0 k t120 (t120.length : Int) 0) = some r := H
  have A2 := Aside0.mk A20
  clear A20
  have H' := Aside0.mk H
  clear H
  go_enter Tryz.func33, Tryz.ntmps33
  go_wp2_with (first | ((with_reducible refine gate_callee (f := 53) rfl ?_); refine goesL_ (some 6) rfl rfl Tryz.func53 (by kernel_rfl) rfl #[.slice A0 l0.length c0] rfl (by (try simp only [List.map_toArray, List.map_cons, List.map_nil]); first | done | rfl | (simp only [List.length_drop, List.length_take]; rfl)) ?_; (with_reducible refine (span_Plain.calls _ _ l0 t120 _ ?side1 ?side2 A2.out).mono ?_); (case side1 => repeat (first | exact HR0.out | (with_reducible refine Kd.C_alloc ?_ _) | (with_reducible refine Kd.C_drewN ?_ _) | (with_reducible refine Kd.C_drew ?_))); (case side2 => exact HC0.out); rintro e w3 ⟨v121, rfl, ho0, hb⟩; refine ⟨_, rfl, ?_⟩; have n0_ := Aside0.mk (Kd.R_lower ho0 (below_size (by repeat (first | (with_reducible first | exact HB.out | apply below_alloc | apply pw_below_drewN | apply below_drew1) | exact HB.out)))); have n1_ := Aside0.mk (below_step (by repeat (first | (with_reducible first | exact HB.out | apply below_alloc | apply pw_below_drewN | apply below_drew1) | exact HB.out)) hb); clear HB; have HO122 := n0_; have HB := n1_; clear n0_ n1_; (try clear hb); (try clear hb2); (try clear hk); (try clear hi); (try clear ho0); obtain ⟨Ao4, co4, eo4⟩ := Kd.R_slice HO122.out; subst eo4))
  go_loopg [8] k (fun kq v8 w' => ∃ (x8_1 : Int), v8 = .int .i64 x8_1 ∧ Aside0 (span_First.l0 kq t120 (t120.length : Int) x8_1 = some r) ∧ Aside0 (kq ≤ k) ∧ Aside0 (Kd.R k38 38 w' w.heap.size (fun _ => True) (.slice Ao4 t120.length co4) t120) ∧ Aside0 (Below w.heap.size w w'))
  case atStart => exact ⟨(0), (by first | rfl | (simp; done) | (simp [*]; done)), H', ⟨Nat.le_refl _⟩, ⟨by (with_reducible repeat (first | apply Kd.R_alloc | apply Kd.R_drewN | apply Kd.R_drew)); exact HO122.out⟩, ⟨by repeat (first | (with_reducible first | exact HB.out | apply below_alloc | apply pw_below_drewN | apply below_drew1) | exact HB.out)⟩⟩
  case round =>
    clear H'
    try clear p2
    try clear c3
    obtain ⟨x8_1, rfl, HA, HK1, HO_6, HB⟩ := hrel
    cases gk with
    | zero => exact absurd HA.out (by simp [span_First.l0])
    | succ k1 =>
      have H := HA.out
      clear HA
      simp only [span_First.l0] at H
      by_cases c5 : x8_1 < (t120.length : Int)
      · rw [if_pos c5] at H
        have c5b0 : decide (x8_1 < (t120.length : Int)) = true := decide_eq_true c5
        clear c5
        by_cases c6 : 0 ≤ x8_1
        · rw [if_pos c6] at H
          have c6b0 : decide (0 ≤ x8_1) = true := decide_eq_true c6
          clear c6
          by_cases c7 : x8_1 < (t120.length : Int)
          · rw [if_pos c7] at H
            have c7b0 : decide (x8_1 < (t120.length : Int)) = true := decide_eq_true c7
            clear c7
            obtain rfl := Option.some.inj H
            have p123 : 0 ≤ (x8_1 : Int) := of_decide_eq_true (by first | (with_reducible assumption) | assumption)
            have q123 : x8_1 < (t120.length : Int) := of_decide_eq_true (by first | (with_reducible assumption) | assumption)
            obtain ⟨ad123, e123, hx123_0, hx123_1⟩ := at_T38 (Kd.R_reads' HO_6.out).2.2 x8_1 p123 q123
            cases e123
            replace p123 := eq_true p123
            replace q123 := eq_true q123
            go_wp2_with (first | ((with_reducible refine gate_dst (N := 4) rfl ?_); refine box_event ?hg (N := 4) ?hd (cs := #[.int .i64 0, .int .i64 0]) (t := 38) ?hr ?_; (case hd => rfl); (case hg => rfl); (case hr => first | (go_simp; done) | (go_simp; rfl)); intro gb124 hg w8 hbox hb; have n0_ := Aside0.mk (Kd.R_below (Kd.R_elderB (by (with_reducible repeat (first | apply Kd.R_alloc | apply Kd.R_drewN | apply Kd.R_drew)); exact HO_6.out) gb124 (Nat.le_of_eq hg.symm)) hb); have n1_ := Aside0.mk (below_step (by repeat (first | (with_reducible first | exact HB.out | apply below_alloc | apply pw_below_drewN | apply below_drew1) | exact HB.out)) hb); have n2_ := Aside0.mk (hbox); have n3_ := Aside0.mk ((by rw [hg]; exact (below_size (by repeat (first | (with_reducible first | exact HB.out | apply below_alloc | apply pw_below_drewN | apply below_drew1) | exact HB.out))) : w.heap.size ≤ gb124)); have n4_ := Aside0.mk ((by rw [hg]; exact (below_size (by repeat (first | (with_reducible first | exact HB.out | apply below_alloc | apply pw_below_drewN | apply below_drew1) | exact HB.out))) : w.heap.size ≤ gb124)); clear HO_6; clear HB; have HO_6 := n0_; have HB := n1_; have BK124 := n2_; have GW124 := n3_; have GE124 := n4_; clear n0_ n1_ n2_ n3_ n4_; clear hb hbox hg; have hcz9_0 : w8.cell? ⟨gb124, 0, none⟩ = some (.int .i64 0) := (blk_cell BK124.out 0).trans rfl; have hcz9_1 : w8.cell? ⟨gb124, 1, none⟩ = some (.int .i64 0) := (blk_cell BK124.out 1).trans rfl; have hfz9_0 := blk_frozen BK124.out 0; have hfz9_1 := blk_frozen BK124.out 1))
            go_ret
            exact ⟨by first | rfl | (simp [errW_none, errW_some] <;> rfl) | (simp [*, errW_none, errW_some] <;> rfl), by repeat (first | (with_reducible first | exact HB.out | apply below_alloc | apply pw_below_drewN | apply below_drew1 | refine below_set ?_ GE124.out) | exact HB.out)⟩
          · rw [if_neg c7] at H
            exact absurd H (by simp)
        · rw [if_neg c6] at H
          exact absurd H (by simp)
      · rw [if_neg c5] at H
        have c5b0 : decide (x8_1 < (t120.length : Int)) = false := decide_eq_false c5
        clear c5
        obtain rfl := Option.some.inj H
        go_wp2
        go_ret
        exact ⟨by first | rfl | (simp [errW_none, errW_some] <;> rfl) | (simp [*, errW_none, errW_some] <;> rfl), by repeat (first | (with_reducible first | exact HB.out | apply below_alloc | apply pw_below_drewN | apply below_drew1) | exact HB.out)⟩
def span_Size.l0 : Nat → Int → List (S38) → Int → Int → Option (Int)
  | 0, _, _, _, _ => none
  | k + 1, x2, x6, x7, x8 => if x8 < x7 then (if 0 ≤ x8 then (if x8 < (x6.length : Int) then (span_Size.l0 k (wrap64 (x2 + (wrap64 ((wrap64 (((rd_T38 x6 x8).f1) - ((rd_T38 x6 x8).f0))) + 1)))) x6 x7 (wrap64 (x8 + 1))) else (none)) else (none)) else (some x2)
def span_Size.f (k : Nat) (l0 : List (S38)) : Option (Int) := (span_Plain.f l0).bind fun t125 => (span_Size.l0 k 0 t125 (t125.length : Int) 0)
theorem span_Size.mono_l : ∀ k, (∀ y0 y1 y2 y3, LeO (span_Size.l0 k y0 y1 y2 y3) (span_Size.l0 (k + 1) y0 y1 y2 y3))
  | 0 => fun _ _ _ _ r h => by simp [span_Size.l0] at h
  | k + 1 => by
    have ih0 := span_Size.mono_l k
    · intro y0 y1 y2 y3
      unfold span_Size.l0
      repeat' first
      | (with_reducible exact ih0 _ _ _ _)
      | (with_reducible exact LeO.refl _)
      | (with_reducible exact LeO.none _)
      | (with_reducible refine LeO.ite ?_ ?_)
      | (with_reducible refine LeO.bind ?_ (fun _ => ?_))
      | exact ih0 _ _ _ _
      | exact LeO.none _
      | refine LeO.ite ?_ ?_
      | refine LeO.bind ?_ (fun _ => ?_)
theorem span_Size.mono : ∀ a0 k, LeO (span_Size.f k a0) (span_Size.f (k + 1) a0) := by
  intro a0 k
  have ih0 := span_Size.mono_l k
  unfold span_Size.f
  repeat' first
      | (with_reducible exact ih0 _ _ _ _)
      | (with_reducible exact LeO.refl _)
      | (with_reducible exact LeO.none _)
      | (with_reducible refine LeO.ite ?_ ?_)
      | (with_reducible refine LeO.bind ?_ (fun _ => ?_))
      | exact ih0 _ _ _ _
      | exact LeO.none _
      | refine LeO.ite ?_ ?_
      | refine LeO.bind ?_ (fun _ => ?_)
set_option maxHeartbeats 8000000 in
set_option maxRecDepth 100000 in
theorem span_Size.calls (k : Nat) (A0 : Option Addr) (c0 : Nat) (l0 : List (S38)) (r : Int) (w : World) (hr0 : Kd.C k38 w A0 l0.length l0) (hc0 : l0.length ≤ c0) (h : span_Size.f k l0 = some r) :
    Calls Tryz.prog 36 #[.slice A0 l0.length c0] w fun e w' => e = .returned (.int .i64 r) ∧ Below w.heap.size w w' := by
  have hu38 := Tryz.underlying38
  have HR0 := Aside0.mk hr0
  have HC0 := Aside0.mk hc0
  clear hr0 hc0
  have HB := Aside0.mk (Below.refl w.heap.size w)
  have H : ((span_Plain.f l0).bind fun t125 => (span_Size.l0 k 0 t125 (t125.length : Int) 0)) = some r := h
  clear h
  replace H := Option.bind_eq_some_iff.mp H
  obtain ⟨t125, A20, H⟩ := H
  replace H : (span_Size.l0 k 0 t125 (t125.length : Int) 0) = some r := H
  have A2 := Aside0.mk A20
  clear A20
  have H' := Aside0.mk H
  clear H
  go_enter Tryz.func36, Tryz.ntmps36
  go_wp2_with (first | ((with_reducible refine gate_callee (f := 53) rfl ?_); refine goesL_ (some 6) rfl rfl Tryz.func53 (by kernel_rfl) rfl #[.slice A0 l0.length c0] rfl (by (try simp only [List.map_toArray, List.map_cons, List.map_nil]); first | done | rfl | (simp only [List.length_drop, List.length_take]; rfl)) ?_; (with_reducible refine (span_Plain.calls _ _ l0 t125 _ ?side1 ?side2 A2.out).mono ?_); (case side1 => repeat (first | exact HR0.out | (with_reducible refine Kd.C_alloc ?_ _) | (with_reducible refine Kd.C_drewN ?_ _) | (with_reducible refine Kd.C_drew ?_))); (case side2 => exact HC0.out); rintro e w3 ⟨v126, rfl, ho0, hb⟩; refine ⟨_, rfl, ?_⟩; have n0_ := Aside0.mk (Kd.R_lower ho0 (below_size (by repeat (first | (with_reducible first | exact HB.out | apply below_alloc | apply pw_below_drewN | apply below_drew1) | exact HB.out)))); have n1_ := Aside0.mk (below_step (by repeat (first | (with_reducible first | exact HB.out | apply below_alloc | apply pw_below_drewN | apply below_drew1) | exact HB.out)) hb); clear HB; have HO127 := n0_; have HB := n1_; clear n0_ n1_; (try clear hb); (try clear hb2); (try clear hk); (try clear hi); (try clear ho0); obtain ⟨Ao4, co4, eo4⟩ := Kd.R_slice HO127.out; subst eo4))
  go_loopg [2, 8] k (fun kq v2 v8 w' => ∃ (x2_1 : Int) (x8_1 : Int), v2 = .int .i64 x2_1 ∧ v8 = .int .i64 x8_1 ∧ Aside0 (span_Size.l0 kq x2_1 t125 (t125.length : Int) x8_1 = some r) ∧ Aside0 (kq ≤ k) ∧ Aside0 (Kd.R k38 38 w' w.heap.size (fun _ => True) (.slice Ao4 t125.length co4) t125) ∧ Aside0 (Below w.heap.size w w'))
  case atStart => exact ⟨(0), (0), (by first | rfl | (simp; done) | (simp [*]; done)), (by first | rfl | (simp; done) | (simp [*]; done)), H', ⟨Nat.le_refl _⟩, ⟨by (with_reducible repeat (first | apply Kd.R_alloc | apply Kd.R_drewN | apply Kd.R_drew)); exact HO127.out⟩, ⟨by repeat (first | (with_reducible first | exact HB.out | apply below_alloc | apply pw_below_drewN | apply below_drew1) | exact HB.out)⟩⟩
  case round =>
    clear H'
    try clear p2
    try clear c3
    obtain ⟨x2_1, x8_1, rfl, rfl, HA, HK1, HO_6, HB⟩ := hrel
    cases gk with
    | zero => exact absurd HA.out (by simp [span_Size.l0])
    | succ k1 =>
      have H := HA.out
      clear HA
      simp only [span_Size.l0] at H
      by_cases c5 : x8_1 < (t125.length : Int)
      · rw [if_pos c5] at H
        have c5b0 : decide (x8_1 < (t125.length : Int)) = true := decide_eq_true c5
        clear c5
        by_cases c6 : 0 ≤ x8_1
        · rw [if_pos c6] at H
          have c6b0 : decide (0 ≤ x8_1) = true := decide_eq_true c6
          clear c6
          by_cases c7 : x8_1 < (t125.length : Int)
          · rw [if_pos c7] at H
            have c7b0 : decide (x8_1 < (t125.length : Int)) = true := decide_eq_true c7
            clear c7
            have H' := Aside0.mk H
            clear H
            have p128 : 0 ≤ (x8_1 : Int) := of_decide_eq_true (by first | (with_reducible assumption) | assumption)
            have q128 : x8_1 < (t125.length : Int) := of_decide_eq_true (by first | (with_reducible assumption) | assumption)
            obtain ⟨ad128, e128, hx128_0, hx128_1⟩ := at_T38 (Kd.R_reads' HO_6.out).2.2 x8_1 p128 q128
            cases e128
            replace p128 := eq_true p128
            replace q128 := eq_true q128
            go_wp2_with (first | ((with_reducible refine gate_dst (N := 4) rfl ?_); refine box_event ?hg (N := 4) ?hd (cs := #[.int .i64 0, .int .i64 0]) (t := 38) ?hr ?_; (case hd => rfl); (case hg => rfl); (case hr => first | (go_simp; done) | (go_simp; rfl)); intro gb129 hg w8 hbox hb; have n0_ := Aside0.mk (Kd.R_below (Kd.R_elderB (by (with_reducible repeat (first | apply Kd.R_alloc | apply Kd.R_drewN | apply Kd.R_drew)); exact HO_6.out) gb129 (Nat.le_of_eq hg.symm)) hb); have n1_ := Aside0.mk (below_step (by repeat (first | (with_reducible first | exact HB.out | apply below_alloc | apply pw_below_drewN | apply below_drew1) | exact HB.out)) hb); have n2_ := Aside0.mk (hbox); have n3_ := Aside0.mk ((by rw [hg]; exact (below_size (by repeat (first | (with_reducible first | exact HB.out | apply below_alloc | apply pw_below_drewN | apply below_drew1) | exact HB.out))) : w.heap.size ≤ gb129)); have n4_ := Aside0.mk ((by rw [hg]; exact (below_size (by repeat (first | (with_reducible first | exact HB.out | apply below_alloc | apply pw_below_drewN | apply below_drew1) | exact HB.out))) : w.heap.size ≤ gb129)); clear HO_6; clear HB; have HO_6 := n0_; have HB := n1_; have BK129 := n2_; have GW129 := n3_; have GE129 := n4_; clear n0_ n1_ n2_ n3_ n4_; clear hb hbox hg; have hcz9_0 : w8.cell? ⟨gb129, 0, none⟩ = some (.int .i64 0) := (blk_cell BK129.out 0).trans rfl; have hcz9_1 : w8.cell? ⟨gb129, 1, none⟩ = some (.int .i64 0) := (blk_cell BK129.out 1).trans rfl; have hfz9_0 := blk_frozen BK129.out 0; have hfz9_1 := blk_frozen BK129.out 1))
            go_roundg k1
            case measure => have := HK1.out; omega
            case rel => exact ⟨(wrap64 (x2_1 + (wrap64 ((wrap64 (((rd_T38 t125 x8_1).f1) - ((rd_T38 t125 x8_1).f0))) + 1)))), (wrap64 (x8_1 + 1)), (by first | rfl | (simp; done) | (simp [*]; done)), (by first | rfl | (simp; done) | (simp [*]; done)), H', ⟨by have := HK1.out; omega⟩, ⟨by (with_reducible repeat (first | apply Kd.R_alloc | apply Kd.R_drewN | apply Kd.R_drew)); exact Kd.R_mono (Kd.R_far (p := ⟨gb129, 1, none⟩) (Kd.R_far (p := ⟨gb129, 0, none⟩) (Kd.R_mono HO_6.out (fun k_ hk => (⟨hk, hk.2⟩ : _ ∧ k_ ≠ gb129))) (fun _ hk => hk.2) (.int .i64 ((rd_T38 t125 x8_1).f0))) (fun _ hk => hk.2) (.int .i64 ((rd_T38 t125 x8_1).f1))) (fun _ hk => trivial)⟩, ⟨by repeat (first | (with_reducible first | exact HB.out | apply below_alloc | apply pw_below_drewN | apply below_drew1 | refine below_set ?_ GE129.out) | exact HB.out)⟩⟩
          · rw [if_neg c7] at H
            exact absurd H (by simp)
        · rw [if_neg c6] at H
          exact absurd H (by simp)
      · rw [if_neg c5] at H
        have c5b0 : decide (x8_1 < (t125.length : Int)) = false := decide_eq_false c5
        clear c5
        obtain rfl := Option.some.inj H
        go_wp2
        go_ret
        exact ⟨by first | rfl | (simp [errW_none, errW_some] <;> rfl) | (simp [*, errW_none, errW_some] <;> rfl), by repeat (first | (with_reducible first | exact HB.out | apply below_alloc | apply pw_below_drewN | apply below_drew1) | exact HB.out)⟩
def span_Right.f (k : Nat) (l0 : List (S38)) : Option (Bool) := if (l0.length : Int) ≤ 400 then ((span_Plain.f l0).bind fun t130 => ((api_Range.f k l0 t130).bind fun t133 => (some t133))) else (some false)
theorem span_Right.mono : ∀ a0 k, LeO (span_Right.f k a0) (span_Right.f (k + 1) a0) := by
  intro a0 k
  unfold span_Right.f
  repeat' first
      | (with_reducible exact api_Range.mono _ _ _)
      | (with_reducible exact LeO.refl _)
      | (with_reducible exact LeO.none _)
      | (with_reducible refine LeO.ite ?_ ?_)
      | (with_reducible refine LeO.bind ?_ (fun _ => ?_))
      | exact api_Range.mono _ _ _
      | exact LeO.none _
      | refine LeO.ite ?_ ?_
      | refine LeO.bind ?_ (fun _ => ?_)
set_option maxHeartbeats 8000000 in
set_option maxRecDepth 100000 in
theorem span_Right.calls (k : Nat) (A0 : Option Addr) (c0 : Nat) (l0 : List (S38)) (r : Bool) (w : World) (hr0 : Kd.C k38 w A0 l0.length l0) (hc0 : l0.length ≤ c0) (h : span_Right.f k l0 = some r) :
    Calls Tryz.prog 35 #[.slice A0 l0.length c0] w fun e w' => e = .returned (.bool r) ∧ Below w.heap.size w w' := by
  have HR0 := Aside0.mk hr0
  have HC0 := Aside0.mk hc0
  clear hr0 hc0
  have HB := Aside0.mk (Below.refl w.heap.size w)
  have H : (if (l0.length : Int) ≤ 400 then ((span_Plain.f l0).bind fun t130 => ((api_Range.f k l0 t130).bind fun t133 => (some t133))) else (some false)) = some r := h
  clear h
  by_cases c2 : (l0.length : Int) ≤ 400
  · rw [if_pos c2] at H
    have c2b0 : decide ((l0.length : Int) ≤ 400) = true := decide_eq_true c2
    have c2b1 : decide (l0.length ≤ 400) = true := decide_eq_true (by omega)
    clear c2
    replace H := Option.bind_eq_some_iff.mp H
    obtain ⟨t130, A30, H⟩ := H
    replace H : ((api_Range.f k l0 t130).bind fun t133 => (some t133)) = some r := H
    have A3 := Aside0.mk A30
    clear A30
    replace H := Option.bind_eq_some_iff.mp H
    obtain ⟨t133, A40, H⟩ := H
    replace H : (some t133) = some r := H
    have A4 := Aside0.mk A40
    clear A40
    obtain rfl := Option.some.inj H
    go_enter Tryz.func35, Tryz.ntmps35
    go_wp2_with (first | (go_at_call 53; (with_reducible refine (span_Plain.calls _ _ l0 t130 _ ?side1 ?side2 A3.out).mono ?_); (case side1 => repeat (first | exact HR0.out | (with_reducible refine Kd.C_alloc ?_ _) | (with_reducible refine Kd.C_drewN ?_ _) | (with_reducible refine Kd.C_drew ?_))); (case side2 => exact HC0.out); rintro e w5 ⟨v131, rfl, ho0, hb⟩; have n0_ := Aside0.mk (Kd.R_lower ho0 (below_size (by repeat (first | (with_reducible first | exact HB.out | apply below_alloc | apply pw_below_drewN | apply below_drew1) | exact HB.out)))); have n1_ := Aside0.mk (below_step (by repeat (first | (with_reducible first | exact HB.out | apply below_alloc | apply pw_below_drewN | apply below_drew1) | exact HB.out)) hb); clear HB; have HO132 := n0_; have HB := n1_; clear n0_ n1_; (try clear hb); (try clear hb2); (try clear hk); (try clear hi); (try clear ho0); obtain ⟨Ao6, co6, eo6⟩ := Kd.R_slice HO132.out; subst eo6) | (go_at_call 55; (with_reducible refine (api_Range.calls k _ _ l0 _ _ t130 t133 _ ?side1 ?side2 ?side3 ?side4 A4.out).mono ?_); (case side1 => repeat (first | exact (Kd.C_below HR0.out HB.out) | (with_reducible refine Kd.C_alloc ?_ _) | (with_reducible refine Kd.C_drewN ?_ _) | (with_reducible refine Kd.C_drew ?_))); (case side2 => exact HC0.out); (case side3 => repeat (first | exact (Kd.R_reads' HO132.out).2.2 | (with_reducible refine Kd.C_alloc ?_ _) | (with_reducible refine Kd.C_drewN ?_ _) | (with_reducible refine Kd.C_drew ?_))); (case side4 => exact (Kd.R_reads' HO132.out).2.1); rintro e w' ⟨rfl, ⟨nd, rfl⟩⟩))
    go_ret
    exact ⟨by first | rfl | (simp [errW_none, errW_some] <;> rfl) | (simp [*, errW_none, errW_some] <;> rfl), by repeat (first | (with_reducible first | exact HB.out | apply below_alloc | apply pw_below_drewN | apply below_drew1) | exact HB.out)⟩
  · rw [if_neg c2] at H
    have c2b0 : decide ((l0.length : Int) ≤ 400) = false := decide_eq_false c2
    have c2b1 : decide (l0.length ≤ 400) = false := decide_eq_false (by omega)
    clear c2
    obtain rfl := Option.some.inj H
    go_enter Tryz.func35, Tryz.ntmps35
    go_wp2
    go_ret
    exact ⟨by first | rfl | (simp [errW_none, errW_some] <;> rfl) | (simp [*, errW_none, errW_some] <;> rfl), by repeat (first | (with_reducible first | exact HB.out | apply below_alloc | apply pw_below_drewN | apply below_drew1) | exact HB.out)⟩
end Go.Proofs.YtippkbgeeeimjaaGreat.B
