/- The contract of calc.Empty. -/
import Derived.Test.YtpedenbcfbflbaaXNot
import Derived.Test.YtpedenbcfbflbaaXEmptyPure
namespace Go.Proofs.Ytpedenbcfbflbaa.X
open Go.RowKit Go.Proofs.YtpedenbcfbflbaaW.PrintWords Go.Proofs.YtpedenbcfbflbaaW.PrintLast Go.Proofs.YtpedenbcfbflbaaW.PrintMore Go.Maps Num
set_option linter.unusedVariables false
set_option linter.unusedSimpArgs false

/-- A map literal's entry, at the operation. -/
theorem wpList_insert_own {H : Type} {P : Program} (w : World) {ops : Array Oper} {rest : List Oper} {o : Oper} {a : Act} {Q : Exit → Act → World → Prop}
    (hg : o.guard = none) (m x v : Operand) (t : TypeId) (hop : o.op = Op.insert t m x v)
    (k e : TypeId) (K : Keyed P k) (ht : P.underlying t = some (.map k e)) (R : Value → Option (DataW H × List MemPlace)) (b n : Nat) (D : DataW H)
    (hm : a.eval m = .map (some b)) (hown : w.ownsMap P k R b n D) (hn : n < maxLen) (key val : Value) (kl : Lit) (hx : a.eval x = key) (hv : a.eval v = val) (hkey : keyOf P k key = some kl)
    (d : DataW H) (ps : List MemPlace) (hval : R val = some (d, ps))
    (hK : ∀ w', w'.ownsMap P k R b (n + 1) (D.put kl d) → w.grownBy w' (some b) → wpList P ops Q rest (a.put o.dst undef) w') :
    wpList P ops Q (o :: rest) a w := by
  refine wpList_plain hg fun K' hK' => ?_
  obtain ⟨w', hrun, r1, r2⟩ := hown.update K ht hn hkey hval
  unfold Oper.wp
  simp [execOp, hop, hm, hx, hv, hrun, Result.andThen]
  exact hK' _ _ (hK w' r1 r2)

theorem keyed3 : Keyed Try.prog 3 := int_keyed Try.underlying3
theorem key3 {x : Int} (h0 : 0 ≤ x) (h1 : x ≤ 9223372036854775807) : keyOf Try.prog 3 (.int .i64 x) = some (.int .i64 x) := keyOf_int_mk Try.underlying3 (WalkArith.wf_i64 (by omega))
theorem zero4 (w : World) : (zeroValue 4).run Try.prog w = .ok (.bool false) w := by kernel_rfl
theorem info3e : (Try.prog.info? 3).map (fun i => (i.zero, i.size, i.bytes)) = some (some (.int .i64 0), 1, 8) := by kernel_rfl
/-- What the map of those that were met holds. -/
def Met (M : List Int) (D : DataW Unit) : Prop := IsMap D ∧ ∀ x : Int, 0 ≤ x → x ≤ 9223372036854775807 → D.atKey (.int .i64 x) (.lit (.bool false)) = .lit (.bool (decide (x ∈ M)))
theorem Met.nil : Met [] (.map []) := ⟨isMap_empty, fun x _ _ => by rw [atKey_of_not_has (by simp [has])]; simp⟩
theorem Met.put {M : List Int} {D : DataW Unit} (h : Met M D) {x : Int} (h0 : 0 ≤ x) (h1 : x ≤ 9223372036854775807) : Met (M ++ [x]) (D.put (.int .i64 x) (.lit (.bool true))) := by
  refine ⟨h.1.put _ _, fun y y0 y1 => ?_⟩
  by_cases e : y = x
  · subst e
    rw [atKey_put_same h.1 (keyed3.key (key3 h0 h1))]
    simp
  · rw [atKey_put_other (fun e' => e (by injection e')), h.2 y y0 y1]
    simp [e]
theorem Met.look {M : List Int} {D : DataW Unit} {W : World} {mb k : Nat} (h : Met M D) (ho : W.ownsMap Try.prog 3 (plainElem Try.prog 4) mb k D) {x : Int} (h0 : 0 ≤ x) (h1 : x ≤ 9223372036854775807) :
    (Instr.lookup 69 (.map (some mb)) (.int .i64 x) false).run Try.prog W = .ok (.bool (decide (x ∈ M))) W := by
  obtain ⟨v, ps, hrun, hv⟩ := ho.lookup keyed3 Try.underlying69 (zero4 W) (plainElem_bool Try.underlying4 false) (key3 h0 h1)
  rw [h.2 x h0 h1] at hv
  have hvb : v = .bool (decide (x ∈ M)) := by
    unfold plainElem at hv
    rw [Try.underlying4] at hv
    cases v <;> simp at hv
    rw [hv.1]
  rw [hrun, hvb]
/-- The search, as it stands. -/
structure EmW (w : World) (s : Int) (A : Option Addr) (n : List (List Int)) (c : Nat) (B : Option Addr) (e : List Bool) (d mb : Nat) (M : List Int) (v : Value) (ws : List Int) (W : World) : Prop where
  x1 : W.heap[w.heap.size]? = some (.cells #[.int .i64 s, .slice A n.length c, .slice B e.length d] 25 (0, 0))
  mp : ∃ D : DataW Unit, W.ownsMap Try.prog 3 (plainElem Try.prog 4) mb M.length D ∧ Met M D
  r : Kd.R (Kd.int .i64) 3 W w.heap.size (fun _ => True) v ws
  b : Below w.heap.size w W
  hm : w.heap.size ≤ mb
section
variable {w : World} {s : Int} {A : Option Addr} {n : List (List Int)} {c : Nat} {B : Option Addr} {e : List Bool} {d mb : Nat} {M : List Int} {v : Value} {ws : List Int} {W W' : World}
theorem EmW.below (h : EmW w s A n c B e d mb M v ws W) (hb : Below W.heap.size W W') : EmW w s A n c B e d mb M v ws W' := by
  obtain ⟨D, h1, h2⟩ := h.mp
  exact ⟨blk_below h.x1 hb, ⟨D, h1.kept (grown_of_below hb none) (by simp), h2⟩, Kd.R_below h.r hb, h.b.trans (hb.mono h.b.size), h.hm⟩
/-- One more was met. -/
theorem EmW.mark (h : EmW w s A n c B e d mb M v ws W) {D : DataW Unit} {x : Int} (hD : Met M D) (h0 : 0 ≤ x) (h1 : x ≤ 9223372036854775807) (ho : W'.ownsMap Try.prog 3 (plainElem Try.prog 4) mb (M.length + 1) (D.put (.int .i64 x) (.lit (.bool true)))) (hg : W.grownBy W' (some mb)) :
    EmW w s A n c B e d mb (M ++ [x]) v ws W' := by
  obtain ⟨_, ⟨es, clock, hmb, _⟩, _⟩ := h.mp
  have hne : w.heap.size ≠ mb := by rintro e1; have := h.x1; rw [e1, hmb] at this; cases this
  refine ⟨(hg.block _ (blk_lt h.x1) (by simpa using hne)).trans h.x1, ⟨_, by simpa using ho, hD.put h0 h1⟩, ?_, h.b.grown hg (Nat.le_trans (Nat.le_refl _) h.b.size) (fun k e1 => by injection e1 with e1; rw [← e1]; exact h.hm), h.hm⟩
  refine Kd.R_mono (Kd.R_move (Kd.R_bound h.r) (fun k hk' => ?_)) (fun _ h => h.1)
  obtain ⟨_, hlt, _, q, hq, cells, hc⟩ := hk'
  refine hg.block k (blk_lt hc) ?_
  rintro e1
  have e1 := Option.some.inj e1
  rw [e1, hmb] at hc
  cases hc
/-- One more waits. -/
theorem EmW.push (h : EmW w s A n c B e d mb M v ws W) {v1 : Value} {x : Int} (hR : Kd.R (Kd.int .i64) 3 W' w.heap.size (fun _ => True) v1 (ws ++ [x])) (hB : Below w.heap.size w W') (hg : W.grownBy W' v.ownBlock) : EmW w s A n c B e d mb M v1 (ws ++ [x]) W' := by
  obtain ⟨D, ho, hD⟩ := h.mp
  have hne : ∀ k cs q, q ≠ 3 → W.heap[k]? = some (.cells cs q (0, 0)) → some k ≠ v.ownBlock := fun k cs q hq hk e1 => by
    obtain ⟨cells, hc⟩ := Kd.R_typed h.r k e1.symm
    rw [hk] at hc
    simp at hc
    exact hq hc.2
  refine ⟨(hg.block _ (blk_lt h.x1) (hne _ _ _ (by decide) h.x1)).trans h.x1, ⟨D, ho.kept hg (fun e1 => ?_), hD⟩, hR, hB, h.hm⟩
  obtain ⟨cells, hc⟩ := Kd.R_typed h.r mb e1.symm
  obtain ⟨es, clock, hmb, _⟩ := ho
  rw [hmb] at hc
  cases hc
theorem EmW.pop {g m cap : Nat} (h : EmW w s A n c B e d mb M (.slice (some ⟨g, 0, none⟩) m cap) ws W) (k : Nat) (hk : k ≤ ws.length) : EmW w s A n c B e d mb M (.slice (some ⟨g, 0, none⟩) k cap) (ws.take k) W :=
  ⟨h.x1, h.mp, Kd.R_take h.r hk, h.b, h.hm⟩
end

set_option maxHeartbeats 4000000 in
theorem calc_empty (s : Int) (A : Option Addr) (c : Nat) (n : List (List Int)) (B : Option Addr) (d : Nat) (e : List Bool) (w : World)
    (hr : Kd.C (Kd.slice 3 (Kd.int .i64)) w A n.length n) (hc : n.length ≤ c) (hb : Kd.C Kd.bool w B e.length e) (hd : e.length ≤ d) (res : Bool)
    (hres : if rightB s n e then (res = true ↔ NoneAcc s n e) else res = false) :
    Calls Try.prog 42 #[.agg #[.int .i64 s, .slice A n.length c, .slice B e.length d]] w fun e_ w' => e_ = .returned (.bool res) ∧ Below w.heap.size w w' := by
  have hu25 := Try.underlying25
  have HR := Aside0.mk hr
  have HBo := Aside0.mk hb
  have HRES := Aside0.mk hres
  have hca := fun W hr hb => det_Right s A c n B d e W hr hc hb hd
  have hmm := @run_makeMap Try.prog
  cases hri : rightB s n e with
  | false =>
    rw [hri] at hca
    have HCA := Aside0.mk hca
    have hrf : res = false := by simpa [hri] using hres
    clear hr hb hca hres
    go_enter Try.func42, Try.ntmps42
    go_upto_region 1 with (fail)
    obtain ⟨W, hW⟩ : ∃ W, W = w.alloc (.cells #[.int .i64 s, .slice A n.length c, .slice B e.length d] 25) := ⟨_, rfl⟩
    have X1 := Aside0.mk (show W.heap[w.heap.size]? = some (.cells #[.int .i64 s, .slice A n.length c, .slice B e.length d] 25 (0, 0)) by rw [hW]; exact blk_new _ _)
    have BL := Aside0.mk (show Below w.heap.size w W by rw [hW]; exact below_alloc (Below.refl _ _) _)
    rw [← hW]
    clear hW
    have k0 := (blk_cell X1.out 0).trans rfl
    have k1 := (blk_cell X1.out 1).trans rfl
    have k2 := (blk_cell X1.out 2).trans rfl
    go_wp2_with fail
    refine (HCA.out W (Kd.C_below HR.out BL.out) (Kd.C_below HBo.out BL.out)).mono ?_
    rintro e_ W2 ⟨rfl, hb⟩
    have BL2 := Aside0.mk (BL.out.trans (hb.mono BL.out.size))
    have RF := Aside0.mk hrf
    clear hb k0 k1 k2 hrf
    go_wp2_with fail
    go_ret
    exact ⟨by have hz := RF.out; subst hz; rfl, BL2.out⟩
  | true =>
    rw [hri] at hca
    have HCA := Aside0.mk hca
    have HRI := Aside0.mk hri
    obtain ⟨q1, q2, q3, q4, q5, q6⟩ := rightB_spec hri
    have HQ6 := Aside0.mk q6
    have HQ5 := Aside0.mk q5
    have HRT : Aside0 (res = true ↔ NoneAcc s n e) := ⟨by simpa [hri] using hres⟩
    clear hr hb hca hres HRES hri q6 q5
    go_enter Try.func42, Try.ntmps42
    go_upto_region 1 with (fail)
    obtain ⟨W, hW⟩ : ∃ W, W = w.alloc (.cells #[.int .i64 s, .slice A n.length c, .slice B e.length d] 25) := ⟨_, rfl⟩
    have X1 := Aside0.mk (show W.heap[w.heap.size]? = some (.cells #[.int .i64 s, .slice A n.length c, .slice B e.length d] 25 (0, 0)) by rw [hW]; exact blk_new _ _)
    have BL := Aside0.mk (show Below w.heap.size w W by rw [hW]; exact below_alloc (Below.refl _ _) _)
    rw [← hW]
    clear hW
    have k0 := (blk_cell X1.out 0).trans rfl
    have k1 := (blk_cell X1.out 1).trans rfl
    have k2 := (blk_cell X1.out 2).trans rfl
    go_wp2_with fail
    refine (HCA.out W (Kd.C_below HR.out BL.out) (Kd.C_below HBo.out BL.out)).mono ?_
    rintro e_ W2 ⟨rfl, hb⟩
    have BL2 := Aside0.mk (BL.out.trans (hb.mono BL.out.size))
    have X2 := Aside0.mk (blk_below X1.out hb)
    clear hb k0 k1 k2 HCA X1 BL
    go_wp2_with (refine wpList_insert_own _ rfl _ _ _ 69 rfl 3 4 keyed3 Try.underlying69 (plainElem Try.prog 4) W2.heap.size 0 (.map [] : DataW Unit) rfl (World.ownsMap_made W2 Try.prog 3 (plainElem Try.prog 4)) (by decide) (.int .i64 0) (.bool true) (.int .i64 0) rfl rfl (key3 (Int.le_refl _) (by decide)) (.lit (.bool true)) [] (plainElem_bool Try.underlying4 true) ?_; intro W3 ho hg; have HO := Aside0.mk ho; have HG := Aside0.mk hg; clear ho hg hmm)
    have hmet : Met [0] ((.map [] : DataW Unit).put (.int .i64 0) (.lit (.bool true))) := Met.nil.put (Int.le_refl _) (by decide)
    have EM : Aside0 (EmW w s A n c B e d W2.heap.size [0] (.slice (some ⟨W3.heap.size, 0, none⟩) 1 1) [0] (W3.alloc (.cells #[.int .i64 0] 3))) := ⟨by
      have hne : w.heap.size ≠ W2.heap.size := by have := blk_lt X2.out; omega
      have hb3 : Below w.heap.size w W3 := (below_alloc BL2.out (.map #[] 0)).grown HG.out (by have := BL2.out.size; simp; omega) (fun k e1 => by injection e1 with e1; rw [← e1]; exact BL2.out.size)
      refine ⟨blk_alloc ((HG.out.block _ (by have := blk_lt X2.out; simp; omega) (by simpa using hne)).trans (blk_alloc X2.out _)) _, ⟨_, HO.out.alloc _, hmet⟩, ?_, below_alloc hb3 _, BL2.out.size⟩
      have := own_lit_of (enc := Value.int .i64) W3 w.heap.size 3 [(0 : Int)] hb3.size (by decide)
      exact Kd.R_of_own this (fun _ _ => trivial)⟩
    have V0 := Aside0.mk (VInv.start (s := s) (n := n) (e := e) q3)
    go_wp2_with fail
    have CHK : True := trivial
    go_loopg [4, 5, 7] (2 * n.length - 1) (fun kq v4 v5 v7 W => ∃ (M ws : List Int) (g cap : Nat), v4 = .slice (some ⟨g, 0, none⟩) ws.length cap ∧ kq + 2 * M.length = 2 * n.length + ws.length ∧ ws.length ≤ M.length ∧ Aside0 (EmW w s A n c B e d W2.heap.size M v4 ws W) ∧ Aside0 (VInv s n e M ws))
    case atStart => exact ⟨[0], [0], _, _, rfl, by simp; omega, by simp, EM, V0⟩
    case round =>
      clear EM V0 HO HG X2
      obtain ⟨M, ws, g, cap, rfl, hk, hwm, EM, VV⟩ := hrel
      have hMle := VV.out.size
      rcases List.eq_nil_or_concat ws with hws | ⟨ini, q, hws⟩
      · subst hws
        have hrt : res = true := HRT.out.2 VV.out.fin
        have RT := Aside0.mk hrt
        have EB := Aside0.mk EM.out.b
        clear hrt EM VV
        go_wp2_with fail
        go_ret
        exact ⟨by have hz := RT.out; subst hz; rfl, EB.out⟩
      · rw [List.concat_eq_append] at hws
        subst hws
        have hq := VV.out.reach q (VV.out.sub q (by simp))
        obtain ⟨k, rfl⟩ : ∃ k : Nat, q = (k : Int) := ⟨q.toNat, by omega⟩
        have hkn : k < n.length := by have := hq.2.1; omega
        have hws2 : ini.length + 1 ≤ 3000 := by simp at hwm; omega
        have hke : k < e.length := by rw [HQ5.out]; exact hkn
        have hcap : ini.length + 1 ≤ cap := by
          obtain ⟨_, hcp, _⟩ := Kd.R_reads' EM.out.r
          simpa using hcp
        have hce : wr.cell? ⟨g, ini.length, none⟩ = some (.int .i64 k) := by
          obtain ⟨_, _, hC⟩ := Kd.R_reads' EM.out.r
          obtain ⟨ad, e1, e2⟩ := Kd.at_int hC (ini.length : Int) (by omega) (by simp; omega)
          obtain rfl := Option.some.inj e1
          rw [Int.toNat_natCast, show (⟨g, 0, none⟩ : Addr).add ini.length = ⟨g, ini.length, none⟩ from add_plain _ _] at e2
          rw [e2]
          simp [rd, List.getD_eq_getElem?_getD]
        have EMP := Aside0.mk (EM.out.pop ini.length (by simp))
        have hlen : (ini ++ [(k : Int)]).length = ini.length + 1 := by simp
        rw [List.take_left'  rfl] at EMP
        obtain ⟨bd, eB, hcb0⟩ := cell_bool HBo.out k hke
        subst eB
        obtain ⟨ad, A0, c0, eA, hcr0, hle0, hC0⟩ := at_row HR.out k hkn
        subst eA
        have hcb := pw_cell_below EM.out.b hcb0
        have hcr := pw_cell_below EM.out.b hcr0
        clear hcb0 hcr0
        have k1 := (blk_cell EM.out.x1 1).trans rfl
        have k2 := (blk_cell EM.out.x1 2).trans rfl
        rw [hlen]
        clear hlen hq EM
        have hpos : decide ((0 : Int) < ((ini.length + 1 : Nat) : Int)) = true := decide_eq_true (by omega)
        have hek : e.getD k false = e[k] := by rw [List.getD_eq_getElem?_getD, List.getElem?_eq_getElem hke]; rfl
        generalize e[k] = bk at hcb hek
        cases bk with
        | true =>
          have hrf : res = false := by
            cases hres : res with
            | false => rfl
            | true => exact absurd (HRT.out.1 hres) (VV.out.hit (q := (k : Int)) (by simp) (by simpa using hek))
          have RF := Aside0.mk hrf
          have EB := Aside0.mk EMP.out.b
          clear hrf EMP VV hek
          go_wp2_with fail
          go_ret
          exact ⟨by have hz := RF.out; subst hz; rfl, EB.out⟩
        | false =>
          have VP := Aside0.mk (VV.out.pop (by simpa using hek))
          have hrow : ((n.getD k []).length : Int) = s := by
            have := (getD_row HQ6.out (k : Int) (by omega) (by omega)).1
            simpa using this
          obtain ⟨row, hrw⟩ : ∃ row, row = n.getD k [] := ⟨_, rfl⟩
          rw [← hrw] at hcr hC0 hrow
          have HRW := Aside0.mk hrw
          have HC0 := Aside0.mk hC0
          have hk' : gk + 2 * M.length = 2 * n.length + ini.length + 1 := by simp at hk; omega
          have hwm' : ini.length + 1 ≤ M.length := by simpa using hwm
          clear VV hek hrw hC0 hk hwm
          have hrl : row.length ≤ 400 := by omega
          have hb0 : row.length = s.toNat := by omega
          go_wp2_with fail
          clear hce hcb hcr k1 k2 hcap hpos
          go_loopg [4, 7, 39] row.length (fun kj v4 v7 v39 W => ∃ (M' ws' : List Int) (g' cap' j : Nat), v4 = .slice (some ⟨g', 0, none⟩) ws'.length cap' ∧ v39 = .int .i64 j ∧ j + kj = row.length ∧ ws'.length + M.length = ini.length + M'.length ∧ ws'.length ≤ M'.length ∧ M.length ≤ M'.length ∧ Aside0 (EmW w s (some ad) n c (some bd) e d W2.heap.size M' v4 ws' W) ∧ Aside0 (VIn s n e k j M' ws'))
          case atStart => exact ⟨M, ini, g, cap, 0, rfl, rfl, by omega, by omega, by omega, Nat.le_refl _, EMP, VP⟩
          case round =>
            clear EMP VP
            obtain ⟨M', ws', g', cap', j, rfl, rfl, hj, hmw, hwm2, hMM, EI, VI⟩ := hrel
            have hM'n := VI.out.size
            by_cases hjl : j < row.length
            · obtain ⟨ad0, eA0, hcj⟩ := Kd.at_int (Kd.C_below HC0.out EI.out.b) (j : Int) (by omega) (by omega)
              subst eA0
              rw [Int.toNat_natCast] at hcj
              obtain ⟨tq, hto⟩ : ∃ t, t = behindN n k j := ⟨_, rfl⟩
              have e1 : rd row (j : Int) = tq := by rw [hto, HRW.out]; simp [rd, behindN]
              rw [e1] at hcj
              have hb2 : 0 ≤ tq ∧ tq < n.length := by
                have h1 := (getD_row HQ6.out (k : Int) (by omega) (by omega)).2 j (by rw [Int.toNat_natCast, ← HRW.out]; exact hjl)
                rw [hto]
                simpa [behindN] using h1
              have hTO := Aside0.mk hto
              clear e1 hto
              have hltb : decide ((j : Int) < (row.length : Int)) = true := decide_eq_true (by omega)
              obtain ⟨D, hoD, hmD⟩ := EI.out.mp
              have hlk := hmD.look hoD (x := tq) hb2.1 (by omega)
              obtain ⟨gk, rfl⟩ : ∃ q, gk = q + 1 := ⟨gk - 1, by omega⟩
              by_cases hmem : tq ∈ M'
              · rw [decide_eq_true hmem] at hlk
                have VN := Aside0.mk (VI.out.known (hTO.out ▸ hmem))
                clear hmem hoD hmD VI
                go_wp2_with fail
                go_roundg gk
                case measure => omega
                case rel => exact ⟨M', ws', g', cap', j + 1, rfl, by go_num, by omega, hmw, hwm2, hMM, EI, VN⟩
              · rw [decide_eq_false hmem] at hlk
                have VN := Aside0.mk (VI.out.new HRI.out (by omega) (hTO.out ▸ hmem))
                rw [← hTO.out] at VN
                have HD := Aside0.mk hmD
                have HOD := Aside0.mk hoD
                clear hmem hoD hmD VI
                go_wp2_with (first | (at_mapUpdate; refine wpList_mapUpdate_own _ rfl _ _ _ 69 rfl 3 4 keyed3 Try.underlying69 (plainElem Try.prog 4) W2.heap.size M'.length D rfl HOD.out (by unfold maxLen; omega) (.int .i64 tq) (.bool true) (.int .i64 tq) rfl rfl (key3 hb2.1 (by omega)) (.lit (.bool true)) [] (plainElem_bool Try.underlying4 true) ?_; intro W5 ho5 hg5; have EM5 := Aside0.mk (EI.out.mark HD.out hb2.1 (by omega) ho5 hg5); clear ho5 hg5 hlk hcj) | ((with_reducible refine gate_builtin (b := .append) (xs := #[.tmp 49, .tmp 51]) rfl ?_); at_builtin; refine Kd.R_append (Kd.int .i64) (w0 := w) w.heap.size rfl (.tmp 49) (.tmp 51) 33 3 (.int .i64 0) 8 rfl Try.underlying33 info3e rfl (by decide) (by omega) (.slice (some ⟨g', 0, none⟩) ws'.length cap') ws' tq [.int .i64 tq] (fun _ => True) (fun _ => False) rfl rfl rfl (fun _ h => h.elim) (fun _ _ => trivial) EM5.out.r EM5.out.b EM5.out.b.size (by omega) ?_; intro v1 W6 hR6 hB6 hG6 _; have EM6 := Aside0.mk (EM5.out.push hR6 hB6 hG6); clear hB6 hG6))
                obtain ⟨g1, cap1, rfl, _⟩ := R_head hR6 (by simp)
                clear hR6
                go_wp2_with fail
                go_roundg gk
                case measure => omega
                case rel => exact ⟨M' ++ [tq], ws' ++ [tq], g1, cap1, j + 1, rfl, by go_num, by omega, by simp; omega, by simp; omega, by simp; omega, EM6, VN⟩
            · obtain rfl : j = row.length := by omega
              have hltb : decide ((row.length : Int) < (row.length : Int)) = false := decide_eq_false (by omega)
              have VC := Aside0.mk (VI.out.close (by omega))
              clear VI
              go_wp2_with fail
              go_roundg (2 * n.length + ws'.length - 2 * M'.length)
              case measure => omega
              case rel => exact ⟨M', ws', g', cap', rfl, by omega, hwm2, EI, VC⟩
end Go.Proofs.Ytpedenbcfbflbaa.X
