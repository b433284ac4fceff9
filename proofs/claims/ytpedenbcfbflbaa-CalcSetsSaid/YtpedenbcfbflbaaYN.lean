/- What calc.Empty answers, as a list's search; Not, Empty and alive in the print's own shape. -/
import Derived.Test.YtpedenbcfbflbaaXAlive16
namespace Go.Proofs.Ytpedenbcfbflbaa.X
open Go.RowKit Go.Proofs.YtpedenbcfbflbaaW.PrintWords Go.Proofs.YtpedenbcfbflbaaW.PrintLast Go.Proofs.YtpedenbcfbflbaaW.PrintMore Go.Maps Num
set_option linter.unusedVariables false
set_option linter.unusedSimpArgs false

/-- All states that are come to. -/
def reachF (s : Int) (n : List (List Int)) : List Int := (tableT (behindN n) s.toNat (n.length + 1) 0 [0]).1
def emptyF (s : Int) (n : List (List Int)) (e : List Bool) : Bool := rightB s n e && (reachF s n).all fun q => !e.getD q.toNat false
theorem reachF_spec {s : Int} {n : List (List Int)} {e : List Bool} (h : rightB s n e = true) : VInv s n (List.replicate n.length false) (reachF s n) [] := by
  obtain ⟨a1, a2, a3, a4, a5, a6⟩ := rightB_spec h
  have hall := tableT_all (behindN n) s.toNat (fun q => 0 ≤ q ∧ q < n.length ∧ ∃ l, inB s l = true ∧ runF n 0 l = q) (fun q ⟨q0, q1, l, h1, h2⟩ v hv => by
    obtain ⟨t1, t2⟩ := getD_row a6 q q0 q1
    have := t2 v (by omega)
    exact ⟨this.1, this.2, l ++ [(v : Int)], inB_snoc h1 (by omega) (by omega), by rw [runF_snoc, h2, Int.toNat_natCast]⟩) (n.length + 1) 0 [0] (fun q hq => by
    rw [List.mem_singleton] at hq
    subst hq
    exact ⟨Int.le_refl _, by omega, [], rfl, rfl⟩)
  have hnd := tableT_nodup (behindN n) s.toNat (n.length + 1) 0 [(0 : Int)] (by simp)
  have hle := nodup_le' _ ((List.range n.length).map (fun (i : Nat) => (i : Int))) hnd (fun q hq => by
    have := hall q hq
    exact List.mem_map.2 ⟨q.toNat, List.mem_range.2 (by omega), by omega⟩)
  simp only [List.length_map, List.length_range] at hle
  obtain ⟨t1, t2, t3, t4⟩ := tableT_spec (behindN n) s.toNat (n.length + 1) 0 [(0 : Int)] (by simp)
  have hp := tableT_prefix (behindN n) s.toNat (n.length + 1) 0 [(0 : Int)]
  refine ⟨hp.subset (by simp), hall, by simp, hnd, fun q hq => .inr ⟨?_, fun v hv => ?_⟩⟩
  · rw [List.getD_eq_getElem?_getD, List.getElem?_replicate]
    split <;> rfl
  · obtain ⟨j, hj, rfl⟩ := List.getElem_of_mem hq
    have hj' : j < (tableT (behindN n) s.toNat (n.length + 1) 0 [0]).1.length := hj
    obtain ⟨y, y1, y2, y3⟩ := t1 j (by omega)
    rw [Nat.zero_add, List.getElem?_eq_getElem hj'] at y1
    obtain rfl := Option.some.inj y1
    exact y3 v (by omega)
theorem emptyF_iff {s : Int} {n : List (List Int)} {e : List Bool} (h : rightB s n e = true) : emptyF s n e = true ↔ NoneAcc s n e := by
  have hv := reachF_spec h
  unfold emptyF
  rw [h, Bool.true_and, List.all_eq_true]
  constructor
  · intro ha l hl
    have key : ∀ l : List Int, inB s l = true → ∀ q ∈ reachF s n, runF n q l ∈ reachF s n := by
      intro l
      induction l with
      | nil => exact fun _ q hq => hq
      | cons v r ih =>
        intro hl q hq
        rw [inB_cons, Bool.and_eq_true, Bool.and_eq_true, decide_eq_true_eq, decide_eq_true_eq] at hl
        have hd := (hv.done q hq).resolve_left (by simp)
        exact ih hl.2 _ (hd.2 v.toNat (by omega))
    have := ha _ (key l hl 0 hv.zero)
    simpa using this
  · intro hn q hq
    obtain ⟨_, _, l, h1, h2⟩ := hv.reach q hq
    have := hn l h1
    rw [h2] at this
    simpa using this
theorem emptyF_res (s : Int) (n : List (List Int)) (e : List Bool) : if rightB s n e then (emptyF s n e = true ↔ NoneAcc s n e) else emptyF s n e = false := by
  cases h : rightB s n e with
  | true => rw [if_pos rfl]; exact emptyF_iff h
  | false => rw [if_neg (by simp)]; unfold emptyF; rw [h]; rfl

set_option maxHeartbeats 2000000 in
theorem calc_not_bad (s : Int) (A : Option Addr) (c : Nat) (n : List (List Int)) (B : Option Addr) (d : Nat) (e : List Bool) (w : World)
    (hr : Kd.C (Kd.slice 3 (Kd.int .i64)) w A n.length n) (hc : n.length ≤ c) (hb : Kd.C Kd.bool w B e.length e) (hd : e.length ≤ d) (h : rightB s n e = false) :
    Calls Try.prog 38 #[.agg #[.int .i64 s, .slice A n.length c, .slice B e.length d]] w
      fun e_ w' => e_ = .returned (.tuple #[.agg #[.int .i64 0, .slice none 0 0, .slice none 0 0], .int .i64 1]) ∧ Below w.heap.size w w' := by
  have hu25 := Try.underlying25
  have HR := Aside0.mk hr
  have HBo := Aside0.mk hb
  have hca := fun W hr hb => det_Right s A c n B d e W hr hc hb hd
  rw [h] at hca
  have HCA := Aside0.mk hca
  clear hr hb h hca
  go_enter Try.func38, Try.ntmps38
  go_upto_region 1 with (fail)
  obtain ⟨W, hW⟩ : ∃ W, W = (w.alloc (.cells #[.int .i64 s, .slice A n.length c, .slice B e.length d] 25)).alloc (.cells #[.int .i64 0, .slice none 0 0, .slice none 0 0] 25) := ⟨_, rfl⟩
  have hx1 : W.heap[w.heap.size]? = some (.cells #[.int .i64 s, .slice A n.length c, .slice B e.length d] 25 (0, 0)) := by rw [hW]; exact blk_alloc (blk_new _ _) _
  have hx2 : W.heap[w.heap.size + 1]? = some (.cells #[.int .i64 0, .slice none 0 0, .slice none 0 0] 25 (0, 0)) := by
    have := blk_new (w.alloc (.cells #[.int .i64 s, .slice A n.length c, .slice B e.length d] 25)) (.cells #[.int .i64 0, .slice none 0 0, .slice none 0 0] 25)
    rw [hW]; simpa using this
  have hbl : Below w.heap.size w W := by rw [hW]; exact below_alloc (below_alloc (Below.refl _ _) _) _
  rw [← hW]
  clear hW
  have HR1 := Aside0.mk (Kd.C_below HR.out hbl)
  have HB1 := Aside0.mk (Kd.C_below HBo.out hbl)
  have X1 := Aside0.mk hx1
  have X2 := Aside0.mk hx2
  have BL := Aside0.mk hbl
  clear hx1 hx2 hbl HR HBo
  have k0 := (blk_cell X1.out 0).trans rfl
  have k1 := (blk_cell X1.out 1).trans rfl
  have k2 := (blk_cell X1.out 2).trans rfl
  go_wp2_with fail
  refine (HCA.out W HR1.out HB1.out).mono ?_
  rintro e_ W2 ⟨rfl, hb⟩
  have X2' := Aside0.mk (blk_below X2.out hb)
  have BL2 := Aside0.mk (BL.out.trans (hb.mono BL.out.size))
  clear hb X1 X2 BL HR1 HB1 k0 k1 k2 HCA
  have k6 := blk_cell X2'.out 0
  have k7 := blk_cell X2'.out 1
  have k8 := blk_cell X2'.out 2
  have m6 := blk_frozen X2'.out 0
  have m7 := blk_frozen X2'.out 1
  have m8 := blk_frozen X2'.out 2
  go_wp2_with fail
  refine bodyPost_ret (results_ct rfl _ _ (w.heap.size + 1) 25 #[.int .i64 0, .slice none 0 0, .slice none 0 0] (0, 0) _ rfl (put3_blk X2'.out _ _ _) Try.underlying25 rfl (by kernel_rfl)) rfl ?_
  exact ⟨rfl, below_put3 BL2.out (by omega) _ _ _⟩
end Go.Proofs.Ytpedenbcfbflbaa.X
namespace Go.Proofs.Ytpedenbcfbflbaa.L
set_option linter.unusedVariables false
open Go.RowKit Go.Proofs.YtpedenbcfbflbaaW.PrintWords Go.Proofs.YtpedenbcfbflbaaW.PrintMore Go.Proofs.Ytpedenbcfbflbaa.X

def caesuralaw16_alive.f : Option Bool := some true
theorem caesuralaw16_alive.calls (r : Bool) (w : World) (h : caesuralaw16_alive.f = some r) : Calls Try.prog 27 #[] w fun e w' => e = .returned (.bool r) ∧ Below w.heap.size w w' := by
  cases h
  exact X.alive27 w
def calc_Empty.f (a0_0 : Int) (l0_1 : List (List Int)) (l0_2 : List Bool) : Option (Bool) := some (emptyF a0_0 l0_1 l0_2)
theorem calc_Empty.calls (a0_0 : Int) (A0_1 : Option Addr) (c0_1 : Nat) (l0_1 : List (List Int)) (A0_2 : Option Addr) (c0_2 : Nat) (l0_2 : List Bool) (r : Bool) (w : World) (hr0_1 : Kd.C (Kd.slice 3 (Kd.int .i64)) w A0_1 l0_1.length l0_1) (hc0_1 : l0_1.length ≤ c0_1) (hr0_2 : Kd.C Kd.bool w A0_2 l0_2.length l0_2) (hc0_2 : l0_2.length ≤ c0_2) (h : calc_Empty.f a0_0 l0_1 l0_2 = some r) :
    Calls Try.prog 42 #[.agg #[.int .i64 a0_0, .slice A0_1 l0_1.length c0_1, .slice A0_2 l0_2.length c0_2]] w fun e w' => e = .returned (.bool r) ∧ Below w.heap.size w w' := by
  cases h
  exact X.calc_empty a0_0 A0_1 c0_1 l0_1 A0_2 c0_2 l0_2 w hr0_1 hc0_1 hr0_2 hc0_2 _ (emptyF_res _ _ _)
def calc_Not.f (a0_0 : Int) (l0_1 : List (List Int)) (l0_2 : List Bool) : Option (Int × (List (List Int)) × List Bool × Int) := some (notF a0_0 l0_1 l0_2)
theorem calc_Not.calls (a0_0 : Int) (P0_1_ : Nat → Prop) (A0_1 : Option Addr) (c0_1 : Nat) (l0_1 : List (List Int)) (A0_2 : Option Addr) (c0_2 : Nat) (l0_2 : List Bool) (r1 : Int) (r2 : List (List Int)) (r3 : List Bool) (r4 : Int) (w : World) (hs0_1 : Kd.V (Kd.slice 3 (Kd.int .i64)) 33 w w.heap.size (fun k_ => P0_1_ k_) (.slice A0_1 l0_1.length c0_1) l0_1) (hr0_2 : Kd.C Kd.bool w A0_2 l0_2.length l0_2) (hc0_2 : l0_2.length ≤ c0_2) (h : calc_Not.f a0_0 l0_1 l0_2 = some (r1, r2, r3, r4)) :
    Calls Try.prog 38 #[.agg #[.int .i64 a0_0, .slice A0_1 l0_1.length c0_1, .slice A0_2 l0_2.length c0_2]] w fun e w' => ∃ v1_ v2_ : Value, e = .returned (.tuple #[.agg #[.int .i64 r1, v1_, v2_], .int .i64 r4]) ∧ Kd.V (Kd.slice 3 (Kd.int .i64)) 33 w' w.heap.size (fun k_ => (P0_1_ k_ ∨ w.heap.size ≤ k_) ∧ some k_ ≠ (v2_ : Value).ownBlock) v1_ r2 ∧ Kd.R Kd.bool 4 w' w.heap.size (fun k_ => w.heap.size ≤ k_) v2_ r3 ∧ Below w.heap.size w w' := by
  obtain ⟨A, c, e1, hc, hF⟩ := hs0_1
  obtain ⟨rfl, _, rfl⟩ : A0_1 = A ∧ True ∧ c0_1 = c := by injection e1 with e1 e2 e3; exact ⟨e1, trivial, e3⟩
  have hC : Kd.C (Kd.slice 3 (Kd.int .i64)) w A0_1 l0_1.length l0_1 := hF w (fun k _ _ => rfl)
  have h := Option.some.inj h
  cases hr : rightB a0_0 l0_1 l0_2 with
  | true =>
    unfold notF at h
    rw [hr, if_pos rfl] at h
    simp only [Prod.mk.injEq] at h
    obtain ⟨rfl, rfl, rfl, rfl⟩ := h
    refine (X.calc_not a0_0 A0_1 c0_1 l0_1 A0_2 c0_2 l0_2 w hC hc hr0_2 hc0_2 hr).mono ?_
    rintro e w' ⟨v2, rfl, hR, hB⟩
    have hbase := Kd.R_base hR
    refine ⟨_, v2, rfl, ⟨A0_1, c0_1, rfl, hc, fun W' hW' => hF W' (fun k hk hlt => ?_)⟩, Kd.R_mono (Kd.R_tight rfl hR) (fun k hk => hbase k hk.symm), hB⟩
    rw [hW' k ⟨.inl hk, fun e1 => by have := hbase k e1.symm; omega⟩ (Nat.lt_of_lt_of_le hlt hB.size), hB.block k hlt]
  | false =>
    unfold notF at h
    rw [hr, if_neg (by simp)] at h
    simp only [Prod.mk.injEq] at h
    obtain ⟨rfl, rfl, rfl, rfl⟩ := h
    refine (X.calc_not_bad a0_0 A0_1 c0_1 l0_1 A0_2 c0_2 l0_2 w hC hc hr0_2 hc0_2 hr).mono ?_
    rintro e w' ⟨rfl, hB⟩
    exact ⟨_, _, rfl, ⟨none, 0, rfl, Nat.le_refl _, fun W' _ => Kd.C_nil _ _⟩, Kd.R_nil _ _ _ _ _, hB⟩
end Go.Proofs.Ytpedenbcfbflbaa.L
