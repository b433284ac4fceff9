/- Plain lists, no program: what pairs of two automata accept; their laws. -/
import Derived.Test.YtpedenbcfbflbaaXGot
namespace Go.Proofs.Ytpedenbcfbflbaa.X
open Go.RowKit Go.Proofs.YtpedenbcfbflbaaW.PrintWords Go.Maps Num
set_option linter.unusedVariables false
set_option linter.unusedSimpArgs false

theorem right_map {s : Int} {n : List (List Int)} {e : List Bool} (h : rightB s n e = true) (f : Bool → Bool) : rightB s n (e.map f) = true := by
  unfold rightB at h ⊢
  rw [List.length_map]
  exact h
/-- The pairs that are come to, with their rows. -/
structure Pairs (s : Int) (n1 n2 : List (List Int)) (most : Int) (l : List (Int × Int)) (rows : List (List Int)) : Prop where
  tab : table (stepP n1 n2) s.toNat most.toNat (most.toNat + 1) 0 [(0, 0)] = some (l, rows)
  bd : ∀ x ∈ l, 0 ≤ x.1 ∧ x.1 < n1.length ∧ 0 ≤ x.2 ∧ x.2 < n2.length
theorem flat_len (m k : Nat) : ((List.range m).flatMap fun (i : Nat) => (List.range k).map fun (j : Nat) => ((i : Int), (j : Int))).length = m * k := by
  induction m with
  | zero => simp
  | succ m ih =>
    rw [List.range_succ, List.flatMap_append, List.length_append, ih, Nat.add_mul]
    simp
theorem pairs_some {s : Int} {n1 n2 : List (List Int)} {e1 e2 : List Bool} {most : Int} (h1 : rightB s n1 e1 = true) (h2 : rightB s n2 e2 = true) (hm : (n1.length * n2.length : Nat) ≤ most) (hm1 : 1 ≤ most) : ∃ l rows, Pairs s n1 n2 most l rows := by
  obtain ⟨a1, a2, a3, a4, a5, a6⟩ := rightB_spec h1
  obtain ⟨b1, b2, b3, b4, b5, b6⟩ := rightB_spec h2
  have hall := tableT_all (stepP n1 n2) s.toNat (fun x => 0 ≤ x.1 ∧ x.1 < n1.length ∧ 0 ≤ x.2 ∧ x.2 < n2.length) (fun x ⟨x0, x1, x2, x3⟩ v hv => by
    obtain ⟨t1, t2⟩ := getD_row a6 x.1 x0 x1
    obtain ⟨u1, u2⟩ := getD_row b6 x.2 x2 x3
    have h3 := t2 v (by omega)
    have h4 := u2 v (by omega)
    exact ⟨h3.1, h3.2, h4.1, h4.2⟩) (most.toNat + 1) 0 [(0, 0)] (fun x hx => by
    rw [List.mem_singleton] at hx
    subst hx
    exact ⟨Int.le_refl _, by show (0 : Int) < _; omega, Int.le_refl _, by show (0 : Int) < _; omega⟩)
  have hnd := tableT_nodup (stepP n1 n2) s.toNat (most.toNat + 1) 0 [((0 : Int), (0 : Int))] (by simp)
  have hle := nodup_le' _ ((List.range n1.length).flatMap fun (i : Nat) => (List.range n2.length).map fun (j : Nat) => ((i : Int), (j : Int))) hnd (fun x hx => by
    have := hall x hx
    exact List.mem_flatMap.2 ⟨x.1.toNat, List.mem_range.2 (by omega), List.mem_map.2 ⟨x.2.toNat, List.mem_range.2 (by omega), Prod.ext (by simp; omega) (by simp; omega)⟩⟩)
  have hlen : ((List.range n1.length).flatMap fun (i : Nat) => (List.range n2.length).map fun (j : Nat) => ((i : Int), (j : Int))).length = n1.length * n2.length := by
    exact flat_len _ _
  rw [hlen] at hle
  refine ⟨(tableT (stepP n1 n2) s.toNat (most.toNat + 1) 0 [(0, 0)]).1, (tableT (stepP n1 n2) s.toNat (most.toNat + 1) 0 [(0, 0)]).2, ?_, hall⟩
  rw [table_eq _ _ _ _ _ _ (by simp; omega), if_neg (by omega)]
section
variable {s : Int} {n1 n2 : List (List Int)} {most : Int} {l : List (Int × Int)} {rows : List (List Int)}
/-- What a rule makes of the ends. -/
def endsP (rule : Bool → Bool → Bool) (e1 e2 : List Bool) (l : List (Int × Int)) : List Bool := l.map fun x => rule (e1.getD x.1.toNat false) (e2.getD x.2.toNat false)
theorem Pairs.prod (h : Pairs s n1 n2 most l rows) {e1 e2 : List Bool} (h1 : rightB s n1 e1 = true) (h2 : rightB s n2 e2 = true) (hm : 1 ≤ most) (hm2 : most ≤ 3000) (rule : Bool → Bool → Bool) : prodF rule s n1 e1 s n2 e2 most = (s, rows, endsP rule e1 e2 l, 0) := by
  unfold prodF
  rw [prodBad_ok h1 h2 rfl (by omega) (by omega), if_neg (by simp), h.tab]
  rfl
theorem Pairs.acc (h : Pairs s n1 n2 most l rows) {e1 e2 : List Bool} (h1 : rightB s n1 e1 = true) (hm : 1 ≤ most) (hm2 : most ≤ 3000) (rule : Bool → Bool → Bool) :
    rightB s rows (endsP rule e1 e2 l) = true ∧ ∀ w, inB s w = true → (endsP rule e1 e2 l).getD (runF rows 0 w).toNat false = rule (e1.getD (runF n1 0 w).toNat false) (e2.getD (runF n2 0 w).toNat false) := by
  obtain ⟨a1, a2, a3, a4, a5, a6⟩ := rightB_spec h1
  obtain ⟨q1, q2⟩ := acc_table (fun x : Int × Int => rule (e1.getD x.1.toNat false) (e2.getD x.2.toNat false)) (by omega) (by omega) (by omega) (by omega) h.tab
  have es : ((s.toNat : Nat) : Int) = s := by omega
  rw [es] at q1 q2
  refine ⟨q1, fun w hw => ?_⟩
  have hf : ∀ (w : List Int) (x : Int × Int), w.foldl (fun x v => stepP n1 n2 x v.toNat) x = (runF n1 x.1 w, runF n2 x.2 w) := by
    intro w
    induction w with
    | nil => exact fun x => rfl
    | cons v r ih => exact fun x => ih _
  have := q2 w
  unfold accF at this
  rw [q1, hw, hf] at this
  simp only [Bool.true_and] at this
  exact this
theorem getD_map_not (e : List Bool) (i : Nat) (h : i < e.length) : (e.map (!·)).getD i false = !e.getD i false := by
  rw [List.getD_eq_getElem?_getD, List.getD_eq_getElem?_getD, List.getElem?_map, List.getElem?_eq_getElem h]
  rfl
theorem Pairs.ends_not (h : Pairs s n1 n2 most l rows) {e1 e2 : List Bool} (h1 : rightB s n1 e1 = true) (h2 : rightB s n2 e2 = true) : (endsP (fun a b => a || b) e1 e2 l).map (!·) = endsP (fun a b => a && b) (e1.map (!·)) (e2.map (!·)) l := by
  have a5 := (rightB_spec h1).2.2.2.2.1
  have b5 := (rightB_spec h2).2.2.2.2.1
  unfold endsP
  rw [List.map_map]
  apply List.map_congr_left
  intro x hx
  have := h.bd x hx
  simp only [Function.comp]
  rw [getD_map_not e1 _ (by omega), getD_map_not e2 _ (by omega), Bool.not_or]
theorem Pairs.ends_less (h : Pairs s n1 n2 most l rows) {e1 e2 : List Bool} (h2 : rightB s n2 e2 = true) : endsP (fun a b => a && b) e1 (e2.map (!·)) l = endsP (fun a b => a && !b) e1 e2 l := by
  have b5 := (rightB_spec h2).2.2.2.2.1
  unfold endsP
  apply List.map_congr_left
  intro x hx
  have := h.bd x hx
  rw [getD_map_not e2 _ (by omega)]
theorem emptyF_of {n : List (List Int)} {e : List Bool} (hr : rightB s n e = true) (h : NoneAcc s n e) : emptyF s n e = true := (emptyF_iff hr).2 h
theorem notF_not {n : List (List Int)} {e : List Bool} (h : rightB s n e = true) : notF s n e = (s, n, e.map (!·), 0) := by unfold notF; rw [h]; rfl
theorem map_not_not (e : List Bool) : (e.map (!·)).map (!·) = e := by rw [List.map_map]; exact (List.map_congr_left (fun b _ => Bool.not_not b)).trans (List.map_id e)
theorem acc_of {n : List (List Int)} {e : List Bool} (hr : rightB s n e = true) {w : List Int} (hw : inB s w = true) : accF s n e w = e.getD (runF n 0 w).toNat false := by
  unfold accF
  rw [hr, hw]
  rfl
end
end Go.Proofs.Ytpedenbcfbflbaa.X
