/- Plain lists, no program: a marked list is accepted as its sides are. -/
import Derived.Test.YtpedenbcfbflbaaYP
import Derived.Test.YtpedenbcfbflbaaXSigns
namespace Go.Proofs.Ytpedenbcfbflbaa.X
open Go.RowKit Go.Proofs.YtpedenbcfbflbaaW.PrintWords Num
set_option linter.unusedVariables false
set_option linter.unusedSimpArgs false

theorem runF_cons (n : List (List Int)) (q v : Int) (r : List Int) : runF n q (v :: r) = runF n ((n.getD q.toNat []).getD v.toNat 0) r := rfl
theorem times0 {v : Int} {r : List Int} (h : timesF (v :: r) = 0) : v % 2 = 0 ∧ timesF r = 0 := by
  rw [timesF_cons] at h
  have := timesF_le r
  omega
theorem first_odd : ∀ (l : List Int), 1 ≤ timesF l → ∃ u o v, l = u ++ o :: v ∧ timesF u = 0 ∧ o % 2 = 1 ∧ timesF l = 1 + timesF v
  | [], h => by simp [timesF] at h
  | x :: r, h => by
    rw [timesF_cons] at h
    by_cases hx : x % 2 = 1
    · exact ⟨[], x, r, rfl, rfl, hx, by rw [timesF_cons, hx]⟩
    · obtain ⟨u, o, v, e, h1, h2, h3⟩ := first_odd r (by omega)
      refine ⟨x :: u, o, v, by rw [e]; rfl, ?_, h2, ?_⟩
      · rw [timesF_cons]; omega
      · rw [timesF_cons]; omega
theorem signsGo_app : ∀ (u w acc : List Int) (p i : Int), (∀ v ∈ u, 0 ≤ v) → timesF u = 0 → signsGo (u ++ w) acc p i = signsGo w (acc ++ u.map (· / 2)) p (i + u.length)
  | [], w, acc, p, i, _, _ => by simp
  | x :: u, w, acc, p, i, h0, ht => by
    obtain ⟨a, b⟩ := times0 ht
    have hx := h0 x List.mem_cons_self
    rw [List.cons_append]
    conv => lhs; unfold signsGo
    rw [if_neg (by omega), if_neg (by omega), signsGo_app u w _ _ _ (fun v hv => h0 v (List.mem_cons_of_mem _ hv)) b]
    simp only [List.map_cons, List.append_assoc, List.singleton_append, List.length_cons]
    congr 1
    omega
theorem signsGo_neg : ∀ (l acc : List Int) (p i : Int), (∃ v ∈ l, v < 0) → signsGo l acc p i = none
  | [], acc, p, i, h => by obtain ⟨v, hv, _⟩ := h; cases hv
  | x :: r, acc, p, i, h => by
    unfold signsGo
    by_cases hx : x < 0
    · rw [if_pos hx]
    · rw [if_neg hx]
      obtain ⟨v, hv, h0⟩ := h
      rcases List.mem_cons.1 hv with rfl | hv
      · exact absurd h0 hx
      · exact signsGo_neg r _ _ _ ⟨v, hv, h0⟩
theorem signsF_neg {l : List Int} (h : ∃ v ∈ l, v < 0) : signsF l = ([], 0, false) := by
  unfold signsF
  rw [signsGo_neg l [] 0 0 h]
theorem signsF_times {l : List Int} (h : timesF l ≠ 1) : signsF l = ([], 0, false) := by
  unfold signsF
  cases signsGo l [] 0 0 with
  | none => rfl
  | some q =>
    simp only
    split
    · rfl
    · rfl
theorem signsF_split {u v : List Int} {o : Int} (h0 : ∀ x ∈ u ++ o :: v, 0 ≤ x) (hu : timesF u = 0) (ho : o % 2 = 1) (hv : timesF v = 0) :
    signsF (u ++ o :: v) = if u = [] then ([], 0, false) else ((u ++ o :: v).map (· / 2), (u.length : Int), true) := by
  have ht : timesF (u ++ o :: v) = 1 := by
    have e : ∀ a b : List Int, timesF (a ++ b) = timesF a + timesF b := fun a b => by
      unfold timesF; rw [List.filter_append, List.length_append]; omega
    rw [e, hu, timesF_cons, hv, ho]; rfl
  unfold signsF
  rw [signsGo_app u (o :: v) [] 0 0 (fun x hx => h0 x (List.mem_append_left _ hx)) hu]
  have h1 := h0 o (List.mem_append_right _ List.mem_cons_self)
  have e2 : signsGo (o :: v) ([] ++ u.map (· / 2)) 0 (0 + u.length) = some ((u ++ o :: v).map (· / 2), (u.length : Int)) := by
    unfold signsGo
    rw [if_neg (by omega), if_pos ho]
    have := signsGo_app v [] ([] ++ u.map (· / 2) ++ [o / 2]) (0 + (u.length : Int)) (0 + (u.length : Int) + 1) (fun x hx => h0 x (List.mem_append_right _ (List.mem_cons_of_mem _ hx))) hv
    rw [List.append_nil] at this
    rw [this]
    unfold signsGo
    simp
  rw [e2]
  simp only [ht, if_true]
  by_cases hn : u = []
  · rw [if_pos (by rw [hn]; rfl), if_pos hn]
  · have : 0 < u.length := List.length_pos_iff.2 hn
    rw [if_neg (by omega), if_neg hn]

section
variable (n1 : List (List Int)) (e1 : List Bool) (n2 : List (List Int))
theorem fold_lost : ∀ l : List Int, l.foldl (fun x v => nextM n1 e1 n2 x v.toNat) (3, 0) = (3, 0)
  | [] => rfl
  | v :: r => by
    rw [List.foldl_cons, show nextM n1 e1 n2 (3, 0) v.toNat = (3, 0) by unfold nextM; simp]
    exact fold_lost r
theorem next_even {v : Int} (h0 : 0 ≤ v) (he : v % 2 = 0) (x : Int × Int) : nextM n1 e1 n2 x v.toNat = if x.1 = 0 ∨ x.1 = 1 then (1, (n1.getD x.2.toNat []).getD (v / 2).toNat 0) else if x.1 = 2 then (2, (n2.getD x.2.toNat []).getD (v / 2).toNat 0) else (3, 0) := by
  unfold nextM
  rw [if_neg (by omega), show v.toNat / 2 = (v / 2).toNat by omega]
theorem next_odd {v : Int} (h0 : 0 ≤ v) (he : v % 2 = 1) (x : Int × Int) : nextM n1 e1 n2 x v.toNat = if x.1 = 1 ∧ e1.getD x.2.toNat false = true then (2, (n2.getD 0 []).getD (v / 2).toNat 0) else (3, 0) := by
  unfold nextM
  rw [if_pos (by omega), show v.toNat / 2 = (v / 2).toNat by omega]
theorem fold_two : ∀ (u : List Int) (q : Int), (∀ v ∈ u, 0 ≤ v) → timesF u = 0 → u.foldl (fun x v => nextM n1 e1 n2 x v.toNat) (2, q) = (2, runF n2 q (u.map (· / 2)))
  | [], q, _, _ => rfl
  | v :: r, q, h0, ht => by
    obtain ⟨a, b⟩ := times0 ht
    rw [List.foldl_cons, next_even n1 e1 n2 (h0 v List.mem_cons_self) a, if_neg (by simp), if_pos rfl, fold_two r _ (fun x hx => h0 x (List.mem_cons_of_mem _ hx)) b]
    rfl
theorem fold_one : ∀ (u : List Int) (q : Int), (∀ v ∈ u, 0 ≤ v) → timesF u = 0 → u.foldl (fun x v => nextM n1 e1 n2 x v.toNat) (1, q) = (1, runF n1 q (u.map (· / 2)))
  | [], q, _, _ => rfl
  | v :: r, q, h0, ht => by
    obtain ⟨a, b⟩ := times0 ht
    rw [List.foldl_cons, next_even n1 e1 n2 (h0 v List.mem_cons_self) a, if_pos (by simp), fold_one r _ (fun x hx => h0 x (List.mem_cons_of_mem _ hx)) b]
    rfl
theorem fold_zero (u : List Int) (hu : u ≠ []) (h0 : ∀ v ∈ u, 0 ≤ v) (ht : timesF u = 0) : u.foldl (fun x v => nextM n1 e1 n2 x v.toNat) (0, 0) = (1, runF n1 0 (u.map (· / 2))) := by
  cases u with
  | nil => exact absurd rfl hu
  | cons v r =>
    obtain ⟨a, b⟩ := times0 ht
    rw [List.foldl_cons, next_even n1 e1 n2 (h0 v List.mem_cons_self) a, if_pos (by simp), fold_one n1 e1 n2 r _ (fun x hx => h0 x (List.mem_cons_of_mem _ hx)) b]
    rfl
theorem fold_more : ∀ (l : List Int) (q : Int), (∀ v ∈ l, 0 ≤ v) → 1 ≤ timesF l → l.foldl (fun x v => nextM n1 e1 n2 x v.toNat) (2, q) = (3, 0)
  | [], q, _, h => by simp [timesF] at h
  | v :: r, q, h0, ht => by
    have hv := h0 v List.mem_cons_self
    rw [timesF_cons] at ht
    by_cases ho : v % 2 = 1
    · rw [List.foldl_cons, next_odd n1 e1 n2 hv ho, if_neg (by simp), fold_lost]
    · rw [List.foldl_cons, next_even n1 e1 n2 hv (by omega), if_neg (by simp), if_pos rfl]
      exact fold_more r _ (fun x hx => h0 x (List.mem_cons_of_mem _ hx)) (by omega)
/-- A MARKED LIST IS ACCEPTED AS ITS SIDES ARE. -/
theorem mark_sem (e2 : List Bool) (l : List Int) (h0 : ∀ v ∈ l, 0 ≤ v) :
    endM e2 (l.foldl (fun x v => nextM n1 e1 n2 x v.toNat) (0, 0)) = ((signsF l).2.2 && (e1.getD (runF n1 0 ((signsF l).1.take (signsF l).2.1.toNat)).toNat false && e2.getD (runF n2 0 ((signsF l).1.drop (signsF l).2.1.toNat)).toNat false)) := by
  by_cases h1 : 1 ≤ timesF l
  · obtain ⟨u, o, v, rfl, hu, ho, ht⟩ := first_odd l h1
    have hu0 : ∀ x ∈ u, 0 ≤ x := fun x hx => h0 x (List.mem_append_left _ hx)
    have ho0 : 0 ≤ o := h0 o (List.mem_append_right _ List.mem_cons_self)
    have hv0 : ∀ x ∈ v, 0 ≤ x := fun x hx => h0 x (List.mem_append_right _ (List.mem_cons_of_mem _ hx))
    by_cases hn : u = []
    · subst hn
      have e : signsF ([] ++ o :: v) = ([], 0, false) := by
        by_cases hv : timesF v = 0
        · rw [signsF_split h0 hu ho hv, if_pos rfl]
        · exact signsF_times (by have := timesF_le v; omega)
      rw [e, List.nil_append, List.foldl_cons, next_odd n1 e1 n2 ho0 ho, if_neg (by simp), fold_lost]
      rfl
    · rw [List.foldl_append, fold_zero n1 e1 n2 u hn hu0 hu, List.foldl_cons, next_odd n1 e1 n2 ho0 ho]
      by_cases hv : timesF v = 0
      · rw [signsF_split h0 hu ho hv, if_neg hn]
        simp only [Bool.true_and, Int.toNat_natCast, List.map_append]
        rw [List.take_left' (by simp), List.drop_left' (by simp)]
        by_cases he : e1.getD (runF n1 0 (u.map (· / 2))).toNat false = true
        · rw [if_pos (by first | exact ⟨rfl, he⟩ | exact ⟨trivial, he⟩), fold_two n1 e1 n2 v _ hv0 hv, he]
          rfl
        · rw [if_neg (fun h => he h.2), fold_lost, Bool.not_eq_true _ |>.mp he]
          rfl
      · have hv1 : 1 ≤ timesF v := by have := timesF_le v; omega
        rw [signsF_times (l := u ++ o :: v) (by omega)]
        split
        · rw [fold_more n1 e1 n2 v _ hv0 hv1]
          rfl
        · rw [fold_lost]
          rfl
  · have ht : timesF l = 0 := by have := timesF_le l; omega
    rw [signsF_times (by omega)]
    by_cases hn : l = []
    · subst hn; rfl
    · rw [fold_zero n1 e1 n2 l hn h0 ht]
      rfl
end
theorem signsF_ok {l a : List Int} {p : Int} (h : signsF l = (a, p, true)) : (∀ v ∈ l, 0 ≤ v) ∧ timesF l = 1 ∧ a = l.map (· / 2) ∧ 0 < p ∧ p < a.length := by
  have h0 : ∀ v ∈ l, 0 ≤ v := fun v hv => by
    by_cases h1 : v < 0
    · rw [signsF_neg ⟨v, hv, h1⟩] at h; simp at h
    · omega
  have h1 : timesF l = 1 := by
    by_cases h1 : timesF l = 1
    · exact h1
    · rw [signsF_times h1] at h; simp at h
  obtain ⟨u, o, v, rfl, hu, ho, ht⟩ := first_odd l (by omega)
  rw [signsF_split h0 hu ho (by omega)] at h
  by_cases hn : u = []
  · rw [if_pos hn] at h; simp at h
  · rw [if_neg hn] at h
    simp only [Prod.mk.injEq, and_true] at h
    obtain ⟨rfl, rfl⟩ := h
    have : 0 < u.length := List.length_pos_iff.2 hn
    refine ⟨h0, h1, rfl, by omega, by simp; omega⟩
theorem signsF_not {l a : List Int} {p : Int} (h : signsF l = (a, p, false)) : a = [] := by
  unfold signsF at h
  cases hg : signsGo l [] 0 0 with
  | none => rw [hg] at h; simp at h; exact h.1
  | some q =>
    rw [hg] at h
    simp only at h
    split at h
    · simp at h; exact h.1
    · split at h
      · simp at h
      · simp at h; exact h.1
end Go.Proofs.Ytpedenbcfbflbaa.X
