import Derived.Test.YtpedenbcfbflbaaXSigns
namespace Go.Proofs.Ytpedenbcfbflbaa.X
open Go.RowKit Go.Proofs.YtpedenbcfbflbaaW.PrintWords Num
set_option linter.unusedVariables false
set_option linter.unusedSimpArgs false

/-- The signs as they are written from place i on. -/
def wrGo (p : Int) : Int → List Int → Option (List Int)
  | _, [] => some []
  | i, v :: r => if v < 0 ∨ 1048576 < v then none else (wrGo p (i + 1) r).map (fun t => (if i = p then 2 * v + 1 else 2 * v) :: t)
def writeF (signs : List Int) (p : Int) : List Int :=
  if p < 1 ∨ (signs.length : Int) ≤ p then [] else (wrGo p 0 signs).getD []

theorem wrGo_len (p : Int) : ∀ (s : List Int) (i : Int) (t : List Int), wrGo p i s = some t → t.length = s.length
  | [], i, t, h => by simp [wrGo] at h; rw [← h]
  | v :: r, i, t, h => by
    unfold wrGo at h
    split at h
    · cases h
    · cases hr : wrGo p (i + 1) r with
      | none => rw [hr] at h; cases h
      | some t' =>
        rw [hr] at h
        simp at h
        rw [← h]
        simp [wrGo_len p r (i + 1) t' hr]
/-- What is written is read as it was: the signs, and the place of the odd one. -/
theorem signsGo_wr (p : Int) : ∀ (s : List Int) (i : Int) (t acc : List Int) (q : Int), wrGo p i s = some t → signsGo t acc q i = some (acc ++ s, if i ≤ p ∧ p < i + s.length then p else q)
  | [], i, t, acc, q, h => by
    simp [wrGo] at h
    subst h
    unfold signsGo
    rw [if_neg (by first | omega | (simp; done) | (simp; omega))]
    simp
  | v :: r, i, t, acc, q, h => by
    unfold wrGo at h
    split at h
    · cases h
    · rename_i hv
      cases hr : wrGo p (i + 1) r with
      | none => rw [hr] at h; cases h
      | some t' =>
        rw [hr] at h
        simp only [Option.map_some, Option.some.injEq] at h
        subst h
        have ih := fun a q' => signsGo_wr p r (i + 1) t' a q' hr
        unfold signsGo
        by_cases hi : i = p
        · rw [if_pos hi, if_neg (by omega), if_pos (by omega), show (2 * v + 1) / 2 = v by omega, ih]
          simp only [List.append_assoc, List.singleton_append, List.length_cons]
          rw [if_neg (by omega), if_pos (by omega), hi]
        · rw [if_neg hi, if_neg (by omega), if_neg (by omega), show 2 * v / 2 = v by omega, ih]
          simp only [List.append_assoc, List.singleton_append, List.length_cons]
          by_cases hc : i + 1 ≤ p ∧ p < i + 1 + r.length
          · rw [if_pos hc, if_pos (by omega)]
          · rw [if_neg hc, if_neg (by omega)]
theorem times_wr (p : Int) : ∀ (s : List Int) (i : Int) (t : List Int), wrGo p i s = some t → timesF t = if i ≤ p ∧ p < i + s.length then 1 else 0
  | [], i, t, h => by
    simp [wrGo] at h
    subst h
    rw [if_neg (by first | omega | (simp; done) | (simp; omega))]
    rfl
  | v :: r, i, t, h => by
    unfold wrGo at h
    split at h
    · cases h
    · cases hr : wrGo p (i + 1) r with
      | none => rw [hr] at h; cases h
      | some t' =>
        rw [hr] at h
        simp only [Option.map_some, Option.some.injEq] at h
        subst h
        rw [timesF_cons, times_wr p r (i + 1) t' hr]
        simp only [List.length_cons]
        by_cases hi : i = p
        · rw [if_pos hi, if_neg (by omega), if_pos (by omega)]; omega
        · rw [if_neg hi]
          by_cases hc : i + 1 ≤ p ∧ p < i + 1 + r.length
          · rw [if_pos hc, if_pos (by omega)]; omega
          · rw [if_neg hc, if_neg (by omega)]; omega
theorem signs_write (s : List Int) (p : Int) (h : 0 < (writeF s p).length) : signsF (writeF s p) = (s, p, true) ∧ timesF (writeF s p) = 1 := by
  unfold writeF at h ⊢
  by_cases hp : p < 1 ∨ (s.length : Int) ≤ p
  · rw [if_pos hp] at h; simp at h
  · rw [if_neg hp] at h ⊢
    cases hw : wrGo p 0 s with
    | none => rw [hw] at h; simp at h
    | some t =>
      simp only [Option.getD_some]
      have h1 := signsGo_wr p s 0 t [] 0 hw
      have h2 := times_wr p s 0 t hw
      rw [if_pos (by omega)] at h1 h2
      refine ⟨?_, h2⟩
      unfold signsF
      rw [h1]
      simp only [List.nil_append]
      rw [if_neg (by omega), if_pos h2]
theorem timesF_zero {v : Int} {r : List Int} (h : timesF (v :: r) = 0) : v % 2 = 0 ∧ timesF r = 0 := by
  rw [timesF_cons] at h
  have := timesF_le r
  omega
theorem wr_even (p : Int) : ∀ (l : List Int) (i : Int), p < i → timesF l = 0 → (∀ v ∈ l, 0 ≤ v) → (∀ v ∈ l, v / 2 ≤ 1048576) → wrGo p i (l.map (· / 2)) = some l
  | [], i, _, _, _, _ => rfl
  | v :: r, i, hp, ht, h0, h1 => by
    obtain ⟨hv, hr⟩ := timesF_zero ht
    have a0 := h0 v List.mem_cons_self
    have a1 := h1 v List.mem_cons_self
    simp only [List.map_cons]
    unfold wrGo
    rw [if_neg (by omega), wr_even p r (i + 1) (by omega) hr (fun x hx => h0 x (List.mem_cons_of_mem _ hx)) (fun x hx => h1 x (List.mem_cons_of_mem _ hx))]
    simp only [Option.map_some]
    rw [if_neg (by omega), show 2 * (v / 2) = v by omega]
/-- What signsGo tells. -/
theorem signsGo_spec : ∀ (l acc : List Int) (p i : Int) (a : List Int) (q : Int), signsGo l acc p i = some (a, q) →
    a = acc ++ l.map (· / 2) ∧ (∀ v ∈ l, 0 ≤ v) ∧ (timesF l = 0 → q = p) ∧ (timesF l = 1 → i ≤ q ∧ q < i + l.length ∧ ((∀ v ∈ l, v / 2 ≤ 1048576) → wrGo q i (l.map (· / 2)) = some l))
  | [], acc, p, i, a, q, h => by
    simp only [signsGo, Option.some.injEq, Prod.mk.injEq] at h
    obtain ⟨rfl, rfl⟩ := h
    exact ⟨by simp, fun v hv => by simp at hv, fun _ => rfl, fun ht => by simp [timesF] at ht⟩
  | v :: r, acc, p, i, a, q, h => by
    unfold signsGo at h
    by_cases hv : v < 0
    · rw [if_pos hv] at h; cases h
    · rw [if_neg hv] at h
      obtain ⟨h1, h2, h3, h4⟩ := signsGo_spec r _ _ _ a q h
      have hr := timesF_le r
      refine ⟨by rw [h1]; simp, fun x hx => ?_, fun ht => ?_, fun ht => ?_⟩
      · rcases List.mem_cons.1 hx with rfl | hx
        · omega
        · exact h2 x hx
      · obtain ⟨e1, e2⟩ := timesF_zero ht
        rw [h3 e2, if_neg (by omega)]
      · rw [timesF_cons] at ht
        by_cases ho : v % 2 = 1
        · have e2 : timesF r = 0 := by omega
          have hq := h3 e2
          rw [if_pos ho] at hq
          subst hq
          refine ⟨Int.le_refl _, by simp only [List.length_cons]; omega, fun hm => ?_⟩
          have a1 := hm v List.mem_cons_self
          simp only [List.map_cons]
          unfold wrGo
          rw [if_neg (by omega), wr_even q r (q + 1) (by omega) e2 h2 (fun x hx => hm x (List.mem_cons_of_mem _ hx))]
          simp only [Option.map_some]
          simp only [if_true]
          rw [show 2 * (v / 2) + 1 = v by omega]
        · obtain ⟨g1, g2, g3⟩ := h4 (by omega)
          refine ⟨by omega, by simp only [List.length_cons]; omega, fun hm => ?_⟩
          have a1 := hm v List.mem_cons_self
          simp only [List.map_cons]
          unfold wrGo
          rw [if_neg (by omega), g3 (fun x hx => hm x (List.mem_cons_of_mem _ hx))]
          simp only [Option.map_some]
          rw [if_neg (by omega), show 2 * (v / 2) = v by omega]
theorem write_signs (l t : List Int) (q : Int) (h : signsF l = (t, q, true)) (hm : ∀ v ∈ t, v ≤ 1048576) : writeF t q = l := by
  unfold signsF at h
  cases hg : signsGo l [] 0 0 with
  | none => rw [hg] at h; simp at h
  | some w =>
    obtain ⟨a, p⟩ := w
    rw [hg] at h
    simp only at h
    by_cases hp : p = 0
    · rw [if_pos hp] at h; simp at h
    · rw [if_neg hp] at h
      by_cases ht : timesF l = 1
      · rw [if_pos ht] at h
        simp only [Prod.mk.injEq, and_true] at h
        obtain ⟨rfl, rfl⟩ := h
        obtain ⟨h1, h2, _, h4⟩ := signsGo_spec l [] 0 0 a p hg
        obtain ⟨g1, g2, g3⟩ := h4 ht
        rw [List.nil_append] at h1
        subst h1
        unfold writeF
        rw [if_neg (by rw [List.length_map]; omega), g3 (fun v hv => hm (v / 2) (List.mem_map_of_mem hv))]
        rfl
      · rw [if_neg ht] at h; simp at h
end Go.Proofs.Ytpedenbcfbflbaa.X
