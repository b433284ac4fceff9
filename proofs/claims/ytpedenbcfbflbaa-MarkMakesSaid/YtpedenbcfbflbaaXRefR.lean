import Derived.Test.YtpedenbcfbflbaaXPM
import Derived.Test.YtpedenbcfbflbaaPMarkMakesx2
import Derived.Test.YtpedenbcfbflbaaPMarkMakesx4
namespace Go.Proofs.Ytpedenbcfbflbaa.X
open Go.RowKit Go.Proofs.YtpedenbcfbflbaaW.PrintWords Go.Proofs.YtpedenbcfbflbaaW.PrintLast Go.Proofs.YtpedenbcfbflbaaW.PrintMore Go.Maps Num Go.Proofs.Ytpedenbcfbflbaa.PMarkMakes
set_option linter.unusedVariables false
set_option linter.unusedSimpArgs false

theorem wrap64_of {n : Int} (h0 : -9223372036854775808 ≤ n) (h1 : n ≤ 9223372036854775807) : wrap64 n = n := by unfold wrap64; omega
def badX (n : Int) (x : Int) : Bool := decide (x < 0) || decide (n ≤ x)

theorem right_l1 (s : Int) (n : List (List Int)) (e : List Bool) (i : Nat) (hi : i < n.length) (hn : n.length ≤ 3000) (hs : s ≤ 400) (hrow : ((n.getD i []).length : Int) = s) (k : Nat) :
    ∀ (m j : Nat), (j : Int) + m = s → caesuraref15_Right.l1 (m + 1 + k) n.length i j s n e = if ((n.getD i []).drop j).any (badX n.length) then some false else caesuraref15_Right.l0 k n.length (i + 1) s n e := by
  intro m
  induction m with
  | zero =>
    intro j hj
    have e1 : (n.getD i []).drop j = [] := List.drop_eq_nil_of_le (by omega)
    rw [e1, show 0 + 1 + k = k + 1 by omega]
    unfold caesuraref15_Right.l1
    rw [if_neg (by omega), wrap64_of (by omega) (by omega)]
    rfl
  | succ m ih =>
    intro j hj
    have hjl : j < (n.getD i []).length := by omega
    rw [List.drop_eq_getElem_cons hjl, List.any_cons, show m + 1 + 1 + k = (m + 1 + k) + 1 by omega]
    unfold caesuraref15_Right.l1
    have er : rd_L1 n (i : Int) = n.getD i [] := by simp [rd_L1]
    have ex : rd (n.getD i []) (j : Int) = (n.getD i [])[j] := by
      simp only [rd, Int.toNat_natCast]
      rw [List.getD_eq_getElem?_getD, List.getElem?_eq_getElem hjl]
      rfl
    rw [if_pos (by omega), if_pos (by omega), if_pos (by omega), if_pos (by omega), er, if_pos (by omega), ex]
    generalize (n.getD i [])[j] = v
    by_cases h1 : v < 0
    · rw [if_pos h1]
      simp [badX, h1]
    · rw [if_neg h1]
      by_cases h2 : v ≥ n.length
      · rw [if_pos h2]
        have : badX n.length v = true := by unfold badX; rw [decide_eq_true (show (n.length : Int) ≤ v from h2)]; simp
        rw [this]
        rfl
      · rw [if_neg h2]
        have : badX n.length v = false := by unfold badX; rw [decide_eq_false h1, decide_eq_false (by omega)]; rfl
        rw [this, Bool.false_or, wrap64_of (by omega) (by omega)]
        have := ih (j + 1) (by omega)
        rw [show ((j + 1 : Nat) : Int) = (j : Int) + 1 by omega] at this
        exact this

def badRow (s n : Int) (l : List Int) : Bool := decide ((l.length : Int) ≠ s) || l.any (badX n)

theorem right_l0 (s : Int) (n : List (List Int)) (e : List Bool) (hn : n.length ≤ 3000) (hs : s ≤ 400) (hs0 : 0 ≤ s) (k : Nat) :
    ∀ (m i : Nat), i + m = n.length → caesuraref15_Right.l0 (m * (s.toNat + 2) + 1 + k) n.length i s n e = some (!((n.drop i).any (badRow s n.length))) := by
  intro m
  induction m with
  | zero =>
    intro i hi
    have e1 : n.drop i = [] := List.drop_eq_nil_of_le (by omega)
    rw [e1, show 0 * (s.toNat + 2) + 1 + k = k + 1 by omega]
    unfold caesuraref15_Right.l0
    rw [if_neg (by omega)]
    rfl
  | succ m ih =>
    intro i hi
    have hil : i < n.length := by omega
    rw [List.drop_eq_getElem_cons hil, List.any_cons, show (m + 1) * (s.toNat + 2) + 1 + k = (s.toNat + 1 + (m * (s.toNat + 2) + 1 + k)) + 1 by rw [Nat.add_mul]; omega]
    unfold caesuraref15_Right.l0
    have er : rd_L1 n (i : Int) = n[i] := by
      simp only [rd_L1, Int.toNat_natCast]
      rw [List.getD_eq_getElem?_getD, List.getElem?_eq_getElem hil]
      rfl
    have er' : n.getD i [] = n[i] := by rw [List.getD_eq_getElem?_getD, List.getElem?_eq_getElem hil]; rfl
    rw [if_pos (by omega), if_pos (by omega), if_pos (by omega), er]
    by_cases hl : ((n[i].length : Nat) : Int) = s
    · rw [if_pos hl]
      have h1 := right_l1 s n e i hil hn hs (by rw [er']; exact hl) (m * (s.toNat + 2) + 1 + k) s.toNat 0 (by omega)
      rw [er', List.drop_zero] at h1
      have h2 := ih (i + 1) (by omega)
      rw [show ((i + 1 : Nat) : Int) = (i : Int) + 1 by omega] at h2
      rw [h2] at h1
      refine Eq.trans h1 ?_
      have hb : badRow s n.length n[i] = n[i].any (badX n.length) := by unfold badRow; rw [decide_eq_false (by simpa using hl)]; rfl
      rw [hb]
      cases n[i].any (badX n.length) <;> simp
    · rw [if_neg hl]
      have hb : badRow s n.length n[i] = true := by unfold badRow; rw [decide_eq_true (by simpa using hl)]; rfl
      rw [hb]
      rfl

/-- The reference's Right: the same. -/
theorem right_f (s : Int) (n : List (List Int)) (e : List Bool) : ∃ k, caesuraref15_Right.f k s n e = some (rightB s n e) := by
  by_cases h1 : s < 1
  · refine ⟨1, ?_⟩
    unfold caesuraref15_Right.f
    rw [if_pos h1]
    simp [caesuraref15_Right.j0, rightB, h1]
  by_cases h2 : s > 400
  · refine ⟨1, ?_⟩
    unfold caesuraref15_Right.f
    rw [if_neg h1, if_pos h2]
    have : 400 < s := h2
    simp [caesuraref15_Right.j0, rightB, this]
  by_cases h3 : (n.length : Int) < 1
  · refine ⟨1, ?_⟩
    unfold caesuraref15_Right.f
    rw [if_neg h1, if_neg h2, if_pos h3]
    have : n.length = 0 := by omega
    simp [caesuraref15_Right.j0, rightB, this]
  by_cases h4 : (n.length : Int) > 3000
  · refine ⟨1, ?_⟩
    unfold caesuraref15_Right.f
    rw [if_neg h1, if_neg h2, if_neg h3, if_pos h4]
    have : 3000 < n.length := by omega
    simp [caesuraref15_Right.j0, rightB, this]
  refine ⟨n.length * (s.toNat + 2) + 1 + 1, ?_⟩
  unfold caesuraref15_Right.f
  rw [if_neg h1, if_neg h2, if_neg h3, if_neg h4]
  have ej : ∀ (k : Nat) (b : Bool), caesuraref15_Right.j0 (k + 1) (n.length : Int) b s n e = if b = true then some false else caesuraref15_Right.l0 k n.length 0 s n e := fun k b => by simp only [caesuraref15_Right.j0]
  rw [ej]
  by_cases h5 : e.length = n.length
  · have e5 : ((e.length : Int) != (n.length : Int)) = false := bne_eq_false_iff_eq.2 (by omega)
    rw [e5, if_neg (by simp)]
    have := right_l0 s n e (by omega) (by omega) (by omega) 0 n.length 0 (by omega)
    rw [List.drop_zero, Nat.add_zero] at this
    refine Eq.trans this ?_
    have hr : rightB s n e = !(n.any (badRow s n.length)) := by
      unfold rightB
      rw [decide_eq_false h1, decide_eq_false (show ¬ 400 < s by omega), decide_eq_false (show ¬ n.length = 0 by omega), decide_eq_false (show ¬ 3000 < n.length by omega), decide_eq_false (show ¬ e.length ≠ n.length by omega)]
      rfl
    rw [hr]
  · have e5 : ((e.length : Int) != (n.length : Int)) = true := bne_iff_ne.2 (by omega)
    rw [e5, if_pos rfl]
    simp [rightB, h5]
/-- The reference's next: the same. -/
theorem next_f (s1 s2 : Int) (n1 n2 : List (List Int)) (e1 e2 : List Bool) (q1 : ∀ r ∈ n1, (r.length : Int) = s1 ∧ ∀ x ∈ r, 0 ≤ x ∧ x < n1.length) (q2 : ∀ r ∈ n2, (r.length : Int) = s1 ∧ ∀ x ∈ r, 0 ≤ x ∧ x < n2.length) (q3 : 0 < n2.length) (q4 : e1.length = n1.length)
    (x : Int × Int) (hx : okM n1.length n2.length x) (s : Nat) (hs : (s : Int) < 2 * s1) (hs4 : s1 ≤ 400) : caesuraref19_next.f 2 s1 n1 e1 s2 n2 e2 x.1 x.2 s = some (nextM n1 e1 n2 x s) := by
  obtain ⟨a, b⟩ := x
  have hd : wrap64 (Int.tdiv (s : Int) 2) = ((s / 2 : Nat) : Int) := by
    rw [Int.tdiv_eq_ediv_of_nonneg (by omega), wrap64_of (by omega) (by omega)]; omega
  have hm : Int.tmod (s : Int) 2 = ((s % 2 : Nat) : Int) := by
    rw [Int.tmod_eq_emod_of_nonneg (by omega)]; omega
  have hh : ((s / 2 : Nat) : Int) < s1 := by omega
  have e0 : ∀ (n : List (List Int)) (i : Int), rd_L1 n i = n.getD i.toNat [] := fun n i => rfl
  have er : ∀ (l : List Int) (i : Nat), rd l (i : Int) = l.getD i 0 := fun l i => by simp [rd]
  by_cases ho : s % 2 = 1
  · have hm1 : (Int.tmod (s : Int) 2 == 1) = true := by rw [hm, ho]; rfl
    unfold caesuraref19_next.f
    rw [hd, hm1]
    by_cases h1 : a = 1
    · subst h1
      obtain ⟨x1, x2⟩ : 0 ≤ b ∧ b < (n1.length : Int) := by
        rcases hx with h | h | h
        · exact ⟨h.2.1, h.2.2⟩
        · exact absurd (show (1 : Int) = 2 from h.1) (by decide)
        · exact absurd (show (1 : Int) = 3 from congrArg Prod.fst h) (by decide)
      obtain ⟨t1, t2⟩ := getD_row q2 0 (by omega) (by omega)
      rw [Int.toNat_zero] at t1
      rw [if_pos (show (1 : Int) ≤ 1 by decide)]
      simp only [caesuraref19_next.j0, caesuraref19_next.j1, Bool.not_true, Bool.false_eq_true, if_false, if_true]
      rw [if_pos x1, if_pos (by omega)]
      have ee : rdOf false e1 b = e1.getD b.toNat false := rfl
      rw [ee]
      unfold nextM
      rw [if_pos ho]
      cases hv : e1.getD b.toNat false with
      | true =>
        rw [if_pos rfl, if_pos (by omega), if_pos (by omega), e0, Int.toNat_zero, if_pos (by omega), er, if_pos ⟨rfl, rfl⟩]
      | false =>
        simp
    · have e : nextM n1 e1 n2 (a, b) s = (3, 0) := by
        unfold nextM
        rw [if_pos ho, if_neg (fun h => h1 h.1)]
      rw [e]
      by_cases h2 : a ≤ 1
      · rw [if_pos h2]
        simp [caesuraref19_next.j0, caesuraref19_next.j1, h1]
      · rw [if_neg h2]
        simp [caesuraref19_next.j0, caesuraref19_next.j1, h1]
  · have hm0 : (Int.tmod (s : Int) 2 == 1) = false := by rw [hm]; exact beq_eq_false_iff_ne.2 (by omega)
    unfold caesuraref19_next.f
    rw [hd, hm0]
    by_cases h1 : a = 0 ∨ a = 1
    · obtain ⟨x1, x2⟩ : 0 ≤ b ∧ b < (n1.length : Int) := by
        rcases hx with h | h | h
        · exact ⟨h.2.1, h.2.2⟩
        · have h2 : a = 2 := h.1
          omega
        · have h2 : a = 3 := congrArg Prod.fst h
          omega
      obtain ⟨t1, t2⟩ := getD_row q1 b x1 x2
      have e : nextM n1 e1 n2 (a, b) s = (1, (n1.getD b.toNat []).getD (s / 2) 0) := by
        unfold nextM
        rw [if_neg ho, if_pos h1]
      rw [e, if_pos (show a ≤ 1 by omega)]
      simp only [caesuraref19_next.j0, Bool.not_false, if_true]
      rw [if_pos x1, if_pos x2, if_pos (by omega), e0, if_pos (by omega), er]
    · have h0 : ¬ a ≤ 1 := by
        rcases hx with h | h | h
        · exact absurd h.1 h1
        · have h2 : a = 2 := h.1
          omega
        · have h2 : a = 3 := congrArg Prod.fst h
          omega
      rw [if_neg h0]
      have ha1 : ¬ a = 1 := fun h => h1 (.inr h)
      simp only [caesuraref19_next.j0, caesuraref19_next.j1, Bool.false_eq_true, if_false]
      rw [if_neg ha1]
      by_cases h2 : a = 2
      · obtain ⟨x1, x2⟩ : 0 ≤ b ∧ b < (n2.length : Int) := by
          rcases hx with h | h | h
          · exact absurd h.1 h1
          · exact ⟨h.2.1, h.2.2⟩
          · have h3 : a = 3 := congrArg Prod.fst h
            omega
        obtain ⟨t1, t2⟩ := getD_row q2 b x1 x2
        have e : nextM n1 e1 n2 (a, b) s = (2, (n2.getD b.toNat []).getD (s / 2) 0) := by
          unfold nextM
          rw [if_neg ho, if_neg h1, if_pos h2]
        rw [e, if_pos h2, if_pos x1, if_pos x2, if_pos (by omega), e0, if_pos (by omega), er]
      · have e : nextM n1 e1 n2 (a, b) s = (3, 0) := by
          unfold nextM
          rw [if_neg ho, if_neg h1, if_neg h2]
        rw [e, if_neg h2]
end Go.Proofs.Ytpedenbcfbflbaa.X
