import Derived.Test.YtpedenbcfbflbaaPMarkMakesx5
import Derived.Test.YtpedenbcfbflbaaPMarkMakesx3
import Derived.Test.YtpedenbcfbflbaaXRefR
namespace Go.Proofs.Ytpedenbcfbflbaa.X
open Go.RowKit Go.Proofs.YtpedenbcfbflbaaW.PrintWords Go.Proofs.YtpedenbcfbflbaaW.PrintLast Go.Proofs.YtpedenbcfbflbaaW.PrintMore Go.Maps Num Go.Proofs.Ytpedenbcfbflbaa.PMarkMakes
set_option linter.unusedVariables false
set_option linter.unusedSimpArgs false

theorem drop_eq_cons {α : Type} [DecidableEq α] {l m : List α} {i : Nat} (hl : i < l.length) (hm : i < m.length) : decide (l.drop i = m.drop i) = (decide (l[i] = m[i]) && decide (l.drop (i + 1) = m.drop (i + 1))) := by
  rw [List.drop_eq_getElem_cons hl, List.drop_eq_getElem_cons hm]
  generalize l[i] = a
  generalize m[i] = b
  generalize l.drop (i + 1) = x
  generalize m.drop (i + 1) = y
  by_cases h1 : a = b <;> by_cases h2 : x = y <;> simp [h1, h2]
theorem ints_l0 (l m : List Int) (hlm : l.length = m.length) (hmax : l.length ≤ 9223372036854775807) : ∀ (d i k : Nat), i + d = l.length → caesuraref01_Ints.l0 (d + 1 + k) l m i = some (decide (l.drop i = m.drop i)) := by
  intro d
  induction d with
  | zero =>
    intro i k hi
    rw [show 0 + 1 + k = k + 1 by omega, List.drop_eq_nil_of_le (by omega), List.drop_eq_nil_of_le (by omega)]
    unfold caesuraref01_Ints.l0
    rw [if_neg (by omega)]
    simp
  | succ d ih =>
    intro i k hi
    have h1 : i < l.length := by omega
    have h2 : i < m.length := by omega
    rw [show d + 1 + 1 + k = (d + 1 + k) + 1 by omega, drop_eq_cons h1 h2]
    unfold caesuraref01_Ints.l0
    have e1 : rd l (i : Int) = l[i] := by simp only [rd, Int.toNat_natCast]; rw [List.getD_eq_getElem?_getD, List.getElem?_eq_getElem h1]; rfl
    have e2 : rd m (i : Int) = m[i] := by simp only [rd, Int.toNat_natCast]; rw [List.getD_eq_getElem?_getD, List.getElem?_eq_getElem h2]; rfl
    rw [if_pos (by omega), if_pos (by omega), if_pos (by omega), e1, e2]
    by_cases he : l[i] = m[i]
    · rw [if_pos he, decide_eq_true he, Bool.true_and, wrap64_of (by omega) (by omega)]
      have := ih (i + 1) k (by omega)
      rw [show ((i + 1 : Nat) : Int) = (i : Int) + 1 by omega] at this
      exact this
    · rw [if_neg he, decide_eq_false he]
      rfl
theorem ints_f (l m : List Int) (k : Nat) (hk : l.length ≤ k) (hmax : l.length ≤ 9223372036854775807) : caesuraref01_Ints.f (k + 1) l m = some (decide (l = m)) := by
  unfold caesuraref01_Ints.f
  by_cases h : l.length = m.length
  · rw [if_pos (by omega)]
    have := ints_l0 l m h hmax l.length 0 (k - l.length) (by omega)
    rw [show l.length + 1 + (k - l.length) = k + 1 by omega] at this
    simpa using this
  · rw [if_neg (by omega), decide_eq_false (fun e => h (by rw [e]))]
theorem bools_l0 (l m : List Bool) (hlm : l.length = m.length) (hmax : l.length ≤ 9223372036854775807) : ∀ (d i k : Nat), i + d = l.length → caesuraref15_Bools.l0 (d + 1 + k) l m i = some (decide (l.drop i = m.drop i)) := by
  intro d
  induction d with
  | zero =>
    intro i k hi
    rw [show 0 + 1 + k = k + 1 by omega, List.drop_eq_nil_of_le (by omega), List.drop_eq_nil_of_le (by omega)]
    unfold caesuraref15_Bools.l0
    rw [if_neg (by omega)]
    simp
  | succ d ih =>
    intro i k hi
    have h1 : i < l.length := by omega
    have h2 : i < m.length := by omega
    rw [show d + 1 + 1 + k = (d + 1 + k) + 1 by omega, drop_eq_cons h1 h2]
    unfold caesuraref15_Bools.l0
    have e1 : rdOf false l (i : Int) = l[i] := by simp only [rdOf, Int.toNat_natCast]; rw [List.getD_eq_getElem?_getD, List.getElem?_eq_getElem h1]; rfl
    have e2 : rdOf false m (i : Int) = m[i] := by simp only [rdOf, Int.toNat_natCast]; rw [List.getD_eq_getElem?_getD, List.getElem?_eq_getElem h2]; rfl
    rw [if_pos (by omega), if_pos (by omega), if_pos (by omega), e1, e2]
    by_cases he : l[i] = m[i]
    · rw [if_neg (by rw [he]; simp), decide_eq_true he, Bool.true_and, wrap64_of (by omega) (by omega)]
      have := ih (i + 1) k (by omega)
      rw [show ((i + 1 : Nat) : Int) = (i : Int) + 1 by omega] at this
      exact this
    · rw [if_pos (by simpa using he), decide_eq_false he]
      rfl
theorem bools_f (l m : List Bool) (k : Nat) (hk : l.length ≤ k) (hmax : l.length ≤ 9223372036854775807) : caesuraref15_Bools.f (k + 1) l m = some (decide (l = m)) := by
  unfold caesuraref15_Bools.f
  by_cases h : l.length = m.length
  · rw [if_pos (by omega)]
    have := bools_l0 l m h hmax l.length 0 (k - l.length) (by omega)
    rw [show l.length + 1 + (k - l.length) = k + 1 by omega] at this
    simpa using this
  · rw [if_neg (by omega), decide_eq_false (fun e => h (by rw [e]))]
theorem lists_l0 (l m : List (List Int)) (k : Nat) (hlm : l.length = m.length) (hmax : l.length ≤ 9223372036854775807) (hr : ∀ r ∈ l, r.length ≤ k ∧ r.length ≤ 9223372036854775807) : ∀ (d i : Nat), i + d = l.length → caesuraref13_Lists.l0 (d + 1 + k + 1) l m i = some (decide (l.drop i = m.drop i)) := by
  intro d
  induction d with
  | zero =>
    intro i hi
    rw [show 0 + 1 + k + 1 = (k + 1) + 1 by omega, List.drop_eq_nil_of_le (by omega), List.drop_eq_nil_of_le (by omega)]
    unfold caesuraref13_Lists.l0
    rw [if_neg (by omega)]
    simp
  | succ d ih =>
    intro i hi
    have h1 : i < l.length := by omega
    have h2 : i < m.length := by omega
    rw [show d + 1 + 1 + k + 1 = (d + 1 + k + 1) + 1 by omega, drop_eq_cons h1 h2]
    unfold caesuraref13_Lists.l0
    have e1 : rd_L1 l (i : Int) = l[i] := by simp only [rd_L1, Int.toNat_natCast]; rw [List.getD_eq_getElem?_getD, List.getElem?_eq_getElem h1]; rfl
    have e2 : rd_L1 m (i : Int) = m[i] := by simp only [rd_L1, Int.toNat_natCast]; rw [List.getD_eq_getElem?_getD, List.getElem?_eq_getElem h2]; rfl
    obtain ⟨r1, r2⟩ := hr l[i] (List.getElem_mem h1)
    rw [if_pos (by omega), if_pos (by omega), if_pos (by omega), e1, e2, ints_f l[i] m[i] (d + 1 + k) (by omega) r2, Option.bind_some]
    by_cases he : l[i] = m[i]
    · rw [if_pos (by simpa using he), decide_eq_true he, Bool.true_and, wrap64_of (by omega) (by omega)]
      have := ih (i + 1) (by omega)
      rw [show ((i + 1 : Nat) : Int) = (i : Int) + 1 by omega] at this
      exact this
    · rw [if_neg (by simpa using he), decide_eq_false he]
      rfl
theorem lists_f (l m : List (List Int)) (k : Nat) (hmax : l.length ≤ 9223372036854775807) (hr : ∀ r ∈ l, r.length ≤ k ∧ r.length ≤ 9223372036854775807) : caesuraref13_Lists.f (l.length + 1 + k + 1) l m = some (decide (l = m)) := by
  unfold caesuraref13_Lists.f
  by_cases h : l.length = m.length
  · rw [if_pos (by omega)]
    have := lists_l0 l m k h hmax hr l.length 0 (by omega)
    simpa using this
  · rw [if_neg (by omega), decide_eq_false (fun e => h (by rw [e]))]
theorem row_le (l : List (List Int)) : ∃ k, ∀ r ∈ l, r.length ≤ k := by
  induction l with
  | nil => exact ⟨0, fun r h => by simp at h⟩
  | cons x l ih =>
    obtain ⟨k, hk⟩ := ih
    exact ⟨x.length + k, fun r h => by
      rcases List.mem_cons.1 h with h | h
      · rw [h]; omega
      · have := hk r h; omega⟩
/-- Are two automata the same. -/
theorem same_f (s1 : Int) (n1 : List (List Int)) (e1 : List Bool) (s2 : Int) (n2 : List (List Int)) (e2 : List Bool) (h1 : n1.length ≤ 9223372036854775807) (h2 : ∀ r ∈ n1, r.length ≤ 9223372036854775807) (h3 : e1.length ≤ 9223372036854775807) :
    ∃ k, caesuraref15_Same.f k s1 n1 e1 s2 n2 e2 = some (decide (s1 = s2) && (decide (n1 = n2) && decide (e1 = e2))) := by
  obtain ⟨k, hk⟩ := row_le n1
  refine ⟨n1.length + 1 + (k + e1.length) + 1, ?_⟩
  unfold caesuraref15_Same.f
  rw [lists_f n1 n2 (k + e1.length) h1 (fun r hr => ⟨by have := hk r hr; omega, h2 r hr⟩), bools_f e1 e2 (n1.length + 1 + (k + e1.length)) (by omega) h3]
  by_cases hs : s1 = s2
  · rw [if_pos hs, decide_eq_true hs]
    by_cases hn : n1 = n2 <;> simp [hn]
  · rw [if_neg hs, decide_eq_false hs]
    rfl
theorem great_l0 (s : Int) (n : List (List Int)) (e : List Bool) (a : Int) (hmax : n.length ≤ 9223372036854775807) : ∀ (d i : Nat) (x : Int), i + d = n.length → ∃ r, caesuraref15_Great.l0 (d + 1) a x i s n e = some r := by
  intro d
  induction d with
  | zero =>
    intro i x hi
    unfold caesuraref15_Great.l0
    rw [if_neg (by omega)]
    exact ⟨_, rfl⟩
  | succ d ih =>
    intro i x hi
    unfold caesuraref15_Great.l0
    rw [if_pos (by omega)]
    by_cases hx : x ≤ a
    · rw [if_pos hx, if_pos (by omega), wrap64_of (n := (i : Int) + 1) (by omega) (by omega)]
      have := ih (i + 1) (wrap64 (x + ((rd_L1 n (i : Int)).length : Int))) (by omega)
      rw [show ((i + 1 : Nat) : Int) = (i : Int) + 1 by omega] at this
      exact this
    · rw [if_neg hx]
      exact ⟨_, rfl⟩
theorem great_f (s : Int) (n : List (List Int)) (e : List Bool) (a : Int) (hmax : n.length ≤ 9223372036854775807) : ∃ k r, caesuraref15_Great.f k s n e a = some r := by
  obtain ⟨r, h⟩ := great_l0 s n e a hmax n.length 0 (wrap64 ((n.length : Int) + (e.length : Int))) (by omega)
  exact ⟨_, r, h⟩
end Go.Proofs.Ytpedenbcfbflbaa.X
