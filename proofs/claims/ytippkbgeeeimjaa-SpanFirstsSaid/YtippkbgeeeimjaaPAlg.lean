/- The algebra of sets: lengths of least lists, and the laws. -/
import Derived.Test.YtippkbgeeeimjaaPSet
namespace Go.Proofs.Ytippkbgeeeimjaa.P
open Go.RowKit Go.Proofs.YtippkbgeeeimjaaW.PrintWords Go.Proofs.YtippkbgeeeimjaaW.PrintLast Go.Proofs.YtippkbgeeeimjaaW.PrintMore Go.Proofs.Ytippkbgeeeimjaa.A Go.Proofs.Ytippkbgeeeimjaa.L Go.Proofs.Ytippkbgeeeimjaa.B
set_option linter.unusedVariables false
set_option linter.unusedSimpArgs false
theorem nodup_len : ∀ (xs L : List Int), xs.Pairwise (· ≠ ·) → (∀ x ∈ xs, x ∈ L) → xs.length ≤ L.length
  | [], _, _, _ => Nat.zero_le _
  | x :: xs, L, hp, h => by
    obtain ⟨h1, h2⟩ := List.pairwise_cons.1 hp
    have hx := h x (List.mem_cons_self ..)
    have := nodup_len xs (L.erase x) h2 fun y hy => (List.mem_erase_of_ne (fun e => h1 y hy e.symm)).2 (h y (List.mem_cons_of_mem _ hy))
    rw [List.length_erase_of_mem hx] at this
    have := List.length_pos_of_mem hx
    rw [List.length_cons]
    omega
theorem canon_len (P : Int → Bool) (L : List Int) (h : ∀ c, 0 ≤ c → c ≤ 1114111 → P c = true → (c = 0 ∨ P (c - 1) = false) → c ∈ L) : (canonF P).length ≤ L.length := by
  have hs := canon_spec P
  have := nodup_len ((canonF P).map fun r => r.f0) L ?_ ?_
  · rwa [List.length_map] at this
  · rw [List.pairwise_map]
    have hp := hs.1.2
    have hr := hs.1.1
    refine List.Pairwise.imp_of_mem (fun {r s} hr' hs' q e => ?_) hp
    have := hr r hr'
    omega
  · intro x hx
    obtain ⟨r, hr, rfl⟩ := List.mem_map.1 hx
    have hb := hs.1.1 r hr
    have hm : ∀ c, 0 ≤ c → c < 1114112 → Mem (canonF P) c = P c := hs.2
    refine h _ hb.1 (by omega) ?_ ?_
    · rw [← hm _ hb.1 (by omega)]
      exact mem_iff.2 ⟨r, hr, Int.le_refl _, hb.2.1⟩
    · by_cases h0 : r.f0 = 0
      · exact Or.inl h0
      · refine Or.inr ?_
        rw [← hm _ (by omega) (by omega)]
        cases hq : Mem (canonF P) (r.f0 - 1) with
        | false => rfl
        | true =>
          exfalso
          obtain ⟨s, hs', k1, k2⟩ := mem_iff.1 hq
          have hsb := hs.1.1 s hs'
          have key : r = s ∨ r.f1 + 1 < s.f0 ∨ s.f1 + 1 < r.f0 := by
            have hp := hs.1.2
            generalize canonF P = xs at hp hr hs'
            induction xs with
            | nil => cases hr
            | cons t ts ih =>
              obtain ⟨p1, p2⟩ := List.pairwise_cons.1 hp
              rcases List.mem_cons.1 hr with e1 | e1
              · rcases List.mem_cons.1 hs' with e2 | e2
                · exact Or.inl (e1.trans e2.symm)
                · exact Or.inr (Or.inl (e1 ▸ p1 s e2))
              · rcases List.mem_cons.1 hs' with e2 | e2
                · exact Or.inr (Or.inr (e2 ▸ p1 r e1))
                · exact ih p2 e1 e2
          rcases key with e | e | e
          · rw [← e] at k1; omega
          · omega
          · omega
/-! starts and ends of a set -/
theorem hasB_iff {l : List S34} {c : Int} : hasB l c = true ↔ l.length ≤ 400 ∧ ∃ r ∈ l, r.f0 ≤ c ∧ c ≤ r.f1 := by
  unfold hasB
  rw [Bool.and_eq_true, decide_eq_true_iff, mem_iff]
theorem hasB_no {l : List S34} {c : Int} : hasB l c = false ↔ ¬ (l.length ≤ 400 ∧ ∃ r ∈ l, r.f0 ≤ c ∧ c ≤ r.f1) := by
  rw [← hasB_iff]
  cases hasB l c <;> simp
def lowsF (l : List S34) : List Int := l.map fun r => if 0 ≤ r.f0 then r.f0 else 0
def endsF (l : List S34) : List Int := l.map fun r => r.f1 + 1
theorem lows_len (l : List S34) : (lowsF l).length = l.length := List.length_map ..
theorem ends_len (l : List S34) : (endsF l).length = l.length := List.length_map ..
theorem starts {l : List S34} {c : Int} (h0 : 0 ≤ c) (h : hasB l c = true) (k : c = 0 ∨ hasB l (c - 1) = false) : c ∈ lowsF l := by
  obtain ⟨hl, r, hr, h1, h2⟩ := hasB_iff.1 h
  refine List.mem_map.2 ⟨r, hr, ?_⟩
  rcases k with rfl | k
  · split <;> omega
  · have := hasB_no.1 k
    by_cases hc : r.f0 ≤ c - 1
    · exact absurd ⟨hl, r, hr, hc, by omega⟩ this
    · rw [if_pos (by omega)]
      omega
theorem ends {l : List S34} {c : Int} (h : hasB l c = false) (k : hasB l (c - 1) = true) : c ∈ endsF l := by
  obtain ⟨hl, r, hr, h1, h2⟩ := hasB_iff.1 k
  refine List.mem_map.2 ⟨r, hr, ?_⟩
  have := hasB_no.1 h
  by_cases hc : c ≤ r.f1
  · exact absurd ⟨hl, r, hr, by omega, hc⟩ this
  · omega
theorem len_or (a b : List S34) : (orF a b).length ≤ a.length + b.length := by
  have := canon_len (fun c => hasB a c || hasB b c) (lowsF a ++ lowsF b) fun c h0 h1 h k => by
    rw [List.mem_append]
    simp only [Bool.or_eq_true, Bool.or_eq_false_iff] at h k
    rcases h with h | h
    · exact Or.inl (starts h0 h (k.imp id And.left))
    · exact Or.inr (starts h0 h (k.imp id And.right))
  rw [List.length_append, lows_len, lows_len] at this
  exact this
theorem len_and (a b : List S34) : (andF a b).length ≤ a.length + b.length := by
  have := canon_len (fun c => hasB a c && hasB b c) (lowsF a ++ lowsF b) fun c h0 h1 h k => by
    rw [List.mem_append]
    simp only [Bool.and_eq_true, Bool.and_eq_false_iff] at h k
    rcases k with k | k | k
    · exact Or.inl (starts h0 h.1 (Or.inl k))
    · exact Or.inl (starts h0 h.1 (Or.inr k))
    · exact Or.inr (starts h0 h.2 (Or.inr k))
  rw [List.length_append, lows_len, lows_len] at this
  exact this
theorem len_less (a b : List S34) : (lessF a b).length ≤ a.length + b.length := by
  have := canon_len (fun c => hasB a c && !hasB b c) (lowsF a ++ endsF b) fun c h0 h1 h k => by
    rw [List.mem_append]
    simp only [Bool.and_eq_true, Bool.and_eq_false_iff, Bool.not_eq_true', Bool.not_eq_false'] at h k
    rcases k with k | k | k
    · exact Or.inl (starts h0 h.1 (Or.inl k))
    · exact Or.inl (starts h0 h.1 (Or.inr k))
    · exact Or.inr (ends h.2 k)
  rw [List.length_append, lows_len, ends_len] at this
  exact this
theorem len_not (a : List S34) : (notF a).length ≤ a.length + 1 := by
  have := canon_len (fun c => !hasB a c) (0 :: endsF a) fun c h0 h1 h k => by
    rw [List.mem_cons]
    simp only [Bool.not_eq_true', Bool.not_eq_false'] at h k
    exact k.imp id (fun k => ends h k)
  rw [List.length_cons, ends_len] at this
  exact this
theorem len_pl (a : List S34) : (plF a).length ≤ a.length := len_or a []
theorem has_canon {P : Int → Bool} (hl : (canonF P).length ≤ 400) {c : Int} (h0 : 0 ≤ c) (h1 : c ≤ 1114111) : hasB (canonF P) c = P c := by
  unfold hasB
  rw [decide_eq_true hl, Bool.true_and, canon_mem P h0 h1]
theorem has_or {a b : List S34} (h : a.length + b.length ≤ 400) {c : Int} (h0 : 0 ≤ c) (h1 : c ≤ 1114111) : hasB (orF a b) c = (hasB a c || hasB b c) := has_canon (by have := len_or a b; unfold orF at this; omega) h0 h1
theorem has_and {a b : List S34} (h : a.length + b.length ≤ 400) {c : Int} (h0 : 0 ≤ c) (h1 : c ≤ 1114111) : hasB (andF a b) c = (hasB a c && hasB b c) := has_canon (by have := len_and a b; unfold andF at this; omega) h0 h1
theorem has_less {a b : List S34} (h : a.length + b.length ≤ 400) {c : Int} (h0 : 0 ≤ c) (h1 : c ≤ 1114111) : hasB (lessF a b) c = (hasB a c && !hasB b c) := has_canon (by have := len_less a b; unfold lessF at this; omega) h0 h1
theorem has_not {a : List S34} (h : a.length + 1 ≤ 400) {c : Int} (h0 : 0 ≤ c) (h1 : c ≤ 1114111) : hasB (notF a) c = !hasB a c := has_canon (by have := len_not a; unfold notF at this; omega) h0 h1
theorem has_pl {a : List S34} (h : a.length ≤ 400) {c : Int} (h0 : 0 ≤ c) (h1 : c ≤ 1114111) : hasB (plF a) c = hasB a c := by
  rw [plF_eq]
  exact has_canon (by have := len_pl a; rw [plF_eq] at this; omega) h0 h1
theorem pl_canon {P : Int → Bool} (hl : (canonF P).length ≤ 400) : plF (canonF P) = canonF P := by
  rw [plF_eq]
  exact canon_congr fun c h0 h1 => has_canon hl h0 h1
theorem pl_of {a : List S34} {P : Int → Bool} (h : ∀ c, 0 ≤ c → c ≤ 1114111 → hasB a c = P c) : plF a = canonF P := by
  rw [plF_eq]
  exact canon_congr h
/-- One list answers as another: the same least list. -/
theorem same_of {a b : List S34} (h : ∀ c, 0 ≤ c → c ≤ 1114111 → hasB a c = hasB b c) : sameF a b = true := by
  unfold sameF
  rw [eqF_iff, plF_eq, plF_eq]
  exact canon_congr h
theorem cnt_congr {P Q : Int → Bool} : ∀ n : Nat, n ≤ 1114112 → (∀ c, 0 ≤ c → c ≤ 1114111 → P c = Q c) → cnt P n = cnt Q n
  | 0, _, _ => rfl
  | n + 1, hn, h => by rw [cnt, cnt, cnt_congr n (by omega) h, h n (by omega) (by omega)]
theorem cnt_add {P Q R S : Int → Bool} : ∀ n : Nat, n ≤ 1114112 → (∀ c, 0 ≤ c → c ≤ 1114111 → P c = (R c || S c) ∧ Q c = (R c && S c)) → cnt P n + cnt Q n = cnt R n + cnt S n
  | 0, _, _ => rfl
  | n + 1, hn, h => by
    have ih := cnt_add n (by omega) h
    have := h n (by omega) (by omega)
    rw [cnt, cnt, cnt, cnt, this.1, this.2]
    cases R (n : Int) <;> cases S (n : Int) <;> simp <;> omega
theorem cnt_le {P Q : Int → Bool} : ∀ n : Nat, n ≤ 1114112 → (∀ c, 0 ≤ c → c ≤ 1114111 → P c = true → Q c = true) → cnt P n ≤ cnt Q n
  | 0, _, _ => Int.le_refl _
  | n + 1, hn, h => by
    have ih := cnt_le n (by omega) h
    have := h n (by omega) (by omega)
    rw [cnt, cnt]
    cases hp : P (n : Int) with
    | false => cases Q (n : Int) <;> simp <;> omega
    | true => rw [this hp]; simp; omega
/-! ### the laws -/
section
variable {a b d : List S34}
theorem law_or_comm (a b : List S34) : orF b a = orF a b := canon_congr fun c _ _ => Bool.or_comm _ _
theorem law_and_comm (a b : List S34) : andF b a = andF a b := canon_congr fun c _ _ => Bool.and_comm _ _
theorem same_self (a : List S34) : sameF a a = true := same_of fun _ _ _ => rfl
theorem law_morgan (h : a.length + b.length ≤ 300) : notF (orF a b) = andF (notF a) (notF b) := canon_congr fun c h0 h1 => by
  rw [has_or (by omega) h0 h1, has_not (by omega) h0 h1, has_not (by omega) h0 h1, Bool.not_or]
theorem law_dist (h : a.length + b.length + d.length ≤ 300) : andF a (orF b d) = orF (andF a b) (andF a d) := canon_congr fun c h0 h1 => by
  rw [has_or (by omega) h0 h1, has_and (by omega) h0 h1, has_and (by omega) h0 h1, Bool.and_or_distrib_left]
theorem law_notnot (h : a.length ≤ 300) : sameF (notF (notF a)) a = true := same_of fun c h0 h1 => by
  rw [has_not (by have := len_not a; omega) h0 h1, has_not (by omega) h0 h1, Bool.not_not]
theorem law_sizes (h : a.length + b.length ≤ 300) : wrap64 (sizeF (orF a b) + sizeF (andF a b)) = wrap64 (sizeF a + sizeF b) := by
  have e : sizeF (orF a b) + sizeF (andF a b) = sizeF a + sizeF b := by
    unfold sizeF
    exact cnt_add 1114112 (Nat.le_refl _) fun c h0 h1 => ⟨has_or (by omega) h0 h1, has_and (by omega) h0 h1⟩
  rw [e]
theorem law_less (h : a.length + b.length ≤ 300) : lessF a b = andF a (notF b) := canon_congr fun c h0 h1 => by
  rw [has_not (by omega) h0 h1]
theorem right_canon {P : Int → Bool} (hl : (canonF P).length ≤ 400) : rightF (canonF P) = true := by
  unfold rightF
  rw [decide_eq_true hl, Bool.true_and, eqF_iff]
  exact pl_canon hl
theorem right_or (h : a.length + b.length ≤ 400) : rightF (orF a b) = true := right_canon (by have := len_or a b; unfold orF at this; omega)
theorem right_and (h : a.length + b.length ≤ 400) : rightF (andF a b) = true := right_canon (by have := len_and a b; unfold andF at this; omega)
theorem canon_nil {P : Int → Bool} (h : ∀ c, 0 ≤ c → c ≤ 1114111 → P c = false) : canonF P = [] :=
  canon_lit ⟨⟨(fun r hr => nomatch hr), List.Pairwise.nil⟩, fun c h0 h1 => by rw [h c h0 (by omega)]; rfl⟩
theorem less_both (h : a.length + b.length ≤ 300) : lessF (andF a b) a = [] := canon_nil fun c h0 h1 => by
  rw [has_and (by omega) h0 h1]
  cases hasB a c <;> simp
theorem less_either (h : a.length + b.length ≤ 300) : lessF a (orF a b) = [] := canon_nil fun c h0 h1 => by
  rw [has_or (by omega) h0 h1]
  cases hasB a c <;> simp
theorem split_same (h : a.length + b.length ≤ 200 + 100) : sameF (orF (lessF a b) (andF a b)) a = true := same_of fun c h0 h1 => by
  have e : orF (lessF a b) (andF a b) = plF a := by
    unfold orF
    rw [plF_eq]
    exact canon_congr fun c h0 h1 => by
      rw [has_less (by omega) h0 h1, has_and (by omega) h0 h1]
      cases hasB a c <;> cases hasB b c <;> rfl
  rw [e]
  exact has_pl (by omega) h0 h1
theorem size_both (h : a.length + b.length ≤ 300) : sizeF (andF a b) ≤ sizeF a := cnt_le _ (Nat.le_refl _) fun c h0 h1 q => by
  rw [has_and (by omega) h0 h1, Bool.and_eq_true] at q
  exact q.1
theorem less_none (h : a.length + b.length ≤ 300) (k : (lessF a b).length = 0) : sameF (andF a b) a = true := same_of fun c h0 h1 => by
  have e := List.length_eq_zero_iff.1 k
  have := has_less (a := a) (b := b) (by omega) h0 h1
  rw [e] at this
  rw [has_and (by omega) h0 h1]
  have z : hasB [] c = false := by simp [hasB, Mem]
  rw [z] at this
  revert this
  cases hasB a c <;> cases hasB b c <;> simp
theorem same_pl (h : a.length ≤ 300) : sameF a (plF a) = true := same_of fun c h0 h1 => (has_pl (by omega) h0 h1).symm
end
end Go.Proofs.Ytippkbgeeeimjaa.P
