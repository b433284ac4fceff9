/- What First, Size, Same, Right, Ranges, great answer, of both; and the contracts so. -/
import Derived.Test.YtippkbgeeeimjaaXLone
namespace Go.Proofs.Ytippkbgeeeimjaa.P
open Go.RowKit Go.Proofs.YtippkbgeeeimjaaW.PrintWords Go.Proofs.YtippkbgeeeimjaaW.PrintLast Go.Proofs.YtippkbgeeeimjaaW.PrintMore Go.Proofs.Ytippkbgeeeimjaa.A Go.Proofs.Ytippkbgeeeimjaa.L Go.Proofs.Ytippkbgeeeimjaa.B
set_option linter.unusedVariables false
set_option linter.unusedSimpArgs false
def plF (l : List S34) : List S34 := orF l []
theorem bsome {α : Type} (o : Option α) : o.bind some = o := by cases o <;> rfl
theorem plF_eq (l : List S34) : plF l = canonF (hasB l) := by
  unfold plF orF
  exact canon_congr fun c _ _ => by simp [hasB, Mem]
/-! sizes -/
def szF (xs : List S34) : Int := (xs.map fun r => r.f1 - r.f0 + 1).sum
theorem szF_nil : szF [] = 0 := rfl
theorem szF_cons (r : S34) (xs : List S34) : szF (r :: xs) = (r.f1 - r.f0 + 1) + szF xs := by simp [szF]
theorem szF_app (xs ys : List S34) : szF (xs ++ ys) = szF xs + szF ys := by
  induction xs with
  | nil => simp [szF_nil]
  | cons r xs ih => rw [List.cons_append, szF_cons, szF_cons, ih]; omega
def cnt (P : Int → Bool) : Nat → Int
  | 0 => 0
  | n + 1 => cnt P n + if P (n : Int) then 1 else 0
theorem ups_sz (P : Int → Bool) : ∀ n : Nat, szF (ups P n) = cnt P n
  | 0 => rfl
  | n + 1 => by
    have ih := ups_sz P n
    have hs := ups_spec P n
    rw [ups, cnt, ← ih]
    generalize ups P n = xs at hs ⊢
    unfold tellF
    by_cases hP : P (n : Int) = true
    · rw [if_pos ⟨by omega, hP⟩, if_pos hP]
      split
      · rename_i h
        obtain ⟨pre, r, e, hr, hset⟩ := last_of h.1
        rw [hset, hr, e, szF_app, szF_app, szF_cons, szF_cons, szF_nil]
        have := h.2
        rw [hr] at this
        dsimp only
        omega
      · rw [szF_app, szF_cons, szF_nil]
        dsimp only
        omega
    · rw [if_neg (fun q => hP q.2), if_neg hP]
      omega
theorem canon_sz (P : Int → Bool) : szF (canonF P) = cnt P 1114112 := ups_sz P 1114112
theorem cnt_rng (P : Int → Bool) : ∀ n : Nat, 0 ≤ cnt P n ∧ cnt P n ≤ n
  | 0 => ⟨Int.le_refl _, Int.le_refl _⟩
  | n + 1 => by
    have := cnt_rng P n
    rw [cnt]
    split <;> omega
theorem sz_ge : ∀ {xs : List S34}, (∀ r ∈ xs, r.f0 ≤ r.f1) → (xs.length : Int) ≤ szF xs
  | [], _ => by simp [szF_nil]
  | r :: xs, h => by
    have := sz_ge (xs := xs) fun s hs => h s (List.mem_cons_of_mem _ hs)
    have := h r (List.mem_cons_self ..)
    rw [szF_cons, List.length_cons]
    omega
structure Good (xs : List S34) : Prop where
  r : ∀ r ∈ xs, 0 ≤ r.f0 ∧ r.f0 ≤ r.f1 ∧ r.f1 < 1114112
  s : szF xs ≤ 1114112
  n : (xs.length : Int) ≤ 1114112
theorem canon_good (P : Int → Bool) : Good (canonF P) := by
  have h := canon_spec P
  have s := cnt_rng P 1114112
  rw [← canon_sz] at s
  exact ⟨h.1.1, by omega, by have := sz_ge (xs := canonF P) fun r hr => (h.1.1 r hr).2.1; omega⟩
theorem sz_nn {xs : List S34} (h : ∀ r ∈ xs, r.f0 ≤ r.f1) : 0 ≤ szF xs := by
  have := sz_ge h
  omega
theorem at_drop {l : List S34} {i : Nat} (h : i < l.length) : l.drop i = rd_T34 l (i : Int) :: l.drop (i + 1) := by
  have hs := step_at (l := l) (i := (i : Int)) (by omega) (by omega)
  rw [Int.toNat_natCast, show ((i : Int) + 1).toNat = i + 1 from by omega] at hs
  exact hs
theorem size_ev {t : List S34} (g : Good t) : ∀ d i : Nat, i + d = t.length → ∀ x : Int, 0 ≤ x → x + szF (t.drop i) ≤ 1114112 → Ev (fun k => span_Size.l0 k x t (t.length : Int) (i : Int)) (x + szF (t.drop i)) ∧ Ev (fun k => caesuraref01_Size.l0 k x t (i : Int)) (x + szF (t.drop i)) := by
  have gn := g.n
  intro d
  induction d with
  | zero =>
    intro i h x h0 hx
    rw [List.drop_eq_nil_iff.2 (by omega), szF_nil, Int.add_zero]
    exact ⟨Ev.step (f := fun _ => some x) (fun k => by rw [span_Size.l0, if_neg (by omega)]) (Ev.now _), Ev.step (f := fun _ => some x) (fun k => by rw [caesuraref01_Size.l0, if_neg (by omega)]) (Ev.now _)⟩
  | succ d ih =>
    intro i h x h0 hx
    have hm : rd_T34 t (i : Int) ∈ t := by
      have : rd_T34 t (i : Int) ∈ t.drop i := by rw [at_drop (by omega)]; exact List.mem_cons_self ..
      exact List.mem_of_mem_drop this
    have hr := g.r _ hm
    rw [at_drop (show i < t.length by omega), szF_cons] at hx ⊢
    have hn : 0 ≤ szF (t.drop (i + 1)) := sz_nn fun r hr => (g.r r (List.mem_of_mem_drop hr)).2.1
    have := ih (i + 1) (by omega) (x + ((rd_T34 t (i : Int)).f1 - (rd_T34 t (i : Int)).f0 + 1)) (by omega) (by omega)
    rw [show ((i + 1 : Nat) : Int) = (i : Int) + 1 from by omega, Int.add_assoc] at this
    refine ⟨Ev.step (fun k => ?_) this.1, Ev.step (fun k => ?_) this.2⟩
    · rw [span_Size.l0, if_pos (by omega), if_pos (by omega), if_pos (by omega), w64 (n := (rd_T34 t (i : Int)).f1 - _) (by omega) (by omega), w64 (n := (rd_T34 t (i : Int)).f1 - _ + 1) (by omega) (by omega), w64 (by omega) (by omega), w64 (n := (i : Int) + 1) (by omega) (by omega)]
    · rw [caesuraref01_Size.l0, if_pos (by omega), if_pos (by omega), w64 (n := x + (rd_T34 t (i : Int)).f1) (by omega) (by omega), w64 (n := x + (rd_T34 t (i : Int)).f1 - _) (by omega) (by omega), w64 (n := x + (rd_T34 t (i : Int)).f1 - _ + 1) (by omega) (by omega), w64 (n := (i : Int) + 1) (by omega) (by omega), show x + (rd_T34 t (i : Int)).f1 - (rd_T34 t (i : Int)).f0 + 1 = x + ((rd_T34 t (i : Int)).f1 - (rd_T34 t (i : Int)).f0 + 1) by omega]
def sizeF (l : List S34) : Int := cnt (hasB l) 1114112
theorem sizeF_eq (l : List S34) : szF (plF l) = sizeF l := by rw [plF_eq, canon_sz]; rfl
theorem good_pl (l : List S34) : Good (plF l) := by rw [plF_eq]; exact canon_good _
theorem span_size (l : List S34) : Ev (fun k => span_Size.f k l) (sizeF l) := by
  have h := (size_ev (good_pl l) _ 0 (Nat.zero_add _) 0 (Int.le_refl _) (by have := (good_pl l).s; simpa using this)).1
  rw [Int.zero_add, List.drop_zero, sizeF_eq] at h
  exact h
theorem ref_size (l : List S34) : Ev (fun k => caesuraref01_Size.f k l) (sizeF l) := by
  have h := (size_ev (good_pl l) _ 0 (Nat.zero_add _) 0 (Int.le_refl _) (by have := (good_pl l).s; simpa using this)).2
  rw [Int.zero_add, List.drop_zero, sizeF_eq] at h
  exact h
/-! first -/
def hdF : List S34 → Int
  | [] => -1
  | r :: _ => r.f0
def firstF (l : List S34) : Int := hdF (plF l)
theorem span_first (l : List S34) : Ev (fun k => span_First.f k l) (firstF l) := by
  unfold firstF
  have : ∀ t : List S34, Ev (fun k => span_First.l0 k t (t.length : Int) 0) (hdF t) := by
    intro t
    cases t with
    | nil => exact Ev.step (f := fun _ => some (-1)) (fun k => rfl) (Ev.now _)
    | cons r t => exact Ev.step (f := fun _ => some r.f0) (fun k => by rw [span_First.l0, if_pos (by rw [List.length_cons]; omega), if_pos (by omega), if_pos (by rw [List.length_cons]; omega)]; rfl) (Ev.now _)
  exact this (plF l)
theorem ref_first (l : List S34) : caesuraref01_First.f l = some (firstF l) := by
  unfold firstF
  show (if ((plF l).length : Int) = 0 then some (-1) else if 0 < ((plF l).length : Int) then some ((rd_T34 (plF l) 0).f0) else none) = _
  cases plF l with
  | nil => rfl
  | cons r t => rw [if_neg (by rw [List.length_cons]; omega), if_pos (by rw [List.length_cons]; omega)]; rfl
/-! the same ranges -/
theorem eq34 {r s : S34} : (!(r.f0 == s.f0) || !(r.f1 == s.f1)) = true ↔ r ≠ s := by
  obtain ⟨a, b⟩ := r
  obtain ⟨c, d⟩ := s
  simp
  by_cases h : a = c <;> simp [h]
theorem rng_ev {x y : List S34} (hm : (x.length : Int) ≤ 9223372036854775806) (r : Bool) (hr : r = true ↔ x = y) : Ev (fun k => caesuraref01_Ranges.f k x y) r ∧ Ev (fun k => api_Range.f k x y) r := by
  by_cases hl : (x.length : Int) = (y.length : Int)
  · have main : ∀ d i : Nat, i + d = x.length → ∀ r : Bool, (r = true ↔ x.drop i = y.drop i) → Ev (fun k => caesuraref01_Ranges.l0 k x y (i : Int)) r ∧ Ev (fun k => api_Range.l0 k x y (x.length : Int) (i : Int)) r := by
      intro d
      induction d with
      | zero =>
        intro i h r hr
        rw [List.drop_eq_nil_iff.2 (by omega), List.drop_eq_nil_iff.2 (by omega)] at hr
        rw [hr.2 rfl]
        exact ⟨Ev.step (f := fun _ => some true) (fun k => by rw [caesuraref01_Ranges.l0, if_neg (by omega)]) (Ev.now _), Ev.step (f := fun _ => some true) (fun k => by rw [api_Range.l0, if_neg (by omega)]) (Ev.now _)⟩
      | succ d ih =>
        intro i h r hr
        rw [at_drop (show i < x.length by omega), at_drop (show i < y.length by omega)] at hr
        by_cases he : rd_T34 x (i : Int) = rd_T34 y (i : Int)
        · have hr' : r = true ↔ x.drop (i + 1) = y.drop (i + 1) := by rw [hr, he]; simp
          have := ih (i + 1) (by omega) r hr'
          rw [show ((i + 1 : Nat) : Int) = (i : Int) + 1 from by omega] at this
          refine ⟨Ev.step (fun k => ?_) this.1, Ev.step (fun k => ?_) this.2⟩
          · rw [caesuraref01_Ranges.l0, if_pos (by omega), if_pos (by omega), if_pos (by omega), if_neg (fun q => eq34.1 q he), w64 (n := (i : Int) + 1) (by omega) (by omega)]
          · rw [api_Range.l0, if_pos (by omega), if_pos (by omega), if_pos (by omega), if_pos (by omega), if_neg (fun q => eq34.1 q he), w64 (n := (i : Int) + 1) (by omega) (by omega)]
        · have : r = false := by
            cases r with
            | false => rfl
            | true => exact absurd (List.cons.inj (hr.1 rfl)).1 he
          rw [this]
          refine ⟨Ev.step (f := fun _ => some false) (fun k => ?_) (Ev.now _), Ev.step (f := fun _ => some false) (fun k => ?_) (Ev.now _)⟩
          · rw [caesuraref01_Ranges.l0, if_pos (by omega), if_pos (by omega), if_pos (by omega), if_pos (eq34.2 he)]
          · rw [api_Range.l0, if_pos (by omega), if_pos (by omega), if_pos (by omega), if_pos (by omega), if_pos (eq34.2 he)]
    have := main x.length 0 (by omega) r (by rw [List.drop_zero, List.drop_zero]; exact hr)
    exact ⟨ev_if hl this.1, ev_if hl this.2⟩
  · have : r = false := by
      cases r with
      | false => rfl
      | true => exact absurd (by rw [hr.1 rfl]) hl
    rw [this]
    exact ⟨ev_else hl (Ev.now _), ev_else hl (Ev.now _)⟩
noncomputable def eqF (x y : List S34) : Bool := @decide (x = y) (Classical.propDecidable _)
theorem eqF_iff {x y : List S34} : eqF x y = true ↔ x = y := by unfold eqF; exact @decide_eq_true_iff _ (Classical.propDecidable _)
noncomputable def sameF (a b : List S34) : Bool := eqF (plF a) (plF b)
noncomputable def rightF (l : List S34) : Bool := decide (l.length ≤ 400) && eqF (plF l) l
theorem pl_len (l : List S34) : ((plF l).length : Int) ≤ 9223372036854775806 := by have := (good_pl l).n; omega
theorem span_same (a b : List S34) : Ev (fun k => span_Same.f k a b) (sameF a b) := by
  have := (rng_ev (pl_len a) (sameF a b) eqF_iff).2
  exact Ev.congr (f := fun k => api_Range.f k (plF a) (plF b)) (fun k => by show ((api_Range.f k (plF a) (plF b)).bind some) = _; exact bsome _) this
theorem ref_same (a b : List S34) : Ev (fun k => caesuraref01_Same.f k a b) (sameF a b) := by
  have := (rng_ev (pl_len a) (sameF a b) eqF_iff).1
  exact Ev.congr (f := fun k => caesuraref01_Ranges.f k (plF a) (plF b)) (fun k => by show ((caesuraref01_Ranges.f k (plF a) (plF b)).bind some) = _; exact bsome _) this
theorem span_right (l : List S34) : Ev (fun k => span_Right.f k l) (rightF l) := by
  by_cases h : (l.length : Int) ≤ 400
  · refine ev_if h ?_
    unfold rightF
    rw [decide_eq_true (show l.length ≤ 400 by omega), Bool.true_and]
    have := (rng_ev (x := l) (y := plF l) (by omega) (eqF (plF l) l) (by rw [eqF_iff]; exact eq_comm)).2
    exact Ev.congr (f := fun k => api_Range.f k l (plF l)) (fun k => by show ((api_Range.f k l (plF l)).bind some) = _; exact bsome _) this
  · unfold rightF
    rw [decide_eq_false (show ¬ l.length ≤ 400 by omega)]
    exact ev_else h (Ev.now _)
theorem ref_right (l : List S34) : Ev (fun k => caesuraref01_Right.f k l) (rightF l) := by
  by_cases h : (l.length : Int) ≤ 400
  · refine ev_if h ?_
    unfold rightF
    rw [decide_eq_true (show l.length ≤ 400 by omega), Bool.true_and]
    have := (rng_ev (x := plF l) (y := l) (pl_len l) (eqF (plF l) l) eqF_iff).1
    exact Ev.congr (f := fun k => caesuraref01_Ranges.f k (plF l) l) (fun k => by show ((caesuraref01_Ranges.f k (plF l) l).bind some) = _; exact bsome _) this
  · unfold rightF
    rw [decide_eq_false (show ¬ l.length ≤ 400 by omega)]
    exact ev_else h (Ev.now _)
/-! great -/
theorem great_two (a b : List S34) : Ev (fun k => caesuralaw01_great.f k [a, b]) (decide (a.length > 410) || decide (b.length > 410)) := by
  refine Ev.step (g := fun k => caesuralaw01_great.l0 k [a, b] 0) (f := fun k => if (a.length : Int) > 410 then some true else caesuralaw01_great.l0 k [a, b] 1) (fun k => by rw [caesuralaw01_great.l0, if_pos (by simp), if_pos (by omega), w64 (by omega) (by omega)]; rfl) ?_
  by_cases h : (a.length : Int) > 410
  · rw [decide_eq_true (show a.length > 410 by omega)]
    exact ev_if h (Ev.now _)
  rw [decide_eq_false (show ¬ a.length > 410 by omega), Bool.false_or]
  refine ev_else h ?_
  refine Ev.step (f := fun k => if (b.length : Int) > 410 then some true else caesuralaw01_great.l0 k [a, b] 2) (fun k => by rw [caesuralaw01_great.l0, if_pos (by simp), if_pos (by omega), w64 (by omega) (by omega)]; rfl) ?_
  by_cases h : (b.length : Int) > 410
  · rw [decide_eq_true (show b.length > 410 by omega)]
    exact ev_if h (Ev.now _)
  rw [decide_eq_false (show ¬ b.length > 410 by omega)]
  exact ev_else h (Ev.step (f := fun _ => some false) (fun k => by rw [caesuralaw01_great.l0, if_neg (by simp)]) (Ev.now _))
theorem great_three (a b d : List S34) : Ev (fun k => caesuralaw01_great.f k [a, b, d]) (decide (a.length > 410) || decide (b.length > 410) || decide (d.length > 410)) := by
  refine Ev.step (g := fun k => caesuralaw01_great.l0 k [a, b, d] 0) (f := fun k => if (a.length : Int) > 410 then some true else caesuralaw01_great.l0 k [a, b, d] 1) (fun k => by rw [caesuralaw01_great.l0, if_pos (by simp), if_pos (by omega), w64 (by omega) (by omega)]; rfl) ?_
  by_cases h : (a.length : Int) > 410
  · rw [decide_eq_true (show a.length > 410 by omega)]
    exact ev_if h (Ev.now _)
  rw [decide_eq_false (show ¬ a.length > 410 by omega), Bool.false_or]
  refine ev_else h ?_
  refine Ev.step (f := fun k => if (b.length : Int) > 410 then some true else caesuralaw01_great.l0 k [a, b, d] 2) (fun k => by rw [caesuralaw01_great.l0, if_pos (by simp), if_pos (by omega), w64 (by omega) (by omega)]; rfl) ?_
  by_cases h : (b.length : Int) > 410
  · rw [decide_eq_true (show b.length > 410 by omega)]
    exact ev_if h (Ev.now _)
  rw [decide_eq_false (show ¬ b.length > 410 by omega), Bool.false_or]
  refine ev_else h ?_
  refine Ev.step (f := fun k => if (d.length : Int) > 410 then some true else caesuralaw01_great.l0 k [a, b, d] 3) (fun k => by rw [caesuralaw01_great.l0, if_pos (by simp), if_pos (by omega), w64 (by omega) (by omega)]; rfl) ?_
  by_cases h : (d.length : Int) > 410
  · rw [decide_eq_true (show d.length > 410 by omega)]
    exact ev_if h (Ev.now _)
  rw [decide_eq_false (show ¬ d.length > 410 by omega)]
  exact ev_else h (Ev.step (f := fun _ => some false) (fun k => by rw [caesuralaw01_great.l0, if_neg (by simp)]) (Ev.now _))
end Go.Proofs.Ytippkbgeeeimjaa.P
