/- The contract of the reference's Of. -/
import Derived.Test.YtpedenbcfbflbaaYB
import Derived.Test.YtpedenbcfbflbaaPMarkMakesx2
import Derived.Test.YtpedenbcfbflbaaPMarkMakesx4
import Derived.Test.YtpedenbcfbflbaaYA
import Derived.BigQuiet
import Derived.Deep.RegionLaw
import Derived.Deep.DrawnRows
import Derived.Deep.DeepMust
namespace Go.Proofs.Ytpedenbcfbflbaa.X
open Go.RowKit Go.Proofs.YtpedenbcfbflbaaW.PrintWords Go.Proofs.YtpedenbcfbflbaaW.PrintLast Go.Proofs.YtpedenbcfbflbaaW.PrintMore Go.Maps Num Go.Proofs.Ytpedenbcfbflbaa.PMarkMakes
set_option linter.unusedVariables false
set_option linter.unusedSimpArgs false

theorem wrap64_of {n : Int} (h0 : -9223372036854775808 ≤ n) (h1 : n ≤ 9223372036854775807) : wrap64 n = n := by unfold wrap64; omega
def badX (n : Int) (x : Int) : Bool := decide (x < 0) || decide (n ≤ x)

theorem right_l1 (s : Int) (n : List (List Int)) (e : List Bool) (i : Nat) (hi : i < n.length) (hn : n.length ≤ 3000) (hs : s ≤ 400) (hrow : ((n.getD i []).length : Int) = s) (k : Nat) :
    ∀ (m j : Nat), (j : Int) + m = s → caesuraref15_Right.l1 (m + 1 + k) n.length i j s n e = if ((n.getD i []).drop j).any (badX n.length) then some false else caesuraref15_Right.l0 k n.length (i + 1) s n e := by
  intro m
  induction m with
  | zero =>
    intro j hj
    have e1 : (n.getD i []).drop j = [] := List.drop_eq_nil_of_le (by omega)
    rw [e1, show 0 + 1 + k = k + 1 by omega]
    unfold caesuraref15_Right.l1
    rw [if_neg (by omega), wrap64_of (by omega) (by omega)]
    rfl
  | succ m ih =>
    intro j hj
    have hjl : j < (n.getD i []).length := by omega
    rw [List.drop_eq_getElem_cons hjl, List.any_cons, show m + 1 + 1 + k = (m + 1 + k) + 1 by omega]
    unfold caesuraref15_Right.l1
    have er : rd_L1 n (i : Int) = n.getD i [] := by simp [rd_L1]
    have ex : rd (n.getD i []) (j : Int) = (n.getD i [])[j] := by
      simp only [rd, Int.toNat_natCast]
      rw [List.getD_eq_getElem?_getD, List.getElem?_eq_getElem hjl]
      rfl
    rw [if_pos (by omega), if_pos (by omega), if_pos (by omega), if_pos (by omega), er, if_pos (by omega), ex]
    generalize (n.getD i [])[j] = v
    by_cases h1 : v < 0
    · rw [if_pos h1]
      simp [badX, h1]
    · rw [if_neg h1]
      by_cases h2 : v ≥ n.length
      · rw [if_pos h2]
        have : badX n.length v = true := by unfold badX; rw [decide_eq_true (show (n.length : Int) ≤ v from h2)]; simp
        rw [this]
        rfl
      · rw [if_neg h2]
        have : badX n.length v = false := by unfold badX; rw [decide_eq_false h1, decide_eq_false (by omega)]; rfl
        rw [this, Bool.false_or, wrap64_of (by omega) (by omega)]
        have := ih (j + 1) (by omega)
        rw [show ((j + 1 : Nat) : Int) = (j : Int) + 1 by omega] at this
        exact this

def badRow (s n : Int) (l : List Int) : Bool := decide ((l.length : Int) ≠ s) || l.any (badX n)

theorem right_l0 (s : Int) (n : List (List Int)) (e : List Bool) (hn : n.length ≤ 3000) (hs : s ≤ 400) (hs0 : 0 ≤ s) (k : Nat) :
    ∀ (m i : Nat), i + m = n.length → caesuraref15_Right.l0 (m * (s.toNat + 2) + 1 + k) n.length i s n e = some (!((n.drop i).any (badRow s n.length))) := by
  intro m
  induction m with
  | zero =>
    intro i hi
    have e1 : n.drop i = [] := List.drop_eq_nil_of_le (by omega)
    rw [e1, show 0 * (s.toNat + 2) + 1 + k = k + 1 by omega]
    unfold caesuraref15_Right.l0
    rw [if_neg (by omega)]
    rfl
  | succ m ih =>
    intro i hi
    have hil : i < n.length := by omega
    rw [List.drop_eq_getElem_cons hil, List.any_cons, show (m + 1) * (s.toNat + 2) + 1 + k = (s.toNat + 1 + (m * (s.toNat + 2) + 1 + k)) + 1 by rw [Nat.add_mul]; omega]
    unfold caesuraref15_Right.l0
    have er : rd_L1 n (i : Int) = n[i] := by
      simp only [rd_L1, Int.toNat_natCast]
      rw [List.getD_eq_getElem?_getD, List.getElem?_eq_getElem hil]
      rfl
    have er' : n.getD i [] = n[i] := by rw [List.getD_eq_getElem?_getD, List.getElem?_eq_getElem hil]; rfl
    rw [if_pos (by omega), if_pos (by omega), if_pos (by omega), er]
    by_cases hl : ((n[i].length : Nat) : Int) = s
    · rw [if_pos hl]
      have h1 := right_l1 s n e i hil hn hs (by rw [er']; exact hl) (m * (s.toNat + 2) + 1 + k) s.toNat 0 (by omega)
      rw [er', List.drop_zero] at h1
      have h2 := ih (i + 1) (by omega)
      rw [show ((i + 1 : Nat) : Int) = (i : Int) + 1 by omega] at h2
      rw [h2] at h1
      refine Eq.trans h1 ?_
      have hb : badRow s n.length n[i] = n[i].any (badX n.length) := by unfold badRow; rw [decide_eq_false (by simpa using hl)]; rfl
      rw [hb]
      cases n[i].any (badX n.length) <;> simp
    · rw [if_neg hl]
      have hb : badRow s n.length n[i] = true := by unfold badRow; rw [decide_eq_true (by simpa using hl)]; rfl
      rw [hb]
      rfl

/-- The reference's Right: the same. -/
theorem right_f (s : Int) (n : List (List Int)) (e : List Bool) : ∃ k, caesuraref15_Right.f k s n e = some (rightB s n e) := by
  by_cases h1 : s < 1
  · refine ⟨1, ?_⟩
    unfold caesuraref15_Right.f
    rw [if_pos h1]
    simp [caesuraref15_Right.j0, rightB, h1]
  by_cases h2 : s > 400
  · refine ⟨1, ?_⟩
    unfold caesuraref15_Right.f
    rw [if_neg h1, if_pos h2]
    have : 400 < s := h2
    simp [caesuraref15_Right.j0, rightB, this]
  by_cases h3 : (n.length : Int) < 1
  · refine ⟨1, ?_⟩
    unfold caesuraref15_Right.f
    rw [if_neg h1, if_neg h2, if_pos h3]
    have : n.length = 0 := by omega
    simp [caesuraref15_Right.j0, rightB, this]
  by_cases h4 : (n.length : Int) > 3000
  · refine ⟨1, ?_⟩
    unfold caesuraref15_Right.f
    rw [if_neg h1, if_neg h2, if_neg h3, if_pos h4]
    have : 3000 < n.length := by omega
    simp [caesuraref15_Right.j0, rightB, this]
  refine ⟨n.length * (s.toNat + 2) + 1 + 1, ?_⟩
  unfold caesuraref15_Right.f
  rw [if_neg h1, if_neg h2, if_neg h3, if_neg h4]
  have ej : ∀ (k : Nat) (b : Bool), caesuraref15_Right.j0 (k + 1) (n.length : Int) b s n e = if b = true then some false else caesuraref15_Right.l0 k n.length 0 s n e := fun k b => by simp only [caesuraref15_Right.j0]
  rw [ej]
  by_cases h5 : e.length = n.length
  · have e5 : ((e.length : Int) != (n.length : Int)) = false := bne_eq_false_iff_eq.2 (by omega)
    rw [e5, if_neg (by simp)]
    have := right_l0 s n e (by omega) (by omega) (by omega) 0 n.length 0 (by omega)
    rw [List.drop_zero, Nat.add_zero] at this
    refine Eq.trans this ?_
    have hr : rightB s n e = !(n.any (badRow s n.length)) := by
      unfold rightB
      rw [decide_eq_false h1, decide_eq_false (show ¬ 400 < s by omega), decide_eq_false (show ¬ n.length = 0 by omega), decide_eq_false (show ¬ 3000 < n.length by omega), decide_eq_false (show ¬ e.length ≠ n.length by omega)]
      rfl
    rw [hr]
  · have e5 : ((e.length : Int) != (n.length : Int)) = true := bne_iff_ne.2 (by omega)
    rw [e5, if_pos rfl]
    simp [rightB, h5]
/-- The reference's next: the same. -/
theorem next_f (s1 s2 : Int) (n1 n2 : List (List Int)) (e1 e2 : List Bool) (q1 : ∀ r ∈ n1, (r.length : Int) = s1 ∧ ∀ x ∈ r, 0 ≤ x ∧ x < n1.length) (q2 : ∀ r ∈ n2, (r.length : Int) = s1 ∧ ∀ x ∈ r, 0 ≤ x ∧ x < n2.length) (q3 : 0 < n2.length) (q4 : e1.length = n1.length)
    (x : Int × Int) (hx : okM n1.length n2.length x) (s : Nat) (hs : (s : Int) < 2 * s1) (hs4 : s1 ≤ 400) : caesuraref19_next.f 2 s1 n1 e1 s2 n2 e2 x.1 x.2 s = some (nextM n1 e1 n2 x s) := by
  obtain ⟨a, b⟩ := x
  have hd : wrap64 (Int.tdiv (s : Int) 2) = ((s / 2 : Nat) : Int) := by
    rw [Int.tdiv_eq_ediv_of_nonneg (by omega), wrap64_of (by omega) (by omega)]; omega
  have hm : Int.tmod (s : Int) 2 = ((s % 2 : Nat) : Int) := by
    rw [Int.tmod_eq_emod_of_nonneg (by omega)]; omega
  have hh : ((s / 2 : Nat) : Int) < s1 := by omega
  have e0 : ∀ (n : List (List Int)) (i : Int), rd_L1 n i = n.getD i.toNat [] := fun n i => rfl
  have er : ∀ (l : List Int) (i : Nat), rd l (i : Int) = l.getD i 0 := fun l i => by simp [rd]
  by_cases ho : s % 2 = 1
  · have hm1 : (Int.tmod (s : Int) 2 == 1) = true := by rw [hm, ho]; rfl
    unfold caesuraref19_next.f
    rw [hd, hm1]
    by_cases h1 : a = 1
    · subst h1
      obtain ⟨x1, x2⟩ : 0 ≤ b ∧ b < (n1.length : Int) := by
        rcases hx with h | h | h
        · exact ⟨h.2.1, h.2.2⟩
        · exact absurd (show (1 : Int) = 2 from h.1) (by decide)
        · exact absurd (show (1 : Int) = 3 from congrArg Prod.fst h) (by decide)
      obtain ⟨t1, t2⟩ := getD_row q2 0 (by omega) (by omega)
      rw [Int.toNat_zero] at t1
      rw [if_pos (show (1 : Int) ≤ 1 by decide)]
      simp only [caesuraref19_next.j0, caesuraref19_next.j1, Bool.not_true, Bool.false_eq_true, if_false, if_true]
      rw [if_pos x1, if_pos (by omega)]
      have ee : rdOf false e1 b = e1.getD b.toNat false := rfl
      rw [ee]
      unfold nextM
      rw [if_pos ho]
      cases hv : e1.getD b.toNat false with
      | true =>
        rw [if_pos rfl, if_pos (by omega), if_pos (by omega), e0, Int.toNat_zero, if_pos (by omega), er, if_pos ⟨rfl, rfl⟩]
      | false =>
        simp
    · have e : nextM n1 e1 n2 (a, b) s = (3, 0) := by
        unfold nextM
        rw [if_pos ho, if_neg (fun h => h1 h.1)]
      rw [e]
      by_cases h2 : a ≤ 1
      · rw [if_pos h2]
        simp [caesuraref19_next.j0, caesuraref19_next.j1, h1]
      · rw [if_neg h2]
        simp [caesuraref19_next.j0, caesuraref19_next.j1, h1]
  · have hm0 : (Int.tmod (s : Int) 2 == 1) = false := by rw [hm]; exact beq_eq_false_iff_ne.2 (by omega)
    unfold caesuraref19_next.f
    rw [hd, hm0]
    by_cases h1 : a = 0 ∨ a = 1
    · obtain ⟨x1, x2⟩ : 0 ≤ b ∧ b < (n1.length : Int) := by
        rcases hx with h | h | h
        · exact ⟨h.2.1, h.2.2⟩
        · have h2 : a = 2 := h.1
          omega
        · have h2 : a = 3 := congrArg Prod.fst h
          omega
      obtain ⟨t1, t2⟩ := getD_row q1 b x1 x2
      have e : nextM n1 e1 n2 (a, b) s = (1, (n1.getD b.toNat []).getD (s / 2) 0) := by
        unfold nextM
        rw [if_neg ho, if_pos h1]
      rw [e, if_pos (show a ≤ 1 by omega)]
      simp only [caesuraref19_next.j0, Bool.not_false, if_true]
      rw [if_pos x1, if_pos x2, if_pos (by omega), e0, if_pos (by omega), er]
    · have h0 : ¬ a ≤ 1 := by
        rcases hx with h | h | h
        · exact absurd h.1 h1
        · have h2 : a = 2 := h.1
          omega
        · have h2 : a = 3 := congrArg Prod.fst h
          omega
      rw [if_neg h0]
      have ha1 : ¬ a = 1 := fun h => h1 (.inr h)
      simp only [caesuraref19_next.j0, caesuraref19_next.j1, Bool.false_eq_true, if_false]
      rw [if_neg ha1]
      by_cases h2 : a = 2
      · obtain ⟨x1, x2⟩ : 0 ≤ b ∧ b < (n2.length : Int) := by
          rcases hx with h | h | h
          · exact absurd h.1 h1
          · exact ⟨h.2.1, h.2.2⟩
          · have h3 : a = 3 := congrArg Prod.fst h
            omega
        obtain ⟨t1, t2⟩ := getD_row q2 b x1 x2
        have e : nextM n1 e1 n2 (a, b) s = (2, (n2.getD b.toNat []).getD (s / 2) 0) := by
          unfold nextM
          rw [if_neg ho, if_neg h1, if_pos h2]
        rw [e, if_pos h2, if_pos x1, if_pos x2, if_pos (by omega), e0, if_pos (by omega), er]
      · have e : nextM n1 e1 n2 (a, b) s = (3, 0) := by
          unfold nextM
          rw [if_neg ho, if_neg h1, if_neg h2]
        rw [e, if_neg h2]
end Go.Proofs.Ytpedenbcfbflbaa.X
namespace Go.Proofs.Ytpedenbcfbflbaa.X
open Go.RowKit Go.Proofs.YtpedenbcfbflbaaW.PrintWords Go.Proofs.YtpedenbcfbflbaaW.PrintLast Go.Proofs.YtpedenbcfbflbaaW.PrintMore Go.Maps Num
set_option linter.unusedVariables false
set_option linter.unusedSimpArgs false

theorem info58 : (Try.prog.info? 58).map (fun i => (i.zero, i.size, i.bytes)) = some (some (.agg #[.int .i64 0, .int .i64 0]), 2, 16) := by kernel_rfl

/-- A list of states as it stands (the reference's: a row of structs, t their type). -/
def LS (w : World) (t : Nat) (v : Value) (l : List (Int × Int)) (W : World) : Prop := W.ownsRow w.heap.size t 2 v l.length (cells2 l)
section
variable {w W W' : World} {t : Nat} {v : Value} {l : List (Int × Int)}
theorem LS.below (h : LS w t v l W) (hb : Below W.heap.size W W') : LS w t v l W' := pw_own_below h hb
theorem LS.far (h : LS w t v l W) {p : Addr} {cs : Array Value} {q : Nat} (hp : W.heap[p.block]? = some (.cells cs q (0, 0))) (h1 : q ≠ t) (u : Value) : LS w t v l (W.setCell p u) := own_setCell h (own_block_ne h hp (fun e => h1 e.symm)) _
theorem LS.grown (h : LS w t v l W) {base e size n : Nat} {v' : Value} {xs : List Value} (hv : W.ownsRow base e size v' n xs) (hg : W.grownBy W' v'.ownBlock) (h1 : e ≠ t) : LS w t v l W' := own_other h hg (own_type_ne h hv (fun e => h1 e.symm))
theorem LS.form (h : LS w t v l W) (hl : 0 < l.length) : ∃ g cap, v = .slice (some ⟨g, 0, none⟩) l.length cap := by
  obtain ⟨g, cap, he, _, _⟩ := World.ownsRow.form h hl
  exact ⟨g, cap, he⟩
/-- A state where it stands. -/
theorem LS.cells {A : Option Addr} {cp : Nat} (h : LS w t (.slice A l.length cp) l W) (i : Nat) (x : Int × Int) (hx : l[i]? = some x) :
    ∃ g, A = some ⟨g, 0, none⟩ ∧ W.cell? ⟨g, i * 2, none⟩ = some (.int .i64 x.1) ∧ W.cell? ⟨g, i * 2 + 1, none⟩ = some (.int .i64 x.2) := by
  have hlt := (List.getElem?_eq_some_iff.1 hx).1
  obtain ⟨g, cap, he⟩ := h.form (by omega)
  injection he with he _ _
  subst he
  have hget : ∀ (l : List (Int × Int)) (i : Nat) (x : Int × Int), l[i]? = some x → (cells2 l)[i * 2]? = some (.int .i64 x.1) ∧ (cells2 l)[i * 2 + 1]? = some (.int .i64 x.2) := by
    intro l
    induction l with
    | nil => intro i x h; simp at h
    | cons y r ih =>
      intro i x h
      have ec : cells2 (y :: r) = .int .i64 y.1 :: .int .i64 y.2 :: cells2 r := by simp [cells2]
      cases i with
      | zero => simp at h; subst h; simp [ec]
      | succ i =>
        obtain ⟨h1, h2⟩ := ih i x (by simpa using h)
        rw [ec]
        exact ⟨by rw [show (i + 1) * 2 = i * 2 + 1 + 1 by omega]; simpa using h1, by rw [show (i + 1) * 2 + 1 = i * 2 + 1 + 1 + 1 by omega]; simpa using h2⟩
  obtain ⟨h1, h2⟩ := hget l i x hx
  have a1 := World.ownsRow.cells h (g := g) rfl (i * 2) _ h1
  have a2 := World.ownsRow.cells h (g := g) rfl (i * 2 + 1) _ h2
  rw [add_plain] at a1 a2
  exact ⟨g, rfl, by simpa using a1, by simpa using a2⟩
end
/-- Where a search ends. -/
theorem idx_of {l : List (Int × Int)} {y : Int × Int} {j : Nat} (h0 : ∀ i, i < j → l[i]? ≠ some y) (hj : j ≤ l.length) (h1 : l.length ≤ j ∨ l[j]? = some y) : idx l y = j := by
  induction l generalizing j with
  | nil => simp at hj; subst hj; rfl
  | cons z r ih =>
    unfold idx
    by_cases hz : z = y
    · rw [if_pos hz]
      cases j with
      | zero => rfl
      | succ j => exact absurd (by simp [hz]) (h0 0 (by omega))
    · rw [if_neg hz]
      cases j with
      | zero =>
        rcases h1 with h1 | h1
        · simp at h1
        · simp at h1; exact absurd h1 hz
      | succ j =>
        rw [ih (j := j) (fun i hi => by simpa using h0 (i + 1) (by omega)) (by simpa using hj) (by simpa using h1)]
theorem put_in {l : List (Int × Int)} {y : Int × Int} (h : idx l y < l.length) : put l y = l := by
  unfold put; rw [if_pos (idx_lt.1 h)]
theorem put_new {l : List (Int × Int)} {y : Int × Int} (h : idx l y = l.length) : put l y = l ++ [y] := by
  unfold put; rw [if_neg (fun hm => by have := idx_lt.2 hm; omega)]
theorem app_ints {W : World} {base : Nat} {v : Value} {ks : List Int} (q : Int) (h : Kd.R (Kd.int .i64) 3 W base (fun _ => True) v ks) :
    ∃ inner, W.ownsRow base 3 1 v ks.length inner ∧ ∀ v1 w1, w1.ownsRow base 3 1 v1 (ks.length + 1) (inner ++ [.int .i64 q]) → W.grownBy w1 v.ownBlock → (v1.ownBlock = v.ownBlock ∨ ∃ b, v1.ownBlock = some b ∧ W.heap.size ≤ b) →
      Kd.R (Kd.int .i64) 3 w1 base (fun _ => True) v1 (ks ++ [q]) :=
  R_appended' (okp := fun _ => False) (p := q) (cs := [.int .i64 q]) h rfl (fun k hk => hk.elim) (fun _ _ => trivial)
theorem PO.grownRow {w W W' : World} {gd : Nat} {s : Int} {v v1 : Value} {rows : List (List Int)} {ends : List Bool} {base n : Nat} {xs : List Value} (h : PO w gd s (fun k => some k ≠ v.ownBlock) rows ends W) (hown : W.ownsRow base 3 1 v n xs) (hg : W.grownBy W' v.ownBlock)
    (hat : v1.ownBlock = v.ownBlock ∨ ∃ b, v1.ownBlock = some b ∧ W.heap.size ≤ b) : PO w gd s (fun k => some k ≠ v1.ownBlock) rows ends W' := by
  obtain ⟨⟨nv, ev, g1, g2, g3⟩, h4⟩ := h
  refine ⟨⟨nv, ev, blk_grown g1 hg (own_block_ne hown g1 (by decide)), ?_, R_keeps g3 (Keeps.of_grown hown hg) (by decide)⟩, h4⟩
  have h5 := Kd.S_bound g2
  refine Kd.S_mono (Kd.S_move h5 (fun k hk => hg.block k hk.2.2.1 hk.1)) (fun k hk => ?_)
  rcases hat with e | ⟨b, e, hb⟩
  · rw [e]; exact hk.1
  · rw [e]; intro e'; injection e' with e'; have := hk.2.2.1; omega
theorem PO.grownOther {w W W' : World} {gd : Nat} {s : Int} {v : Value} {ok : Nat → Prop} {rows : List (List Int)} {ends : List Bool} {base t size n : Nat} {xs : List Value} (h : PO w gd s ok rows ends W) (hown : W.ownsRow base t size v n xs) (hg : W.grownBy W' v.ownBlock) (ht : ∀ q, q ∈ [3, 4, 25, 33] → q ≠ t) : PO w gd s ok rows ends W' :=
  h.keeps (Keeps.of_grown hown hg) (fun q hq => ⟨ht q hq, ht q hq⟩)
end Go.Proofs.Ytpedenbcfbflbaa.X
namespace Go.Proofs.Ytpedenbcfbflbaa.X
open Go.RowKit Go.Proofs.YtpedenbcfbflbaaW.PrintWords Go.Proofs.YtpedenbcfbflbaaW.PrintLast Go.Proofs.YtpedenbcfbflbaaW.PrintMore Go.Maps Num Go.Proofs.Ytpedenbcfbflbaa.PMarkMakes
set_option linter.unusedVariables false
set_option linter.unusedSimpArgs false

set_option maxHeartbeats 4000000 in
set_option maxRecDepth 100000 in
theorem ref_of (s1 : Int) (A1 : Option Addr) (c1 : Nat) (n1 : List (List Int)) (B1 : Option Addr) (d1 : Nat) (e1 : List Bool) (s2 : Int) (A2 : Option Addr) (c2 : Nat) (n2 : List (List Int)) (B2 : Option Addr) (d2 : Nat) (e2 : List Bool) (most : Int) (w : World)
    (hr1 : Kd.C (Kd.slice 3 (Kd.int .i64)) w A1 n1.length n1) (hc1 : n1.length ≤ c1) (hb1 : Kd.C Kd.bool w B1 e1.length e1) (hd1 : e1.length ≤ d1)
    (hr2 : Kd.C (Kd.slice 3 (Kd.int .i64)) w A2 n2.length n2) (hc2 : n2.length ≤ c2) (hb2 : Kd.C Kd.bool w B2 e2.length e2) (hd2 : e2.length ≤ d2)
    (r1 : Int) (r2 : List (List Int)) (r3 : List Bool) (r4 : Int) (h : markF s1 n1 e1 s2 n2 e2 most = (r1, r2, r3, r4)) :
    Calls Try.prog 15 #[.agg #[.int .i64 s1, .slice A1 n1.length c1, .slice B1 e1.length d1], .agg #[.int .i64 s2, .slice A2 n2.length c2, .slice B2 e2.length d2], .int .i64 most] w
      fun e w' => ∃ v1_ v2_ : Value, e = .returned (.tuple #[.agg #[.int .i64 r1, v1_, v2_], .int .i64 r4]) ∧ Kd.S (Kd.slice 3 (Kd.int .i64)) 33 w' w.heap.size (fun k_ => some k_ ≠ (v2_ : Value).ownBlock) v1_ r2 ∧ Kd.R Kd.bool 4 w' w.heap.size (fun k_ => True) v2_ r3 ∧ Below w.heap.size w w' := by
  have hu25 := Try.underlying25
  have HR1 := Aside0.mk hr1
  have HR2 := Aside0.mk hr2
  have HB1 := Aside0.mk hb1
  have HB2 := Aside0.mk hb2
  have H := Aside0.mk h
  have hca := fun W hr hb => caesuraref15_Right.calls (right_f s1 n1 e1).choose s1 A1 c1 n1 B1 d1 e1 _ W hr hc1 hb hd1 (right_f s1 n1 e1).choose_spec
  have hcb := fun W hr hb => caesuraref15_Right.calls (right_f s2 n2 e2).choose s2 A2 c2 n2 B2 d2 e2 _ W hr hc2 hb hd2 (right_f s2 n2 e2).choose_spec
  have HCA := Aside0.mk hca
  have HCB := Aside0.mk hcb
  clear hr1 hr2 hb1 hb2 h hca hcb
  go_enter Try.func15, Try.ntmps15
  go_upto_region 1 with (fail)
  obtain ⟨W0, hW0⟩ : ∃ W0, W0 = ((w.alloc (.cells #[.int .i64 s1, .slice A1 n1.length c1, .slice B1 e1.length d1] 25)).alloc (.cells #[.int .i64 s2, .slice A2 n2.length c2, .slice B2 e2.length d2] 25)).alloc (.cells #[.int .i64 0, .slice none 0 0, .slice none 0 0] 25) := ⟨_, rfl⟩
  have I0 : Init3 w #[.int .i64 s1, .slice A1 n1.length c1, .slice B1 e1.length d1] #[.int .i64 s2, .slice A2 n2.length c2, .slice B2 e2.length d2] #[.int .i64 0, .slice none 0 0, .slice none 0 0] W0 := by rw [hW0]; exact Init3.start _ _ _ _
  rw [← hW0]
  clear hW0
  go_cut [42] (fun v42 wc => v42 = .bool (markBad s1 n1 e1 s2 n2 e2 most) ∧ Init3 w #[.int .i64 s1, .slice A1 n1.length c1, .slice B1 e1.length d1] #[.int .i64 s2, .slice A2 n2.length c2, .slice B2 e2.length d2] #[.int .i64 0, .slice none 0 0, .slice none 0 0] wc)
  case first =>
    have k0 := I0.a 0
    have k1 := I0.a 1
    have k2 := I0.a 2
    have II := Aside0.mk I0
    clear I0
    cases hq1 : rightB s1 n1 e1 with
    | false =>
      have e : markBad s1 n1 e1 s2 n2 e2 most = true := by simp [markBad, hq1]
      have HE := Aside0.mk e
      have HC := HCA.out W0 (Kd.C_below HR1.out II.out.bel) (Kd.C_below HB1.out II.out.bel)
      rw [hq1] at HC
      clear hq1 e
      go_wp2_with (go_at_call 24; refine HC.mono ?_; rintro e w' ⟨rfl, hb⟩)
      have I1 := Aside0.mk (II.out.below hb)
      go_meet
      case rel => exact ⟨by rw [HE.out], I1.out⟩
    | true =>
      have HC := HCA.out W0 (Kd.C_below HR1.out II.out.bel) (Kd.C_below HB1.out II.out.bel)
      rw [hq1] at HC
      have HQ1 := Aside0.mk hq1
      clear hq1
      go_wp2_with fail
      refine HC.mono ?_
      rintro e Wa ⟨rfl, hb⟩
      clear HC
      have I1 := II.out.below hb
      have k0 := I1.a 0
      have k3 := I1.b 0
      have k4 := I1.b 1
      have k5 := I1.b 2
      have II := Aside0.mk I1
      clear I1 hb k1 k2
      have HC := HCB.out Wa (Kd.C_below HR2.out II.out.bel) (Kd.C_below HB2.out II.out.bel)
      cases hq2 : rightB s2 n2 e2 with
      | false =>
        have e : markBad s1 n1 e1 s2 n2 e2 most = true := by simp [markBad, hq2]
        have HE := Aside0.mk e
        rw [hq2] at HC
        clear hq2 e
        go_wp2_with (go_at_call 24; refine HC.mono ?_; rintro e w' ⟨rfl, hb⟩)
        have I1 := Aside0.mk (II.out.below hb)
        go_meet
        case rel => exact ⟨by rw [HE.out], I1.out⟩
      | true =>
        rw [hq2] at HC
        have HQ2 := Aside0.mk hq2
        clear hq2
        go_wp2_with fail
        refine HC.mono ?_
        rintro e Wb ⟨rfl, hb⟩
        clear HC
        have I1 := II.out.below hb
        have k0 := I1.a 0
        have k3 := I1.b 0
        have II := Aside0.mk I1
        clear I1 hb k4 k5
        by_cases hs : s1 = s2
        · have hsb : (s1 != s2) = false := bne_eq_false_iff_eq.2 hs
          by_cases h0 : 200 < s1
          · have hb0 : decide (200 < s1) = true := decide_eq_true h0
            have HE : Aside0 (markBad s1 n1 e1 s2 n2 e2 most = true) := ⟨by simp [markBad, h0]⟩
            clear hs h0
            go_wp2_with fail
            go_meet
            case rel => exact ⟨by rw [HE.out], II.out⟩
          · have hb0 : decide (200 < s1) = false := decide_eq_false h0
            by_cases h1 : most < 1
            · have hb1 : decide (most < 1) = true := decide_eq_true h1
              have HE : Aside0 (markBad s1 n1 e1 s2 n2 e2 most = true) := ⟨by simp [markBad, h1]⟩
              clear hs h0 h1
              go_wp2_with fail
              go_meet
              case rel => exact ⟨by rw [HE.out], II.out⟩
            · have hb1 : decide (most < 1) = false := decide_eq_false h1
              by_cases h2 : 3000 < most
              · have hb2 : decide (3000 < most) = true := decide_eq_true h2
                have HE : Aside0 (markBad s1 n1 e1 s2 n2 e2 most = true) := ⟨by simp [markBad, h2]⟩
                clear hs h0 h1 h2
                go_wp2_with fail
                go_meet
                case rel => exact ⟨by rw [HE.out], II.out⟩
              · have hb2 : decide (3000 < most) = false := decide_eq_false h2
                have HE : Aside0 (markBad s1 n1 e1 s2 n2 e2 most = false) := ⟨markBad_ok HQ1.out HQ2.out hs h0 h1 h2⟩
                clear hs h0 h1 h2
                go_wp2_with fail
                go_meet
                case rel => exact ⟨by rw [HE.out], II.out⟩
        · have hsb : (s1 != s2) = true := bne_iff_ne.2 hs
          have HE : Aside0 (markBad s1 n1 e1 s2 n2 e2 most = true) := ⟨by simp [markBad, hs]⟩
          clear hs
          go_wp2_with fail
          go_meet
          case rel => exact ⟨by rw [HE.out], II.out⟩
  case rest =>
    obtain ⟨rfl, I1⟩ := hcut
    have k0 := I1.a 0
    have k1 := I1.a 1
    have k2 := I1.a 2
    have k3 := I1.b 0
    have k4 := I1.b 1
    have k5 := I1.b 2
    have k6 := I1.o 0
    have k7 := I1.o 1
    have k8 := I1.o 2
    have m6 := blk_frozen I1.ho 0
    have m7 := blk_frozen I1.ho 1
    have m8 := blk_frozen I1.ho 2
    have II := Aside0.mk I1
    clear I1
    cases hbad : markBad s1 n1 e1 s2 n2 e2 most with
    | true =>
      have e : r1 = 0 ∧ r2 = [] ∧ r3 = [] ∧ r4 = 1 := by
        have := H.out
        simp only [markF, hbad, if_true, Prod.mk.injEq] at this
        exact ⟨this.1.symm, this.2.1.symm, this.2.2.1.symm, this.2.2.2.symm⟩
      obtain ⟨rfl, rfl, rfl, rfl⟩ := e
      clear hbad H HR1 HR2 HB1 HB2 HCA HCB
      go_wp2_with fail
      refine bodyPost_ret (results_ct rfl _ _ (w.heap.size + 1 + 1) 25 #[.int .i64 0, .slice none 0 0, .slice none 0 0] (0, 0) _ rfl (by refine blk_put (cs := #[.int .i64 0, .slice none 0 0, .slice none 0 0]) ?_ 2 _ rfl; refine blk_put (cs := #[.int .i64 0, .slice none 0 0, .slice none 0 0]) ?_ 1 _ rfl; refine blk_put (cs := #[.int .i64 0, .slice none 0 0, .slice none 0 0]) ?_ 0 _ rfl; exact II.out.ho) Try.underlying25 rfl (by kernel_rfl)) rfl ?_
      exact ⟨_, _, rfl, Kd.S_nil _ _ _ _ _, Kd.R_nil _ _ _ _ _, below_put3 II.out.bel (by omega) _ _ _⟩
    | false =>
      obtain ⟨q1, q2, q3, q6, q4, q5⟩ := markBad_inv hbad
      subst q3
      have HH : Aside0 (markRes (2 * s1) e2 (table (nextM n1 e1 n2) (2 * s1).toNat most.toNat (most.toNat + 1) 0 [(0, 0)]) = (r1, r2, r3, r4)) := ⟨by
        have := H.out
        unfold markF at this
        rw [hbad] at this
        simpa using this⟩
      have R1 := Aside0.mk (rightB_spec q1)
      have R2 := Aside0.mk (rightB_spec q2)
      obtain ⟨T, hT⟩ : ∃ T, T = table (nextM n1 e1 n2) (2 * s1).toNat most.toNat (most.toNat + 1) 0 [(0, 0)] := ⟨_, rfl⟩
      rw [← hT] at HH
      have TS := Aside0.mk (hT ▸ TEq.start (f := nextM n1 e1 n2) (sg := (2 * s1).toNat) (mo := most.toNat) (x0 := (0, 0)) (by omega))
      have BS : Aside0 (BdM n1.length n2.length [(0, 0)]) := ⟨fun x hx => by
        rw [List.mem_singleton] at hx; subst hx
        have := R1.out.2.2.1
        exact .inl ⟨.inl rfl, by simp, by simp; omega⟩⟩
      have hmst : most ≤ 3000 := q5
      have hmst1 : 1 ≤ most := q4
      have hs0 := R1.out.1
      obtain ⟨sg, hsg⟩ : ∃ sg, sg = 2 * s1 := ⟨_, rfl⟩
      have hwr : IntKind.i64.wrap (2 * s1) = sg := by rw [hsg, IntKind.wrap_i64]; omega
      have hsg4 : sg ≤ 400 := by omega
      have hsg2 : 2 ≤ sg := by omega
      rw [← hsg] at HH TS
      have HSG := Aside0.mk hsg
      have k0 : ∀ o, (wc.alloc o).cell? ⟨w.heap.size, 0, none⟩ = some (.int .i64 s1) := fun o => (blk_cell (blk_alloc II.out.ha o) 0).trans rfl
      clear hsg
      clear k1 k2 k3 k4 k5 k6 k7 k8 m6 m7 m8 H hT q1 q2 q4 q5 q6 hbad HCA HCB I0
      go_wp2_with fail
      obtain ⟨gd, hgd⟩ : ∃ gd, gd = wc.heap.size + 1 := ⟨_, rfl⟩
      obtain ⟨Wl, hWl⟩ : ∃ Wl, Wl = (wc.alloc (.cells #[.int .i64 0, .int .i64 0] 58)).alloc (.cells #[.int .i64 sg, .slice none 0 0, .slice none 0 0] 25) := ⟨_, rfl⟩
      have IIa := II.out.below (below_alloc (Below.refl _ _) (.cells #[.int .i64 0, .int .i64 0] 58))
      have IW0 := Aside0.mk (IIa.below (below_alloc (Below.refl _ _) (.cells #[.int .i64 sg, .slice none 0 0, .slice none 0 0] 25)))
      have OW0 : Aside0 (PO w gd sg (fun _ => True) [] [] Wl) := ⟨by
        have := PO.start (s := sg) IIa
        rw [hWl, hgd]
        simpa using this⟩
      have LW0 : Aside0 (LS w 58 (.slice (some ⟨wc.heap.size, 0, none⟩) 1 1) [(0, 0)] Wl) := ⟨by
        rw [hWl]
        refine LS.below (W := wc.alloc (.cells #[.int .i64 0, .int .i64 0] 58)) ?_ (below_alloc (Below.refl _ _) _)
        have h1 := World.ownsRow_lit (base := w.heap.size) (e := 58) (size := 2) wc #[.int .i64 0, .int .i64 0] 1 II.out.bel.size (by decide) rfl
        simpa [LS, cells2] using h1⟩
      rw [← hWl, ← hgd]
      rw [← hWl] at IW0
      clear IIa II k0 hwr hWl hgd
      go_loopg [8, 10] (most.toNat + 1) (fun kq v8 v10 W => ∃ (l : List (Int × Int)) (rows : List (List Int)) (A : Option Addr) (cp : Nat), v8 = .slice A l.length cp ∧ v10 = .int .i64 rows.length ∧ Aside0 (Init3 w #[.int .i64 s1, .slice A1 n1.length c1, .slice B1 e1.length d1] #[.int .i64 s1, .slice A2 n2.length c2, .slice B2 e2.length d2] #[.int .i64 0, .slice none 0 0, .slice none 0 0] W) ∧
        Aside0 (LS w 58 (.slice A l.length cp) l W) ∧ Aside0 (PO w gd sg (fun _ => True) rows ((l.take rows.length).map (endM e2)) W) ∧ Aside0 (TEq (nextM n1 e1 n2) sg.toNat most.toNat T kq l rows) ∧ Aside0 (BdM n1.length n2.length l))
      case atStart => exact ⟨[(0, 0)], [], _, _, rfl, rfl, IW0, LW0, by simpa using OW0, TS, BS⟩
      case round =>
        clear IW0 LW0 OW0 TS BS
        obtain ⟨l, rows, LA, lc, rfl, rfl, II, LL, OO, TE, BD⟩ := hrel
        have hge := OO.out.ge
        have hll : l.length ≤ 3000 := by have := TE.out.2.1; omega
        by_cases hlt : rows.length < l.length
        · have hltb : decide ((rows.length : Int) < (l.length : Int)) = true := decide_eq_true (by omega)
          obtain ⟨x, hx⟩ : ∃ x, l[rows.length]? = some x := ⟨_, List.getElem?_eq_getElem hlt⟩
          obtain ⟨K, rfl, RE0⟩ := TE.out.into hx
          have HX := Aside0.mk hx
          have REa := Aside0.mk RE0
          have HXB := Aside0.mk (BD.out x (List.mem_of_getElem? hx))
          have hlt0 : (rows.length : Int) < (l.length : Int) := by omega
          have OO2 : Aside0 (PO w gd sg (fun k => some k ≠ (.slice none 0 0 : Value).ownBlock) rows ((l.take rows.length).map (endM e2)) wr) := ⟨OO.out.mono (fun k _ => by simp [Value.ownBlock])⟩
          have NX2 : Aside0 (Kd.R (Kd.int .i64) 3 wr w.heap.size (fun _ => True) (.slice none 0 0) ([] : List Int)) := ⟨Kd.R_nil _ _ _ _ _⟩
          clear hx RE0 OO
          go_upto_region 10 with (fail)
          go_loopg [8, 11, 12] sg.toNat (fun kq v8 v11 v12 W => ∃ (l2 : List (Int × Int)) (ks : List Int) (A : Option Addr) (cp : Nat), v8 = .slice A l2.length cp ∧ v12 = .int .i64 ks.length ∧ Aside0 (Init3 w #[.int .i64 s1, .slice A1 n1.length c1, .slice B1 e1.length d1] #[.int .i64 s1, .slice A2 n2.length c2, .slice B2 e2.length d2] #[.int .i64 0, .slice none 0 0, .slice none 0 0] W) ∧
            Aside0 (LS w 58 (.slice A l2.length cp) l2 W) ∧ Aside0 (PO w gd sg (fun k => some k ≠ v11.ownBlock) rows ((l.take rows.length).map (endM e2)) W) ∧ Aside0 (Kd.R (Kd.int .i64) 3 W w.heap.size (fun _ => True) v11 ks) ∧ Aside0 (REq (nextM n1 e1 n2) sg.toNat most.toNat T K rows l x kq l2 ks) ∧ Aside0 (BdM n1.length n2.length l2))
          case atStart => exact ⟨l, [], _, _, rfl, rfl, II, LL, OO2, NX2, REa, BD⟩
          case round =>
            clear II LL OO2 NX2 REa BD
            obtain ⟨l2, ks, MA, mc, rfl, rfl, II, LL, OO, NX, RE, BD⟩ := hrel
            have o0 : wr.cell? ⟨gd, 0, none⟩ = some (.int .i64 sg) := by
              obtain ⟨⟨nv, ev, hob, _, _⟩, _⟩ := OO.out
              exact (blk_cell hob 0).trans rfl
            have hll2 : l2.length ≤ 3000 := by have := RE.out.2.1; omega
            have hkl : ks.length ≤ 400 := by have := RE.out.1; omega
            obtain ⟨hx2, hlt2⟩ : l2[rows.length]? = some x ∧ rows.length < l2.length := by
              obtain ⟨t, ht⟩ := RE.out.2.2.1
              rw [← ht, List.getElem?_append_left hlt, List.length_append]
              exact ⟨HX.out, by omega⟩
            obtain ⟨lg, rfl, _, _⟩ := LL.out.cells rows.length x hx2
            have HX2 := Aside0.mk hx2
            have hlt3 : (rows.length : Int) < (l2.length : Int) := by omega
            clear hx2
            by_cases hs : (ks.length : Int) < sg
            · have hsb : decide ((ks.length : Int) < sg) = true := decide_eq_true hs
              have hdb : Below wr.heap.size wr wr.drew := below_drew (Below.refl _ _)
              have ID := Aside0.mk (II.out.below hdb)
              have LD := Aside0.mk (LL.out.below hdb)
              have OD := Aside0.mk (OO.out.below hdb)
              have ND := Aside0.mk (Kd.R_below NX.out hdb)
              have SIX : Aside0 (∀ W : World, Init3 w #[.int .i64 s1, .slice A1 n1.length c1, .slice B1 e1.length d1] #[.int .i64 s1, .slice A2 n2.length c2, .slice B2 e2.length d2] #[.int .i64 0, .slice none 0 0, .slice none 0 0] W → LS w 58 (.slice (some ⟨lg, 0, none⟩) l2.length mc) l2 W →
                W.cell? ⟨w.heap.size, 0, none⟩ = some (.int .i64 s1) ∧ W.cell? ⟨w.heap.size, 1, none⟩ = some (.slice A1 n1.length c1) ∧ W.cell? ⟨w.heap.size, 2, none⟩ = some (.slice B1 e1.length d1) ∧ W.cell? ⟨w.heap.size + 1, 0, none⟩ = some (.int .i64 s1) ∧ W.cell? ⟨w.heap.size + 1, 1, none⟩ = some (.slice A2 n2.length c2) ∧ W.cell? ⟨w.heap.size + 1, 2, none⟩ = some (.slice B2 e2.length d2) ∧
                W.cell? ⟨lg, rows.length * 2, none⟩ = some (.int .i64 x.1) ∧ W.cell? ⟨lg, rows.length * 2 + 1, none⟩ = some (.int .i64 x.2)) := ⟨fun W I L => by
                  obtain ⟨g, e, h1, h2⟩ := L.cells rows.length x HX2.out
                  injection e with e
                  injection e with e
                  subst e
                  exact ⟨(I.a 0).trans rfl, (I.a 1).trans rfl, (I.a 2).trans rfl, (I.b 0).trans rfl, (I.b 1).trans rfl, (I.b 2).trans rfl, h1, h2⟩⟩
              have hss : (ks.length : Int) < 2 * s1 := by rw [← HSG.out]; exact hs
              obtain ⟨y, hy⟩ : ∃ y, nextM n1 e1 n2 x ks.length = y := ⟨_, rfl⟩
              have NF := Aside0.mk ((next_f s1 s1 n1 n2 e1 e2 R1.out.2.2.2.2.2 R2.out.2.2.2.2.2 R2.out.2.2.1 R1.out.2.2.2.2.1 x HXB.out ks.length hss R1.out.2.1).trans (by rw [hy]))
              have hoy : okM n1.length n2.length y := hy ▸ nextM_ok R1.out.2.2.2.2.2 R2.out.2.2.2.2.2 R2.out.2.2.1 HXB.out hss
              have HOY := Aside0.mk hoy
              have HY := Aside0.mk hy
              clear hoy hy hss II LL OO NX hdb
              go_upto_region 12 with (fail)
              -- REGION 12 BEGIN
              refine start_ (n := 10) (S := fun w' => w'.cell? ⟨w.heap.size, 0, none⟩ = some (.int .i64 s1) ∧ w'.cell? ⟨w.heap.size, 1, none⟩ = some (.slice A1 n1.length c1) ∧ w'.cell? ⟨w.heap.size, 2, none⟩ = some (.slice B1 e1.length d1) ∧ w'.cell? ⟨w.heap.size + 1, 0, none⟩ = some (.int .i64 s1) ∧ w'.cell? ⟨w.heap.size + 1, 1, none⟩ = some (.slice A2 n2.length c2) ∧ w'.cell? ⟨w.heap.size + 1, 2, none⟩ = some (.slice B2 e2.length d2) ∧ w'.cell? ⟨lg, rows.length * 2, none⟩ = some (.int .i64 x.1) ∧ w'.cell? ⟨lg, rows.length * 2 + 1, none⟩ = some (.int .i64 x.2)) (ds := [9]) #[false, false, false, false, false, false, false, false, false, false] (by kernel_rfl) rfl rfl ⟨(SIX.out _ ID.out LD.out).1, (SIX.out _ ID.out LD.out).2.1, (SIX.out _ ID.out LD.out).2.2.1, (SIX.out _ ID.out LD.out).2.2.2.1, (SIX.out _ ID.out LD.out).2.2.2.2.1, (SIX.out _ ID.out LD.out).2.2.2.2.2.1, (SIX.out _ ID.out LD.out).2.2.2.2.2.2.1, (SIX.out _ ID.out LD.out).2.2.2.2.2.2.2⟩ (fun hHeld => ?_)
              generalize wr.drew = Wd at ID LD OD ND hHeld ⊢
              have QQ : Aside0 (Below Wd.heap.size Wd Wd) := ⟨Below.refl _ _⟩
              refine pure_ (i := 2) (N := some 64) (v := ?_) (a' := ?_) #[false, false, true, false, false, false, false, false, false, false] rfl rfl (by kernel_rfl) (fun _ _ _ h => h) (Or.inl ⟨by rfl, ?_⟩) ?_ ?_
              rotate_left
              · intro w'
                go_simp
                with_reducible rfl
              rotate_left
              · simp only [Act.put, List.setIfInBounds_toArray, List.set_cons_zero, List.set_cons_succ, i64_w, i32_w]
                rfl
              refine pure_ (i := 3) (N := some 65) (v := ?_) (a' := ?_) #[false, false, true, true, false, false, false, false, false, false] rfl rfl (by kernel_rfl) (fun _ _ _ h => h) (Or.inl ⟨by rfl, ?_⟩) ?_ ?_
              rotate_left
              · intro w'
                go_simp
                with_reducible rfl
              rotate_left
              · simp only [Act.put, List.setIfInBounds_toArray, List.set_cons_zero, List.set_cons_succ, i64_w, i32_w]
                rfl
              refine pure_ (i := 4) (N := some 66) (v := ?_) (a' := ?_) #[false, false, true, true, true, false, false, false, false, false] rfl rfl (by kernel_rfl) (fun _ _ _ h => h) (Or.inl ⟨by rfl, ?_⟩) ?_ ?_
              rotate_left
              · intro w'
                go_simp
                with_reducible rfl
              rotate_left
              · simp only [Act.put, List.setIfInBounds_toArray, List.set_cons_zero, List.set_cons_succ, i64_w, i32_w]
                rfl
              refine pure_ (i := 6) (N := some 68) (v := ?_) (a' := ?_) #[false, false, true, true, true, false, true, false, false, false] rfl rfl (by kernel_rfl) (fun _ _ _ h => h) (Or.inl ⟨by rfl, ?_⟩) ?_ ?_
              rotate_left
              · intro w'
                go_simp
                with_reducible rfl
              rotate_left
              · simp only [Act.put, List.setIfInBounds_toArray, List.set_cons_zero, List.set_cons_succ, i64_w, i32_w]
                rfl
              refine take_ (i := 0) (N := some 62) (v := ?_) (a' := ?_) #[true, false, true, true, true, false, true, false, false, false] rfl rfl (by kernel_rfl) (fun _ _ _ h => h) (Or.inl ⟨by rfl, ?_⟩) hHeld ?_ ?_
              rotate_left
              · rintro w' ⟨s0, s1, s2, s3, s4, s5, s6, s7⟩
                go_simp
                with_reducible rfl
              rotate_left
              · simp only [Act.put, List.setIfInBounds_toArray, List.set_cons_zero, List.set_cons_succ, i64_w, i32_w]
                rfl
              refine take_ (i := 1) (N := some 63) (v := ?_) (a' := ?_) #[true, true, true, true, true, false, true, false, false, false] rfl rfl (by kernel_rfl) (fun _ _ _ h => h) (Or.inl ⟨by rfl, ?_⟩) hHeld ?_ ?_
              rotate_left
              · rintro w' ⟨s0, s1, s2, s3, s4, s5, s6, s7⟩
                go_simp
                with_reducible rfl
              rotate_left
              · simp only [Act.put, List.setIfInBounds_toArray, List.set_cons_zero, List.set_cons_succ, i64_w, i32_w]
                rfl
              refine take_ (i := 5) (N := some 67) (v := ?_) (a' := ?_) #[true, true, true, true, true, true, true, false, false, false] rfl rfl (by kernel_rfl) (fun _ _ _ h => h) (Or.inl ⟨by rfl, ?_⟩) hHeld ?_ ?_
              rotate_left
              · rintro w' ⟨s0, s1, s2, s3, s4, s5, s6, s7⟩
                go_simp
                with_reducible rfl
              rotate_left
              · simp only [Act.put, List.setIfInBounds_toArray, List.set_cons_zero, List.set_cons_succ, i64_w, i32_w]
                rfl
              refine join_ (σ := Nat) 1 #[true, true, true, true, true, true, true, true, true, false] (fun s_ => [(69, .agg #[.int .i64 y.1, .int .i64 y.2]), (13, .pointer (some ⟨s_, 0, none⟩))]) (fun s_ w' => Below Wd.heap.size Wd w' ∧ w'.heap[s_]? = some (.cells #[.int .i64 0, .int .i64 0] 58 (0, 0)) ∧ Wd.heap.size ≤ s_) ?_ ?_
              rotate_left
              · intro hCont
                refine two_ (i := 7) (j := 8) (Ni := some 69) (Nj := some 13) #[true, true, true, true, true, true, true, true, false, false] #[true, true, true, true, true, true, true, false, true, false] rfl rfl rfl rfl (by kernel_rfl) (by decide) (by decide) (fun K hK => ?_) (fun K hK => ?_)
                · skip
                  refine goes_ Try.func47 (by kernel_rfl) rfl #[.agg #[.int .i64 s1, .slice A1 n1.length c1, .slice B1 e1.length d1], .agg #[.int .i64 s1, .slice A2 n2.length c2, .slice B2 e2.length d2], .agg #[.int .i64 x.1, .int .i64 x.2], .int .i64 ks.length] (by rfl) rfl rfl (by simp only [List.map_toArray, List.map_cons, List.map_nil]; rfl) ?_
                  with_reducible refine ((caesuraref19_next.calls 2 s1 A1 c1 n1 B1 d1 e1 s1 A2 c2 n2 B2 d2 e2 x.1 x.2 ks.length y.1 y.2 Wd (Kd.C_below HR1.out (ID.out.below QQ.out).bel) hc1 (Kd.C_below HB1.out (ID.out.below QQ.out).bel) hd1 (Kd.C_below HR2.out (ID.out.below QQ.out).bel) hc2 (Kd.C_below HB2.out (ID.out.below QQ.out).bel) hd2 NF.out)).mono ?_
                  rintro e We1 ⟨rfl, hb_⟩
                  refine ⟨_, rfl, ?_⟩
                  have m_ := QQ.out.trans (hb_.mono QQ.out.size)
                  clear hb_ QQ
                  have QQ := Aside0.mk m_
                  clear m_
                  refine hK.out _ _ ⟨(SIX.out _ (ID.out.below QQ.out) (LD.out.below QQ.out)).1, (SIX.out _ (ID.out.below QQ.out) (LD.out.below QQ.out)).2.1, (SIX.out _ (ID.out.below QQ.out) (LD.out.below QQ.out)).2.2.1, (SIX.out _ (ID.out.below QQ.out) (LD.out.below QQ.out)).2.2.2.1, (SIX.out _ (ID.out.below QQ.out) (LD.out.below QQ.out)).2.2.2.2.1, (SIX.out _ (ID.out.below QQ.out) (LD.out.below QQ.out)).2.2.2.2.2.1, (SIX.out _ (ID.out.below QQ.out) (LD.out.below QQ.out)).2.2.2.2.2.2.1, (SIX.out _ (ID.out.below QQ.out) (LD.out.below QQ.out)).2.2.2.2.2.2.2⟩ (fun hHeld => ?_)
                  clear hK K
                  refine norm_ (a' := ?_) ?_ ?_
                  rotate_left
                  · show Act.put _ (some 69) _ = _
                    simp only [Act.put, List.setIfInBounds_toArray, List.set_cons_zero, List.set_cons_succ, i64_w, i32_w]
                    rfl
                  refine one_ (i := 8) (N := some 13) #[true, true, true, true, true, true, true, true, true, false] rfl rfl (by kernel_rfl) (by decide) (fun K hK => ?_)
                  refine value_ (w1 := ?_) (v := ?_) (by rfl) rfl ?_ ?_
                  rotate_left 2
                  · go_simp
                    constructor
                    · rfl
                    · rfl
                  have m_ := below_alloc QQ.out (.cells #[.int .i64 0, .int .i64 0] 58)
                  have b_ := blk_new We1 (.cells #[.int .i64 0, .int .i64 0] 58)
                  obtain ⟨gt, hz_⟩ : ∃ z_, z_ = We1.heap.size := ⟨_, rfl⟩
                  have g_ : Wd.heap.size ≤ gt := by rw [hz_]; exact QQ.out.size
                  rw [← hz_] at b_ ⊢
                  generalize We1.alloc (.cells #[.int .i64 0, .int .i64 0] 58) = We2 at m_ b_ ⊢
                  clear hz_ QQ
                  have QQ := Aside0.mk m_
                  have QB := Aside0.mk b_
                  have QG := Aside0.mk g_
                  clear m_ b_ g_
                  refine hK.out _ _ ⟨(SIX.out _ (ID.out.below QQ.out) (LD.out.below QQ.out)).1, (SIX.out _ (ID.out.below QQ.out) (LD.out.below QQ.out)).2.1, (SIX.out _ (ID.out.below QQ.out) (LD.out.below QQ.out)).2.2.1, (SIX.out _ (ID.out.below QQ.out) (LD.out.below QQ.out)).2.2.2.1, (SIX.out _ (ID.out.below QQ.out) (LD.out.below QQ.out)).2.2.2.2.1, (SIX.out _ (ID.out.below QQ.out) (LD.out.below QQ.out)).2.2.2.2.2.1, (SIX.out _ (ID.out.below QQ.out) (LD.out.below QQ.out)).2.2.2.2.2.2.1, (SIX.out _ (ID.out.below QQ.out) (LD.out.below QQ.out)).2.2.2.2.2.2.2⟩ (fun hHeld => ?_)
                  clear hK K
                  refine norm_ (a' := ?_) ?_ ?_
                  rotate_left
                  · show Act.put _ (some 13) _ = _
                    simp only [Act.put, List.setIfInBounds_toArray, List.set_cons_zero, List.set_cons_succ, i64_w, i32_w]
                    rfl
                  exact norm_ (by simp only [putAll, Act.put, List.setIfInBounds_toArray, List.set_cons_zero, List.set_cons_succ]) (hCont gt _ ⟨QQ.out, QB.out, QG.out⟩)
                · skip
                  refine value_ (w1 := ?_) (v := ?_) (by rfl) rfl ?_ ?_
                  rotate_left 2
                  · go_simp
                    constructor
                    · rfl
                    · rfl
                  have m_ := below_alloc QQ.out (.cells #[.int .i64 0, .int .i64 0] 58)
                  have b_ := blk_new Wd (.cells #[.int .i64 0, .int .i64 0] 58)
                  obtain ⟨gt, hz_⟩ : ∃ z_, z_ = Wd.heap.size := ⟨_, rfl⟩
                  have g_ : Wd.heap.size ≤ gt := by rw [hz_]; exact QQ.out.size
                  rw [← hz_] at b_ ⊢
                  generalize Wd.alloc (.cells #[.int .i64 0, .int .i64 0] 58) = We1 at m_ b_ ⊢
                  clear hz_ QQ
                  have QQ := Aside0.mk m_
                  have QB := Aside0.mk b_
                  have QG := Aside0.mk g_
                  clear m_ b_ g_
                  refine hK.out _ _ ⟨(SIX.out _ (ID.out.below QQ.out) (LD.out.below QQ.out)).1, (SIX.out _ (ID.out.below QQ.out) (LD.out.below QQ.out)).2.1, (SIX.out _ (ID.out.below QQ.out) (LD.out.below QQ.out)).2.2.1, (SIX.out _ (ID.out.below QQ.out) (LD.out.below QQ.out)).2.2.2.1, (SIX.out _ (ID.out.below QQ.out) (LD.out.below QQ.out)).2.2.2.2.1, (SIX.out _ (ID.out.below QQ.out) (LD.out.below QQ.out)).2.2.2.2.2.1, (SIX.out _ (ID.out.below QQ.out) (LD.out.below QQ.out)).2.2.2.2.2.2.1, (SIX.out _ (ID.out.below QQ.out) (LD.out.below QQ.out)).2.2.2.2.2.2.2⟩ (fun hHeld => ?_)
                  clear hK K
                  refine norm_ (a' := ?_) ?_ ?_
                  rotate_left
                  · show Act.put _ (some 13) _ = _
                    simp only [Act.put, List.setIfInBounds_toArray, List.set_cons_zero, List.set_cons_succ, i64_w, i32_w]
                    rfl
                  refine one_ (i := 7) (N := some 69) #[true, true, true, true, true, true, true, true, true, false] rfl rfl (by kernel_rfl) (by decide) (fun K hK => ?_)
                  refine goes_ Try.func47 (by kernel_rfl) rfl #[.agg #[.int .i64 s1, .slice A1 n1.length c1, .slice B1 e1.length d1], .agg #[.int .i64 s1, .slice A2 n2.length c2, .slice B2 e2.length d2], .agg #[.int .i64 x.1, .int .i64 x.2], .int .i64 ks.length] (by rfl) rfl rfl (by simp only [List.map_toArray, List.map_cons, List.map_nil]; rfl) ?_
                  with_reducible refine ((caesuraref19_next.calls 2 s1 A1 c1 n1 B1 d1 e1 s1 A2 c2 n2 B2 d2 e2 x.1 x.2 ks.length y.1 y.2 We1 (Kd.C_below HR1.out (ID.out.below QQ.out).bel) hc1 (Kd.C_below HB1.out (ID.out.below QQ.out).bel) hd1 (Kd.C_below HR2.out (ID.out.below QQ.out).bel) hc2 (Kd.C_below HB2.out (ID.out.below QQ.out).bel) hd2 NF.out)).mono ?_
                  rintro e We2 ⟨rfl, hb_⟩
                  refine ⟨_, rfl, ?_⟩
                  have m_ := QQ.out.trans (hb_.mono QQ.out.size)
                  have b_ := blk_below QB.out hb_
                  clear QB
                  have QB := Aside0.mk b_
                  clear b_
                  clear hb_ QQ
                  have QQ := Aside0.mk m_
                  clear m_
                  refine hK.out _ _ ⟨(SIX.out _ (ID.out.below QQ.out) (LD.out.below QQ.out)).1, (SIX.out _ (ID.out.below QQ.out) (LD.out.below QQ.out)).2.1, (SIX.out _ (ID.out.below QQ.out) (LD.out.below QQ.out)).2.2.1, (SIX.out _ (ID.out.below QQ.out) (LD.out.below QQ.out)).2.2.2.1, (SIX.out _ (ID.out.below QQ.out) (LD.out.below QQ.out)).2.2.2.2.1, (SIX.out _ (ID.out.below QQ.out) (LD.out.below QQ.out)).2.2.2.2.2.1, (SIX.out _ (ID.out.below QQ.out) (LD.out.below QQ.out)).2.2.2.2.2.2.1, (SIX.out _ (ID.out.below QQ.out) (LD.out.below QQ.out)).2.2.2.2.2.2.2⟩ (fun hHeld => ?_)
                  clear hK K
                  refine norm_ (a' := ?_) ?_ ?_
                  rotate_left
                  · show Act.put _ (some 69) _ = _
                    simp only [Act.put, List.setIfInBounds_toArray, List.set_cons_zero, List.set_cons_succ, i64_w, i32_w]
                    rfl
                  exact norm_ (by simp only [putAll, Act.put, List.setIfInBounds_toArray, List.set_cons_zero, List.set_cons_succ]) (hCont gt _ ⟨QQ.out, QB.out, QG.out⟩)
              rintro gt Wf ⟨qq_, qb_, qg_⟩
              clear QQ
              have QQ := Aside0.mk qq_
              have QB := Aside0.mk qb_
              have QG := Aside0.mk qg_
              have c0_ := (blk_cell qb_ 0).trans rfl
              have c1_ := (blk_cell qb_ 1).trans rfl
              have f0_ := blk_frozen qb_ 0
              have f1_ := blk_frozen qb_ 1
              clear qq_ qb_ qg_
              have hHeld : Wf.cell? ⟨w.heap.size, 0, none⟩ = some (.int .i64 s1) ∧ Wf.cell? ⟨w.heap.size, 1, none⟩ = some (.slice A1 n1.length c1) ∧ Wf.cell? ⟨w.heap.size, 2, none⟩ = some (.slice B1 e1.length d1) ∧ Wf.cell? ⟨w.heap.size + 1, 0, none⟩ = some (.int .i64 s1) ∧ Wf.cell? ⟨w.heap.size + 1, 1, none⟩ = some (.slice A2 n2.length c2) ∧ Wf.cell? ⟨w.heap.size + 1, 2, none⟩ = some (.slice B2 e2.length d2) ∧ Wf.cell? ⟨lg, rows.length * 2, none⟩ = some (.int .i64 x.1) ∧ Wf.cell? ⟨lg, rows.length * 2 + 1, none⟩ = some (.int .i64 x.2) := ⟨(SIX.out _ (ID.out.below QQ.out) (LD.out.below QQ.out)).1, (SIX.out _ (ID.out.below QQ.out) (LD.out.below QQ.out)).2.1, (SIX.out _ (ID.out.below QQ.out) (LD.out.below QQ.out)).2.2.1, (SIX.out _ (ID.out.below QQ.out) (LD.out.below QQ.out)).2.2.2.1, (SIX.out _ (ID.out.below QQ.out) (LD.out.below QQ.out)).2.2.2.2.1, (SIX.out _ (ID.out.below QQ.out) (LD.out.below QQ.out)).2.2.2.2.2.1, (SIX.out _ (ID.out.below QQ.out) (LD.out.below QQ.out)).2.2.2.2.2.2.1, (SIX.out _ (ID.out.below QQ.out) (LD.out.below QQ.out)).2.2.2.2.2.2.2⟩
              refine norm_ (a' := ?_) ?_ ?_
              rotate_left
              · simp only [putAll, Act.put, List.setIfInBounds_toArray, List.set_cons_zero, List.set_cons_succ]
                rfl
              refine last_ (i := 9) (N := none) #[true, true, true, true, true, true, true, true, true, true] rfl rfl (by kernel_rfl) (by decide) (fun K hK => ?_)
              refine skip_ (w1 := ?_) (by rfl) rfl ?_ ?_
              rotate_left
              · go_simp
                rfl
              refine hK.out _ _ ?_
              clear hK K
              refine done_ (by kernel_rfl) ?_
              -- REGION 12 END
              obtain ⟨Wt, hWt⟩ : ∃ Wt, Wt = (Wf.setCell ⟨gt, 0, none⟩ (.int .i64 y.1)).setCell ⟨gt, 1, none⟩ (.int .i64 y.2) := ⟨_, rfl⟩
              rw [← hWt]
              have hbt : Below Wd.heap.size Wd Wt := by rw [hWt]; exact (QQ.out.setCell (p := ⟨gt, 0, none⟩) QG.out _).setCell (p := ⟨gt, 1, none⟩) QG.out _
              have TB : Aside0 (Wt.heap[gt]? = some (.cells #[.int .i64 y.1, .int .i64 y.2] 58 (0, 0))) := ⟨by rw [hWt]; exact blk_put (blk_put QB.out 0 _ rfl) 1 _ rfl⟩
              have IT := Aside0.mk (ID.out.below hbt)
              have LT := Aside0.mk (LD.out.below hbt)
              have OT := Aside0.mk (OD.out.below hbt)
              have NT := Aside0.mk (Kd.R_below ND.out hbt)
              clear c0_ c1_ f0_ f1_ hWt hbt QQ QB QG ID LD OD ND SIX o0
              go_wp2_with fail
              go_loopg [14] (l2.length + 1) (fun kq v14 W => ∃ j : Nat, v14 = .int .i64 j ∧ Aside0 (Drawn0 Wt W) ∧ j ≤ l2.length ∧ j + kq = l2.length + 1 ∧ Aside0 (∀ i, i < j → l2[i]? ≠ some y))
              case atStart => exact ⟨0, rfl, ⟨Drawn0.refl _⟩, by omega, by omega, ⟨fun i hi => by omega⟩⟩
              case round =>
                obtain ⟨j, rfl, DR, hjl, hjk, NO⟩ := hrel
                have t0 := (blk_cell (blk_below TB.out DR.out.below) 0).trans rfl
                have t1 := (blk_cell (blk_below TB.out DR.out.below) 1).trans rfl
                by_cases hj : j < l2.length
                · have hjb : decide ((j : Int) < (l2.length : Int)) = true := decide_eq_true (by omega)
                  have hj0 : (j : Int) < (l2.length : Int) := by omega
                  obtain ⟨z, hz⟩ : ∃ z, l2[j]? = some z := ⟨_, List.getElem?_eq_getElem hj⟩
                  obtain ⟨_, eg, z1, z2⟩ := (LT.out.below DR.out.below).cells j z hz
                  injection eg with eg
                  injection eg with eg
                  subst eg
                  have HZ := Aside0.mk hz
                  clear hz
                  by_cases hzy : z = y
                  · skip
                    have h1 : (z.1 == y.1) = true := beq_iff_eq.2 (by rw [hzy])
                    have h2 : (z.2 == y.2) = true := beq_iff_eq.2 (by rw [hzy])
                    have hid : idx l2 y = j := idx_of NO.out hjl (.inr (by rw [← hzy]; exact HZ.out))
                    have hpu : put l2 y = l2 := put_in (by omega)
                    have hln : ((j : Int) == (l2.length : Int)) = false := beq_eq_false_iff_ne.2 (by omega)
                    obtain ⟨kq', hkq', RE'⟩ := RE.out.step (by omega) (show ¬ most.toNat < (put l2 (nextM n1 e1 n2 x ks.length)).length by rw [HY.out, hpu]; have := RE.out.2.1; omega)
                    subst hkq'
                    rw [HY.out] at RE'
                    have RES := Aside0.mk RE'
                    have BDS := Aside0.mk (BD.out.put HOY.out)
                    have HIDX := Aside0.mk hid
                    have HPUT := Aside0.mk hpu
                    clear hzy hid hpu RE'
                    go_wp2_with fail
                    go_quiet (fail)
                    go_upto_region 20 with (fail)
                    obtain ⟨Wq, hWq⟩ : ∃ Wq, Wq = wr.drewN nq := ⟨_, rfl⟩
                    rw [← hWq]
                    have hbq : Below Wt.heap.size Wt Wq := by rw [hWq]; exact pw_below_drewN DR.out.below nq
                    have IQ := Aside0.mk (IT.out.below hbq)
                    have LQ := Aside0.mk (LT.out.below hbq)
                    have OQ := Aside0.mk (OT.out.below hbq)
                    have NQ := Aside0.mk (Kd.R_below NT.out hbq)
                    clear hWq hbq t0 t1 z1 z2 DR

                    obtain ⟨inn, hown, fin⟩ := app_ints (j : Int) (Kd.R_below NQ.out (below_alloc (Below.refl _ _) (.cells #[.int .i64 j] 3)))
                    have hszI := IQ.out.bel.size
                    obtain ⟨i3, hi3, hz3, hs3, hb3⟩ := info_parts info3
                    go_wp2_with ((with_reducible refine gate_builtin (b := .append) (xs := #[.tmp 96, .tmp 98]) rfl ?_); at_builtin; go_must (refine wpList_append_lies _ rfl (.tmp 96) (.tmp 98) _ rfl w.heap.size 3 i3 _ 1 8 Try.underlying33 hi3 hz3 hs3 hb3 rfl (by omega) u11 ks.length inn rfl hown ⟨Wq.heap.size, 0, none⟩ 1 1 [.int .i64 j] rfl rfl (World.news_of_block (cs := #[.int .i64 j]) (t := 3) (fr := (0, 0)) (heap_alloc_new Wq _)) (by simp [Value.oneCell']) (by omega) (by unfold maxLen; omega) (by omega) (by simp; omega) (Wq.heap.size + 1) (by simp) ?_); intro gg cap9 Wn hown9 hgr9 hat9 hlt9)
                    have hba : Below Wq.heap.size Wq (Wq.alloc (.cells #[.int .i64 j] 3)) := below_alloc (Below.refl _ _) _
                    have hat9' : (.slice (some ⟨gg, 0, none⟩) (ks.length + 1) cap9 : Value).ownBlock = u11.ownBlock ∨ ∃ b, (.slice (some ⟨gg, 0, none⟩) (ks.length + 1) cap9 : Value).ownBlock = some b ∧ (Wq.alloc (.cells #[.int .i64 j] 3)).heap.size ≤ b := hat9.elim (fun h => .inl h.symm) (fun h => .inr ⟨gg, rfl, by simp; omega⟩)
                    have NZ := Aside0.mk (fin _ _ hown9 hgr9 hat9')
                    have OZ := Aside0.mk ((OQ.out.below hba).grownRow hown hgr9 hat9')
                    have blq := below_of_grown (IQ.out.below hba).bel hown hgr9
                    have IZ := Aside0.mk ((IQ.out.below hba).keeps (Keeps.of_grown hown hgr9) (by decide) (by decide) blq)
                    have LZ := Aside0.mk ((LQ.out.below hba).grown hown hgr9 (by decide))
                    clear fin hown hown9 hgr9 hat9 hat9' hlt9 hba blq hi3 hz3 hs3 hb3 hszI
                    go_roundg kq'
                    case measure => omega
                    case rel =>
                      have hjj : (j : Int) = (idx l2 y : Int) := by rw [HIDX.out]
                      exact ⟨put l2 y, ks ++ [(idx l2 y : Int)], some ⟨lg, 0, none⟩, mc, by simp [HPUT.out], by simp, IZ, ⟨by rw [HPUT.out]; simpa using LZ.out⟩, OZ, ⟨by rw [← hjj]; exact NZ.out⟩, RES, BDS⟩
                  · skip
                    obtain ⟨b1, b2, h1, h2, hb12⟩ : ∃ b1 b2, (z.1 == y.1) = b1 ∧ (z.2 == y.2) = b2 ∧ (b1 && b2) = false := by
                      refine ⟨_, _, rfl, rfl, ?_⟩
                      rw [Bool.eq_false_iff]
                      intro h
                      rw [Bool.and_eq_true] at h
                      exact hzy (Prod.ext (eq_of_beq h.1) (eq_of_beq h.2))
                    have HZY := Aside0.mk hzy
                    obtain ⟨kq', rfl⟩ : ∃ k, gk = k + 1 := ⟨gk - 1, by omega⟩
                    clear hzy
                    have step : ∀ i, i < j + 1 → l2[i]? ≠ some y := fun i hi => by
                      by_cases hij : i = j
                      · rw [hij, HZ.out]; intro e; injection e with e; exact HZY.out e
                      · exact NO.out i (by omega)
                    have STEP := Aside0.mk step
                    clear step
                    cases b1 with
                    | true =>
                      obtain rfl : b2 = false := by simpa using hb12
                      clear hb12
                      go_wp2_with fail
                      go_quiet (fail)
                      go_wp2_with fail
                      go_roundg kq'
                      case measure => omega
                      case rel => exact ⟨j + 1, by simp, ⟨DR.out.step nq⟩, by omega, by omega, STEP⟩
                    | false =>
                      clear hb12
                      cases b2 with
                      | true =>
                        go_wp2_with fail
                        go_quiet (fail)
                        go_wp2_with fail
                        go_roundg kq'
                        case measure => omega
                        case rel => exact ⟨j + 1, by simp, ⟨DR.out.step nq⟩, by omega, by omega, STEP⟩
                      | false =>
                        go_wp2_with fail
                        go_quiet (fail)
                        go_wp2_with fail
                        go_roundg kq'
                        case measure => omega
                        case rel => exact ⟨j + 1, by simp, ⟨DR.out.step nq⟩, by omega, by omega, STEP⟩
                · skip
                  have hje : j = l2.length := by omega
                  subst hje
                  have hjb : decide ((l2.length : Int) < (l2.length : Int)) = false := decide_eq_false (by omega)
                  have hln : ((l2.length : Int) == (l2.length : Int)) = true := beq_iff_eq.2 rfl
                  have hid : idx l2 y = l2.length := idx_of NO.out (Nat.le_refl _) (.inl (Nat.le_refl _))
                  have hpu : put l2 y = l2 ++ [y] := put_new hid
                  have HIDX := Aside0.mk hid
                  have HPUT := Aside0.mk hpu
                  clear hid hpu
                  by_cases hm : (l2.length : Int) = most
                  · have hmb : ((l2.length : Int) == most) = true := beq_iff_eq.2 hm
                    have hTn : T = none := RE.out.none_ (by omega) (by rw [HY.out, HPUT.out]; simp; omega)
                    have e : r1 = 0 ∧ r2 = [] ∧ r3 = [] ∧ r4 = 13 := by
                      have := HH.out
                      rw [hTn] at this
                      simp only [markRes, Prod.mk.injEq] at this
                      exact ⟨this.1.symm, this.2.1.symm, this.2.2.1.symm, this.2.2.2.symm⟩
                    obtain ⟨rfl, rfl, rfl, rfl⟩ := e
                    have HM := Aside0.mk hm
                    clear hTn hm
                    go_wp2_with fail
                    go_quiet (fail)
                    have II3 := Aside0.mk (IT.out.below (pw_below_drewN DR.out.below nq))
                    obtain ⟨W3, hW3⟩ : ∃ W3, W3 = wr.drewN nq := ⟨_, rfl⟩
                    rw [← hW3] at II3 ⊢
                    clear hW3 t0 t1
                    have k6 := II3.out.o 0
                    have k7 := II3.out.o 1
                    have k8 := II3.out.o 2
                    have m6 := blk_frozen II3.out.ho 0
                    have m7 := blk_frozen II3.out.ho 1
                    have m8 := blk_frozen II3.out.ho 2
                    go_wp2_with fail
                    refine bodyPost_ret (results_ct rfl _ _ (w.heap.size + 1 + 1) 25 #[.int .i64 0, .slice none 0 0, .slice none 0 0] (0, 0) _ rfl (by refine blk_put (cs := #[.int .i64 0, .slice none 0 0, .slice none 0 0]) ?_ 2 _ rfl; refine blk_put (cs := #[.int .i64 0, .slice none 0 0, .slice none 0 0]) ?_ 1 _ rfl; refine blk_put (cs := #[.int .i64 0, .slice none 0 0, .slice none 0 0]) ?_ 0 _ rfl; exact II3.out.ho) Try.underlying25 rfl (by kernel_rfl)) rfl ?_
                    exact ⟨_, _, rfl, Kd.S_nil _ _ _ _ _, Kd.R_nil _ _ _ _ _, below_put3 II3.out.bel (by omega) _ _ _⟩
                  · have hmb : ((l2.length : Int) == most) = false := beq_eq_false_iff_ne.2 hm
                    obtain ⟨kq', hkq', RE'⟩ := RE.out.step (by omega) (show ¬ most.toNat < (put l2 (nextM n1 e1 n2 x ks.length)).length by rw [HY.out, HPUT.out]; have := RE.out.2.1; simp; omega)
                    subst hkq'
                    rw [HY.out] at RE'
                    have RES := Aside0.mk RE'
                    have BDS := Aside0.mk (BD.out.put HOY.out)
                    clear RE' hm
                    go_wp2_with fail
                    go_quiet (fail)
                    obtain ⟨Wp, hWp⟩ : ∃ Wp, Wp = wr.drewN nq := ⟨_, rfl⟩
                    have hbq : Below Wt.heap.size Wt Wp := by rw [hWp]; exact pw_below_drewN DR.out.below nq
                    rw [← hWp]
                    have IP := Aside0.mk (IT.out.below hbq)
                    have LP := Aside0.mk (LT.out.below hbq)
                    have OP := Aside0.mk (OT.out.below hbq)
                    have NP := Aside0.mk (Kd.R_below NT.out hbq)
                    have TP := Aside0.mk (blk_below TB.out hbq)
                    have t0 := (blk_cell TP.out 0).trans rfl
                    have t1 := (blk_cell TP.out 1).trans rfl
                    clear hWp hbq DR
                    obtain ⟨i58, hi58, hz58, hs58, hb58⟩ := info_parts info58
                    have hszI := IP.out.bel.size
                    have hba : Below Wp.heap.size Wp (Wp.alloc (.cells #[.int .i64 y.1, .int .i64 y.2] 58)) := below_alloc (Below.refl _ _) _
                    have LA := Aside0.mk (LP.out.below hba)
                    have HBA := Aside0.mk hba
                    clear hba
                    go_upto_region 20 with ((with_reducible refine gate_builtin (b := .append) (xs := #[.tmp 92, .tmp 94]) rfl ?_); at_builtin; go_must (refine wpList_append_lies _ rfl (.tmp 92) (.tmp 94) _ rfl w.heap.size 58 i58 _ 2 16 Try.underlying59 hi58 hz58 hs58 hb58 rfl (by omega) (.slice (some ⟨lg, 0, none⟩) l2.length mc) l2.length (cells2 l2) rfl LA.out ⟨Wp.heap.size, 0, none⟩ 1 1 [.int .i64 y.1, .int .i64 y.2] rfl rfl (World.news_of_block (cs := #[.int .i64 y.1, .int .i64 y.2]) (t := 58) (fr := (0, 0)) (heap_alloc_new Wp _)) (by simp [Value.oneCell']) (by omega) (by unfold maxLen; omega) (by omega) (by simp; omega) (Wp.heap.size + 1) (by simp) ?_); intro gg8 cap8 Wq hown8 hgr8 hat8 hlt8)
                    have blq := below_of_grown (IP.out.below HBA.out).bel LA.out hgr8
                    have kp8 := Keeps.of_grown LA.out hgr8
                    have IQ := Aside0.mk ((IP.out.below HBA.out).keeps kp8 (by decide) (by decide) blq)
                    have LQ : Aside0 (LS w 58 (.slice (some ⟨gg8, 0, none⟩) (l2.length + 1) cap8) (l2 ++ [y]) Wq) := ⟨by
                      unfold LS
                      rw [cells2_snoc]
                      simpa using hown8⟩
                    have OQ := Aside0.mk ((OP.out.below HBA.out).grownOther LA.out hgr8 (by decide))
                    have NQ := Aside0.mk (R_keeps (Kd.R_below NP.out HBA.out) kp8 (by decide))
                    clear hown8 hgr8 hat8 hlt8 blq kp8 hi58 hz58 hs58 hb58 LA HBA IP LP OP NP TP t0 t1 hszI
                    obtain ⟨inn, hown, fin⟩ := app_ints (l2.length : Int) (Kd.R_below NQ.out (below_alloc (Below.refl _ _) (.cells #[.int .i64 l2.length] 3)))
                    have hszI := IQ.out.bel.size
                    obtain ⟨i3, hi3, hz3, hs3, hb3⟩ := info_parts info3
                    go_wp2_with ((with_reducible refine gate_builtin (b := .append) (xs := #[.tmp 96, .tmp 98]) rfl ?_); at_builtin; go_must (refine wpList_append_lies _ rfl (.tmp 96) (.tmp 98) _ rfl w.heap.size 3 i3 _ 1 8 Try.underlying33 hi3 hz3 hs3 hb3 rfl (by omega) u11 ks.length inn rfl hown ⟨Wq.heap.size, 0, none⟩ 1 1 [.int .i64 l2.length] rfl rfl (World.news_of_block (cs := #[.int .i64 l2.length]) (t := 3) (fr := (0, 0)) (heap_alloc_new Wq _)) (by simp [Value.oneCell']) (by omega) (by unfold maxLen; omega) (by omega) (by simp; omega) (Wq.heap.size + 1) (by simp) ?_); intro gg cap9 Wn hown9 hgr9 hat9 hlt9)
                    have hba : Below Wq.heap.size Wq (Wq.alloc (.cells #[.int .i64 l2.length] 3)) := below_alloc (Below.refl _ _) _
                    have hat9' : (.slice (some ⟨gg, 0, none⟩) (ks.length + 1) cap9 : Value).ownBlock = u11.ownBlock ∨ ∃ b, (.slice (some ⟨gg, 0, none⟩) (ks.length + 1) cap9 : Value).ownBlock = some b ∧ (Wq.alloc (.cells #[.int .i64 l2.length] 3)).heap.size ≤ b := hat9.elim (fun h => .inl h.symm) (fun h => .inr ⟨gg, rfl, by simp; omega⟩)
                    have NZ := Aside0.mk (fin _ _ hown9 hgr9 hat9')
                    have OZ := Aside0.mk ((OQ.out.below hba).grownRow hown hgr9 hat9')
                    have blq := below_of_grown (IQ.out.below hba).bel hown hgr9
                    have IZ := Aside0.mk ((IQ.out.below hba).keeps (Keeps.of_grown hown hgr9) (by decide) (by decide) blq)
                    have LZ := Aside0.mk ((LQ.out.below hba).grown hown hgr9 (by decide))
                    clear fin hown hown9 hgr9 hat9 hat9' hlt9 hba blq hi3 hz3 hs3 hb3 hszI
                    go_roundg kq'
                    case measure => omega
                    case rel =>
                      have hjj : (l2.length : Int) = (idx l2 y : Int) := by rw [HIDX.out]
                      exact ⟨put l2 y, ks ++ [(idx l2 y : Int)], some ⟨gg8, 0, none⟩, cap8, by simp [HPUT.out], by simp, IZ, ⟨by rw [HPUT.out]; simpa using LZ.out⟩, OZ, ⟨by rw [← hjj]; exact NZ.out⟩, RES, BDS⟩
            · skip
              have hsb : decide ((ks.length : Int) < sg) = false := decide_eq_false hs
              obtain rfl : gk = 0 := by have := RE.out.1; omega
              have TE := Aside0.mk (RE.out.done (by omega))
              have PFX := Aside0.mk RE.out.2.2.1
              obtain ⟨ng, nc, hnv, _, hngl, _⟩ := Kd.R_form NX.out (by have := RE.out.1; omega)
              subst hnv
              obtain ⟨ens, hens⟩ : ∃ ens, ens = (l.take rows.length).map (endM e2) := ⟨_, rfl⟩
              have OOe := OO.out
              rw [← hens] at OOe
              obtain ⟨⟨nv, ev, hG, hS, hE⟩, hge⟩ := OOe
              have hS' := Kd.S_mono hS (ok' := fun k => k ≠ ng) (fun k hk e => hk (by rw [e]; rfl))
              have hdb : Below wr.heap.size wr wr.drew := below_drew (Below.refl _ _)
              have STB : Aside0 (Stable (fun W => LS w 58 (.slice (some ⟨lg, 0, none⟩) l2.length mc) l2 W)) := ⟨⟨fun W W' hb h => LS.below h hb, fun W W' base e size n v xs ho hg he h => LS.grown h ho hg (by rcases he with rfl | rfl <;> decide)⟩⟩
              have mm0 : ∀ q : Bool, Mid w #[.int .i64 s1, .slice A1 n1.length c1, .slice B1 e1.length d1] #[.int .i64 s1, .slice A2 n2.length c2, .slice B2 e2.length d2] #[.int .i64 0, .slice none 0 0, .slice none 0 0] gd sg nv ev ng ks.length nc rows ks ens q (fun W => LS w 58 (.slice (some ⟨lg, 0, none⟩) l2.length mc) l2 W) none none none wr.drew := fun q =>
                ⟨II.out.below hdb, blk_below hG hdb, LL.out.below hdb, Kd.R_below hE hdb, fun _ => ⟨Kd.S_below hS' hdb, Kd.R_below NX.out hdb⟩, fun v e => (by cases e), fun g e _ => (by cases e), fun g e => (by cases e)⟩
              have M0 := Aside0.mk mm0
              have CE : Aside0 (∀ W : World, LS w 58 (.slice (some ⟨lg, 0, none⟩) l2.length mc) l2 W → W.cell? ⟨lg, rows.length * 2, none⟩ = some (.int .i64 x.1) ∧ W.cell? ⟨lg, rows.length * 2 + 1, none⟩ = some (.int .i64 x.2)) := ⟨fun W L => by
                obtain ⟨g, e, h1, h2⟩ := LS.cells L rows.length x HX2.out
                injection e with e
                injection e with e
                subst e
                exact ⟨h1, h2⟩⟩
              have ELEN : Aside0 (ens.length ≤ 3000) := ⟨by rw [hens, List.length_map, List.length_take]; omega⟩
              have HENS := Aside0.mk hens
              obtain ⟨i33, hi33, hz33, hs33, hb33⟩ := info_parts info33
              obtain ⟨i4, hi4, hz4, hs4, hb4⟩ := info_parts info4
              clear hens hG hS hS' hE hdb RE NX OO LL mm0 hngl
              by_cases hx2 : x.1 = 2
              · have hxb2 : (x.1 == 2) = true := beq_iff_eq.2 hx2
                obtain ⟨b1, b2⟩ : 0 ≤ x.2 ∧ x.2 < (n2.length : Int) := by
                  rcases HXB.out with h | h | h
                  · omega
                  · exact ⟨h.2.1, h.2.2⟩
                  · rw [h] at hx2; simp at hx2
                have hq2 := R2.out.2.2.2.2.1
                have b6 : x.2 < (e2.length : Int) := by omega
                obtain ⟨bd2, qv, rfl, z3, z4⟩ := cell_end (Kd.C_below HB2.out II.out.bel) x.2 b1 b6
                have EL : Aside0 (∀ W : World, Init3 w #[.int .i64 s1, .slice A1 n1.length c1, .slice B1 e1.length d1] #[.int .i64 s1, .slice A2 n2.length c2, .slice (some bd2) e2.length d2] #[.int .i64 0, .slice none 0 0, .slice none 0 0] W → W.cell? (bd2.add x.2.toNat) = some (.bool qv)) := ⟨fun W I => by
                  obtain ⟨ad, v, ee, h2, h3⟩ := cell_end (Kd.C_below HB2.out I.bel) x.2 b1 b6
                  injection ee with ee; subst ee; rw [z4, ← h3]; exact h2⟩
                have MM := Aside0.mk (M0.out qv)
                have Z4 := Aside0.mk z4
                have HXX := Aside0.mk hx2
                clear z3 z4 hq2 hx2 II M0
                go_upto_region 21 with (fail)
                -- REGION 21 ON BEGIN
                refine start_ (n := 30) (S := fun w' => w'.cell? ⟨gd, 1, none⟩ = some nv ∧ w'.cell? ⟨gd, 2, none⟩ = some ev ∧ w'.cell? ⟨lg, rows.length * 2, none⟩ = some (.int .i64 x.1) ∧ w'.cell? ⟨lg, rows.length * 2 + 1, none⟩ = some (.int .i64 x.2) ∧ w'.cell? ⟨w.heap.size + 1, 2, none⟩ = some (.slice (some bd2) e2.length d2) ∧ w'.cell? (bd2.add x.2.toNat) = some (.bool qv)) (ds := [27, 29]) #[false, false, false, false, false, false, false, false, false, false, false, false, false, false, false, false, false, false, false, false, false, false, false, false, false, false, false, false, false, false] (by kernel_rfl) rfl rfl ⟨(MM.out.cells).1, (MM.out.cells).2, (CE.out _ MM.out.P).1, (CE.out _ MM.out.P).2, ((MM.out.I.b 2).trans rfl), (EL.out _ MM.out.I)⟩ (fun hHeld => ?_)
                generalize wr.drew = Wd at MM hHeld ⊢
                refine pure_ (i := 0) (N := some 100) (v := ?_) (a' := ?_) #[true, false, false, false, false, false, false, false, false, false, false, false, false, false, false, false, false, false, false, false, false, false, false, false, false, false, false, false, false, false] rfl rfl (by kernel_rfl) (fun _ _ _ h => h) (Or.inl ⟨by rfl, ?_⟩) ?_ ?_
                rotate_left
                · intro w'
                  go_simp
                  with_reducible rfl
                rotate_left
                · simp only [Act.put, List.setIfInBounds_toArray, List.set_cons_zero, List.set_cons_succ, i64_w, i32_w]
                  rfl
                refine pure_ (i := 2) (N := some 102) (v := ?_) (a' := ?_) #[true, false, true, false, false, false, false, false, false, false, false, false, false, false, false, false, false, false, false, false, false, false, false, false, false, false, false, false, false, false] rfl rfl (by kernel_rfl) (fun _ _ _ h => h) (Or.inl ⟨by rfl, ?_⟩) ?_ ?_
                rotate_left
                · intro w'
                  go_simp
                  with_reducible rfl
                rotate_left
                · simp only [Act.put, List.setIfInBounds_toArray, List.set_cons_zero, List.set_cons_succ, i64_w, i32_w]
                  rfl
                refine pure_ (i := 5) (N := some 105) (v := ?_) (a' := ?_) #[true, false, true, false, false, true, false, false, false, false, false, false, false, false, false, false, false, false, false, false, false, false, false, false, false, false, false, false, false, false] rfl rfl (by kernel_rfl) (fun _ _ _ h => h) (Or.inl ⟨by rfl, ?_⟩) ?_ ?_
                rotate_left
                · intro w'
                  go_simp
                  with_reducible rfl
                rotate_left
                · simp only [Act.put, List.setIfInBounds_toArray, List.set_cons_zero, List.set_cons_succ, i64_w, i32_w]
                  rfl
                refine pure_ (i := 7) (N := some 107) (v := ?_) (a' := ?_) #[true, false, true, false, false, true, false, true, false, false, false, false, false, false, false, false, false, false, false, false, false, false, false, false, false, false, false, false, false, false] rfl rfl (by kernel_rfl) (fun _ _ _ h => h) (Or.inl ⟨by rfl, ?_⟩) ?_ ?_
                rotate_left
                · intro w'
                  go_simp
                  with_reducible rfl
                rotate_left
                · simp only [Act.put, List.setIfInBounds_toArray, List.set_cons_zero, List.set_cons_succ, i64_w, i32_w]
                  rfl
                refine pure_ (i := 8) (N := some 108) (v := ?_) (a' := ?_) #[true, false, true, false, false, true, false, true, true, false, false, false, false, false, false, false, false, false, false, false, false, false, false, false, false, false, false, false, false, false] rfl rfl (by kernel_rfl) (fun _ _ _ h => h) (Or.inl ⟨by rfl, ?_⟩) ?_ ?_
                rotate_left
                · intro w'
                  go_simp
                  with_reducible rfl
                rotate_left
                · simp only [Act.put, List.setIfInBounds_toArray, List.set_cons_zero, List.set_cons_succ, i64_w, i32_w]
                  rfl
                refine pure_ (i := 9) (N := some 109) (v := ?_) (a' := ?_) #[true, false, true, false, false, true, false, true, true, true, false, false, false, false, false, false, false, false, false, false, false, false, false, false, false, false, false, false, false, false] rfl rfl (by kernel_rfl) (fun _ _ _ h => h) (Or.inl ⟨by rfl, ?_⟩) ?_ ?_
                rotate_left
                · intro w'
                  go_simp
                  with_reducible rfl
                rotate_left
                · simp only [Act.put, List.setIfInBounds_toArray, List.set_cons_zero, List.set_cons_succ, i64_w, i32_w]
                  rfl
                refine pure_ (i := 10) (N := some 110) (v := ?_) (a' := ?_) #[true, false, true, false, false, true, false, true, true, true, true, false, false, false, false, false, false, false, false, false, false, false, false, false, false, false, false, false, false, false] rfl rfl (by kernel_rfl) (fun _ _ _ h => h) (Or.inl ⟨by rfl, ?_⟩) ?_ ?_
                rotate_left
                · intro w'
                  go_simp
                  with_reducible rfl
                rotate_left
                · simp only [Act.put, List.setIfInBounds_toArray, List.set_cons_zero, List.set_cons_succ, i64_w, i32_w]
                  rfl
                refine take_ (i := 1) (N := some 101) (v := ?_) (a' := ?_) #[true, true, true, false, false, true, false, true, true, true, true, false, false, false, false, false, false, false, false, false, false, false, false, false, false, false, false, false, false, false] rfl rfl (by kernel_rfl) (fun _ _ _ h => h) (Or.inl ⟨by rfl, ?_⟩) hHeld ?_ ?_
                rotate_left
                · rintro w' ⟨s0, s1, s2, s3, s4, s5⟩
                  go_simp
                  with_reducible rfl
                rotate_left
                · simp only [Act.put, List.setIfInBounds_toArray, List.set_cons_zero, List.set_cons_succ, i64_w, i32_w]
                  rfl
                refine take_ (i := 6) (N := some 106) (v := ?_) (a' := ?_) #[true, true, true, false, false, true, true, true, true, true, true, false, false, false, false, false, false, false, false, false, false, false, false, false, false, false, false, false, false, false] rfl rfl (by kernel_rfl) (fun _ _ _ h => h) (Or.inl ⟨by rfl, ?_⟩) hHeld ?_ ?_
                rotate_left
                · rintro w' ⟨s0, s1, s2, s3, s4, s5⟩
                  go_simp
                  with_reducible rfl
                rotate_left
                · simp only [Act.put, List.setIfInBounds_toArray, List.set_cons_zero, List.set_cons_succ, i64_w, i32_w]
                  rfl
                refine take_ (i := 11) (N := some 111) (v := ?_) (a' := ?_) #[true, true, true, false, false, true, true, true, true, true, true, true, false, false, false, false, false, false, false, false, false, false, false, false, false, false, false, false, false, false] rfl rfl (by kernel_rfl) (fun _ _ _ h => h) (Or.inl ⟨by rfl, ?_⟩) hHeld ?_ ?_
                rotate_left
                · rintro w' ⟨s0, s1, s2, s3, s4, s5⟩
                  go_simp
                  with_reducible rfl
                rotate_left
                · simp only [Act.put, List.setIfInBounds_toArray, List.set_cons_zero, List.set_cons_succ, i64_w, i32_w]
                  rfl
                refine pure_ (i := 12) (N := some 112) (v := ?_) (a' := ?_) #[true, true, true, false, false, true, true, true, true, true, true, true, true, false, false, false, false, false, false, false, false, false, false, false, false, false, false, false, false, false] rfl rfl (by kernel_rfl) (fun _ _ _ h => h) (Or.inl ⟨by rfl, ?_⟩) ?_ ?_
                rotate_left
                · intro w'
                  go_simp
                  with_reducible rfl
                rotate_left
                · simp only [Act.put, List.setIfInBounds_toArray, List.set_cons_zero, List.set_cons_succ, i64_w, i32_w]
                  rfl
                refine one_ (i := 3) (N := some 103) #[true, true, true, true, false, true, true, true, true, true, true, true, true, false, false, false, false, false, false, false, false, false, false, false, false, false, false, false, false, false] rfl rfl (by kernel_rfl) (by decide) (fun K hK => ?_)
                refine value_ (w1 := ?_) (v := ?_) (by rfl) rfl ?_ ?_
                rotate_left 2
                · go_simp
                  constructor
                  · rfl
                  · rfl
                have m_ := MM.out.box3 STB.out
                obtain ⟨g3, hz_⟩ : ∃ z_, z_ = Wd.heap.size := ⟨_, rfl⟩
                rw [← hz_] at m_ ⊢
                generalize Wd.alloc (.cells #[.slice (some ⟨ng, 0, none⟩) ks.length nc] 33) = We1 at m_ ⊢
                clear hz_ MM
                have MM := Aside0.mk m_
                clear m_
                refine hK.out _ _ ⟨(MM.out.cells).1, (MM.out.cells).2, (CE.out _ MM.out.P).1, (CE.out _ MM.out.P).2, ((MM.out.I.b 2).trans rfl), (EL.out _ MM.out.I)⟩ (fun hHeld => ?_)
                clear hK K
                refine norm_ (a' := ?_) ?_ ?_
                rotate_left
                · show Act.put _ (some 103) _ = _
                  simp only [Act.put, List.setIfInBounds_toArray, List.set_cons_zero, List.set_cons_succ, i64_w, i32_w]
                  rfl
                refine one_ (i := 4) (N := some 104) #[true, true, true, true, true, true, true, true, true, true, true, true, true, false, false, false, false, false, false, false, false, false, false, false, false, false, false, false, false, false] rfl rfl (by kernel_rfl) (by decide) (fun K hK => ?_)
                obtain ⟨inn, hown, fin⟩ := MM.out.app4 STB.out
                have hszI := MM.out.I.bel.size
                refine step_append_lies _ rfl (.tmp 101) (.tmp 103) _ rfl w.heap.size 33 i33 _ 1 24 Try.underlying22 hi33 hz33 hs33 hb33 rfl (by omega) nv rows.length inn rfl hown ⟨g3, 0, none⟩ 1 1 [.slice (some ⟨ng, 0, none⟩) ks.length nc] rfl rfl (World.news_of_block (MM.out.B3 _ rfl rfl)) (by simp [Value.oneCell']) (by omega) (by unfold maxLen; omega) (by omega) hszI We1.heap.size rfl ?_
                intro gg cap4 We2 hown4 hgr4 hat4 hlt4
                have m_ := fin _ _ _ hown4 hgr4 hat4
                clear fin hown hown4 hgr4 hat4 hlt4 hszI MM
                have MM := Aside0.mk m_
                clear m_
                refine hK.out _ _ ⟨(MM.out.cells).1, (MM.out.cells).2, (CE.out _ MM.out.P).1, (CE.out _ MM.out.P).2, ((MM.out.I.b 2).trans rfl), (EL.out _ MM.out.I)⟩ (fun hHeld => ?_)
                clear hK K
                refine norm_ (a' := ?_) ?_ ?_
                rotate_left
                · show Act.put _ (some 104) _ = _
                  simp only [Act.put, List.setIfInBounds_toArray, List.set_cons_zero, List.set_cons_succ, i64_w, i32_w]
                  rfl
                refine pure_ (i := 13) (N := some 113) (v := ?_) (a' := ?_) #[true, true, true, true, true, true, true, true, true, true, true, true, true, true, false, false, false, false, false, false, false, false, false, false, false, false, false, false, false, false] rfl rfl (by kernel_rfl) (fun _ _ _ h => h) (Or.inl ⟨by rfl, ?_⟩) ?_ ?_
                rotate_left
                · intro w'
                  go_simp
                  with_reducible rfl
                rotate_left
                · simp only [Act.put, List.setIfInBounds_toArray, List.set_cons_zero, List.set_cons_succ, i64_w, i32_w]
                  rfl
                refine pure_ (i := 14) (N := some 114) (v := ?_) (a' := ?_) #[true, true, true, true, true, true, true, true, true, true, true, true, true, true, true, false, false, false, false, false, false, false, false, false, false, false, false, false, false, false] rfl rfl (by kernel_rfl) (fun _ _ _ h => h) (Or.inl ⟨by rfl, ?_⟩) ?_ ?_
                rotate_left
                · intro w'
                  go_simp
                  with_reducible rfl
                rotate_left
                · simp only [Act.put, List.setIfInBounds_toArray, List.set_cons_zero, List.set_cons_succ, i64_w, i32_w]
                  rfl
                refine pure_ (i := 16) (N := some 116) (v := ?_) (a' := ?_) #[true, true, true, true, true, true, true, true, true, true, true, true, true, true, true, false, true, false, false, false, false, false, false, false, false, false, false, false, false, false] rfl rfl (by kernel_rfl) (fun _ _ _ h => h) (Or.inl ⟨by rfl, ?_⟩) ?_ ?_
                rotate_left
                · intro w'
                  go_simp
                  with_reducible rfl
                rotate_left
                · simp only [Act.put, List.setIfInBounds_toArray, List.set_cons_zero, List.set_cons_succ, i64_w, i32_w]
                  rfl
                refine pure_ (i := 17) (N := some 117) (v := ?_) (a' := ?_) #[true, true, true, true, true, true, true, true, true, true, true, true, true, true, true, false, true, true, false, false, false, false, false, false, false, false, false, false, false, false] rfl rfl (by kernel_rfl) (fun _ _ _ h => h) (Or.inl ⟨by rfl, ?_⟩) ?_ ?_
                rotate_left
                · intro w'
                  go_simp
                  with_reducible rfl
                rotate_left
                · simp only [Act.put, List.setIfInBounds_toArray, List.set_cons_zero, List.set_cons_succ, i64_w, i32_w]
                  rfl
                refine pure_ (i := 18) (N := some 118) (v := ?_) (a' := ?_) #[true, true, true, true, true, true, true, true, true, true, true, true, true, true, true, false, true, true, true, false, false, false, false, false, false, false, false, false, false, false] rfl rfl (by kernel_rfl) (fun _ _ _ h => h) (Or.inl ⟨by rfl, ?_⟩) ?_ ?_
                rotate_left
                · intro w'
                  go_simp
                  with_reducible rfl
                rotate_left
                · simp only [Act.put, List.setIfInBounds_toArray, List.set_cons_zero, List.set_cons_succ, i64_w, i32_w]
                  rfl
                refine pure_ (i := 19) (N := some 119) (v := ?_) (a' := ?_) #[true, true, true, true, true, true, true, true, true, true, true, true, true, true, true, false, true, true, true, true, false, false, false, false, false, false, false, false, false, false] rfl rfl (by kernel_rfl) (fun _ _ _ h => h) (Or.inl ⟨by rfl, ?_⟩) ?_ ?_
                rotate_left
                · intro w'
                  go_simp
                  with_reducible rfl
                rotate_left
                · simp only [Act.put, List.setIfInBounds_toArray, List.set_cons_zero, List.set_cons_succ, i64_w, i32_w]
                  rfl
                refine pure_ (i := 26) (N := some 126) (v := ?_) (a' := ?_) #[true, true, true, true, true, true, true, true, true, true, true, true, true, true, true, false, true, true, true, true, false, false, false, false, false, false, true, false, false, false] rfl rfl (by kernel_rfl) (fun _ _ _ h => h) (Or.inl ⟨by rfl, ?_⟩) ?_ ?_
                rotate_left
                · intro w'
                  go_simp
                  with_reducible rfl
                rotate_left
                · simp only [Act.put, List.setIfInBounds_toArray, List.set_cons_zero, List.set_cons_succ, i64_w, i32_w]
                  rfl
                refine take_ (i := 15) (N := some 115) (v := ?_) (a' := ?_) #[true, true, true, true, true, true, true, true, true, true, true, true, true, true, true, true, true, true, true, true, false, false, false, false, false, false, true, false, false, false] rfl rfl (by kernel_rfl) (fun _ _ _ h => h) (Or.inl ⟨by rfl, ?_⟩) hHeld ?_ ?_
                rotate_left
                · rintro w' ⟨s0, s1, s2, s3, s4, s5⟩
                  go_simp
                  with_reducible rfl
                rotate_left
                · simp only [Act.put, List.setIfInBounds_toArray, List.set_cons_zero, List.set_cons_succ, i64_w, i32_w]
                  rfl
                refine take_ (i := 20) (N := some 120) (v := ?_) (a' := ?_) #[true, true, true, true, true, true, true, true, true, true, true, true, true, true, true, true, true, true, true, true, true, false, false, false, false, false, true, false, false, false] rfl rfl (by kernel_rfl) (fun _ _ _ h => h) (Or.inl ⟨by rfl, ?_⟩) hHeld ?_ ?_
                rotate_left
                · rintro w' ⟨s0, s1, s2, s3, s4, s5⟩
                  go_simp
                  with_reducible rfl
                rotate_left
                · simp only [Act.put, List.setIfInBounds_toArray, List.set_cons_zero, List.set_cons_succ, i64_w, i32_w]
                  rfl
                refine pure_ (i := 21) (N := some 121) (v := ?_) (a' := ?_) #[true, true, true, true, true, true, true, true, true, true, true, true, true, true, true, true, true, true, true, true, true, true, false, false, false, false, true, false, false, false] rfl rfl (by kernel_rfl) (fun _ _ _ h => h) (Or.inl ⟨by rfl, ?_⟩) ?_ ?_
                rotate_left
                · intro w'
                  go_simp
                  with_reducible rfl
                rotate_left
                · simp only [Act.put, List.setIfInBounds_toArray, List.set_cons_zero, List.set_cons_succ, i64_w, i32_w]
                  rfl
                refine take_ (i := 22) (N := some 122) (v := ?_) (a' := ?_) #[true, true, true, true, true, true, true, true, true, true, true, true, true, true, true, true, true, true, true, true, true, true, true, false, false, false, true, false, false, false] rfl rfl (by kernel_rfl) (fun _ _ _ h => h) (Or.inl ⟨by rfl, ?_⟩) hHeld ?_ ?_
                rotate_left
                · rintro w' ⟨s0, s1, s2, s3, s4, s5⟩
                  go_simp
                  with_reducible rfl
                rotate_left
                · simp only [Act.put, List.setIfInBounds_toArray, List.set_cons_zero, List.set_cons_succ, i64_w, i32_w]
                  rfl
                refine pure_ (i := 23) (N := some 123) (v := ?_) (a' := ?_) #[true, true, true, true, true, true, true, true, true, true, true, true, true, true, true, true, true, true, true, true, true, true, true, true, false, false, true, false, false, false] rfl rfl (by kernel_rfl) (fun _ _ _ h => h) (Or.inl ⟨by rfl, ?_⟩) ?_ ?_
                rotate_left
                · intro w'
                  go_simp
                  with_reducible rfl
                rotate_left
                · simp only [Act.put, List.setIfInBounds_toArray, List.set_cons_zero, List.set_cons_succ, i64_w, i32_w]
                  rfl
                refine one_ (i := 24) (N := some 124) #[true, true, true, true, true, true, true, true, true, true, true, true, true, true, true, true, true, true, true, true, true, true, true, true, true, false, true, false, false, false] rfl rfl (by kernel_rfl) (by decide) (fun K hK => ?_)
                refine value_ (w1 := ?_) (v := ?_) (by rfl) rfl ?_ ?_
                rotate_left 2
                · go_simp
                  constructor
                  · rfl
                  · rfl
                have m_ := MM.out.box18 STB.out
                obtain ⟨g18, hz_⟩ : ∃ z_, z_ = We2.heap.size := ⟨_, rfl⟩
                rw [← hz_] at m_ ⊢
                generalize We2.alloc (.cells #[.bool qv] 4) = We3 at m_ ⊢
                clear hz_ MM
                have MM := Aside0.mk m_
                clear m_
                refine hK.out _ _ ⟨(MM.out.cells).1, (MM.out.cells).2, (CE.out _ MM.out.P).1, (CE.out _ MM.out.P).2, ((MM.out.I.b 2).trans rfl), (EL.out _ MM.out.I)⟩ (fun hHeld => ?_)
                clear hK K
                refine norm_ (a' := ?_) ?_ ?_
                rotate_left
                · show Act.put _ (some 124) _ = _
                  simp only [Act.put, List.setIfInBounds_toArray, List.set_cons_zero, List.set_cons_succ, i64_w, i32_w]
                  rfl
                refine one_ (i := 25) (N := some 125) #[true, true, true, true, true, true, true, true, true, true, true, true, true, true, true, true, true, true, true, true, true, true, true, true, true, true, true, false, false, false] rfl rfl (by kernel_rfl) (by decide) (fun K hK => ?_)
                obtain ⟨inn, hown, fin⟩ := MM.out.app19 STB.out
                have hszI := MM.out.I.bel.size
                have hel := ELEN.out
                refine step_append_lies _ rfl (.tmp 106) (.tmp 124) _ rfl w.heap.size 4 i4 _ 1 1 Try.underlying23 hi4 hz4 hs4 hb4 rfl (by omega) ev _ inn rfl hown ⟨g18, 0, none⟩ 1 1 [.bool qv] rfl rfl (World.news_of_block (MM.out.B18 _ rfl)) (by simp [Value.oneCell']) (by omega) (by unfold maxLen; omega) (by omega) hszI We3.heap.size rfl ?_
                intro gg2 cap7 Wg hown4 hgr4 hat4 hlt4
                have m_ := fin _ _ _ hown4 hgr4 hat4
                have ME := Aside0.mk m_
                have f1 := blk_frozen ME.out.G 1
                have f2 := blk_frozen ME.out.G 2
                have c1_ := blk_cell ME.out.G 1
                have c2_ := blk_cell ME.out.G 2
                clear fin hown hown4 hgr4 hat4 hlt4 hszI hel m_
                refine hK.out _ _ ⟨((blk_cell ME.out.G 1).trans rfl), ((blk_cell ME.out.G 2).trans rfl), (CE.out _ ME.out.P).1, (CE.out _ ME.out.P).2, ((ME.out.I.b 2).trans rfl), (EL.out _ ME.out.I)⟩ (fun hHeld => ?_)
                clear hK K
                refine norm_ (a' := ?_) ?_ ?_
                rotate_left
                · show Act.put _ (some 125) _ = _
                  simp only [Act.put, List.setIfInBounds_toArray, List.set_cons_zero, List.set_cons_succ, i64_w, i32_w]
                  rfl
                refine last_ (i := 27) (N := none) #[true, true, true, true, true, true, true, true, true, true, true, true, true, true, true, true, true, true, true, true, true, true, true, true, true, true, true, true, false, false] rfl rfl (by kernel_rfl) (by decide) (fun K hK => ?_)
                refine skip_ (w1 := ?_) (by rfl) rfl ?_ ?_
                rotate_left
                · go_simp
                  rfl
                refine hK.out _ _ ?_
                clear hK K
                refine pure_ (i := 28) (N := some 127) (v := ?_) (a' := ?_) #[true, true, true, true, true, true, true, true, true, true, true, true, true, true, true, true, true, true, true, true, true, true, true, true, true, true, true, true, true, false] rfl rfl (by kernel_rfl) (fun _ _ _ h => h) (Or.inl ⟨by rfl, ?_⟩) ?_ ?_
                rotate_left
                · intro w'
                  go_simp
                  with_reducible rfl
                rotate_left
                · simp only [Act.put, List.setIfInBounds_toArray, List.set_cons_zero, List.set_cons_succ, i64_w, i32_w]
                  rfl
                refine last_ (i := 29) (N := none) #[true, true, true, true, true, true, true, true, true, true, true, true, true, true, true, true, true, true, true, true, true, true, true, true, true, true, true, true, true, true] rfl rfl (by kernel_rfl) (by decide) (fun K hK => ?_)
                refine skip_ (w1 := ?_) (by rfl) rfl ?_ ?_
                rotate_left
                · go_simp
                  rfl
                refine hK.out _ _ ?_
                clear hK K
                refine done_ (by kernel_rfl) ?_
                -- REGION 21 ON END
                obtain ⟨Wz, hWz⟩ : ∃ Wz, Wz = (Wg.setCell ⟨gd, 1, none⟩ (.slice (some ⟨gg, 0, none⟩) (rows.length + 1) cap4)).setCell ⟨gd, 2, none⟩ (.slice (some ⟨gg2, 0, none⟩) (ens.length + 1) cap7) := ⟨_, rfl⟩
                rw [← hWz]
                obtain ⟨IZ, OZ⟩ := ME.out.stored hge
                have hb1 := blk_put ME.out.G 1 (.slice (some ⟨gg, 0, none⟩) (rows.length + 1) cap4) rfl
                have LZ := LS.far (p := ⟨gd, 2, none⟩) (LS.far (p := ⟨gd, 1, none⟩) ME.out.P ME.out.G (by decide) (.slice (some ⟨gg, 0, none⟩) (rows.length + 1) cap4)) hb1 (by decide) (.slice (some ⟨gg2, 0, none⟩) (ens.length + 1) cap7)
                rw [← hWz] at IZ OZ LZ
                have hen := cellOf_ends (endM e2) PFX.out HX.out (v := qv) (by unfold endM; rw [decide_eq_true HXX.out, Z4.out]; rfl)
                rw [← HENS.out] at hen
                have IZ' := Aside0.mk IZ
                have LZ' := Aside0.mk LZ
                have OZ' := Aside0.mk OZ
                have HEN := Aside0.mk hen
                clear IZ OZ LZ hb1 hWz f1 f2 c1_ c2_ hi33 hz33 hs33 hb33 hi4 hz4 hs4 hb4 hen ME MM
                go_wp2_with fail
                go_roundg K
                case measure => omega
                case rel =>
                  refine ⟨l2, rows ++ [ks], some ⟨lg, 0, none⟩, mc, rfl, by simp, IZ', LZ', ⟨?_⟩, TE, BD⟩
                  have h1 := OZ'.out
                  rw [HEN.out] at h1
                  simpa using h1
              · have hxb2 : (x.1 == 2) = false := beq_eq_false_iff_ne.2 hx2
                have MM := Aside0.mk (M0.out false)
                have HXX := Aside0.mk hx2
                clear hx2 II M0
                go_upto_region 21 with (fail)
                -- REGION 21 OFF BEGIN
                refine start_ (n := 30) (S := fun w' => w'.cell? ⟨gd, 1, none⟩ = some nv ∧ w'.cell? ⟨gd, 2, none⟩ = some ev ∧ w'.cell? ⟨lg, rows.length * 2, none⟩ = some (.int .i64 x.1)) (ds := [27, 29]) #[false, false, false, false, false, false, false, false, false, false, false, false, false, false, false, false, false, false, false, false, false, false, false, false, false, false, false, false, false, false] (by kernel_rfl) rfl rfl ⟨(MM.out.cells).1, (MM.out.cells).2, (CE.out _ MM.out.P).1⟩ (fun hHeld => ?_)
                generalize wr.drew = Wd at MM hHeld ⊢
                refine pure_ (i := 0) (N := some 100) (v := ?_) (a' := ?_) #[true, false, false, false, false, false, false, false, false, false, false, false, false, false, false, false, false, false, false, false, false, false, false, false, false, false, false, false, false, false] rfl rfl (by kernel_rfl) (fun _ _ _ h => h) (Or.inl ⟨by rfl, ?_⟩) ?_ ?_
                rotate_left
                · intro w'
                  go_simp
                  with_reducible rfl
                rotate_left
                · simp only [Act.put, List.setIfInBounds_toArray, List.set_cons_zero, List.set_cons_succ, i64_w, i32_w]
                  rfl
                refine pure_ (i := 2) (N := some 102) (v := ?_) (a' := ?_) #[true, false, true, false, false, false, false, false, false, false, false, false, false, false, false, false, false, false, false, false, false, false, false, false, false, false, false, false, false, false] rfl rfl (by kernel_rfl) (fun _ _ _ h => h) (Or.inl ⟨by rfl, ?_⟩) ?_ ?_
                rotate_left
                · intro w'
                  go_simp
                  with_reducible rfl
                rotate_left
                · simp only [Act.put, List.setIfInBounds_toArray, List.set_cons_zero, List.set_cons_succ, i64_w, i32_w]
                  rfl
                refine pure_ (i := 5) (N := some 105) (v := ?_) (a' := ?_) #[true, false, true, false, false, true, false, false, false, false, false, false, false, false, false, false, false, false, false, false, false, false, false, false, false, false, false, false, false, false] rfl rfl (by kernel_rfl) (fun _ _ _ h => h) (Or.inl ⟨by rfl, ?_⟩) ?_ ?_
                rotate_left
                · intro w'
                  go_simp
                  with_reducible rfl
                rotate_left
                · simp only [Act.put, List.setIfInBounds_toArray, List.set_cons_zero, List.set_cons_succ, i64_w, i32_w]
                  rfl
                refine pure_ (i := 7) (N := some 107) (v := ?_) (a' := ?_) #[true, false, true, false, false, true, false, true, false, false, false, false, false, false, false, false, false, false, false, false, false, false, false, false, false, false, false, false, false, false] rfl rfl (by kernel_rfl) (fun _ _ _ h => h) (Or.inl ⟨by rfl, ?_⟩) ?_ ?_
                rotate_left
                · intro w'
                  go_simp
                  with_reducible rfl
                rotate_left
                · simp only [Act.put, List.setIfInBounds_toArray, List.set_cons_zero, List.set_cons_succ, i64_w, i32_w]
                  rfl
                refine pure_ (i := 8) (N := some 108) (v := ?_) (a' := ?_) #[true, false, true, false, false, true, false, true, true, false, false, false, false, false, false, false, false, false, false, false, false, false, false, false, false, false, false, false, false, false] rfl rfl (by kernel_rfl) (fun _ _ _ h => h) (Or.inl ⟨by rfl, ?_⟩) ?_ ?_
                rotate_left
                · intro w'
                  go_simp
                  with_reducible rfl
                rotate_left
                · simp only [Act.put, List.setIfInBounds_toArray, List.set_cons_zero, List.set_cons_succ, i64_w, i32_w]
                  rfl
                refine pure_ (i := 9) (N := some 109) (v := ?_) (a' := ?_) #[true, false, true, false, false, true, false, true, true, true, false, false, false, false, false, false, false, false, false, false, false, false, false, false, false, false, false, false, false, false] rfl rfl (by kernel_rfl) (fun _ _ _ h => h) (Or.inl ⟨by rfl, ?_⟩) ?_ ?_
                rotate_left
                · intro w'
                  go_simp
                  with_reducible rfl
                rotate_left
                · simp only [Act.put, List.setIfInBounds_toArray, List.set_cons_zero, List.set_cons_succ, i64_w, i32_w]
                  rfl
                refine pure_ (i := 10) (N := some 110) (v := ?_) (a' := ?_) #[true, false, true, false, false, true, false, true, true, true, true, false, false, false, false, false, false, false, false, false, false, false, false, false, false, false, false, false, false, false] rfl rfl (by kernel_rfl) (fun _ _ _ h => h) (Or.inl ⟨by rfl, ?_⟩) ?_ ?_
                rotate_left
                · intro w'
                  go_simp
                  with_reducible rfl
                rotate_left
                · simp only [Act.put, List.setIfInBounds_toArray, List.set_cons_zero, List.set_cons_succ, i64_w, i32_w]
                  rfl
                refine take_ (i := 1) (N := some 101) (v := ?_) (a' := ?_) #[true, true, true, false, false, true, false, true, true, true, true, false, false, false, false, false, false, false, false, false, false, false, false, false, false, false, false, false, false, false] rfl rfl (by kernel_rfl) (fun _ _ _ h => h) (Or.inl ⟨by rfl, ?_⟩) hHeld ?_ ?_
                rotate_left
                · rintro w' ⟨s0, s1, s2⟩
                  go_simp
                  with_reducible rfl
                rotate_left
                · simp only [Act.put, List.setIfInBounds_toArray, List.set_cons_zero, List.set_cons_succ, i64_w, i32_w]
                  rfl
                refine take_ (i := 6) (N := some 106) (v := ?_) (a' := ?_) #[true, true, true, false, false, true, true, true, true, true, true, false, false, false, false, false, false, false, false, false, false, false, false, false, false, false, false, false, false, false] rfl rfl (by kernel_rfl) (fun _ _ _ h => h) (Or.inl ⟨by rfl, ?_⟩) hHeld ?_ ?_
                rotate_left
                · rintro w' ⟨s0, s1, s2⟩
                  go_simp
                  with_reducible rfl
                rotate_left
                · simp only [Act.put, List.setIfInBounds_toArray, List.set_cons_zero, List.set_cons_succ, i64_w, i32_w]
                  rfl
                refine take_ (i := 11) (N := some 111) (v := ?_) (a' := ?_) #[true, true, true, false, false, true, true, true, true, true, true, true, false, false, false, false, false, false, false, false, false, false, false, false, false, false, false, false, false, false] rfl rfl (by kernel_rfl) (fun _ _ _ h => h) (Or.inl ⟨by rfl, ?_⟩) hHeld ?_ ?_
                rotate_left
                · rintro w' ⟨s0, s1, s2⟩
                  go_simp
                  with_reducible rfl
                rotate_left
                · simp only [Act.put, List.setIfInBounds_toArray, List.set_cons_zero, List.set_cons_succ, i64_w, i32_w]
                  rfl
                refine pure_ (i := 12) (N := some 112) (v := ?_) (a' := ?_) #[true, true, true, false, false, true, true, true, true, true, true, true, true, false, false, false, false, false, false, false, false, false, false, false, false, false, false, false, false, false] rfl rfl (by kernel_rfl) (fun _ _ _ h => h) (Or.inl ⟨by rfl, ?_⟩) ?_ ?_
                rotate_left
                · intro w'
                  go_simp
                  with_reducible rfl
                rotate_left
                · simp only [Act.put, List.setIfInBounds_toArray, List.set_cons_zero, List.set_cons_succ, i64_w, i32_w]
                  rfl
                refine one_ (i := 3) (N := some 103) #[true, true, true, true, false, true, true, true, true, true, true, true, true, false, false, false, false, false, false, false, false, false, false, false, false, false, false, false, false, false] rfl rfl (by kernel_rfl) (by decide) (fun K hK => ?_)
                refine value_ (w1 := ?_) (v := ?_) (by rfl) rfl ?_ ?_
                rotate_left 2
                · go_simp
                  constructor
                  · rfl
                  · rfl
                have m_ := MM.out.box3 STB.out
                obtain ⟨g3, hz_⟩ : ∃ z_, z_ = Wd.heap.size := ⟨_, rfl⟩
                rw [← hz_] at m_ ⊢
                generalize Wd.alloc (.cells #[.slice (some ⟨ng, 0, none⟩) ks.length nc] 33) = We1 at m_ ⊢
                clear hz_ MM
                have MM := Aside0.mk m_
                clear m_
                refine hK.out _ _ ⟨(MM.out.cells).1, (MM.out.cells).2, (CE.out _ MM.out.P).1⟩ (fun hHeld => ?_)
                clear hK K
                refine norm_ (a' := ?_) ?_ ?_
                rotate_left
                · show Act.put _ (some 103) _ = _
                  simp only [Act.put, List.setIfInBounds_toArray, List.set_cons_zero, List.set_cons_succ, i64_w, i32_w]
                  rfl
                refine one_ (i := 4) (N := some 104) #[true, true, true, true, true, true, true, true, true, true, true, true, true, false, false, false, false, false, false, false, false, false, false, false, false, false, false, false, false, false] rfl rfl (by kernel_rfl) (by decide) (fun K hK => ?_)
                obtain ⟨inn, hown, fin⟩ := MM.out.app4 STB.out
                have hszI := MM.out.I.bel.size
                refine step_append_lies _ rfl (.tmp 101) (.tmp 103) _ rfl w.heap.size 33 i33 _ 1 24 Try.underlying22 hi33 hz33 hs33 hb33 rfl (by omega) nv rows.length inn rfl hown ⟨g3, 0, none⟩ 1 1 [.slice (some ⟨ng, 0, none⟩) ks.length nc] rfl rfl (World.news_of_block (MM.out.B3 _ rfl rfl)) (by simp [Value.oneCell']) (by omega) (by unfold maxLen; omega) (by omega) hszI We1.heap.size rfl ?_
                intro gg cap4 We2 hown4 hgr4 hat4 hlt4
                have m_ := fin _ _ _ hown4 hgr4 hat4
                clear fin hown hown4 hgr4 hat4 hlt4 hszI MM
                have MM := Aside0.mk m_
                clear m_
                refine hK.out _ _ ⟨(MM.out.cells).1, (MM.out.cells).2, (CE.out _ MM.out.P).1⟩ (fun hHeld => ?_)
                clear hK K
                refine norm_ (a' := ?_) ?_ ?_
                rotate_left
                · show Act.put _ (some 104) _ = _
                  simp only [Act.put, List.setIfInBounds_toArray, List.set_cons_zero, List.set_cons_succ, i64_w, i32_w]
                  rfl
                refine pure_ (i := 13) (N := some 113) (v := ?_) (a' := ?_) #[true, true, true, true, true, true, true, true, true, true, true, true, true, true, false, false, false, false, false, false, false, false, false, false, false, false, false, false, false, false] rfl rfl (by kernel_rfl) (fun _ _ _ h => h) (Or.inl ⟨by rfl, ?_⟩) ?_ ?_
                rotate_left
                · intro w'
                  go_simp
                  with_reducible rfl
                rotate_left
                · simp only [Act.put, List.setIfInBounds_toArray, List.set_cons_zero, List.set_cons_succ, i64_w, i32_w]
                  rfl
                refine pure_ (i := 14) (N := some 114) (v := undef) (a' := ?_) #[true, true, true, true, true, true, true, true, true, true, true, true, true, true, true, false, false, false, false, false, false, false, false, false, false, false, false, false, false, false] rfl rfl (by kernel_rfl) (fun _ _ _ h => h) (Or.inr ⟨by rfl, rfl⟩) ?_ ?_
                rotate_left
                · simp only [Act.put, List.setIfInBounds_toArray, List.set_cons_zero, List.set_cons_succ, i64_w, i32_w]
                  rfl
                refine pure_ (i := 15) (N := some 115) (v := undef) (a' := ?_) #[true, true, true, true, true, true, true, true, true, true, true, true, true, true, true, true, false, false, false, false, false, false, false, false, false, false, false, false, false, false] rfl rfl (by kernel_rfl) (fun _ _ _ h => h) (Or.inr ⟨by rfl, rfl⟩) ?_ ?_
                rotate_left
                · simp only [Act.put, List.setIfInBounds_toArray, List.set_cons_zero, List.set_cons_succ, i64_w, i32_w]
                  rfl
                refine pure_ (i := 16) (N := some 116) (v := undef) (a' := ?_) #[true, true, true, true, true, true, true, true, true, true, true, true, true, true, true, true, true, false, false, false, false, false, false, false, false, false, false, false, false, false] rfl rfl (by kernel_rfl) (fun _ _ _ h => h) (Or.inr ⟨by rfl, rfl⟩) ?_ ?_
                rotate_left
                · simp only [Act.put, List.setIfInBounds_toArray, List.set_cons_zero, List.set_cons_succ, i64_w, i32_w]
                  rfl
                refine pure_ (i := 17) (N := some 117) (v := undef) (a' := ?_) #[true, true, true, true, true, true, true, true, true, true, true, true, true, true, true, true, true, true, false, false, false, false, false, false, false, false, false, false, false, false] rfl rfl (by kernel_rfl) (fun _ _ _ h => h) (Or.inr ⟨by rfl, rfl⟩) ?_ ?_
                rotate_left
                · simp only [Act.put, List.setIfInBounds_toArray, List.set_cons_zero, List.set_cons_succ, i64_w, i32_w]
                  rfl
                refine pure_ (i := 18) (N := some 118) (v := undef) (a' := ?_) #[true, true, true, true, true, true, true, true, true, true, true, true, true, true, true, true, true, true, true, false, false, false, false, false, false, false, false, false, false, false] rfl rfl (by kernel_rfl) (fun _ _ _ h => h) (Or.inr ⟨by rfl, rfl⟩) ?_ ?_
                rotate_left
                · simp only [Act.put, List.setIfInBounds_toArray, List.set_cons_zero, List.set_cons_succ, i64_w, i32_w]
                  rfl
                refine pure_ (i := 19) (N := some 119) (v := undef) (a' := ?_) #[true, true, true, true, true, true, true, true, true, true, true, true, true, true, true, true, true, true, true, true, false, false, false, false, false, false, false, false, false, false] rfl rfl (by kernel_rfl) (fun _ _ _ h => h) (Or.inr ⟨by rfl, rfl⟩) ?_ ?_
                rotate_left
                · simp only [Act.put, List.setIfInBounds_toArray, List.set_cons_zero, List.set_cons_succ, i64_w, i32_w]
                  rfl
                refine pure_ (i := 20) (N := some 120) (v := undef) (a' := ?_) #[true, true, true, true, true, true, true, true, true, true, true, true, true, true, true, true, true, true, true, true, true, false, false, false, false, false, false, false, false, false] rfl rfl (by kernel_rfl) (fun _ _ _ h => h) (Or.inr ⟨by rfl, rfl⟩) ?_ ?_
                rotate_left
                · simp only [Act.put, List.setIfInBounds_toArray, List.set_cons_zero, List.set_cons_succ, i64_w, i32_w]
                  rfl
                refine pure_ (i := 21) (N := some 121) (v := undef) (a' := ?_) #[true, true, true, true, true, true, true, true, true, true, true, true, true, true, true, true, true, true, true, true, true, true, false, false, false, false, false, false, false, false] rfl rfl (by kernel_rfl) (fun _ _ _ h => h) (Or.inr ⟨by rfl, rfl⟩) ?_ ?_
                rotate_left
                · simp only [Act.put, List.setIfInBounds_toArray, List.set_cons_zero, List.set_cons_succ, i64_w, i32_w]
                  rfl
                refine pure_ (i := 22) (N := some 122) (v := undef) (a' := ?_) #[true, true, true, true, true, true, true, true, true, true, true, true, true, true, true, true, true, true, true, true, true, true, true, false, false, false, false, false, false, false] rfl rfl (by kernel_rfl) (fun _ _ _ h => h) (Or.inr ⟨by rfl, rfl⟩) ?_ ?_
                rotate_left
                · simp only [Act.put, List.setIfInBounds_toArray, List.set_cons_zero, List.set_cons_succ, i64_w, i32_w]
                  rfl
                refine pure_ (i := 23) (N := some 123) (v := ?_) (a' := ?_) #[true, true, true, true, true, true, true, true, true, true, true, true, true, true, true, true, true, true, true, true, true, true, true, true, false, false, false, false, false, false] rfl rfl (by kernel_rfl) (fun _ _ _ h => h) (Or.inl ⟨by rfl, ?_⟩) ?_ ?_
                rotate_left
                · intro w'
                  go_simp
                  with_reducible rfl
                rotate_left
                · simp only [Act.put, List.setIfInBounds_toArray, List.set_cons_zero, List.set_cons_succ, i64_w, i32_w]
                  rfl
                refine pure_ (i := 26) (N := some 126) (v := ?_) (a' := ?_) #[true, true, true, true, true, true, true, true, true, true, true, true, true, true, true, true, true, true, true, true, true, true, true, true, false, false, true, false, false, false] rfl rfl (by kernel_rfl) (fun _ _ _ h => h) (Or.inl ⟨by rfl, ?_⟩) ?_ ?_
                rotate_left
                · intro w'
                  go_simp
                  with_reducible rfl
                rotate_left
                · simp only [Act.put, List.setIfInBounds_toArray, List.set_cons_zero, List.set_cons_succ, i64_w, i32_w]
                  rfl
                refine one_ (i := 24) (N := some 124) #[true, true, true, true, true, true, true, true, true, true, true, true, true, true, true, true, true, true, true, true, true, true, true, true, true, false, true, false, false, false] rfl rfl (by kernel_rfl) (by decide) (fun K hK => ?_)
                refine value_ (w1 := ?_) (v := ?_) (by rfl) rfl ?_ ?_
                rotate_left 2
                · go_simp
                  constructor
                  · rfl
                  · rfl
                have m_ := MM.out.box18 STB.out
                obtain ⟨g18, hz_⟩ : ∃ z_, z_ = We2.heap.size := ⟨_, rfl⟩
                rw [← hz_] at m_ ⊢
                generalize We2.alloc (.cells #[.bool false] 4) = We3 at m_ ⊢
                clear hz_ MM
                have MM := Aside0.mk m_
                clear m_
                refine hK.out _ _ ⟨(MM.out.cells).1, (MM.out.cells).2, (CE.out _ MM.out.P).1⟩ (fun hHeld => ?_)
                clear hK K
                refine norm_ (a' := ?_) ?_ ?_
                rotate_left
                · show Act.put _ (some 124) _ = _
                  simp only [Act.put, List.setIfInBounds_toArray, List.set_cons_zero, List.set_cons_succ, i64_w, i32_w]
                  rfl
                refine one_ (i := 25) (N := some 125) #[true, true, true, true, true, true, true, true, true, true, true, true, true, true, true, true, true, true, true, true, true, true, true, true, true, true, true, false, false, false] rfl rfl (by kernel_rfl) (by decide) (fun K hK => ?_)
                obtain ⟨inn, hown, fin⟩ := MM.out.app19 STB.out
                have hszI := MM.out.I.bel.size
                have hel := ELEN.out
                refine step_append_lies _ rfl (.tmp 106) (.tmp 124) _ rfl w.heap.size 4 i4 _ 1 1 Try.underlying23 hi4 hz4 hs4 hb4 rfl (by omega) ev _ inn rfl hown ⟨g18, 0, none⟩ 1 1 [.bool false] rfl rfl (World.news_of_block (MM.out.B18 _ rfl)) (by simp [Value.oneCell']) (by omega) (by unfold maxLen; omega) (by omega) hszI We3.heap.size rfl ?_
                intro gg2 cap7 Wg hown4 hgr4 hat4 hlt4
                have m_ := fin _ _ _ hown4 hgr4 hat4
                have ME := Aside0.mk m_
                have f1 := blk_frozen ME.out.G 1
                have f2 := blk_frozen ME.out.G 2
                have c1_ := blk_cell ME.out.G 1
                have c2_ := blk_cell ME.out.G 2
                clear fin hown hown4 hgr4 hat4 hlt4 hszI hel m_
                refine hK.out _ _ ⟨((blk_cell ME.out.G 1).trans rfl), ((blk_cell ME.out.G 2).trans rfl), (CE.out _ ME.out.P).1⟩ (fun hHeld => ?_)
                clear hK K
                refine norm_ (a' := ?_) ?_ ?_
                rotate_left
                · show Act.put _ (some 125) _ = _
                  simp only [Act.put, List.setIfInBounds_toArray, List.set_cons_zero, List.set_cons_succ, i64_w, i32_w]
                  rfl
                refine last_ (i := 27) (N := none) #[true, true, true, true, true, true, true, true, true, true, true, true, true, true, true, true, true, true, true, true, true, true, true, true, true, true, true, true, false, false] rfl rfl (by kernel_rfl) (by decide) (fun K hK => ?_)
                refine skip_ (w1 := ?_) (by rfl) rfl ?_ ?_
                rotate_left
                · go_simp
                  rfl
                refine hK.out _ _ ?_
                clear hK K
                refine pure_ (i := 28) (N := some 127) (v := ?_) (a' := ?_) #[true, true, true, true, true, true, true, true, true, true, true, true, true, true, true, true, true, true, true, true, true, true, true, true, true, true, true, true, true, false] rfl rfl (by kernel_rfl) (fun _ _ _ h => h) (Or.inl ⟨by rfl, ?_⟩) ?_ ?_
                rotate_left
                · intro w'
                  go_simp
                  with_reducible rfl
                rotate_left
                · simp only [Act.put, List.setIfInBounds_toArray, List.set_cons_zero, List.set_cons_succ, i64_w, i32_w]
                  rfl
                refine last_ (i := 29) (N := none) #[true, true, true, true, true, true, true, true, true, true, true, true, true, true, true, true, true, true, true, true, true, true, true, true, true, true, true, true, true, true] rfl rfl (by kernel_rfl) (by decide) (fun K hK => ?_)
                refine skip_ (w1 := ?_) (by rfl) rfl ?_ ?_
                rotate_left
                · go_simp
                  rfl
                refine hK.out _ _ ?_
                clear hK K
                refine done_ (by kernel_rfl) ?_
                -- REGION 21 OFF END
                obtain ⟨Wz, hWz⟩ : ∃ Wz, Wz = (Wg.setCell ⟨gd, 1, none⟩ (.slice (some ⟨gg, 0, none⟩) (rows.length + 1) cap4)).setCell ⟨gd, 2, none⟩ (.slice (some ⟨gg2, 0, none⟩) (ens.length + 1) cap7) := ⟨_, rfl⟩
                rw [← hWz]
                obtain ⟨IZ, OZ⟩ := ME.out.stored hge
                have hb1 := blk_put ME.out.G 1 (.slice (some ⟨gg, 0, none⟩) (rows.length + 1) cap4) rfl
                have LZ := LS.far (p := ⟨gd, 2, none⟩) (LS.far (p := ⟨gd, 1, none⟩) ME.out.P ME.out.G (by decide) (.slice (some ⟨gg, 0, none⟩) (rows.length + 1) cap4)) hb1 (by decide) (.slice (some ⟨gg2, 0, none⟩) (ens.length + 1) cap7)
                rw [← hWz] at IZ OZ LZ
                have hen := cellOf_ends (endM e2) PFX.out HX.out (v := false) (by unfold endM; rw [decide_eq_false HXX.out]; rfl)
                rw [← HENS.out] at hen
                have IZ' := Aside0.mk IZ
                have LZ' := Aside0.mk LZ
                have OZ' := Aside0.mk OZ
                have HEN := Aside0.mk hen
                clear IZ OZ LZ hb1 hWz f1 f2 c1_ c2_ hi33 hz33 hs33 hb33 hi4 hz4 hs4 hb4 hen ME MM
                go_wp2_with fail
                go_roundg K
                case measure => omega
                case rel =>
                  refine ⟨l2, rows ++ [ks], some ⟨lg, 0, none⟩, mc, rfl, by simp, IZ', LZ', ⟨?_⟩, TE, BD⟩
                  have h1 := OZ'.out
                  rw [HEN.out] at h1
                  simpa using h1
        · skip
          have hltb : decide ((rows.length : Int) < (l.length : Int)) = false := decide_eq_false (by omega)
          obtain ⟨⟨nv, ev, hob, hn, he⟩, _⟩ := OO.out
          have o0 := blk_cell hob 0
          have o1 := blk_cell hob 1
          have o2 := blk_cell hob 2
          have hT := TE.out.done (by omega)
          have hrl : rows.length = l.length := Nat.le_antisymm TE.out.2.2.1 (by omega)
          rw [List.take_of_length_le (Nat.le_of_eq hrl.symm)] at he
          have e : r1 = sg ∧ r2 = rows ∧ r3 = l.map (endM e2) ∧ r4 = 0 := by
            have := HH.out
            rw [hT] at this
            simp only [markRes, Prod.mk.injEq] at this
            exact ⟨this.1.symm, this.2.1.symm, this.2.2.1.symm, this.2.2.2.symm⟩
          obtain ⟨rfl, rfl, hr3, rfl⟩ := e
          rw [← hr3] at he
          clear hr3 HH hT hrl
          have k6 := II.out.o 0
          have k7 := II.out.o 1
          have k8 := II.out.o 2
          have m6 := blk_frozen II.out.ho 0
          have m7 := blk_frozen II.out.ho 1
          have m8 := blk_frozen II.out.ho 2
          obtain ⟨Av, cv, rfl⟩ := Kd.S_slice hn
          obtain ⟨Ae, ce, rfl⟩ := Kd.R_slice he
          obtain ⟨kp3, hb3, bl3⟩ := keeps_put3 II.out.bel (show w.heap.size ≤ w.heap.size + 1 + 1 by omega) II.out.ho (.int .i64 r1) (.slice Av _ cv) (.slice Ae _ ce)
          have FIN := Aside0.mk (And.intro hb3 (And.intro (S_keeps (S_apart hn he) kp3 (by decide)) (R_keeps he kp3 (by decide))))
          have BEL := Aside0.mk bl3
          replace hb3 := Aside0.mk hb3
          replace kp3 := Aside0.mk kp3
          go_wp2_with fail
          refine bodyPost_ret (results_ct rfl _ _ (w.heap.size + 1 + 1) 25 #[.int .i64 r1, _, _] (0, 0) _ rfl FIN.out.1 Try.underlying25 rfl (by kernel_rfl)) rfl ?_
          exact ⟨_, _, rfl, FIN.out.2.1, FIN.out.2.2, BEL.out⟩
end Go.Proofs.Ytpedenbcfbflbaa.X
