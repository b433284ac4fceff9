import Derived.Test.YtpedenbcfbflbaaXMid
import Derived.Test.YtpedenbcfbflbaaXRefR
namespace Go.Proofs.Ytpedenbcfbflbaa.X
open Go.RowKit Go.Proofs.YtpedenbcfbflbaaW.PrintWords Go.Proofs.YtpedenbcfbflbaaW.PrintLast Go.Proofs.YtpedenbcfbflbaaW.PrintMore Go.Maps Num
set_option linter.unusedVariables false
set_option linter.unusedSimpArgs false

theorem info58 : (Try.prog.info? 58).map (fun i => (i.zero, i.size, i.bytes)) = some (some (.agg #[.int .i64 0, .int .i64 0]), 2, 16) := by kernel_rfl

/-- A list of states as it stands (the reference's: a row of structs, t their type). -/
def LS (w : World) (t : Nat) (v : Value) (l : List (Int × Int)) (W : World) : Prop := W.ownsRow w.heap.size t 2 v l.length (cells2 l)
section
variable {w W W' : World} {t : Nat} {v : Value} {l : List (Int × Int)}
theorem LS.below (h : LS w t v l W) (hb : Below W.heap.size W W') : LS w t v l W' := pw_own_below h hb
theorem LS.far (h : LS w t v l W) {p : Addr} {cs : Array Value} {q : Nat} (hp : W.heap[p.block]? = some (.cells cs q (0, 0))) (h1 : q ≠ t) (u : Value) : LS w t v l (W.setCell p u) := own_setCell h (own_block_ne h hp (fun e => h1 e.symm)) _
theorem LS.grown (h : LS w t v l W) {base e size n : Nat} {v' : Value} {xs : List Value} (hv : W.ownsRow base e size v' n xs) (hg : W.grownBy W' v'.ownBlock) (h1 : e ≠ t) : LS w t v l W' := own_other h hg (own_type_ne h hv (fun e => h1 e.symm))
theorem LS.form (h : LS w t v l W) (hl : 0 < l.length) : ∃ g cap, v = .slice (some ⟨g, 0, none⟩) l.length cap := by
  obtain ⟨g, cap, he, _, _⟩ := World.ownsRow.form h hl
  exact ⟨g, cap, he⟩
/-- A state where it stands. -/
theorem LS.cells {A : Option Addr} {cp : Nat} (h : LS w t (.slice A l.length cp) l W) (i : Nat) (x : Int × Int) (hx : l[i]? = some x) :
    ∃ g, A = some ⟨g, 0, none⟩ ∧ W.cell? ⟨g, i * 2, none⟩ = some (.int .i64 x.1) ∧ W.cell? ⟨g, i * 2 + 1, none⟩ = some (.int .i64 x.2) := by
  have hlt := (List.getElem?_eq_some_iff.1 hx).1
  obtain ⟨g, cap, he⟩ := h.form (by omega)
  injection he with he _ _
  subst he
  have hget : ∀ (l : List (Int × Int)) (i : Nat) (x : Int × Int), l[i]? = some x → (cells2 l)[i * 2]? = some (.int .i64 x.1) ∧ (cells2 l)[i * 2 + 1]? = some (.int .i64 x.2) := by
    intro l
    induction l with
    | nil => intro i x h; simp at h
    | cons y r ih =>
      intro i x h
      have ec : cells2 (y :: r) = .int .i64 y.1 :: .int .i64 y.2 :: cells2 r := by simp [cells2]
      cases i with
      | zero => simp at h; subst h; simp [ec]
      | succ i =>
        obtain ⟨h1, h2⟩ := ih i x (by simpa using h)
        rw [ec]
        exact ⟨by rw [show (i + 1) * 2 = i * 2 + 1 + 1 by omega]; simpa using h1, by rw [show (i + 1) * 2 + 1 = i * 2 + 1 + 1 + 1 by omega]; simpa using h2⟩
  obtain ⟨h1, h2⟩ := hget l i x hx
  have a1 := World.ownsRow.cells h (g := g) rfl (i * 2) _ h1
  have a2 := World.ownsRow.cells h (g := g) rfl (i * 2 + 1) _ h2
  rw [add_plain] at a1 a2
  exact ⟨g, rfl, by simpa using a1, by simpa using a2⟩
end
/-- Where a search ends. -/
theorem idx_of {l : List (Int × Int)} {y : Int × Int} {j : Nat} (h0 : ∀ i, i < j → l[i]? ≠ some y) (hj : j ≤ l.length) (h1 : l.length ≤ j ∨ l[j]? = some y) : idx l y = j := by
  induction l generalizing j with
  | nil => simp at hj; subst hj; rfl
  | cons z r ih =>
    unfold idx
    by_cases hz : z = y
    · rw [if_pos hz]
      cases j with
      | zero => rfl
      | succ j => exact absurd (by simp [hz]) (h0 0 (by omega))
    · rw [if_neg hz]
      cases j with
      | zero =>
        rcases h1 with h1 | h1
        · simp at h1
        · simp at h1; exact absurd h1 hz
      | succ j =>
        rw [ih (j := j) (fun i hi => by simpa using h0 (i + 1) (by omega)) (by simpa using hj) (by simpa using h1)]
theorem put_in {l : List (Int × Int)} {y : Int × Int} (h : idx l y < l.length) : put l y = l := by
  unfold put; rw [if_pos (idx_lt.1 h)]
theorem put_new {l : List (Int × Int)} {y : Int × Int} (h : idx l y = l.length) : put l y = l ++ [y] := by
  unfold put; rw [if_neg (fun hm => by have := idx_lt.2 hm; omega)]
theorem app_ints {W : World} {base : Nat} {v : Value} {ks : List Int} (q : Int) (h : Kd.R (Kd.int .i64) 3 W base (fun _ => True) v ks) :
    ∃ inner, W.ownsRow base 3 1 v ks.length inner ∧ ∀ v1 w1, w1.ownsRow base 3 1 v1 (ks.length + 1) (inner ++ [.int .i64 q]) → W.grownBy w1 v.ownBlock → (v1.ownBlock = v.ownBlock ∨ ∃ b, v1.ownBlock = some b ∧ W.heap.size ≤ b) →
      Kd.R (Kd.int .i64) 3 w1 base (fun _ => True) v1 (ks ++ [q]) :=
  R_appended' (okp := fun _ => False) (p := q) (cs := [.int .i64 q]) h rfl (fun k hk => hk.elim) (fun _ _ => trivial)
theorem PO.grownRow {w W W' : World} {gd : Nat} {s : Int} {v v1 : Value} {rows : List (List Int)} {ends : List Bool} {base n : Nat} {xs : List Value} (h : PO w gd s (fun k => some k ≠ v.ownBlock) rows ends W) (hown : W.ownsRow base 3 1 v n xs) (hg : W.grownBy W' v.ownBlock)
    (hat : v1.ownBlock = v.ownBlock ∨ ∃ b, v1.ownBlock = some b ∧ W.heap.size ≤ b) : PO w gd s (fun k => some k ≠ v1.ownBlock) rows ends W' := by
  obtain ⟨⟨nv, ev, g1, g2, g3⟩, h4⟩ := h
  refine ⟨⟨nv, ev, blk_grown g1 hg (own_block_ne hown g1 (by decide)), ?_, R_keeps g3 (Keeps.of_grown hown hg) (by decide)⟩, h4⟩
  have h5 := Kd.S_bound g2
  refine Kd.S_mono (Kd.S_move h5 (fun k hk => hg.block k hk.2.2.1 hk.1)) (fun k hk => ?_)
  rcases hat with e | ⟨b, e, hb⟩
  · rw [e]; exact hk.1
  · rw [e]; intro e'; injection e' with e'; have := hk.2.2.1; omega
theorem PO.grownOther {w W W' : World} {gd : Nat} {s : Int} {v : Value} {ok : Nat → Prop} {rows : List (List Int)} {ends : List Bool} {base t size n : Nat} {xs : List Value} (h : PO w gd s ok rows ends W) (hown : W.ownsRow base t size v n xs) (hg : W.grownBy W' v.ownBlock) (ht : ∀ q, q ∈ [3, 4, 25, 33] → q ≠ t) : PO w gd s ok rows ends W' :=
  h.keeps (Keeps.of_grown hown hg) (fun q hq => ⟨ht q hq, ht q hq⟩)
end Go.Proofs.Ytpedenbcfbflbaa.X
