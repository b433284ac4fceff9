import Derived.Test.YtpedenbcfbflbaaXInv
namespace Go.Proofs.Ytpedenbcfbflbaa.X
open Go.RowKit Go.Proofs.YtpedenbcfbflbaaW.PrintWords Go.Proofs.YtpedenbcfbflbaaW.PrintLast Go.Proofs.YtpedenbcfbflbaaW.PrintMore Go.Maps Num
set_option linter.unusedVariables false
set_option linter.unusedSimpArgs false

/-- The pairs as they stand: their block, their map, their list. -/
structure PL (w : World) (gp mb : Nat) (l : List (Int × Int)) (W : World) : Prop where
  lst : ∃ A cp, W.heap[gp]? = some (.cells #[.map (some mb), .slice A l.length cp] 80 (0, 0)) ∧ W.ownsRow w.heap.size 82 2 (.slice A l.length cp) l.length (cells2 l)
  map : ∃ D, W.ownsMap Try.prog 82 (plainElem Try.prog 3) mb l.length D ∧ Known Try.prog 82 enc2 l D
  gp_le : w.heap.size ≤ gp
  mb_le : w.heap.size ≤ mb
section
variable {w W W' : World} {gp mb : Nat} {l : List (Int × Int)}
theorem PL.below (h : PL w gp mb l W) (hb : Below W.heap.size W W') : PL w gp mb l W' := by
  obtain ⟨⟨A, cp, h1, h2⟩, ⟨D, h3, h4⟩, h5, h6⟩ := h
  exact ⟨⟨A, cp, blk_below h1 hb, pw_own_below h2 hb⟩, ⟨D, h3.kept (grown_of_below hb none) (by simp), h4⟩, h5, h6⟩
/-- What a store into a block of another type, or a row of another type, leaves. -/
theorem PL.far (h : PL w gp mb l W) {p : Addr} {cs : Array Value} {q : Nat} (hp : W.heap[p.block]? = some (.cells cs q (0, 0))) (h1 : q ≠ 80) (h2 : q ≠ 82) (u : Value) : PL w gp mb l (W.setCell p u) := by
  obtain ⟨⟨A, cp, h3, h4⟩, ⟨D, h5, h6⟩, h7, h8⟩ := h
  refine ⟨⟨A, cp, blk_far h3 (blk_ne h3 hp (fun e => h1 e.symm)) _, own_setCell h4 (own_block_ne h4 hp (fun e => h2 e.symm)) _⟩, ⟨D, h5.setCell ?_ _, h6⟩, h7, h8⟩
  obtain ⟨es, clock, hb, _⟩ := h5
  rintro rfl
  rw [hp] at hb
  cases hb
theorem PL.grown (h : PL w gp mb l W) {base e size n : Nat} {v : Value} {xs : List Value} (hv : W.ownsRow base e size v n xs) (hg : W.grownBy W' v.ownBlock) (h1 : e ≠ 80) (h2 : e ≠ 82) : PL w gp mb l W' := by
  obtain ⟨⟨A, cp, h3, h4⟩, ⟨D, h5, h6⟩, h7, h8⟩ := h
  refine ⟨⟨A, cp, blk_grown h3 hg (own_block_ne hv h3 h1), own_other h4 hg (own_type_ne h4 hv (fun e => h2 e.symm))⟩, ⟨D, h5.kept hg ?_, h6⟩, h7, h8⟩
  obtain ⟨es, clock, hb, _⟩ := h5
  rcases own_map_ne hv hb with e | e
  · rw [e]; simp
  · exact fun e' => e e'.symm

/-- The number of a pair. -/
theorem PL.number (h : PL w gp mb l W) (x : Int × Int) (w1 : (Lit.int .i64 x.1).wf = true) (w2 : (Lit.int .i64 x.2).wf = true) (hB : Below w.heap.size w W) (hlen : l.length ≤ 100000) :
    Calls Try.prog 65 #[.pointer (some ⟨gp, 0, none⟩), .agg #[.int .i64 x.1, .int .i64 x.2]] W fun e w' => e = .returned (.int .i64 (idx l x)) ∧ PL w gp mb (put l x) w' ∧ Below w.heap.size W w' ∧ Keeps 80 82 W w' := by
  obtain ⟨⟨A, cp, h3, h4⟩, ⟨D, h5, h6⟩, h7, h8⟩ := h
  refine (number65 x l D gp mb w.heap.size A cp W w1 w2 hB.size hlen h7 h8 h3 h5 h6 h4).mono ?_
  rintro e w' ⟨rfl, D', A', cp', g1, g2, g3, g4, hc⟩
  refine ⟨rfl, ⟨⟨A', cp', g1, g4⟩, ⟨D', g2, g3⟩, h7, h8⟩, hc.below hB.size ?_, ⟨hc.size, fun k cs q hq1 hq2 hk => ?_⟩⟩
  · rintro i (rfl | rfl | hi)
    · exact h7
    · exact h8
    · exact own_base h4 i hi.symm
  · rw [hc.block k (blk_lt hk) ?_]
    · exact hk
    · rintro (rfl | rfl | hi)
      · rw [h3] at hk
        injection hk with hk
        injection hk with _ hk
        exact hq1 hk.symm
      · obtain ⟨es, clock, hb, _⟩ := h5
        rw [hk] at hb
        cases hb
      · exact own_block_ne h4 hk (fun e => hq2 e.symm) hi
end
theorem PL.start {w W : World} (hB : Below w.heap.size w W) : PL w (W.heap.size + 1) W.heap.size [] ((W.alloc (.map #[] 0)).alloc (.cells #[.map (some W.heap.size), .slice none 0 0] 80)) := by
  have hs := hB.size
  refine ⟨⟨none, 0, ?_, own_nil _ _ _ _⟩, ⟨.map [], ?_, Known.nil⟩, by omega, by omega⟩
  · have := blk_new (W.alloc (.map #[] 0)) (.cells #[.map (some W.heap.size), .slice none 0 0] 80)
    simpa using this
  · exact (World.ownsMap_made W _ _ _).alloc _
/-- What is made, as it stands: its block, its rows. -/
structure PO (w : World) (gd : Nat) (s : Int) (ok : Nat → Prop) (rows : List (List Int)) (ends : List Bool) (W : World) : Prop where
  blk : ∃ nv ev, W.heap[gd]? = some (.cells #[.int .i64 s, nv, ev] 25 (0, 0)) ∧ Kd.S (Kd.slice 3 (Kd.int .i64)) 33 W w.heap.size ok nv rows ∧ Kd.R Kd.bool 4 W w.heap.size (fun _ => True) ev ends
  ge : w.heap.size + 1 + 1 < gd
section
variable {w W W' : World} {gd : Nat} {s : Int} {ok : Nat → Prop} {rows : List (List Int)} {ends : List Bool}
theorem PO.below (h : PO w gd s ok rows ends W) (hb : Below W.heap.size W W') : PO w gd s ok rows ends W' := by
  obtain ⟨⟨nv, ev, h1, h2, h3⟩, h4⟩ := h
  exact ⟨⟨nv, ev, blk_below h1 hb, Kd.S_below h2 hb, Kd.R_below h3 hb⟩, h4⟩
theorem PO.keeps {t1 t2 : Nat} (h : PO w gd s ok rows ends W) (hk : Keeps t1 t2 W W') (h1 : ∀ q, q ∈ [3, 4, 25, 33] → q ≠ t1 ∧ q ≠ t2) : PO w gd s ok rows ends W' := by
  obtain ⟨⟨nv, ev, g1, g2, g3⟩, h4⟩ := h
  refine ⟨⟨nv, ev, hk.block _ _ _ (h1 25 (by simp)).1 (h1 25 (by simp)).2 g1, S_keeps g2 hk (fun q hq => h1 q ?_), R_keeps g3 hk (fun q hq => h1 q ?_)⟩, h4⟩
  · simp [Kd.slice, Kd.int, Kd.scalar] at hq; simp; omega
  · simp [Kd.bool, Kd.scalar] at hq; simp; omega
theorem PO.mono {ok' : Nat → Prop} (h : PO w gd s ok rows ends W) (hk : ∀ k, ok k → ok' k) : PO w gd s ok' rows ends W := by
  obtain ⟨⟨nv, ev, g1, g2, g3⟩, h4⟩ := h
  exact ⟨⟨nv, ev, g1, Kd.S_mono g2 hk, g3⟩, h4⟩
theorem PO.start {w W : World} {ca cb co : Array Value} {s : Int} (hB : Init3 w ca cb co W) : PO w W.heap.size s (fun _ => True) [] [] (W.alloc (.cells #[.int .i64 s, .slice none 0 0, .slice none 0 0] 25)) :=
  ⟨⟨_, _, blk_new _ _, Kd.S_nil _ _ _ _ _, Kd.R_nil _ _ _ _ _⟩, blk_lt hB.ho⟩
end

/-- The pairs are of states. -/
def Bd (a b : Nat) (l : List (Int × Int)) : Prop := ∀ x ∈ l, 0 ≤ x.1 ∧ x.1 < a ∧ 0 ≤ x.2 ∧ x.2 < b
theorem Bd.put {a b : Nat} {l : List (Int × Int)} (h : Bd a b l) {x : Int × Int} (hx : 0 ≤ x.1 ∧ x.1 < a ∧ 0 ≤ x.2 ∧ x.2 < b) : Bd a b (put l x) := by
  intro y hy
  unfold Num.put at hy
  split at hy
  · exact h y hy
  · rcases List.mem_append.1 hy with hy | hy
    · exact h y hy
    · rw [List.mem_singleton] at hy
      rw [hy]
      exact hx
/-- A pair where it stands. -/
theorem pair_cells {W : World} {base : Nat} {A : Option Addr} {cp : Nat} {l : List (Int × Int)} (h : W.ownsRow base 82 2 (.slice A l.length cp) l.length (cells2 l)) (i : Nat) (x : Int × Int) (hx : l[i]? = some x) :
    ∃ g, A = some ⟨g, 0, none⟩ ∧ W.cell? ⟨g, i * 2, none⟩ = some (.int .i64 x.1) ∧ W.cell? ⟨g, i * 2 + 1, none⟩ = some (.int .i64 x.2) := by
  have hlt := (List.getElem?_eq_some_iff.1 hx).1
  obtain ⟨g, cap, he, _, _⟩ := h.form (by omega)
  injection he with he _ _
  subst he
  have hget : ∀ (l : List (Int × Int)) (i : Nat) (x : Int × Int), l[i]? = some x → (cells2 l)[i * 2]? = some (.int .i64 x.1) ∧ (cells2 l)[i * 2 + 1]? = some (.int .i64 x.2) := by
    intro l
    induction l with
    | nil => intro i x h; simp at h
    | cons y r ih =>
      intro i x h
      have ec : cells2 (y :: r) = .int .i64 y.1 :: .int .i64 y.2 :: cells2 r := by simp [cells2]
      cases i with
      | zero => simp at h; subst h; simp [ec]
      | succ i =>
        obtain ⟨h1, h2⟩ := ih i x (by simpa using h)
        rw [ec]
        exact ⟨by rw [show (i + 1) * 2 = i * 2 + 1 + 1 by omega]; simpa using h1, by rw [show (i + 1) * 2 + 1 = i * 2 + 1 + 1 + 1 by omega]; simpa using h2⟩
  obtain ⟨h1, h2⟩ := hget l i x hx
  have a1 := h.cells (g := g) rfl (i * 2) _ h1
  have a2 := h.cells (g := g) rfl (i * 2 + 1) _ h2
  rw [add_plain] at a1 a2
  exact ⟨g, rfl, by simpa using a1, by simpa using a2⟩
/-- A cell of an automaton that is read. -/
theorem cell_next {W : World} {A : Option Addr} {n : List (List Int)} (hr : Kd.C (Kd.slice 3 (Kd.int .i64)) W A n.length n) (i : Int) (h0 : 0 ≤ i) (h1 : i < n.length) (s : Nat) (hs : s < (n.getD i.toNat []).length) :
    ∃ ad ra rc, A = some ad ∧ W.cell? (ad.add i.toNat) = some (.slice (some ra) (n.getD i.toNat []).length rc) ∧ W.cell? (ra.add s) = some (.int .i64 ((n.getD i.toNat []).getD s 0)) := by
  obtain ⟨ad, A0, c0, e, h2, h3, h4⟩ := at_row hr i.toNat (by omega)
  obtain ⟨ra, e2, h5⟩ := Kd.at_int h4 (s : Int) (by omega) (by omega)
  subst e2
  exact ⟨ad, ra, c0, e, h2, by simpa [rd] using h5⟩
theorem cell_next' {W : World} {A : Option Addr} {n : List (List Int)} (hr : Kd.C (Kd.slice 3 (Kd.int .i64)) W A n.length n) (i : Int) (h0 : 0 ≤ i) (h1 : i < n.length) (s : Nat) (hs : s < (n.getD i.toNat []).length) :
    ∃ ad ra rc N v, A = some ad ∧ W.cell? (ad.add i.toNat) = some (.slice (some ra) N rc) ∧ W.cell? (ra.add s) = some (.int .i64 v) ∧ s < N ∧ v = (n.getD i.toNat []).getD s 0 := by
  obtain ⟨ad, ra, rc, e, h2, h3⟩ := cell_next hr i h0 h1 s hs
  exact ⟨ad, ra, rc, _, _, e, h2, h3, hs, rfl⟩
theorem PO.old {w W : World} {gd : Nat} {s : Int} {ok : Nat → Prop} {rows : List (List Int)} {ends : List Bool} (h : PO w gd s ok rows ends W) : PO w gd s (fun k => ok k ∧ k < W.heap.size) rows ends W := by
  obtain ⟨⟨nv, ev, g1, g2, g3⟩, h4⟩ := h
  exact ⟨⟨nv, ev, g1, Kd.S_mono (Kd.S_bound g2) (fun k hk => ⟨hk.1, hk.2.2.1⟩), g3⟩, h4⟩
theorem PL.drew {w W : World} {gp mb : Nat} {l : List (Int × Int)} (h : PL w gp mb l W) : PL w gp mb l W.drew := h.below (below_drew (Below.refl _ _))
theorem getD_row {n : List (List Int)} {s : Int} (h : ∀ r ∈ n, (r.length : Int) = s ∧ ∀ x ∈ r, 0 ≤ x ∧ x < n.length) (i : Int) (h0 : 0 ≤ i) (h1 : i < n.length) : ((n.getD i.toNat []).length : Int) = s ∧ ∀ j, j < (n.getD i.toNat []).length → 0 ≤ (n.getD i.toNat []).getD j 0 ∧ (n.getD i.toNat []).getD j 0 < n.length := by
  have hm : n.getD i.toNat [] ∈ n := by
    rw [List.getD_eq_getElem?_getD, List.getElem?_eq_getElem (by omega)]
    exact List.getElem_mem _
  obtain ⟨h2, h3⟩ := h _ hm
  generalize n.getD i.toNat [] = r at *
  refine ⟨h2, fun j hj => h3 _ ?_⟩
  rw [List.getD_eq_getElem?_getD, List.getElem?_eq_getElem hj]
  exact List.getElem_mem _
theorem row_block {W : World} {base ng n nc : Nat} {ok : Nat → Prop} {xs : List Int} (h : Kd.R (Kd.int .i64) 3 W base ok (.slice (some ⟨ng, 0, none⟩) n nc) xs) : (∃ cells, W.heap[ng]? = some (.cells cells 3 (0, 0))) ∧ base ≤ ng := by
  obtain ⟨_, inner, ho, _⟩ := h
  exact ⟨own_typed ho ng rfl, own_base ho ng rfl⟩
theorem PO.put {w W : World} {gd : Nat} {s : Int} {ok : Nat → Prop} {rows : List (List Int)} {ends : List Bool} (h : PO w gd s ok rows ends W) {ng : Nat} {cells : Array Value} (hb : W.heap[ng]? = some (.cells cells 3 (0, 0))) (hok : ∀ k, ok k → k ≠ ng) (j : Nat) (u : Value) : PO w gd s ok rows ends (W.setCell ⟨ng, j, none⟩ u) := by
  obtain ⟨⟨nv, ev, g1, g2, g3⟩, h4⟩ := h
  refine ⟨⟨nv, ev, blk_far g1 (blk_ne g1 hb (by decide)) u, Kd.S_move g2 (fun k hk => Below.heap_setCell W ⟨ng, j, none⟩ u k (hok k hk)), Kd.R_set g3 hb (fun q hq => ?_) j u⟩, h4⟩
  simp [Kd.bool, Kd.scalar] at hq
  omega
theorem Init3.put {w W : World} {ca cb co : Array Value} (h : Init3 w ca cb co W) {ng : Nat} {cells : Array Value} (hb : W.heap[ng]? = some (.cells cells 3 (0, 0))) (hng : w.heap.size ≤ ng) (j : Nat) (u : Value) : Init3 w ca cb co (W.setCell ⟨ng, j, none⟩ u) :=
  ⟨blk_far h.ha (blk_ne h.ha hb (by decide)) u, blk_far h.hb (blk_ne h.hb hb (by decide)) u, blk_far h.ho (blk_ne h.ho hb (by decide)) u, h.bel.setCell (p := ⟨ng, j, none⟩) hng u⟩
theorem set_mid (ks : List Int) (u : Int) (k : Nat) : (ks ++ List.replicate (k + 1) 0).set ks.length u = (ks ++ [u]) ++ List.replicate k 0 := by
  rw [List.replicate_succ]
  simp
theorem PL.len {w W : World} {gp mb : Nat} {l : List (Int × Int)} (h : PL w gp mb l W) : ∃ A cp, W.cell? ⟨gp, 1, none⟩ = some (.slice A l.length cp) := by
  obtain ⟨⟨A, cp, h1, h2⟩, _⟩ := h
  exact ⟨A, cp, (blk_cell h1 1).trans rfl⟩
theorem Keeps.of_grown {W w1 : World} {base e size n : Nat} {v : Value} {xs : List Value} (hown : W.ownsRow base e size v n xs) (hg : W.grownBy w1 v.ownBlock) : Keeps e e W w1 :=
  ⟨hg.size, fun k cs q h1 _ hk => (blk_grown hk hg (own_block_ne hown hk (fun e' => h1 e'.symm)))⟩
theorem below_of_grown {w W w1 : World} {e size n : Nat} {v : Value} {xs : List Value} (hB : Below w.heap.size w W) (hown : W.ownsRow w.heap.size e size v n xs) (hg : W.grownBy w1 v.ownBlock) : Below w.heap.size W w1 :=
  pw_below_grown (Below.refl _ _) v.ownBlock hB.size hg (fun k hk => own_base hown k hk)
theorem Init3.far {w W : World} {ca cb co : Array Value} (h : Init3 w ca cb co W) {gd : Nat} (hg : w.heap.size + 1 + 1 < gd) (j : Nat) (u : Value) : Init3 w ca cb co (W.setCell ⟨gd, j, none⟩ u) :=
  ⟨blk_far h.ha (by simp; omega) u, blk_far h.hb (by simp; omega) u, blk_far h.ho (by simp; omega) u, h.bel.setCell (p := ⟨gd, j, none⟩) (by simp; omega) u⟩
/-- An end of an automaton that is read. -/
theorem cell_end {W : World} {B : Option Addr} {e : List Bool} (hb : Kd.C Kd.bool W B e.length e) (i : Int) (h0 : 0 ≤ i) (h1 : i < e.length) : ∃ ad v, B = some ad ∧ W.cell? (ad.add i.toNat) = some (.bool v) ∧ v = e.getD i.toNat false := by
  obtain ⟨ad, e1, h2⟩ := Kd.at_bool hb i h0 h1
  exact ⟨ad, _, e1, h2, rfl⟩
theorem app_rows {W : World} {base ng n nc : Nat} {nv : Value} {rows : List (List Int)} {ks : List Int} (h : Kd.S (Kd.slice 3 (Kd.int .i64)) 33 W base (fun k => k ≠ ng) nv rows) (hx : Kd.R (Kd.int .i64) 3 W base (fun _ => True) (.slice (some ⟨ng, 0, none⟩) n nc) ks) :
    ∃ inner, W.ownsRow base 33 1 nv rows.length inner ∧ ∀ v1 w1, w1.ownsRow base 33 1 v1 (rows.length + 1) (inner ++ [.slice (some ⟨ng, 0, none⟩) n nc]) → W.grownBy w1 nv.ownBlock → (v1.ownBlock = nv.ownBlock ∨ ∃ b, v1.ownBlock = some b ∧ W.heap.size ≤ b) →
      Kd.S (Kd.slice 3 (Kd.int .i64)) 33 w1 base (fun _ => True) v1 (rows ++ [ks]) := by
  obtain ⟨⟨cells, hcell⟩, _⟩ := row_block hx
  have h1 : Kd.S (Kd.slice 3 (Kd.int .i64)) 33 W base (fun k => True ∧ ¬ k = ng) nv rows := Kd.S_mono h (fun k hk => ⟨trivial, hk⟩)
  have hown : ∃ inner, W.ownsRow base 33 1 nv rows.length inner := by
    obtain ⟨f, h0, inner, ho, _⟩ := h1
    rw [List.length_zipIdx] at ho
    exact ⟨inner, ho⟩
  obtain ⟨i0, hown⟩ := hown
  exact S_appended (ok := fun _ => True) (okp := fun k => k = ng) (p := ks) (cs := [.slice (some ⟨ng, 0, none⟩) n nc]) h1 ⟨_, rfl, Kd.R_flat (fun h => h) hx (fun k hk _ => by injection hk with hk; exact hk.symm)⟩
    (fun k hk => by subst hk; exact ⟨trivial, own_block_ne hown hcell (by decide)⟩) (fun _ _ => trivial)
theorem app_ends {W : World} {base : Nat} {ev : Value} {ends : List Bool} (q : Bool) (h : Kd.R Kd.bool 4 W base (fun _ => True) ev ends) :
    ∃ inner, W.ownsRow base 4 1 ev ends.length inner ∧ ∀ v1 w1, w1.ownsRow base 4 1 v1 (ends.length + 1) (inner ++ [.bool q]) → W.grownBy w1 ev.ownBlock → (v1.ownBlock = ev.ownBlock ∨ ∃ b, v1.ownBlock = some b ∧ W.heap.size ≤ b) →
      Kd.R Kd.bool 4 w1 base (fun _ => True) v1 (ends ++ [q]) :=
  R_appended' (okp := fun _ => False) (p := q) (cs := [.bool q]) h rfl (fun k hk => hk.elim) (fun _ _ => trivial)
theorem PO.stored {w W : World} {gd : Nat} {s : Int} {nv ev v1 v2 : Value} {rows : List (List Int)} {ends : List Bool} (hb : W.heap[gd]? = some (.cells #[.int .i64 s, nv, ev] 25 (0, 0))) (hg : w.heap.size + 1 + 1 < gd)
    (h1 : Kd.S (Kd.slice 3 (Kd.int .i64)) 33 W w.heap.size (fun _ => True) v1 rows) (h2 : Kd.R Kd.bool 4 W w.heap.size (fun _ => True) v2 ends) :
    PO w gd s (fun _ => True) rows ends ((W.setCell ⟨gd, 1, none⟩ v1).setCell ⟨gd, 2, none⟩ v2) := by
  have hb1 := blk_put hb 1 v1 rfl
  have e1 : Keeps 25 25 W (W.setCell ⟨gd, 1, none⟩ v1) := ⟨by simp, fun k cs q hq _ hk => blk_far hk (blk_ne hk hb hq) _⟩
  have e2 : Keeps 25 25 (W.setCell ⟨gd, 1, none⟩ v1) ((W.setCell ⟨gd, 1, none⟩ v1).setCell ⟨gd, 2, none⟩ v2) := ⟨by simp, fun k cs q hq _ hk => blk_far hk (blk_ne hk hb1 hq) _⟩
  have e := e1.trans e2
  exact ⟨⟨v1, v2, blk_put hb1 2 v2 rfl, S_keeps h1 e (by decide), R_keeps h2 e (by decide)⟩, hg⟩
theorem ends_snoc {α : Type} {l l2 : List (Int × Int)} {x : Int × Int} {k : Nat} (f : Int × Int → α) (h : l <+: l2) (hx : l[k]? = some x) : (l.take k).map f ++ [f x] = (l2.take (k + 1)).map f := by
  obtain ⟨t, rfl⟩ := h
  have hlt := (List.getElem?_eq_some_iff.1 hx).1
  have h2 : (l ++ t)[k]? = some x := by rw [List.getElem?_append_left hlt]; exact hx
  rw [List.take_add_one, h2, List.take_append_of_le_length (by omega)]
  simp
theorem keeps_put {W : World} {g : Nat} {cs : Array Value} (hb : W.heap[g]? = some (.cells cs 25 (0, 0))) (j : Nat) (u : Value) : Keeps 25 25 W (W.setCell ⟨g, j, none⟩ u) :=
  ⟨by simp, fun k cs q hq _ hk => blk_far hk (blk_ne hk hb hq) _⟩
theorem keeps_put3 {w W : World} {g : Nat} {c0 c1 c2 : Value} (hB : Below w.heap.size w W) (hg : w.heap.size ≤ g) (hb : W.heap[g]? = some (.cells #[c0, c1, c2] 25 (0, 0))) (u0 u1 u2 : Value) :
    Keeps 25 25 W (((W.setCell ⟨g, 0, none⟩ u0).setCell ⟨g, 1, none⟩ u1).setCell ⟨g, 2, none⟩ u2) ∧ (((W.setCell ⟨g, 0, none⟩ u0).setCell ⟨g, 1, none⟩ u1).setCell ⟨g, 2, none⟩ u2).heap[g]? = some (.cells #[u0, u1, u2] 25 (0, 0)) ∧ Below w.heap.size w (((W.setCell ⟨g, 0, none⟩ u0).setCell ⟨g, 1, none⟩ u1).setCell ⟨g, 2, none⟩ u2) := by
  have h0 := blk_put hb 0 u0 rfl
  have h1 := blk_put h0 1 u1 rfl
  have h2 := blk_put h1 2 u2 rfl
  exact ⟨(keeps_put hb 0 u0).trans ((keeps_put h0 1 u1).trans (keeps_put h1 2 u2)), h2, below_put3 hB hg u0 u1 u2⟩
theorem S_apart {W : World} {base : Nat} {nv ev : Value} {rows : List (List Int)} {ends : List Bool} (h1 : Kd.S (Kd.slice 3 (Kd.int .i64)) 33 W base (fun _ => True) nv rows) (h2 : Kd.R Kd.bool 4 W base (fun _ => True) ev ends) :
    Kd.S (Kd.slice 3 (Kd.int .i64)) 33 W base (fun k => some k ≠ ev.ownBlock) nv rows := by
  obtain ⟨_, inner, hown, _⟩ := h2
  refine Kd.S_mono (Kd.S_bound h1) (fun k hk => ?_)
  obtain ⟨_, _, _, q, hq, cells, hc⟩ := hk
  refine own_block_ne hown hc ?_
  rintro rfl
  simp [Kd.slice, Kd.int, Kd.scalar] at hq
end Go.Proofs.Ytpedenbcfbflbaa.X
