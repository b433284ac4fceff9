import Derived.Test.YtpedenbcfbflbaaXPI
namespace Go.Proofs.Ytpedenbcfbflbaa.X
open Go.RowKit Go.Proofs.YtpedenbcfbflbaaW.PrintWords Go.Proofs.YtpedenbcfbflbaaW.PrintLast Go.Proofs.YtpedenbcfbflbaaW.PrintMore Go.Maps Num
set_option linter.unusedVariables false
set_option linter.unusedSimpArgs false

/-- What rows of rows and ends leave alone. -/
structure Stable (Pr : World → Prop) : Prop where
  below : ∀ W W', Below W.heap.size W W' → Pr W → Pr W'
  grown : ∀ (W W' : World) (base e size n : Nat) (v : Value) (xs : List Value), W.ownsRow base e size v n xs → W.grownBy W' v.ownBlock → (e = 33 ∨ e = 4) → Pr W → Pr W'

/-- Within the region that appends a row and its end: what has come up (d3: the row's box, d4: the rows behind the append, d18: the end's box). -/
structure Mid (w : World) (ca cb co : Array Value) (gd : Nat) (s : Int) (nv ev : Value) (ng n nc : Nat) (rows : List (List Int)) (ks : List Int) (ens : List Bool) (q : Bool) (Pr : World → Prop) (d3 : Option Nat) (d4 : Option Value) (d18 : Option Nat) (W : World) : Prop where
  I : Init3 w ca cb co W
  G : W.heap[gd]? = some (.cells #[.int .i64 s, nv, ev] 25 (0, 0))
  P : Pr W
  E : Kd.R Kd.bool 4 W w.heap.size (fun _ => True) ev ens
  S0 : d4 = none → Kd.S (Kd.slice 3 (Kd.int .i64)) 33 W w.heap.size (fun k => k ≠ ng) nv rows ∧ Kd.R (Kd.int .i64) 3 W w.heap.size (fun _ => True) (.slice (some ⟨ng, 0, none⟩) n nc) ks
  S1 : ∀ v, d4 = some v → Kd.S (Kd.slice 3 (Kd.int .i64)) 33 W w.heap.size (fun _ => True) v (rows ++ [ks])
  B3 : ∀ g, d3 = some g → d4 = none → W.heap[g]? = some (.cells #[.slice (some ⟨ng, 0, none⟩) n nc] 33 (0, 0))
  B18 : ∀ g, d18 = some g → W.heap[g]? = some (.cells #[.bool q] 4 (0, 0))
section
variable {w W : World} {ca cb co : Array Value} {gd : Nat} {s : Int} {nv ev : Value} {ng n nc : Nat} {rows : List (List Int)} {ks : List Int} {ens : List Bool} {q : Bool} {Pr : World → Prop} {d3 d18 : Option Nat} {d4 : Option Value}
theorem Mid.below {W' : World} (hP : Stable Pr) (h : Mid w ca cb co gd s nv ev ng n nc rows ks ens q Pr d3 d4 d18 W) (hb : Below W.heap.size W W') : Mid w ca cb co gd s nv ev ng n nc rows ks ens q Pr d3 d4 d18 W' :=
  ⟨h.I.below hb, blk_below h.G hb, hP.below _ _ hb h.P, Kd.R_below h.E hb, fun e => ⟨Kd.S_below (h.S0 e).1 hb, Kd.R_below (h.S0 e).2 hb⟩, fun v e => Kd.S_below (h.S1 v e) hb, fun g e1 e2 => blk_below (h.B3 g e1 e2) hb, fun g e => blk_below (h.B18 g e) hb⟩
theorem Mid.box3 (hP : Stable Pr) (h : Mid w ca cb co gd s nv ev ng n nc rows ks ens q Pr none d4 d18 W) : Mid w ca cb co gd s nv ev ng n nc rows ks ens q Pr (some W.heap.size) d4 d18 (W.alloc (.cells #[.slice (some ⟨ng, 0, none⟩) n nc] 33)) := by
  have h' := h.below hP (below_alloc (Below.refl _ _) (.cells #[.slice (some ⟨ng, 0, none⟩) n nc] 33))
  exact ⟨h'.I, h'.G, h'.P, h'.E, h'.S0, h'.S1, fun g e _ => (by injection e with e; subst e; exact blk_new _ _), h'.B18⟩
theorem Mid.box18 (hP : Stable Pr) (h : Mid w ca cb co gd s nv ev ng n nc rows ks ens q Pr d3 d4 none W) : Mid w ca cb co gd s nv ev ng n nc rows ks ens q Pr d3 d4 (some W.heap.size) (W.alloc (.cells #[.bool q] 4)) := by
  have h' := h.below hP (below_alloc (Below.refl _ _) (.cells #[.bool q] 4))
  exact ⟨h'.I, h'.G, h'.P, h'.E, h'.S0, h'.S1, h'.B3, fun g e => (by injection e with e; subst e; exact blk_new _ _)⟩
theorem Mid.app4 (hP : Stable Pr) (h : Mid w ca cb co gd s nv ev ng n nc rows ks ens q Pr d3 none d18 W) :
    ∃ inner, W.ownsRow w.heap.size 33 1 nv rows.length inner ∧ ∀ gg cap w1, w1.ownsRow w.heap.size 33 1 (.slice (some ⟨gg, 0, none⟩) (rows.length + 1) cap) (rows.length + 1) (inner ++ [.slice (some ⟨ng, 0, none⟩) n nc]) → W.grownBy w1 nv.ownBlock → (nv.ownBlock = some gg ∨ gg = W.heap.size) →
      Mid w ca cb co gd s nv ev ng n nc rows ks ens q Pr d3 (some (.slice (some ⟨gg, 0, none⟩) (rows.length + 1) cap)) d18 w1 := by
  obtain ⟨hs, hx⟩ := h.S0 rfl
  obtain ⟨inner, hown, fin⟩ := app_rows hs hx
  refine ⟨inner, hown, fun gg cap w1 h1 hg hat => ?_⟩
  have kp := Keeps.of_grown hown hg
  have bl := below_of_grown h.I.bel hown hg
  exact ⟨h.I.keeps kp (by decide) (by decide) bl, kp.block _ _ _ (by decide) (by decide) h.G, hP.grown _ _ _ _ _ _ _ _ hown hg (.inl rfl) h.P, R_keeps h.E kp (by decide), fun e => (by cases e),
    fun v e => (by
      injection e with e
      subst e
      exact fin _ _ h1 hg (hat.elim (fun h => .inl h.symm) (fun h => .inr ⟨_, rfl, Nat.le_of_eq h.symm⟩))),
    fun g _ e => (by cases e), fun g e => kp.block _ _ _ (by decide) (by decide) (h.B18 g e)⟩
/-- At the end of it all, ahead of the stores. -/
structure MidEnd (w : World) (ca cb co : Array Value) (gd : Nat) (s : Int) (nv ev : Value) (rows : List (List Int)) (ens : List Bool) (Pr : World → Prop) (v4 v19 : Value) (W : World) : Prop where
  I : Init3 w ca cb co W
  G : W.heap[gd]? = some (.cells #[.int .i64 s, nv, ev] 25 (0, 0))
  P : Pr W
  S : Kd.S (Kd.slice 3 (Kd.int .i64)) 33 W w.heap.size (fun _ => True) v4 rows
  E : Kd.R Kd.bool 4 W w.heap.size (fun _ => True) v19 ens
theorem Mid.app19 {v4 : Value} (hP : Stable Pr) (h : Mid w ca cb co gd s nv ev ng n nc rows ks ens q Pr d3 (some v4) d18 W) :
    ∃ inner, W.ownsRow w.heap.size 4 1 ev ens.length inner ∧ ∀ gg cap w1, w1.ownsRow w.heap.size 4 1 (.slice (some ⟨gg, 0, none⟩) (ens.length + 1) cap) (ens.length + 1) (inner ++ [.bool q]) → W.grownBy w1 ev.ownBlock → (ev.ownBlock = some gg ∨ gg = W.heap.size) →
      MidEnd w ca cb co gd s nv ev (rows ++ [ks]) (ens ++ [q]) Pr v4 (.slice (some ⟨gg, 0, none⟩) (ens.length + 1) cap) w1 := by
  obtain ⟨inner, hown, fin⟩ := app_ends q h.E
  refine ⟨inner, hown, fun gg cap w1 h1 hg hat => ?_⟩
  have kp := Keeps.of_grown hown hg
  have bl := below_of_grown h.I.bel hown hg
  exact ⟨h.I.keeps kp (by decide) (by decide) bl, kp.block _ _ _ (by decide) (by decide) h.G, hP.grown _ _ _ _ _ _ _ _ hown hg (.inr rfl) h.P, S_keeps (h.S1 _ rfl) kp (by decide),
    fin _ _ h1 hg (hat.elim (fun h => .inl h.symm) (fun h => .inr ⟨_, rfl, Nat.le_of_eq h.symm⟩))⟩
theorem Mid.cells (h : Mid w ca cb co gd s nv ev ng n nc rows ks ens q Pr d3 d4 d18 W) : W.cell? ⟨gd, 1, none⟩ = some nv ∧ W.cell? ⟨gd, 2, none⟩ = some ev := ⟨(blk_cell h.G 1).trans rfl, (blk_cell h.G 2).trans rfl⟩
theorem MidEnd.stored {v4 v19 : Value} {ens' : List Bool} {rows' : List (List Int)} (h : MidEnd w ca cb co gd s nv ev rows' ens' Pr v4 v19 W) (hg : w.heap.size + 1 + 1 < gd) :
    Init3 w ca cb co ((W.setCell ⟨gd, 1, none⟩ v4).setCell ⟨gd, 2, none⟩ v19) ∧ PO w gd s (fun _ => True) rows' ens' ((W.setCell ⟨gd, 1, none⟩ v4).setCell ⟨gd, 2, none⟩ v19) :=
  ⟨(h.I.far hg 1 v4).far hg 2 v19, PO.stored h.G hg h.S h.E⟩
end
end Go.Proofs.Ytpedenbcfbflbaa.X
