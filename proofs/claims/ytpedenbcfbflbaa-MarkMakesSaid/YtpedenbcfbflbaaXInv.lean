import Derived.Test.YtpedenbcfbflbaaXNum65
namespace Go.Proofs.Ytpedenbcfbflbaa.X
open Go.RowKit Go.Proofs.YtpedenbcfbflbaaW.PrintWords Go.Proofs.YtpedenbcfbflbaaW.PrintLast Go.Proofs.YtpedenbcfbflbaaW.PrintMore Go.Maps Num
set_option linter.unusedVariables false
set_option linter.unusedSimpArgs false

theorem info3 : (Try.prog.info? 3).map (fun i => (i.zero, i.size, i.bytes)) = some (some (.int .i64 0), 1, 8) := by kernel_rfl
theorem info4 : (Try.prog.info? 4).map (fun i => (i.zero, i.size, i.bytes)) = some (some (.bool false), 1, 1) := by kernel_rfl
theorem info33 : (Try.prog.info? 33).map (fun i => (i.zero, i.size, i.bytes)) = some (some (.slice none 0 0), 1, 24) := by kernel_rfl

/-- Of what a right automaton is. -/
theorem rightB_spec {s : Int} {next : List (List Int)} {en : List Bool} (h : rightB s next en = true) : 1 ≤ s ∧ s ≤ 400 ∧ 0 < next.length ∧ next.length ≤ 3000 ∧ en.length = next.length ∧
    ∀ r ∈ next, (r.length : Int) = s ∧ ∀ x ∈ r, 0 ≤ x ∧ x < next.length := by
  unfold rightB at h
  simp only [Bool.and_eq_true, Bool.not_eq_true', Bool.or_eq_false_iff, decide_eq_false_iff_not] at h
  obtain ⟨⟨⟨⟨⟨a, b⟩, c⟩, d⟩, e⟩, f⟩ := h
  refine ⟨by omega, by omega, by omega, by omega, by omega, fun r hr => ?_⟩
  have h1 := List.any_eq_false.1 f r hr
  simp only [Bool.or_eq_true, decide_eq_true_eq, not_or] at h1
  refine ⟨by omega, fun x hx => ?_⟩
  have h2 : ¬ (decide (x < 0) || decide ((next.length : Int) ≤ x)) = true := fun h3 => h1.2 (List.any_eq_true.2 ⟨x, hx, h3⟩)
  simp only [Bool.or_eq_true, decide_eq_true_eq, not_or] at h2
  omega

/-- Blocks of other types than these two stay. -/
structure Keeps (t1 t2 : Nat) (W W' : World) : Prop where
  size : W.heap.size ≤ W'.heap.size
  block : ∀ (k : Nat) cs q, q ≠ t1 → q ≠ t2 → W.heap[k]? = some (.cells cs q (0, 0)) → W'.heap[k]? = some (.cells cs q (0, 0))
theorem Keeps.refl (t1 t2 : Nat) (W : World) : Keeps t1 t2 W W := ⟨Nat.le_refl _, fun _ _ _ _ _ h => h⟩
theorem Keeps.trans {t1 t2 : Nat} {W W1 W2 : World} (h : Keeps t1 t2 W W1) (k : Keeps t1 t2 W1 W2) : Keeps t1 t2 W W2 := ⟨Nat.le_trans h.size k.size, fun i cs q h1 h2 hb => k.block i cs q h1 h2 (h.block i cs q h1 h2 hb)⟩
theorem Keeps.of_below {t1 t2 : Nat} {W W1 : World} (h : Below W.heap.size W W1) : Keeps t1 t2 W W1 := ⟨h.size, fun _ _ _ _ _ hb => blk_below hb h⟩
theorem R_keeps {α : Type} {d : Kd α} {e base t1 t2 : Nat} {ok : Nat → Prop} {W W1 : World} {v : Value} {xs : List α} (h : d.R e W base ok v xs) (hk : Keeps t1 t2 W W1) (h1 : ∀ q, q ∈ e :: d.E → q ≠ t1 ∧ q ≠ t2) : d.R e W1 base ok v xs :=
  Kd.R_mono (Kd.R_move (Kd.R_bound h) (fun k hk' => by
    obtain ⟨_, _, _, q, hq, cells, hc⟩ := hk'
    rw [hc, hk.block k cells q (h1 q hq).1 (h1 q hq).2 hc])) (fun _ h => h.1)
theorem S_keeps {α : Type} {d : Kd α} {e base t1 t2 : Nat} {ok : Nat → Prop} {W W1 : World} {v : Value} {xs : List α} (h : Kd.S d e W base ok v xs) (hk : Keeps t1 t2 W W1) (h1 : ∀ q, q ∈ e :: d.E → q ≠ t1 ∧ q ≠ t2) : Kd.S d e W1 base ok v xs :=
  Kd.S_mono (Kd.S_move (Kd.S_bound h) (fun k hk' => by
    obtain ⟨_, _, _, q, hq, cells, hc⟩ := hk'
    rw [hc, hk.block k cells q (h1 q hq).1 (h1 q hq).2 hc])) (fun _ h => h.1)

theorem S_appended {α : Type} {d : Kd α} {e base : Nat} {W : World} {v : Value} {xs : List α} {p : α} {cs : List Value} {ok okp : Nat → Prop} (HO : Kd.S d e W base (fun k => ok k ∧ ¬ okp k) v xs) (hp : d.M W base okp p cs) (hokp : ∀ k, okp k → ok k ∧ some k ≠ v.ownBlock) (hfresh : ∀ k, W.heap.size ≤ k → ok k) :
    ∃ inner, W.ownsRow base e d.sz v xs.length inner ∧ ∀ v1 w1, w1.ownsRow base e d.sz v1 (xs.length + 1) (inner ++ cs) → W.grownBy w1 v.ownBlock → (v1.ownBlock = v.ownBlock ∨ ∃ b, v1.ownBlock = some b ∧ W.heap.size ≤ b) → Kd.S d e w1 base ok v1 (xs ++ [p]) := by
  obtain ⟨f, hf, hR⟩ := Kd.S_tag HO xs.length okp (fun _ hk h2 => h2.2 hk)
  obtain ⟨h0, inner, hown, hrep⟩ := Kd.R_mono hR (fun _ hk => hk.1)
  refine ⟨inner, by rw [List.length_zipIdx] at hown; exact hown, fun v1 w1 h1 hg hat => ?_⟩
  have := Kd.R_appended (d := Kd.tag f d) (p := (p, xs.length)) (cs := cs) (okp := okp) h0 hrep (d.M_mono (fun k hk => ⟨hk, hf k hk⟩) hp) hokp hfresh (by rw [List.length_zipIdx]; exact h1) hg hat
  rw [← Kd.zip_snoc] at this
  exact ⟨f, this⟩
theorem R_appended' {α : Type} {d : Kd α} {e base : Nat} {W : World} {v : Value} {xs : List α} {p : α} {cs : List Value} {ok okp : Nat → Prop} (HO : d.R e W base ok v xs) (hp : d.M W base okp p cs) (hokp : ∀ k, okp k → ok k ∧ some k ≠ v.ownBlock) (hfresh : ∀ k, W.heap.size ≤ k → ok k) :
    ∃ inner, W.ownsRow base e d.sz v xs.length inner ∧ ∀ v1 w1, w1.ownsRow base e d.sz v1 (xs.length + 1) (inner ++ cs) → W.grownBy w1 v.ownBlock → (v1.ownBlock = v.ownBlock ∨ ∃ b, v1.ownBlock = some b ∧ W.heap.size ≤ b) → d.R e w1 base ok v1 (xs ++ [p]) := by
  obtain ⟨h0, inner, hown, hrep⟩ := HO
  exact ⟨inner, hown, fun v1 w1 h1 hg hat => Kd.R_appended h0 hrep hp hokp hfresh h1 hg hat⟩

/-- The three first blocks of the call's own, in whatever world. -/
structure Init3 (w : World) (ca cb co : Array Value) (W : World) : Prop where
  ha : W.heap[w.heap.size]? = some (.cells ca 25 (0, 0))
  hb : W.heap[w.heap.size + 1]? = some (.cells cb 25 (0, 0))
  ho : W.heap[w.heap.size + 1 + 1]? = some (.cells co 25 (0, 0))
  bel : Below w.heap.size w W
theorem Init3.start (w : World) (ca cb co : Array Value) : Init3 w ca cb co (((w.alloc (.cells ca 25)).alloc (.cells cb 25)).alloc (.cells co 25)) :=
  ⟨blk_alloc (blk_alloc (blk_new _ _) _) _, by
    have := blk_alloc (blk_new (w.alloc (.cells ca 25)) (.cells cb 25)) (.cells co 25)
    simpa using this, by
    have := blk_new ((w.alloc (.cells ca 25)).alloc (.cells cb 25)) (.cells co 25)
    simpa using this, below_alloc (below_alloc (below_alloc (Below.refl _ _) _) _) _⟩
section
variable {w W W' : World} {ca cb co : Array Value}
theorem Init3.a (h : Init3 w ca cb co W) (i : Nat) : W.cell? ⟨w.heap.size, i, none⟩ = ca[i]? := blk_cell h.ha i
theorem Init3.b (h : Init3 w ca cb co W) (i : Nat) : W.cell? ⟨w.heap.size + 1, i, none⟩ = cb[i]? := blk_cell h.hb i
theorem Init3.o (h : Init3 w ca cb co W) (i : Nat) : W.cell? ⟨w.heap.size + 1 + 1, i, none⟩ = co[i]? := blk_cell h.ho i
theorem Init3.below (h : Init3 w ca cb co W) (hb : Below W.heap.size W W') : Init3 w ca cb co W' :=
  ⟨blk_below h.ha hb, blk_below h.hb hb, blk_below h.ho hb, h.bel.trans (hb.mono h.bel.size)⟩
theorem Init3.keeps {t1 t2 : Nat} (h : Init3 w ca cb co W) (hk : Keeps t1 t2 W W') (h1 : 25 ≠ t1) (h2 : 25 ≠ t2) (hb : Below w.heap.size W W') : Init3 w ca cb co W' :=
  ⟨hk.block _ _ _ h1 h2 h.ha, hk.block _ _ _ h1 h2 h.hb, hk.block _ _ _ h1 h2 h.ho, h.bel.trans hb⟩
end
theorem below_put3 {w W : World} {g : Nat} (h : Below w.heap.size w W) (hg : w.heap.size ≤ g) (u0 u1 u2 : Value) : Below w.heap.size w (((W.setCell ⟨g, 0, none⟩ u0).setCell ⟨g, 1, none⟩ u1).setCell ⟨g, 2, none⟩ u2) :=
  ((h.setCell (p := ⟨g, 0, none⟩) hg u0).setCell (p := ⟨g, 1, none⟩) hg u1).setCell (p := ⟨g, 2, none⟩) hg u2
end Go.Proofs.Ytpedenbcfbflbaa.X
