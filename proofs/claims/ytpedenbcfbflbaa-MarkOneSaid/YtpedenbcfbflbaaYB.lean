/- The contract of mark.Of. -/
import Derived.Test.YtpedenbcfbflbaaYA
import Derived.Laws.BitsLemmas
import Derived.StillTailTactics
import Derived.BigQuiet
import Derived.Deep.RegionLaw
import Derived.Deep.DrawnRows
import Derived.Deep.DeepMust
namespace Go.Proofs.Ytpedenbcfbflbaa.X
open Go.RowKit Go.Proofs.YtpedenbcfbflbaaW.PrintWords Go.Proofs.YtpedenbcfbflbaaW.PrintLast Go.Proofs.YtpedenbcfbflbaaW.PrintMore Go.Maps Num
set_option linter.unusedVariables false
set_option linter.unusedSimpArgs false

/-- The maker as it stands: its block, its map, its list; a box of a state's own (gx) is none of its rows. -/
structure PM (w : World) (gp mb gx : Nat) (v0 v1 v2 v3 v4 v5 : Value) (l : List (Int × Int)) (W : World) : Prop where
  lst : ∃ A cp, W.heap[gp]? = some (.cells #[v0, v1, v2, v3, v4, v5, .map (some mb), .slice A l.length cp] 52 (0, 0)) ∧ W.ownsRow w.heap.size 55 2 (.slice A l.length cp) l.length (cells2 l) ∧ some gx ≠ (.slice A l.length cp : Value).ownBlock
  map : ∃ D, W.ownsMap Try.prog 55 (plainElem Try.prog 3) mb l.length D ∧ Known Try.prog 55 enc2 l D
  gp_le : w.heap.size ≤ gp
  mb_le : w.heap.size ≤ mb
section
variable {w W W' : World} {gp mb gx : Nat} {v0 v1 v2 v3 v4 v5 : Value} {l : List (Int × Int)}
theorem PM.below (h : PM w gp mb gx v0 v1 v2 v3 v4 v5 l W) (hb : Below W.heap.size W W') : PM w gp mb gx v0 v1 v2 v3 v4 v5 l W' := by
  obtain ⟨⟨A, cp, h1, h2, ha⟩, ⟨D, h3, h4⟩, h5, h6⟩ := h
  exact ⟨⟨A, cp, blk_below h1 hb, pw_own_below h2 hb, ha⟩, ⟨D, h3.kept (grown_of_below hb none) (by simp), h4⟩, h5, h6⟩
theorem PM.far (h : PM w gp mb gx v0 v1 v2 v3 v4 v5 l W) {p : Addr} {cs : Array Value} {q : Nat} (hp : W.heap[p.block]? = some (.cells cs q (0, 0))) (h1 : q ≠ 52) (h2 : q ≠ 55) (u : Value) : PM w gp mb gx v0 v1 v2 v3 v4 v5 l (W.setCell p u) := by
  obtain ⟨⟨A, cp, h3, h4, ha⟩, ⟨D, h5, h6⟩, h7, h8⟩ := h
  refine ⟨⟨A, cp, blk_far h3 (blk_ne h3 hp (fun e => h1 e.symm)) _, own_setCell h4 (own_block_ne h4 hp (fun e => h2 e.symm)) _, ha⟩, ⟨D, h5.setCell ?_ _, h6⟩, h7, h8⟩
  obtain ⟨es, clock, hb, _⟩ := h5
  rintro rfl
  rw [hp] at hb
  cases hb
theorem PM.grown (h : PM w gp mb gx v0 v1 v2 v3 v4 v5 l W) {base e size n : Nat} {v : Value} {xs : List Value} (hv : W.ownsRow base e size v n xs) (hg : W.grownBy W' v.ownBlock) (h1 : e ≠ 52) (h2 : e ≠ 55) : PM w gp mb gx v0 v1 v2 v3 v4 v5 l W' := by
  obtain ⟨⟨A, cp, h3, h4, ha⟩, ⟨D, h5, h6⟩, h7, h8⟩ := h
  refine ⟨⟨A, cp, blk_grown h3 hg (own_block_ne hv h3 h1), own_other h4 hg (own_type_ne h4 hv (fun e => h2 e.symm)), ha⟩, ⟨D, h5.kept hg ?_, h6⟩, h7, h8⟩
  obtain ⟨es, clock, hb, _⟩ := h5
  rcases own_map_ne hv hb with e | e
  · rw [e]; simp
  · exact fun e' => e e'.symm
/-- Another box. -/
theorem PM.box (h : PM w gp mb gx v0 v1 v2 v3 v4 v5 l W) {g : Nat} (hg : W.heap.size ≤ g) : PM w gp mb g v0 v1 v2 v3 v4 v5 l W := by
  obtain ⟨⟨A, cp, h3, h4, ha⟩, h56, h7, h8⟩ := h
  exact ⟨⟨A, cp, h3, h4, fun e => by have := own_lt h4 g e.symm; omega⟩, h56, h7, h8⟩

/-- Another block, of another type. -/
theorem PM.rebox (h : PM w gp mb gx v0 v1 v2 v3 v4 v5 l W) {g q : Nat} {cs : Array Value} (hg : W.heap[g]? = some (.cells cs q (0, 0))) (hq : q ≠ 55) : PM w gp mb g v0 v1 v2 v3 v4 v5 l W := by
  obtain ⟨⟨A, cp, h3, h4, ha⟩, h56, h7, h8⟩ := h
  exact ⟨⟨A, cp, h3, h4, own_block_ne h4 hg (fun e => hq e.symm)⟩, h56, h7, h8⟩

/-- The number of a state. -/
theorem PM.number (h : PM w gp mb gx v0 v1 v2 v3 v4 v5 l W) (x : Int × Int) (w1 : (Lit.int .i64 x.1).wf = true) (w2 : (Lit.int .i64 x.2).wf = true) (hB : Below w.heap.size w W) (hlen : l.length ≤ 100000) {cx : Array Value} {qx : Nat} (hx : W.heap[gx]? = some (.cells cx qx (0, 0))) (hqx : qx ≠ 52) :
    Calls Try.prog 45 #[.pointer (some ⟨gp, 0, none⟩), .agg #[.int .i64 x.1, .int .i64 x.2]] W fun e w' => e = .returned (.int .i64 (idx l x)) ∧ PM w gp mb gx v0 v1 v2 v3 v4 v5 (put l x) w' ∧ Below w.heap.size W w' ∧ Keeps 52 55 W w' ∧ w'.heap[gx]? = some (.cells cx qx (0, 0)) := by
  obtain ⟨⟨A, cp, h3, h4, ha⟩, ⟨D, h5, h6⟩, h7, h8⟩ := h
  refine (number45 x l D v0 v1 v2 v3 v4 v5 gp mb w.heap.size A cp W w1 w2 hB.size hlen h7 h8 h3 h5 h6 h4).mono ?_
  rintro e w' ⟨rfl, D', A', cp', g1, g2, g3, g4, hc, hat⟩
  have hxl := blk_lt hx
  refine ⟨rfl, ⟨⟨A', cp', g1, g4, fun e => ?_⟩, ⟨D', g2, g3⟩, h7, h8⟩, hc.below hB.size ?_, ⟨hc.size, fun k cs q hq1 hq2 hk => ?_⟩, ?_⟩
  · rcases hat gx e.symm with h | h
    · exact ha h.symm
    · omega
  · rintro i (rfl | rfl | hi)
    · exact h7
    · exact h8
    · exact own_base h4 i hi.symm
  · rw [hc.block k (blk_lt hk) ?_]
    · exact hk
    · rintro (rfl | rfl | hi)
      · rw [h3] at hk
        injection hk with hk
        injection hk with _ hk
        exact hq1 hk.symm
      · obtain ⟨es, clock, hb, _⟩ := h5
        rw [hk] at hb
        cases hb
      · exact own_block_ne h4 hk (fun e => hq2 e.symm) hi
  · rw [hc.block gx hxl ?_]
    · exact hx
    · rintro (e | e | hi)
      · rw [e, h3] at hx
        injection hx with hx
        injection hx with _ hx
        exact absurd hx.symm hqx
      · obtain ⟨es, clock, hb, _⟩ := h5
        rw [e, hb] at hx
        cases hx
      · exact ha hi
theorem PM.len (h : PM w gp mb gx v0 v1 v2 v3 v4 v5 l W) : ∃ A cp, W.cell? ⟨gp, 7, none⟩ = some (.slice A l.length cp) := by
  obtain ⟨⟨A, cp, h1, h2, _⟩, _⟩ := h
  exact ⟨A, cp, (blk_cell h1 7).trans rfl⟩
end
theorem PM.start {w W : World} {v0 v1 v2 v3 v4 v5 : Value} {gx : Nat} (hB : Below w.heap.size w W) : PM w (W.heap.size + 1) W.heap.size gx v0 v1 v2 v3 v4 v5 [] ((W.alloc (.map #[] 0)).alloc (.cells #[v0, v1, v2, v3, v4, v5, .map (some W.heap.size), .slice none 0 0] 52)) := by
  have hs := hB.size
  refine ⟨⟨none, 0, ?_, own_nil _ _ _ _, by simp [Value.ownBlock]⟩, ⟨.map [], ?_, Known.nil⟩, by omega, by omega⟩
  · have := blk_new (W.alloc (.map #[] 0)) (.cells #[v0, v1, v2, v3, v4, v5, .map (some W.heap.size), .slice none 0 0] 52)
    simpa using this
  · exact (World.ownsMap_made W _ _ _).alloc _

/-- A state where it stands. -/
theorem state_cells {W : World} {base : Nat} {A : Option Addr} {cp : Nat} {l : List (Int × Int)} (h : W.ownsRow base 55 2 (.slice A l.length cp) l.length (cells2 l)) (i : Nat) (x : Int × Int) (hx : l[i]? = some x) :
    ∃ g, A = some ⟨g, 0, none⟩ ∧ W.cell? ⟨g, i * 2, none⟩ = some (.int .i64 x.1) ∧ W.cell? ⟨g, i * 2 + 1, none⟩ = some (.int .i64 x.2) := by
  have hlt := (List.getElem?_eq_some_iff.1 hx).1
  obtain ⟨g, cap, he, _, _⟩ := h.form (by omega)
  injection he with he _ _
  subst he
  have hget : ∀ (l : List (Int × Int)) (i : Nat) (x : Int × Int), l[i]? = some x → (cells2 l)[i * 2]? = some (.int .i64 x.1) ∧ (cells2 l)[i * 2 + 1]? = some (.int .i64 x.2) := by
    intro l
    induction l with
    | nil => intro i x h; simp at h
    | cons y r ih =>
      intro i x h
      have ec : cells2 (y :: r) = .int .i64 y.1 :: .int .i64 y.2 :: cells2 r := by simp [cells2]
      cases i with
      | zero => simp at h; subst h; simp [ec]
      | succ i =>
        obtain ⟨h1, h2⟩ := ih i x (by simpa using h)
        rw [ec]
        exact ⟨by rw [show (i + 1) * 2 = i * 2 + 1 + 1 by omega]; simpa using h1, by rw [show (i + 1) * 2 + 1 = i * 2 + 1 + 1 + 1 by omega]; simpa using h2⟩
  obtain ⟨h1, h2⟩ := hget l i x hx
  have a1 := h.cells (g := g) rfl (i * 2) _ h1
  have a2 := h.cells (g := g) rfl (i * 2 + 1) _ h2
  rw [add_plain] at a1 a2
  exact ⟨g, rfl, by simpa using a1, by simpa using a2⟩

theorem results_c {P : Program} {fn : Func} {p : Tmp} {ty : TypeId} (h : fn.results = #[.cell p ty]) (tmps : Array Value) (w : World) (g : Nat) (t : TypeId) (cs : Array Value) (fr : Nat × Nat) (d : TypeDesc)
    (hp : tmps.getD p undef = .pointer (some ⟨g, 0, none⟩)) (hg : w.heap[g]? = some (.cells cs t fr))
    (hu : P.underlying ty = some d) (hd : (match d with | .struct _ | .array _ _ => true | _ => false) = true) (hi : (P.info? ty).map (·.size) = some cs.size) :
    (results fn tmps).run P w = .ok (.agg cs) w := by
  have hp' : tmps[p]?.getD undef = .pointer (some ⟨g, 0, none⟩) := by simpa using hp
  simp [results, h, hp', asAddr, run_loadVar_row w g t ty cs fr d hg hu hd hi]

/-- Behind a state, by a sign. -/
def nextM (n1 : List (List Int)) (e1 : List Bool) (n2 : List (List Int)) (x : Int × Int) (s : Nat) : Int × Int :=
  if s % 2 = 1 then (if x.1 = 1 ∧ e1.getD x.2.toNat false = true then (2, (n2.getD 0 []).getD (s / 2) 0) else (3, 0))
  else if x.1 = 0 ∨ x.1 = 1 then (1, (n1.getD x.2.toNat []).getD (s / 2) 0)
  else if x.1 = 2 then (2, (n2.getD x.2.toNat []).getD (s / 2) 0)
  else (3, 0)
/-- A state that can be. -/
def okM (a b : Nat) (x : Int × Int) : Prop := ((x.1 = 0 ∨ x.1 = 1) ∧ 0 ≤ x.2 ∧ x.2 < a) ∨ (x.1 = 2 ∧ 0 ≤ x.2 ∧ x.2 < b) ∨ x = (3, 0)
theorem nextM_ok {n1 n2 : List (List Int)} {e1 : List Bool} {s1 : Int} (h1 : ∀ r ∈ n1, (r.length : Int) = s1 ∧ ∀ x ∈ r, 0 ≤ x ∧ x < n1.length) (h2 : ∀ r ∈ n2, (r.length : Int) = s1 ∧ ∀ x ∈ r, 0 ≤ x ∧ x < n2.length) (h0 : 0 < n2.length) {x : Int × Int} (hx : okM n1.length n2.length x) {s : Nat} (hs : (s : Int) < 2 * s1) :
    okM n1.length n2.length (nextM n1 e1 n2 x s) := by
  have hh : ((s / 2 : Nat) : Int) < s1 := by omega
  unfold nextM
  by_cases ho : s % 2 = 1
  · rw [if_pos ho]
    by_cases hc : x.1 = 1 ∧ e1.getD x.2.toNat false = true
    · rw [if_pos hc]
      obtain ⟨t1, t2⟩ := getD_row h2 0 (by omega) (by omega)
      exact .inr (.inl ⟨rfl, by simpa using t2 (s / 2) (by omega)⟩)
    · rw [if_neg hc]; exact .inr (.inr rfl)
  · rw [if_neg ho]
    by_cases hc : x.1 = 0 ∨ x.1 = 1
    · rw [if_pos hc]
      rcases hx with hx | hx | hx
      · obtain ⟨t1, t2⟩ := getD_row h1 x.2 hx.2.1 hx.2.2
        exact .inl ⟨.inr rfl, t2 (s / 2) (by omega)⟩
      · omega
      · rw [hx] at hc; simp at hc
    · rw [if_neg hc]
      by_cases h3 : x.1 = 2
      · rw [if_pos h3]
        rcases hx with hx | hx | hx
        · exact absurd hx.1 hc
        · obtain ⟨t1, t2⟩ := getD_row h2 x.2 hx.2.1 hx.2.2
          exact .inr (.inl ⟨rfl, t2 (s / 2) (by omega)⟩)
        · rw [hx] at h3; simp at h3
      · rw [if_neg h3]; exact .inr (.inr rfl)
theorem okM_bounds {a b : Nat} {x : Int × Int} (h : okM a b x) (ha : a ≤ 3000) (hb : b ≤ 3000) : 0 ≤ x.1 ∧ x.1 ≤ 3 ∧ 0 ≤ x.2 ∧ x.2 ≤ 3000 := by
  rcases h with h | h | h
  · omega
  · omega
  · rw [h]; simp
def BdM (a b : Nat) (l : List (Int × Int)) : Prop := ∀ x ∈ l, okM a b x
theorem BdM.put {a b : Nat} {l : List (Int × Int)} (h : BdM a b l) {x : Int × Int} (hx : okM a b x) : BdM a b (put l x) := by
  intro y hy
  unfold Num.put at hy
  split at hy
  · exact h y hy
  · rcases List.mem_append.1 hy with hy | hy
    · exact h y hy
    · rw [List.mem_singleton] at hy
      rw [hy]
      exact hx

/-- May the two be made a marked one of? -/
def markBad (s1 : Int) (n1 : List (List Int)) (e1 : List Bool) (s2 : Int) (n2 : List (List Int)) (e2 : List Bool) (most : Int) : Bool :=
  !rightB s1 n1 e1 || !rightB s2 n2 e2 || (s1 != s2) || decide (200 < s1) || decide (most < 1) || decide (3000 < most)
theorem markBad_ok {s1 : Int} {n1 : List (List Int)} {e1 : List Bool} {s2 : Int} {n2 : List (List Int)} {e2 : List Bool} {most : Int} (h1 : rightB s1 n1 e1 = true) (h2 : rightB s2 n2 e2 = true) (hs : s1 = s2) (hc : ¬ 200 < s1) (ha : ¬ most < 1) (hb : ¬ 3000 < most) : markBad s1 n1 e1 s2 n2 e2 most = false := by
  unfold markBad
  rw [h1, h2, bne_eq_false_iff_eq.2 hs, decide_eq_false ha, decide_eq_false hb, decide_eq_false hc]
  rfl
theorem markBad_inv {s1 : Int} {n1 : List (List Int)} {e1 : List Bool} {s2 : Int} {n2 : List (List Int)} {e2 : List Bool} {most : Int} (h : markBad s1 n1 e1 s2 n2 e2 most = false) : rightB s1 n1 e1 = true ∧ rightB s2 n2 e2 = true ∧ s1 = s2 ∧ s1 ≤ 200 ∧ 1 ≤ most ∧ most ≤ 3000 := by
  unfold markBad at h
  simp only [Bool.or_eq_false_iff, Bool.not_eq_false', bne_eq_false_iff_eq, decide_eq_false_iff_not] at h
  obtain ⟨⟨⟨⟨⟨a, b⟩, c⟩, f⟩, d⟩, e⟩ := h
  exact ⟨a, b, c, by omega, by omega, by omega⟩
def endM (e2 : List Bool) (x : Int × Int) : Bool := decide (x.1 = 2) && e2.getD x.2.toNat false
def markRes (sg : Int) (e2 : List Bool) : Option (List (Int × Int) × List (List Int)) → Int × List (List Int) × List Bool × Int
  | none => (0, [], [], 13)
  | some q => (sg, q.2, q.1.map (endM e2), 0)
/-- The automaton of the marked ones. -/
def markF (s1 : Int) (n1 : List (List Int)) (e1 : List Bool) (s2 : Int) (n2 : List (List Int)) (e2 : List Bool) (most : Int) : Int × List (List Int) × List Bool × Int :=
  if markBad s1 n1 e1 s2 n2 e2 most then (0, [], [], 1)
  else markRes (2 * s1) e2 (table (nextM n1 e1 n2) (2 * s1).toNat most.toNat (most.toNat + 1) 0 [(0, 0)])
theorem cellOf_ends {α : Type} {l l2 : List (Int × Int)} {x : Int × Int} {k : Nat} (f : Int × Int → α) (h : l <+: l2) (hx : l[k]? = some x) {v : α} (hv : f x = v) : (l.take k).map f ++ [v] = (l2.take (k + 1)).map f := by
  rw [← hv]; exact ends_snoc f h hx
theorem and_one (n : Nat) (h : n < 2 ^ 63) : bits .and .i64 (n : Int) 1 = (n : Int) % 2 := by
  have hk : ∀ m : Int, 0 ≤ m → m < 2 ^ 63 → IntKind.i64.wrap m = m := fun m h0 h1 => by rw [IntKind.wrap_i64]; omega
  have := bits_mask .i64 63 (by decide) hk 1 (by decide) (n : Int) (by omega) (by exact_mod_cast h)
  simpa using this
theorem and_odd (n : Nat) (h : n < 2 ^ 63) : (bits .and .i64 (n : Int) 1 == 1) = decide (n % 2 = 1) := by
  rw [and_one n h]
  by_cases ho : n % 2 = 1
  · rw [decide_eq_true ho]
    exact beq_iff_eq.2 (by omega)
  · rw [decide_eq_false ho]
    exact beq_eq_false_iff_ne.2 (by omega)
end Go.Proofs.Ytpedenbcfbflbaa.X
namespace Go.Proofs.Ytpedenbcfbflbaa.X
open Go.RowKit Go.Proofs.YtpedenbcfbflbaaW.PrintWords Go.Proofs.YtpedenbcfbflbaaW.PrintLast Go.Proofs.YtpedenbcfbflbaaW.PrintMore Go.Maps Num
set_option linter.unusedVariables false
set_option linter.unusedSimpArgs false

/-- The two first blocks of the call's own: a state, and what is returned. -/
structure Two (w : World) (t : Nat) (a b : Int) (W : World) : Prop where
  ha : W.heap[w.heap.size]? = some (.cells #[.int .i64 a, .int .i64 b] t (0, 0))
  hr : W.heap[w.heap.size + 1]? = some (.cells #[.int .i64 0, .int .i64 0] t (0, 0))
  bel : Below w.heap.size w W
theorem Two.start (w : World) (t : Nat) (a b : Int) : Two w t a b ((w.alloc (.cells #[.int .i64 a, .int .i64 b] t)).alloc (.cells #[.int .i64 0, .int .i64 0] t)) :=
  ⟨blk_alloc (blk_new _ _) _, by have := blk_new (w.alloc (.cells #[.int .i64 a, .int .i64 b] t)) (.cells #[.int .i64 0, .int .i64 0] t); simpa using this, below_alloc (below_alloc (Below.refl _ _) _) _⟩
theorem Two.below {w W W' : World} {t : Nat} {a b : Int} (h : Two w t a b W) (hb : Below W.heap.size W W') : Two w t a b W' := ⟨blk_below h.ha hb, blk_below h.hr hb, h.bel.trans (hb.mono h.bel.size)⟩
theorem Two.fin {w W : World} {t : Nat} {a b : Int} (h : Two w t a b W) (u0 u1 : Value) : ((W.setCell ⟨w.heap.size + 1, 0, none⟩ u0).setCell ⟨w.heap.size + 1, 1, none⟩ u1).heap[w.heap.size + 1]? = some (.cells #[u0, u1] t (0, 0)) ∧ Below w.heap.size w ((W.setCell ⟨w.heap.size + 1, 0, none⟩ u0).setCell ⟨w.heap.size + 1, 1, none⟩ u1) :=
  ⟨blk_put (blk_put h.hr 0 u0 rfl) 1 u1 rfl, (h.bel.setCell (p := ⟨w.heap.size + 1, 0, none⟩) (by simp) u0).setCell (p := ⟨w.heap.size + 1, 1, none⟩) (by simp) u1⟩
set_option maxHeartbeats 1000000 in
theorem behind46 (s1 s2 : Int) (A1 : Option Addr) (c1 : Nat) (n1 : List (List Int)) (B1 : Option Addr) (d1 : Nat) (e1 : List Bool) (A2 : Option Addr) (c2 : Nat) (n2 : List (List Int)) (B2 : Option Addr) (d2 : Nat) (e2 : List Bool) (mv lv : Value) (gp : Nat) (w : World)
    (hr1 : Kd.C (Kd.slice 3 (Kd.int .i64)) w A1 n1.length n1) (hb1 : Kd.C Kd.bool w B1 e1.length e1)
    (hr2 : Kd.C (Kd.slice 3 (Kd.int .i64)) w A2 n2.length n2) (hb2 : Kd.C Kd.bool w B2 e2.length e2)
    (q1 : ∀ r ∈ n1, (r.length : Int) = s1 ∧ ∀ x ∈ r, 0 ≤ x ∧ x < n1.length) (q2 : ∀ r ∈ n2, (r.length : Int) = s1 ∧ ∀ x ∈ r, 0 ≤ x ∧ x < n2.length) (q3 : 0 < n2.length) (q4 : e1.length = n1.length) (q5 : n1.length ≤ 3000)
    (hb : w.heap[gp]? = some (.cells #[.int .i64 s1, .slice A1 n1.length c1, .slice B1 e1.length d1, .int .i64 s2, .slice A2 n2.length c2, .slice B2 e2.length d2, mv, lv] 52 (0, 0)))
    (x : Int × Int) (hx : okM n1.length n2.length x) (s : Nat) (hs : (s : Int) < 2 * s1) (y : Int × Int) (hy : nextM n1 e1 n2 x s = y) :
    Calls Try.prog 46 #[.pointer (some ⟨gp, 0, none⟩), .agg #[.int .i64 x.1, .int .i64 x.2], .int .i64 ((s / 2 : Nat) : Int), .bool (decide (s % 2 = 1))] w
      fun e w' => e = .returned (.agg #[.int .i64 y.1, .int .i64 y.2]) ∧ Below w.heap.size w w' := by
  have hu55 := Try.underlying55
  have hg := blk_lt hb
  have hh : ((s / 2 : Nat) : Int) < s1 := by omega
  obtain ⟨u, hu⟩ : ∃ u : Nat, u = s / 2 := ⟨_, rfl⟩
  rw [← hu] at hh ⊢
  obtain ⟨a, b⟩ := x
  obtain ⟨v1, v2⟩ := y
  have HY := Aside0.mk hy
  clear hy
  have HB := Aside0.mk hb
  have HR1 := Aside0.mk hr1
  have HR2 := Aside0.mk hr2
  have HB1 := Aside0.mk hb1
  have HB2 := Aside0.mk hb2
  have HX := Aside0.mk hx
  have HU := Aside0.mk hu
  have Q1 := Aside0.mk q1
  have Q2 := Aside0.mk q2
  clear hb hr1 hr2 hb1 hb2 hx hu q1 q2
  go_enter Try.func46, Try.ntmps46
  go_upto_region 1 with (fail)
  obtain ⟨W, hW⟩ : ∃ W, W = (w.alloc (.cells #[.int .i64 a, .int .i64 b] 55)).alloc (.cells #[.int .i64 0, .int .i64 0] 55) := ⟨_, rfl⟩
  have I := Two.start w 55 a b
  rw [← hW] at I ⊢
  clear hW
  have BG := Aside0.mk (blk_below HB.out I.bel)
  have a0 := (blk_cell I.ha 0).trans rfl
  have a1 := (blk_cell I.ha 1).trans rfl
  have r0 := (blk_cell I.hr 0).trans rfl
  have r1 := (blk_cell I.hr 1).trans rfl
  have f0 := blk_frozen I.hr 0
  have f1 := blk_frozen I.hr 1
  have g1 := (blk_cell BG.out 1).trans rfl
  have g2 := (blk_cell BG.out 2).trans rfl
  have g4 := (blk_cell BG.out 4).trans rfl
  have II := Aside0.mk I
  clear I
  by_cases ho : s % 2 = 1
  · have hod : decide (s % 2 = 1) = true := decide_eq_true ho
    rw [hod]
    clear hod
    by_cases ha : a = 1
    · subst ha
      obtain ⟨x1, x2⟩ : 0 ≤ b ∧ b < (n1.length : Int) := by
        rcases HX.out with h | h | h
        · exact ⟨h.2.1, h.2.2⟩
        · exact absurd (show (1 : Int) = 2 from h.1) (by decide)
        · exact absurd (show (1 : Int) = 3 from congrArg Prod.fst h) (by decide)
      have x3 : b < (e1.length : Int) := by omega
      obtain ⟨bd, v, rfl, z1, z2⟩ := cell_end (Kd.C_below HB1.out II.out.bel) b x1 x3
      obtain ⟨t1, t2⟩ := getD_row Q2.out 0 (by omega) (by omega)
      obtain ⟨ad2, ra2, rc2, N2, u2, rfl, y5, y6, y7, y8⟩ := cell_next' (Kd.C_below HR2.out II.out.bel) 0 (by omega) (by omega) u (by omega)
      have y9 := y5
      simp only [Int.toNat_zero, Addr.add_zero'] at y9
      have q3' : (0 : Int) < n2.length := by omega
      have Z2 := Aside0.mk z2
      have Y8 := Aside0.mk y8
      clear t1 t2 z2 y8
      cases v with
      | true =>
        have e : nextM n1 e1 n2 (1, b) s = (2, u2) := by
          unfold nextM
          rw [if_pos ho, if_pos ⟨rfl, Z2.out.symm⟩, Y8.out, HU.out]
          rfl
        obtain ⟨rfl, rfl⟩ := Prod.mk.inj (HY.out.symm.trans e)
        clear ho e
        go_wp2_with fail
        go_quiet (fail)
        go_wp2_with fail
        refine bodyPost_ret (results_c rfl _ _ (w.heap.size + 1) 55 #[.int .i64 2, .int .i64 _] (0, 0) _ rfl ((II.out.below (pw_below_drewN (Below.refl _ _) nq)).fin _ _).1 Try.underlying55 rfl (by kernel_rfl)) rfl ?_
        exact ⟨rfl, ((II.out.below (pw_below_drewN (Below.refl _ _) nq)).fin _ _).2⟩
      | false =>
        have e : nextM n1 e1 n2 (1, b) s = (3, 0) := by
          unfold nextM
          rw [if_pos ho, if_neg]
          rintro ⟨_, h⟩
          rw [← Z2.out] at h
          cases h
        obtain ⟨rfl, rfl⟩ := Prod.mk.inj (HY.out.symm.trans e)
        clear ho e
        go_wp2_with fail
        go_quiet (fail)
        go_wp2_with fail
        refine bodyPost_ret (results_c rfl _ _ (w.heap.size + 1) 55 #[.int .i64 3, .int .i64 0] (0, 0) _ rfl ((II.out.below (pw_below_drewN (Below.refl _ _) nq)).fin _ _).1 Try.underlying55 rfl (by kernel_rfl)) rfl ?_
        exact ⟨rfl, ((II.out.below (pw_below_drewN (Below.refl _ _) nq)).fin _ _).2⟩
    · have hab : (a == 1) = false := beq_eq_false_iff_ne.2 ha
      have e : nextM n1 e1 n2 (a, b) s = (3, 0) := by
        unfold nextM
        rw [if_pos ho, if_neg]
        rintro ⟨h, _⟩
        exact ha h
      obtain ⟨rfl, rfl⟩ := Prod.mk.inj (HY.out.symm.trans e)
      clear ho e ha
      go_wp2_with fail
      go_quiet (fail)
      go_wp2_with fail
      refine bodyPost_ret (results_c rfl _ _ (w.heap.size + 1) 55 #[.int .i64 3, .int .i64 0] (0, 0) _ rfl ((II.out.below (pw_below_drewN (Below.refl _ _) nq)).fin _ _).1 Try.underlying55 rfl (by kernel_rfl)) rfl ?_
      exact ⟨rfl, ((II.out.below (pw_below_drewN (Below.refl _ _) nq)).fin _ _).2⟩
  · have hod : decide (s % 2 = 1) = false := decide_eq_false ho
    rw [hod]
    clear hod
    by_cases ha : a = 0 ∨ a = 1
    · obtain ⟨x1, x2⟩ : 0 ≤ b ∧ b < (n1.length : Int) := by
        rcases HX.out with h | h | h
        · exact ⟨h.2.1, h.2.2⟩
        · have h2 : a = 2 := h.1
          omega
        · have h2 : a = 3 := congrArg Prod.fst h
          omega
      obtain ⟨t1, t2⟩ := getD_row Q1.out b x1 x2
      obtain ⟨ad2, ra2, rc2, N2, u2, rfl, y5, y6, y7, y8⟩ := cell_next' (Kd.C_below HR1.out II.out.bel) b x1 x2 u (by omega)
      have e : nextM n1 e1 n2 (a, b) s = (1, u2) := by
        unfold nextM
        rw [if_neg ho, if_pos ha, y8, HU.out]
      obtain ⟨rfl, rfl⟩ := Prod.mk.inj (HY.out.symm.trans e)
      clear ho e t1 t2 y8
      rcases ha with rfl | rfl
      all_goals
        go_wp2_with fail
        refine wp_region_still_tail 13 (by kernel_rfl) (by kernel_rfl) ?_
        simp only [List.take_succ_cons, List.take_zero, List.drop_succ_cons, List.drop_zero]
        change wpStill _ _ W.drew _ _ _
        repeat still_step
        refine wpStill_nil ?_
        change wpList _ _ _ _ _ W.drew
        go_wp2_with fail
        refine bodyPost_ret (results_c rfl _ _ (w.heap.size + 1) 55 #[.int .i64 1, .int .i64 _] (0, 0) _ rfl ((II.out.below (below_drew (Below.refl _ _))).fin _ _).1 Try.underlying55 rfl (by kernel_rfl)) rfl ?_
        exact ⟨rfl, ((II.out.below (below_drew (Below.refl _ _))).fin _ _).2⟩
    · by_cases h2 : a = 2
      · obtain ⟨x1, x2⟩ : 0 ≤ b ∧ b < (n2.length : Int) := by
          rcases HX.out with h | h | h
          · exact absurd h.1 ha
          · exact ⟨h.2.1, h.2.2⟩
          · have h3 : a = 3 := congrArg Prod.fst h
            omega
        obtain ⟨t1, t2⟩ := getD_row Q2.out b x1 x2
        obtain ⟨ad2, ra2, rc2, N2, u2, rfl, y5, y6, y7, y8⟩ := cell_next' (Kd.C_below HR2.out II.out.bel) b x1 x2 u (by omega)
        have e : nextM n1 e1 n2 (a, b) s = (2, u2) := by
          unfold nextM
          rw [if_neg ho, if_neg ha, if_pos h2, y8, HU.out]
        obtain ⟨rfl, rfl⟩ := Prod.mk.inj (HY.out.symm.trans e)
        clear ho e t1 t2 y8 ha
        subst h2
        go_wp2_with fail
        refine wp_region_still_tail 13 (by kernel_rfl) (by kernel_rfl) ?_
        simp only [List.take_succ_cons, List.take_zero, List.drop_succ_cons, List.drop_zero]
        change wpStill _ _ W.drew _ _ _
        repeat still_step
        refine wpStill_nil ?_
        change wpList _ _ _ _ _ W.drew
        go_wp2_with fail
        refine bodyPost_ret (results_c rfl _ _ (w.heap.size + 1) 55 #[.int .i64 2, .int .i64 _] (0, 0) _ rfl ((II.out.below (below_drew (Below.refl _ _))).fin _ _).1 Try.underlying55 rfl (by kernel_rfl)) rfl ?_
        exact ⟨rfl, ((II.out.below (below_drew (Below.refl _ _))).fin _ _).2⟩
      · have hx3 : (a, b) = (3, 0) := by
          rcases HX.out with h | h | h
          · exact absurd h.1 ha
          · exact absurd h.1 h2
          · exact h
        have e : nextM n1 e1 n2 (a, b) s = (3, 0) := by
          unfold nextM
          rw [if_neg ho, if_neg ha, if_neg h2]
        obtain ⟨rfl, rfl⟩ := Prod.mk.inj (HY.out.symm.trans e)
        obtain ⟨rfl, rfl⟩ := Prod.mk.inj hx3
        clear ho e ha h2 hx3
        go_wp2_with fail
        refine bodyPost_ret (results_c rfl _ _ (w.heap.size + 1) 55 #[.int .i64 3, .int .i64 0] (0, 0) _ rfl (II.out.fin _ _).1 Try.underlying55 rfl (by kernel_rfl)) rfl ?_
        exact ⟨rfl, (II.out.fin _ _).2⟩
end Go.Proofs.Ytpedenbcfbflbaa.X
namespace Go.Proofs.Ytpedenbcfbflbaa.X
open Go.RowKit Go.Proofs.YtpedenbcfbflbaaW.PrintWords Go.Proofs.YtpedenbcfbflbaaW.PrintLast Go.Proofs.YtpedenbcfbflbaaW.PrintMore Go.Maps Num
set_option linter.unusedVariables false
set_option linter.unusedSimpArgs false

set_option maxHeartbeats 4000000 in
set_option maxRecDepth 100000 in
theorem mark_of (s1 : Int) (A1 : Option Addr) (c1 : Nat) (n1 : List (List Int)) (B1 : Option Addr) (d1 : Nat) (e1 : List Bool) (s2 : Int) (A2 : Option Addr) (c2 : Nat) (n2 : List (List Int)) (B2 : Option Addr) (d2 : Nat) (e2 : List Bool) (most : Int) (w : World)
    (hr1 : Kd.C (Kd.slice 3 (Kd.int .i64)) w A1 n1.length n1) (hc1 : n1.length ≤ c1) (hb1 : Kd.C Kd.bool w B1 e1.length e1) (hd1 : e1.length ≤ d1)
    (hr2 : Kd.C (Kd.slice 3 (Kd.int .i64)) w A2 n2.length n2) (hc2 : n2.length ≤ c2) (hb2 : Kd.C Kd.bool w B2 e2.length e2) (hd2 : e2.length ≤ d2)
    (r1 : Int) (r2 : List (List Int)) (r3 : List Bool) (r4 : Int) (h : markF s1 n1 e1 s2 n2 e2 most = (r1, r2, r3, r4)) :
    Calls Try.prog 14 #[.agg #[.int .i64 s1, .slice A1 n1.length c1, .slice B1 e1.length d1], .agg #[.int .i64 s2, .slice A2 n2.length c2, .slice B2 e2.length d2], .int .i64 most] w
      fun e w' => ∃ v1_ v2_ : Value, e = .returned (.tuple #[.agg #[.int .i64 r1, v1_, v2_], .int .i64 r4]) ∧ Kd.S (Kd.slice 3 (Kd.int .i64)) 33 w' w.heap.size (fun k_ => some k_ ≠ (v2_ : Value).ownBlock) v1_ r2 ∧ Kd.R Kd.bool 4 w' w.heap.size (fun k_ => True) v2_ r3 ∧ Below w.heap.size w w' := by
  have hu25 := Try.underlying25
  have HR1 := Aside0.mk hr1
  have HR2 := Aside0.mk hr2
  have HB1 := Aside0.mk hb1
  have HB2 := Aside0.mk hb2
  have H := Aside0.mk h
  have hca := fun W hr hb => det_Right s1 A1 c1 n1 B1 d1 e1 W hr hc1 hb hd1
  have hcb := fun W hr hb => det_Right s2 A2 c2 n2 B2 d2 e2 W hr hc2 hb hd2
  have HCA := Aside0.mk hca
  have HCB := Aside0.mk hcb
  clear hr1 hr2 hb1 hb2 h hca hcb
  go_enter Try.func14, Try.ntmps14
  go_upto_region 1 with (fail)
  obtain ⟨W0, hW0⟩ : ∃ W0, W0 = ((w.alloc (.cells #[.int .i64 s1, .slice A1 n1.length c1, .slice B1 e1.length d1] 25)).alloc (.cells #[.int .i64 s2, .slice A2 n2.length c2, .slice B2 e2.length d2] 25)).alloc (.cells #[.int .i64 0, .slice none 0 0, .slice none 0 0] 25) := ⟨_, rfl⟩
  have I0 : Init3 w #[.int .i64 s1, .slice A1 n1.length c1, .slice B1 e1.length d1] #[.int .i64 s2, .slice A2 n2.length c2, .slice B2 e2.length d2] #[.int .i64 0, .slice none 0 0, .slice none 0 0] W0 := by rw [hW0]; exact Init3.start _ _ _ _
  rw [← hW0]
  clear hW0
  go_cut [41] (fun v41 wc => v41 = .bool (markBad s1 n1 e1 s2 n2 e2 most) ∧ Init3 w #[.int .i64 s1, .slice A1 n1.length c1, .slice B1 e1.length d1] #[.int .i64 s2, .slice A2 n2.length c2, .slice B2 e2.length d2] #[.int .i64 0, .slice none 0 0, .slice none 0 0] wc)
  case first =>
    have k0 := I0.a 0
    have k1 := I0.a 1
    have k2 := I0.a 2
    have II := Aside0.mk I0
    clear I0
    cases hq1 : rightB s1 n1 e1 with
    | false =>
      have e : markBad s1 n1 e1 s2 n2 e2 most = true := by simp [markBad, hq1]
      have HE := Aside0.mk e
      have HC := HCA.out W0 (Kd.C_below HR1.out II.out.bel) (Kd.C_below HB1.out II.out.bel)
      rw [hq1] at HC
      clear hq1 e
      go_wp2_with (go_at_call 44; refine HC.mono ?_; rintro e w' ⟨rfl, hb⟩)
      have I1 := Aside0.mk (II.out.below hb)
      go_meet
      case rel => exact ⟨by rw [HE.out], I1.out⟩
    | true =>
      have HC := HCA.out W0 (Kd.C_below HR1.out II.out.bel) (Kd.C_below HB1.out II.out.bel)
      rw [hq1] at HC
      have HQ1 := Aside0.mk hq1
      clear hq1
      go_wp2_with fail
      refine HC.mono ?_
      rintro e Wa ⟨rfl, hb⟩
      clear HC
      have I1 := II.out.below hb
      have k0 := I1.a 0
      have k3 := I1.b 0
      have k4 := I1.b 1
      have k5 := I1.b 2
      have II := Aside0.mk I1
      clear I1 hb k1 k2
      have HC := HCB.out Wa (Kd.C_below HR2.out II.out.bel) (Kd.C_below HB2.out II.out.bel)
      cases hq2 : rightB s2 n2 e2 with
      | false =>
        have e : markBad s1 n1 e1 s2 n2 e2 most = true := by simp [markBad, hq2]
        have HE := Aside0.mk e
        rw [hq2] at HC
        clear hq2 e
        go_wp2_with (go_at_call 44; refine HC.mono ?_; rintro e w' ⟨rfl, hb⟩)
        have I1 := Aside0.mk (II.out.below hb)
        go_meet
        case rel => exact ⟨by rw [HE.out], I1.out⟩
      | true =>
        rw [hq2] at HC
        have HQ2 := Aside0.mk hq2
        clear hq2
        go_wp2_with fail
        refine HC.mono ?_
        rintro e Wb ⟨rfl, hb⟩
        clear HC
        have I1 := II.out.below hb
        have k0 := I1.a 0
        have k3 := I1.b 0
        have II := Aside0.mk I1
        clear I1 hb k4 k5
        by_cases hs : s1 = s2
        · have hsb : (s1 != s2) = false := bne_eq_false_iff_eq.2 hs
          by_cases h0 : 200 < s1
          · have hb0 : decide (200 < s1) = true := decide_eq_true h0
            have HE : Aside0 (markBad s1 n1 e1 s2 n2 e2 most = true) := ⟨by simp [markBad, h0]⟩
            clear hs h0
            go_wp2_with fail
            go_meet
            case rel => exact ⟨by rw [HE.out], II.out⟩
          · have hb0 : decide (200 < s1) = false := decide_eq_false h0
            by_cases h1 : most < 1
            · have hb1 : decide (most < 1) = true := decide_eq_true h1
              have HE : Aside0 (markBad s1 n1 e1 s2 n2 e2 most = true) := ⟨by simp [markBad, h1]⟩
              clear hs h0 h1
              go_wp2_with fail
              go_meet
              case rel => exact ⟨by rw [HE.out], II.out⟩
            · have hb1 : decide (most < 1) = false := decide_eq_false h1
              by_cases h2 : 3000 < most
              · have hb2 : decide (3000 < most) = true := decide_eq_true h2
                have HE : Aside0 (markBad s1 n1 e1 s2 n2 e2 most = true) := ⟨by simp [markBad, h2]⟩
                clear hs h0 h1 h2
                go_wp2_with fail
                go_meet
                case rel => exact ⟨by rw [HE.out], II.out⟩
              · have hb2 : decide (3000 < most) = false := decide_eq_false h2
                have HE : Aside0 (markBad s1 n1 e1 s2 n2 e2 most = false) := ⟨markBad_ok HQ1.out HQ2.out hs h0 h1 h2⟩
                clear hs h0 h1 h2
                go_wp2_with fail
                go_meet
                case rel => exact ⟨by rw [HE.out], II.out⟩
        · have hsb : (s1 != s2) = true := bne_iff_ne.2 hs
          have HE : Aside0 (markBad s1 n1 e1 s2 n2 e2 most = true) := ⟨by simp [markBad, hs]⟩
          clear hs
          go_wp2_with fail
          go_meet
          case rel => exact ⟨by rw [HE.out], II.out⟩
  case rest =>
    obtain ⟨rfl, I1⟩ := hcut
    have k0 := I1.a 0
    have k1 := I1.a 1
    have k2 := I1.a 2
    have k3 := I1.b 0
    have k4 := I1.b 1
    have k5 := I1.b 2
    have k6 := I1.o 0
    have k7 := I1.o 1
    have k8 := I1.o 2
    have m6 := blk_frozen I1.ho 0
    have m7 := blk_frozen I1.ho 1
    have m8 := blk_frozen I1.ho 2
    have II := Aside0.mk I1
    clear I1
    cases hbad : markBad s1 n1 e1 s2 n2 e2 most with
    | true =>
      have e : r1 = 0 ∧ r2 = [] ∧ r3 = [] ∧ r4 = 1 := by
        have := H.out
        simp only [markF, hbad, if_true, Prod.mk.injEq] at this
        exact ⟨this.1.symm, this.2.1.symm, this.2.2.1.symm, this.2.2.2.symm⟩
      obtain ⟨rfl, rfl, rfl, rfl⟩ := e
      clear hbad H HR1 HR2 HB1 HB2 HCA HCB
      go_wp2_with fail
      refine bodyPost_ret (results_ct rfl _ _ (w.heap.size + 1 + 1) 25 #[.int .i64 0, .slice none 0 0, .slice none 0 0] (0, 0) _ rfl (by refine blk_put (cs := #[.int .i64 0, .slice none 0 0, .slice none 0 0]) ?_ 2 _ rfl; refine blk_put (cs := #[.int .i64 0, .slice none 0 0, .slice none 0 0]) ?_ 1 _ rfl; refine blk_put (cs := #[.int .i64 0, .slice none 0 0, .slice none 0 0]) ?_ 0 _ rfl; exact II.out.ho) Try.underlying25 rfl (by kernel_rfl)) rfl ?_
      exact ⟨_, _, rfl, Kd.S_nil _ _ _ _ _, Kd.R_nil _ _ _ _ _, below_put3 II.out.bel (by omega) _ _ _⟩
    | false =>
      have hmm := @run_makeMap Try.prog
      obtain ⟨q1, q2, q3, q6, q4, q5⟩ := markBad_inv hbad
      subst q3
      go_wp2_with fail
      have P0 := PM.start (gx := w.heap.size) (v0 := .int .i64 s1) (v1 := .slice A1 n1.length c1) (v2 := .slice B1 e1.length d1) (v3 := .int .i64 s1) (v4 := .slice A2 n2.length c2) (v5 := .slice B2 e2.length d2) II.out.bel
      have I0' := (II.out.below (below_alloc (Below.refl _ _) (.map #[] 0))).below (below_alloc (Below.refl _ _) (.cells #[.int .i64 s1, .slice A1 n1.length c1, .slice B1 e1.length d1, .int .i64 s1, .slice A2 n2.length c2, .slice B2 e2.length d2, .map (some wc.heap.size), .slice none 0 0] 52))
      refine (P0.number (0, 0) (by decide) (by decide) I0'.bel (by simp) I0'.ha (by decide)).mono ?_
      rintro e W1 ⟨rfl, P1, hB1, hk1, _⟩
      have I1 := I0'.keeps hk1 (by decide) (by decide) hB1
      have k0 := I1.a 0
      have II := Aside0.mk I1
      have PP := Aside0.mk P1
      have HH : Aside0 (markRes (2 * s1) e2 (table (nextM n1 e1 n2) (2 * s1).toNat most.toNat (most.toNat + 1) 0 [(0, 0)]) = (r1, r2, r3, r4)) := ⟨by
        have := H.out
        unfold markF at this
        rw [hbad] at this
        simpa using this⟩
      have R1 := Aside0.mk (rightB_spec q1)
      have R2 := Aside0.mk (rightB_spec q2)
      obtain ⟨T, hT⟩ : ∃ T, T = table (nextM n1 e1 n2) (2 * s1).toNat most.toNat (most.toNat + 1) 0 [(0, 0)] := ⟨_, rfl⟩
      rw [← hT] at HH
      have TS := Aside0.mk (hT ▸ TEq.start (f := nextM n1 e1 n2) (sg := (2 * s1).toNat) (mo := most.toNat) (x0 := (0, 0)) (by omega))
      have BS : Aside0 (BdM n1.length n2.length [(0, 0)]) := ⟨fun x hx => by
        rw [List.mem_singleton] at hx; subst hx
        have := R1.out.2.2.1
        exact .inl ⟨.inl rfl, by simp, by simp; omega⟩⟩
      have hmst : most ≤ 3000 := q5
      have hmst1 : 1 ≤ most := q4
      have hs0 := R1.out.1
      obtain ⟨sg, hsg⟩ : ∃ sg, sg = 2 * s1 := ⟨_, rfl⟩
      have hwr : IntKind.i64.wrap (2 * s1) = sg := by rw [hsg, IntKind.wrap_i64]; omega
      have hsg4 : sg ≤ 400 := by omega
      have hsg2 : 2 ≤ sg := by omega
      rw [← hsg] at HH TS
      have HSG := Aside0.mk hsg
      clear hsg
      clear I1 P1 P0 hB1 hk1 I0' k1 k2 k3 k4 k5 k6 k7 k8 m6 m7 m8 H hT q1 q2 q4 q5 q6 hbad HCA HCB hmm I0
      go_wp2_with fail
      have PW0 : Aside0 (PM w (wc.heap.size + 1) wc.heap.size w.heap.size (.int .i64 s1) (.slice A1 n1.length c1) (.slice B1 e1.length d1) (.int .i64 s1) (.slice A2 n2.length c2) (.slice B2 e2.length d2) [(0, 0)] (W1.alloc (.cells #[.int .i64 sg, .slice none 0 0, .slice none 0 0] 25))) := ⟨PP.out.below (below_alloc (Below.refl _ _) _)⟩
      have OW0 : Aside0 (PO w W1.heap.size sg (fun _ => True) [] [] (W1.alloc (.cells #[.int .i64 sg, .slice none 0 0, .slice none 0 0] 25))) := ⟨PO.start II.out⟩
      have IW0 : Aside0 (Init3 w #[.int .i64 s1, .slice A1 n1.length c1, .slice B1 e1.length d1] #[.int .i64 s1, .slice A2 n2.length c2, .slice B2 e2.length d2] #[.int .i64 0, .slice none 0 0, .slice none 0 0] (W1.alloc (.cells #[.int .i64 sg, .slice none 0 0, .slice none 0 0] 25))) := ⟨II.out.below (below_alloc (Below.refl _ _) _)⟩
      clear PP II k0 hwr
      go_loopg [10] (most.toNat + 1) (fun kq v10 W => ∃ (l : List (Int × Int)) (rows : List (List Int)), v10 = .int .i64 rows.length ∧ Aside0 (Init3 w #[.int .i64 s1, .slice A1 n1.length c1, .slice B1 e1.length d1] #[.int .i64 s1, .slice A2 n2.length c2, .slice B2 e2.length d2] #[.int .i64 0, .slice none 0 0, .slice none 0 0] W) ∧
        Aside0 (PM w (wc.heap.size + 1) wc.heap.size w.heap.size (.int .i64 s1) (.slice A1 n1.length c1) (.slice B1 e1.length d1) (.int .i64 s1) (.slice A2 n2.length c2) (.slice B2 e2.length d2) l W) ∧ Aside0 (PO w W1.heap.size sg (fun _ => True) rows ((l.take rows.length).map (endM e2)) W) ∧ Aside0 (TEq (nextM n1 e1 n2) sg.toNat most.toNat T kq l rows) ∧ Aside0 (BdM n1.length n2.length l))
      case atStart => exact ⟨[(0, 0)], [], rfl, IW0, PW0, by simpa using OW0, TS, BS⟩
      case round =>
        clear IW0 PW0 OW0 TS BS
        obtain ⟨l, rows, rfl, II, PP, OO, TE, BD⟩ := hrel
        obtain ⟨⟨LA, lc, hpl, hrow, hav⟩, _, _, _⟩ := PP.out
        obtain ⟨⟨nv, ev, hob, hn, he⟩, hge⟩ := OO.out
        have hll : l.length ≤ 3000 := by have := TE.out.2.1; omega
        have p1 : wr.cell? ⟨wc.heap.size + 1, 7, none⟩ = some (.slice LA l.length lc) := (blk_cell hpl 7).trans rfl
        have o0 := blk_cell hob 0
        have o1 := blk_cell hob 1
        have o2 := blk_cell hob 2
        by_cases hlt : rows.length < l.length
        · have hltb : decide ((rows.length : Int) < (l.length : Int)) = true := decide_eq_true (by omega)
          obtain ⟨x, hx⟩ : ∃ x, l[rows.length]? = some x := ⟨_, List.getElem?_eq_getElem hlt⟩
          obtain ⟨lg, rfl, x1, x2⟩ := state_cells hrow _ x hx
          have HX := Aside0.mk hx
          have HROW := Aside0.mk hrow
          have HN := Aside0.mk hn
          have HE := Aside0.mk he
          have HOB := Aside0.mk hob
          have hlt0 : (rows.length : Int) < (l.length : Int) := by omega
          clear hpl hrow hob hn he hx hav
          go_upto_region 10 with (fail)
          obtain ⟨gx, hgx⟩ : ∃ gx, gx = wr.heap.size := ⟨_, rfl⟩
          obtain ⟨Wx, hWx⟩ : ∃ Wx, Wx = wr.alloc (.cells #[.int .i64 x.1, .int .i64 x.2] 55) := ⟨_, rfl⟩
          have hbx : Below wr.heap.size wr Wx := by rw [hWx]; exact below_alloc (Below.refl _ _) _
          have XB := Aside0.mk (show Wx.heap[gx]? = some (.cells #[.int .i64 x.1, .int .i64 x.2] 55 (0, 0)) by rw [hWx, hgx]; exact blk_new _ _)
          rw [← hWx]
          rw [← hgx]
          have IIx := Aside0.mk (II.out.below hbx)
          have PPx := Aside0.mk ((PP.out.box (g := gx) (by omega)).below hbx)
          have OOx := Aside0.mk (OO.out.below hbx)
          have o0 : Wx.cell? ⟨W1.heap.size, 0, none⟩ = some (.int .i64 sg) := (blk_cell (blk_below HOB.out hbx) 0).trans rfl
          have hBq := IIx.out.bel
          have hbs := hBq.size
          have HBQ := Aside0.mk hBq
          clear hBq hWx hbx hgx II PP OO p1 o1 o2 HOB HN HE HROW x1 x2
          go_wp2_with ((with_reducible refine gate_dst (N := 73) rfl ?_); go_must (refine Kd.R_make (Kd.int .i64) w.heap.size 3 rfl (N := 73) rfl 33 _ _ rfl sg rfl rfl Try.underlying33 (.int .i64 0) 8 info3 rfl (by decide) (by omega) 0 (ok := fun k => Wx.heap.size ≤ k) (okp := fun k => Wx.heap.size ≤ k) rfl (fun _ hk => hk) (by simp) (by omega) (by omega) HBQ.out (by omega) ?_); intro nx W2 hnx hB2 hg2 hnew2; obtain ⟨ng, nc, hnv, _, hngl, _⟩ := Kd.R_form hnx (by simp; omega); rw [List.length_replicate] at hnv; subst hnv)
          obtain ⟨K, rfl, RE0⟩ := TE.out.into HX.out
          have hngw : Wx.heap.size ≤ ng := hnx.1 ng rfl
          have hbw : Below Wx.heap.size Wx W2 := pw_below_grown (Below.refl _ _) none (Nat.le_refl _) hg2 (fun k e => by cases e)
          have II2 := Aside0.mk (IIx.out.below hbw)
          have PP2 := Aside0.mk (PPx.out.below hbw)
          have OO2 : Aside0 (PO w W1.heap.size sg (fun k => k ≠ ng) rows ((l.take rows.length).map (endM e2)) W2) := ⟨(OOx.out.old.below hbw).mono (fun k hk => by omega)⟩
          have XB2 := Aside0.mk (blk_below XB.out hbw)
          have NX2 : Aside0 (Kd.R (Kd.int .i64) 3 W2 w.heap.size (fun _ => True) (.slice (some ⟨ng, 0, none⟩) sg.toNat nc) (([] : List Int) ++ List.replicate sg.toNat 0)) := ⟨Kd.R_mono hnx (fun _ _ => trivial)⟩
          have REa := Aside0.mk RE0
          have hxb := BD.out x (List.mem_of_getElem? HX.out)
          have HXB := Aside0.mk hxb
          clear hnx hB2 hg2 hnew2 hngl hbw RE0 hxb o0 IIx PPx OOx XB
          go_loopg [13, 76] sg.toNat (fun kq v13 v76 W => ∃ (l2 : List (Int × Int)) (ks : List Int), v76 = .int .i64 ks.length ∧ Aside0 (Init3 w #[.int .i64 s1, .slice A1 n1.length c1, .slice B1 e1.length d1] #[.int .i64 s1, .slice A2 n2.length c2, .slice B2 e2.length d2] #[.int .i64 0, .slice none 0 0, .slice none 0 0] W) ∧
            Aside0 (PM w (wc.heap.size + 1) wc.heap.size gx (.int .i64 s1) (.slice A1 n1.length c1) (.slice B1 e1.length d1) (.int .i64 s1) (.slice A2 n2.length c2) (.slice B2 e2.length d2) l2 W) ∧ Aside0 (PO w W1.heap.size sg (fun k => k ≠ ng) rows ((l.take rows.length).map (endM e2)) W) ∧ Aside0 (Kd.R (Kd.int .i64) 3 W w.heap.size (fun _ => True) (.slice (some ⟨ng, 0, none⟩) sg.toNat nc) (ks ++ List.replicate kq 0)) ∧ Aside0 (REq (nextM n1 e1 n2) sg.toNat most.toNat T K rows l x kq l2 ks) ∧ Aside0 (BdM n1.length n2.length l2) ∧ Aside0 (W.heap[gx]? = some (.cells #[.int .i64 x.1, .int .i64 x.2] 55 (0, 0))))
          case atStart => exact ⟨l, [], rfl, II2, PP2, OO2, NX2, REa, BD, XB2⟩
          case round =>
            clear II2 PP2 OO2 NX2 REa BD XB2
            obtain ⟨l2, ks, rfl, II, PP, OO, NX, RE, BD, XB⟩ := hrel
            by_cases hs : ks.length < sg.toNat
            · have hsb : decide ((ks.length : Int) < (sg.toNat : Int)) = true := decide_eq_true (by omega)
              have t0 := blk_cell XB.out 0
              have t1 := blk_cell XB.out 1
              go_wp2_with fail
              have ha1 : ((ks.length : Int) / 2) = ((ks.length / 2 : Nat) : Int) := by omega
              have ha2 := and_odd ks.length (by omega)
              rw [ha1, ha2]
              clear ha1 ha2
              obtain ⟨⟨LA2, lc2, hpl, _, _⟩, _, _, _⟩ := PP.out
              obtain ⟨y, hy⟩ : ∃ y, nextM n1 e1 n2 x ks.length = y := ⟨_, rfl⟩
              have hsg' := HSG.out
              refine (behind46 s1 s1 A1 c1 n1 B1 d1 e1 A2 c2 n2 B2 d2 e2 _ _ (wc.heap.size + 1) wr (Kd.C_below HR1.out II.out.bel) (Kd.C_below HB1.out II.out.bel) (Kd.C_below HR2.out II.out.bel) (Kd.C_below HB2.out II.out.bel) R1.out.2.2.2.2.2 R2.out.2.2.2.2.2 R2.out.2.2.1 R1.out.2.2.2.2.1 R1.out.2.2.2.1 hpl x HXB.out ks.length (by omega) y hy).mono ?_
              rintro e Wb ⟨rfl, hbb⟩
              have hoy : okM n1.length n2.length y := hy ▸ nextM_ok R1.out.2.2.2.2.2 R2.out.2.2.2.2.2 R2.out.2.2.1 HXB.out (by omega)
              have hyb := okM_bounds hoy R1.out.2.2.2.1 R2.out.2.2.2.1
              have HOY := Aside0.mk hoy
              have HY := Aside0.mk hy
              have IIb := Aside0.mk (II.out.below hbb)
              have PPb := Aside0.mk (PP.out.below hbb)
              have OOb := Aside0.mk (OO.out.below hbb)
              have NXb := Aside0.mk (Kd.R_below NX.out hbb)
              have XBb := Aside0.mk (blk_below XB.out hbb)
              have hll2 : l2.length ≤ 3000 := by have := RE.out.2.1; omega
              clear hoy hy hpl hbb t0 t1 II PP OO NX XB hsg'
              go_wp2_with fail
              refine (PPb.out.number y (wf_of (by omega) (by omega)) (wf_of (by omega) (by omega)) IIb.out.bel (by omega) XBb.out (by decide)).mono ?_
              rintro e Wn ⟨rfl, Pn, hBn, hkn, hxn⟩
              have IIn := Aside0.mk (IIb.out.keeps hkn (by decide) (by decide) hBn)
              have OOn := Aside0.mk (OOb.out.keeps hkn (by decide))
              have NXn := Aside0.mk (R_keeps NXb.out hkn (by decide))
              have PPn := Aside0.mk Pn
              have XBn := Aside0.mk hxn
              obtain ⟨cN, fN⟩ := Kd.R_celln (0 : Int) NXn.out (ks.length : Int) (by omega) (by omega)
              rw [Int.toNat_natCast] at cN fN
              clear Pn hBn hkn hxn IIb PPb OOb NXb XBb
              go_upto_region 15 with (fail)
              obtain ⟨W3, hW3⟩ : ∃ W3, W3 = Wn.setCell ⟨ng, ks.length, none⟩ (.int .i64 (idx l2 y)) := ⟨_, rfl⟩
              rw [← hW3]
              obtain ⟨⟨cells3, hb3⟩, hng3⟩ := row_block NXn.out
              have II3 := IIn.out.put hb3 hng3 ks.length (.int .i64 (idx l2 y))
              rw [← hW3] at II3
              replace II3 := Aside0.mk II3
              have PP3 := PPn.out.far (p := ⟨ng, ks.length, none⟩) hb3 (by decide) (by decide) (.int .i64 (idx l2 y))
              rw [← hW3] at PP3
              replace PP3 := Aside0.mk PP3
              have OO3 := OOn.out.put hb3 (fun _ h => h) ks.length (.int .i64 (idx l2 y))
              rw [← hW3] at OO3
              replace OO3 := Aside0.mk OO3
              have XB3 : Aside0 (W3.heap[gx]? = some (.cells #[.int .i64 x.1, .int .i64 x.2] 55 (0, 0))) := ⟨by rw [hW3]; exact blk_far XBn.out (blk_ne XBn.out hb3 (by decide)) _⟩
              have NX3 : Aside0 (Kd.R (Kd.int .i64) 3 W3 w.heap.size (fun _ => True) (.slice (some ⟨ng, 0, none⟩) sg.toNat nc) ((ks ++ List.replicate gk 0).set ks.length (idx l2 y : Int))) := ⟨by
                rw [hW3]
                have := Kd.R_putn NXn.out (ks.length : Int) (idx l2 y : Int)
                rw [Int.toNat_natCast] at this
                exact this⟩
              clear hW3 hb3 IIn PPn OOn NXn XBn cN fN
              obtain ⟨A3, cp3, p3⟩ := PP3.out.len
              by_cases hm : most.toNat < (put l2 y).length
              · have hmb : decide (most < ((put l2 y).length : Int)) = true := decide_eq_true (by omega)
                have hTn : T = none := RE.out.none_ hs (HY.out ▸ hm)
                have e : r1 = 0 ∧ r2 = [] ∧ r3 = [] ∧ r4 = 13 := by
                  have := HH.out
                  rw [hTn] at this
                  simp only [markRes, Prod.mk.injEq] at this
                  exact ⟨this.1.symm, this.2.1.symm, this.2.2.1.symm, this.2.2.2.symm⟩
                obtain ⟨rfl, rfl, rfl, rfl⟩ := e
                have k6 := II3.out.o 0
                have k7 := II3.out.o 1
                have k8 := II3.out.o 2
                have m6 := blk_frozen II3.out.ho 0
                have m7 := blk_frozen II3.out.ho 1
                have m8 := blk_frozen II3.out.ho 2
                clear hTn hm
                go_wp2_with fail
                refine bodyPost_ret (results_ct rfl _ _ (w.heap.size + 1 + 1) 25 #[.int .i64 0, .slice none 0 0, .slice none 0 0] (0, 0) _ rfl (by refine blk_put (cs := #[.int .i64 0, .slice none 0 0, .slice none 0 0]) ?_ 2 _ rfl; refine blk_put (cs := #[.int .i64 0, .slice none 0 0, .slice none 0 0]) ?_ 1 _ rfl; refine blk_put (cs := #[.int .i64 0, .slice none 0 0, .slice none 0 0]) ?_ 0 _ rfl; exact II3.out.ho) Try.underlying25 rfl (by kernel_rfl)) rfl ?_
                exact ⟨_, _, rfl, Kd.S_nil _ _ _ _ _, Kd.R_nil _ _ _ _ _, below_put3 II3.out.bel (by omega) _ _ _⟩
              · have hmb : decide (most < ((put l2 y).length : Int)) = false := decide_eq_false (by omega)
                obtain ⟨kq', rfl, RE'⟩ := RE.out.step hs (HY.out ▸ hm)
                rw [HY.out] at RE'
                have NX4 := NX3.out
                rw [set_mid] at NX4
                have RES := Aside0.mk RE'
                have NXS := Aside0.mk NX4
                clear NX3 NX4 RE' hm
                go_wp2_with fail
                go_roundg kq'
                case measure => omega
                case rel =>
                  exact ⟨put l2 y, ks ++ [(idx l2 y : Int)], by simp, II3, PP3, OO3, NXS, RES, ⟨BD.out.put HOY.out⟩, XB3⟩
            · have hsb : decide ((ks.length : Int) < (sg.toNat : Int)) = false := decide_eq_false (by omega)
              obtain rfl : gk = 0 := by have := RE.out.1; omega
              have TE := Aside0.mk (RE.out.done (by omega))
              have PFX := Aside0.mk RE.out.2.2.1
              have NXe := NX.out
              rw [List.replicate_zero, List.append_nil] at NXe
              obtain ⟨ens, hens⟩ : ∃ ens, ens = (l.take rows.length).map (endM e2) := ⟨_, rfl⟩
              have OOe := OO.out
              rw [← hens] at OOe
              obtain ⟨⟨nv, ev, hG, hS, hE⟩, hge⟩ := OOe
              have hdb : Below wr.heap.size wr wr.drew := below_drew (Below.refl _ _)
              have STB : Aside0 (Stable (fun W => PM w (wc.heap.size + 1) wc.heap.size gx (.int .i64 s1) (.slice A1 n1.length c1) (.slice B1 e1.length d1) (.int .i64 s1) (.slice A2 n2.length c2) (.slice B2 e2.length d2) l2 W ∧ W.heap[gx]? = some (.cells #[.int .i64 x.1, .int .i64 x.2] 55 (0, 0)))) := ⟨⟨fun W W' hb h => ⟨h.1.below hb, blk_below h.2 hb⟩, fun W W' base e size n v xs ho hg he h => ⟨h.1.grown ho hg (by rcases he with rfl | rfl <;> decide) (by rcases he with rfl | rfl <;> decide), blk_grown h.2 hg (own_block_ne ho h.2 (by rcases he with rfl | rfl <;> decide))⟩⟩⟩
              have mm0 : ∀ q : Bool, Mid w #[.int .i64 s1, .slice A1 n1.length c1, .slice B1 e1.length d1] #[.int .i64 s1, .slice A2 n2.length c2, .slice B2 e2.length d2] #[.int .i64 0, .slice none 0 0, .slice none 0 0] W1.heap.size sg nv ev ng sg.toNat nc rows ks ens q (fun W => PM w (wc.heap.size + 1) wc.heap.size gx (.int .i64 s1) (.slice A1 n1.length c1) (.slice B1 e1.length d1) (.int .i64 s1) (.slice A2 n2.length c2) (.slice B2 e2.length d2) l2 W ∧ W.heap[gx]? = some (.cells #[.int .i64 x.1, .int .i64 x.2] 55 (0, 0))) none none none wr.drew := fun q =>
                ⟨II.out.below hdb, blk_below hG hdb, ⟨PP.out.below hdb, blk_below XB.out hdb⟩, Kd.R_below hE hdb, fun _ => ⟨Kd.S_below hS hdb, Kd.R_below NXe hdb⟩, fun v e => (by cases e), fun g e _ => (by cases e), fun g e => (by cases e)⟩
              have M0 := Aside0.mk mm0
              have ELEN : Aside0 (ens.length ≤ 3000) := ⟨by rw [hens, List.length_map, List.length_take]; omega⟩
              have HENS := Aside0.mk hens
              obtain ⟨i33, hi33, hz33, hs33, hb33⟩ := info_parts info33
              obtain ⟨i4, hi4, hz4, hs4, hb4⟩ := info_parts info4
              clear hens NXe hG hS hE hdb RE NX OO PP mm0 XB
              by_cases hx2 : x.1 = 2
              · have hxb2 : (x.1 == 2) = true := beq_iff_eq.2 hx2
                obtain ⟨b1, b2⟩ : 0 ≤ x.2 ∧ x.2 < (n2.length : Int) := by
                  rcases HXB.out with h | h | h
                  · omega
                  · exact ⟨h.2.1, h.2.2⟩
                  · rw [h] at hx2; simp at hx2
                have hq2 := R2.out.2.2.2.2.1
                have b6 : x.2 < (e2.length : Int) := by omega
                obtain ⟨bd2, qv, rfl, z3, z4⟩ := cell_end (Kd.C_below HB2.out II.out.bel) x.2 b1 b6
                have EL : Aside0 (∀ W : World, Init3 w #[.int .i64 s1, .slice A1 n1.length c1, .slice B1 e1.length d1] #[.int .i64 s1, .slice A2 n2.length c2, .slice (some bd2) e2.length d2] #[.int .i64 0, .slice none 0 0, .slice none 0 0] W → W.cell? (bd2.add x.2.toNat) = some (.bool qv)) := ⟨fun W I => by
                  obtain ⟨ad, v, ee, h2, h3⟩ := cell_end (Kd.C_below HB2.out I.bel) x.2 b1 b6
                  injection ee with ee; subst ee; rw [z4, ← h3]; exact h2⟩
                have MM := Aside0.mk (M0.out qv)
                have Z4 := Aside0.mk z4
                have HX2 := Aside0.mk hx2
                clear z3 z4 hq2 hx2 II M0
                go_upto_region 18 with (fail)
                -- REGION 18 ON BEGIN
                refine start_ (n := 24) (S := fun w' => w'.cell? ⟨W1.heap.size, 1, none⟩ = some nv ∧ w'.cell? ⟨W1.heap.size, 2, none⟩ = some ev ∧ w'.cell? ⟨gx, 0, none⟩ = some (.int .i64 x.1) ∧ w'.cell? ⟨gx, 1, none⟩ = some (.int .i64 x.2) ∧ w'.cell? ⟨w.heap.size + 1, 2, none⟩ = some (.slice (some bd2) e2.length d2) ∧ w'.cell? (bd2.add x.2.toNat) = some (.bool qv)) (ds := [21, 23]) #[false, false, false, false, false, false, false, false, false, false, false, false, false, false, false, false, false, false, false, false, false, false, false, false] (by kernel_rfl) rfl rfl ⟨(MM.out.cells).1, (MM.out.cells).2, ((blk_cell MM.out.P.2 0).trans rfl), ((blk_cell MM.out.P.2 1).trans rfl), ((MM.out.I.b 2).trans rfl), (EL.out _ MM.out.I)⟩ (fun hHeld => ?_)
                generalize wr.drew = Wd at MM hHeld ⊢
                refine pure_ (i := 0) (N := some 101) (v := ?_) (a' := ?_) #[true, false, false, false, false, false, false, false, false, false, false, false, false, false, false, false, false, false, false, false, false, false, false, false] rfl rfl (by kernel_rfl) (fun _ _ _ h => h) (Or.inl ⟨by rfl, ?_⟩) ?_ ?_
                rotate_left
                · intro w'
                  go_simp
                  with_reducible rfl
                rotate_left
                · simp only [Act.put, List.setIfInBounds_toArray, List.set_cons_zero, List.set_cons_succ, i64_w, i32_w]
                  rfl
                refine pure_ (i := 2) (N := some 103) (v := ?_) (a' := ?_) #[true, false, true, false, false, false, false, false, false, false, false, false, false, false, false, false, false, false, false, false, false, false, false, false] rfl rfl (by kernel_rfl) (fun _ _ _ h => h) (Or.inl ⟨by rfl, ?_⟩) ?_ ?_
                rotate_left
                · intro w'
                  go_simp
                  with_reducible rfl
                rotate_left
                · simp only [Act.put, List.setIfInBounds_toArray, List.set_cons_zero, List.set_cons_succ, i64_w, i32_w]
                  rfl
                refine pure_ (i := 5) (N := some 106) (v := ?_) (a' := ?_) #[true, false, true, false, false, true, false, false, false, false, false, false, false, false, false, false, false, false, false, false, false, false, false, false] rfl rfl (by kernel_rfl) (fun _ _ _ h => h) (Or.inl ⟨by rfl, ?_⟩) ?_ ?_
                rotate_left
                · intro w'
                  go_simp
                  with_reducible rfl
                rotate_left
                · simp only [Act.put, List.setIfInBounds_toArray, List.set_cons_zero, List.set_cons_succ, i64_w, i32_w]
                  rfl
                refine pure_ (i := 7) (N := some 108) (v := ?_) (a' := ?_) #[true, false, true, false, false, true, false, true, false, false, false, false, false, false, false, false, false, false, false, false, false, false, false, false] rfl rfl (by kernel_rfl) (fun _ _ _ h => h) (Or.inl ⟨by rfl, ?_⟩) ?_ ?_
                rotate_left
                · intro w'
                  go_simp
                  with_reducible rfl
                rotate_left
                · simp only [Act.put, List.setIfInBounds_toArray, List.set_cons_zero, List.set_cons_succ, i64_w, i32_w]
                  rfl
                refine take_ (i := 1) (N := some 102) (v := ?_) (a' := ?_) #[true, true, true, false, false, true, false, true, false, false, false, false, false, false, false, false, false, false, false, false, false, false, false, false] rfl rfl (by kernel_rfl) (fun _ _ _ h => h) (Or.inl ⟨by rfl, ?_⟩) hHeld ?_ ?_
                rotate_left
                · rintro w' ⟨s0, s1, s2, s3, s4, s5⟩
                  go_simp
                  with_reducible rfl
                rotate_left
                · simp only [Act.put, List.setIfInBounds_toArray, List.set_cons_zero, List.set_cons_succ, i64_w, i32_w]
                  rfl
                refine take_ (i := 6) (N := some 107) (v := ?_) (a' := ?_) #[true, true, true, false, false, true, true, true, false, false, false, false, false, false, false, false, false, false, false, false, false, false, false, false] rfl rfl (by kernel_rfl) (fun _ _ _ h => h) (Or.inl ⟨by rfl, ?_⟩) hHeld ?_ ?_
                rotate_left
                · rintro w' ⟨s0, s1, s2, s3, s4, s5⟩
                  go_simp
                  with_reducible rfl
                rotate_left
                · simp only [Act.put, List.setIfInBounds_toArray, List.set_cons_zero, List.set_cons_succ, i64_w, i32_w]
                  rfl
                refine take_ (i := 8) (N := some 109) (v := ?_) (a' := ?_) #[true, true, true, false, false, true, true, true, true, false, false, false, false, false, false, false, false, false, false, false, false, false, false, false] rfl rfl (by kernel_rfl) (fun _ _ _ h => h) (Or.inl ⟨by rfl, ?_⟩) hHeld ?_ ?_
                rotate_left
                · rintro w' ⟨s0, s1, s2, s3, s4, s5⟩
                  go_simp
                  with_reducible rfl
                rotate_left
                · simp only [Act.put, List.setIfInBounds_toArray, List.set_cons_zero, List.set_cons_succ, i64_w, i32_w]
                  rfl
                refine pure_ (i := 9) (N := some 110) (v := ?_) (a' := ?_) #[true, true, true, false, false, true, true, true, true, true, false, false, false, false, false, false, false, false, false, false, false, false, false, false] rfl rfl (by kernel_rfl) (fun _ _ _ h => h) (Or.inl ⟨by rfl, ?_⟩) ?_ ?_
                rotate_left
                · intro w'
                  go_simp
                  with_reducible rfl
                rotate_left
                · simp only [Act.put, List.setIfInBounds_toArray, List.set_cons_zero, List.set_cons_succ, i64_w, i32_w]
                  rfl
                refine one_ (i := 3) (N := some 104) #[true, true, true, true, false, true, true, true, true, true, false, false, false, false, false, false, false, false, false, false, false, false, false, false] rfl rfl (by kernel_rfl) (by decide) (fun K hK => ?_)
                refine value_ (w1 := ?_) (v := ?_) (by rfl) rfl ?_ ?_
                rotate_left 2
                · go_simp
                  constructor
                  · rfl
                  · rfl
                have m_ := MM.out.box3 STB.out
                obtain ⟨g3, hz_⟩ : ∃ z_, z_ = Wd.heap.size := ⟨_, rfl⟩
                rw [← hz_] at m_ ⊢
                generalize Wd.alloc (.cells #[.slice (some ⟨ng, 0, none⟩) sg.toNat nc] 33) = We1 at m_ ⊢
                clear hz_ MM
                have MM := Aside0.mk m_
                clear m_
                refine hK.out _ _ ⟨(MM.out.cells).1, (MM.out.cells).2, ((blk_cell MM.out.P.2 0).trans rfl), ((blk_cell MM.out.P.2 1).trans rfl), ((MM.out.I.b 2).trans rfl), (EL.out _ MM.out.I)⟩ (fun hHeld => ?_)
                clear hK K
                refine norm_ (a' := ?_) ?_ ?_
                rotate_left
                · show Act.put _ (some 104) _ = _
                  simp only [Act.put, List.setIfInBounds_toArray, List.set_cons_zero, List.set_cons_succ, i64_w, i32_w]
                  rfl
                refine one_ (i := 4) (N := some 105) #[true, true, true, true, true, true, true, true, true, true, false, false, false, false, false, false, false, false, false, false, false, false, false, false] rfl rfl (by kernel_rfl) (by decide) (fun K hK => ?_)
                obtain ⟨inn, hown, fin⟩ := MM.out.app4 STB.out
                have hszI := MM.out.I.bel.size
                refine step_append_lies _ rfl (.tmp 102) (.tmp 104) _ rfl w.heap.size 33 i33 _ 1 24 Try.underlying22 hi33 hz33 hs33 hb33 rfl (by omega) nv rows.length inn rfl hown ⟨g3, 0, none⟩ 1 1 [.slice (some ⟨ng, 0, none⟩) sg.toNat nc] rfl rfl (World.news_of_block (MM.out.B3 _ rfl rfl)) (by simp [Value.oneCell']) (by omega) (by unfold maxLen; omega) (by omega) hszI We1.heap.size rfl ?_
                intro gg cap4 We2 hown4 hgr4 hat4 hlt4
                have m_ := fin _ _ _ hown4 hgr4 hat4
                clear fin hown hown4 hgr4 hat4 hlt4 hszI MM
                have MM := Aside0.mk m_
                clear m_
                refine hK.out _ _ ⟨(MM.out.cells).1, (MM.out.cells).2, ((blk_cell MM.out.P.2 0).trans rfl), ((blk_cell MM.out.P.2 1).trans rfl), ((MM.out.I.b 2).trans rfl), (EL.out _ MM.out.I)⟩ (fun hHeld => ?_)
                clear hK K
                refine norm_ (a' := ?_) ?_ ?_
                rotate_left
                · show Act.put _ (some 105) _ = _
                  simp only [Act.put, List.setIfInBounds_toArray, List.set_cons_zero, List.set_cons_succ, i64_w, i32_w]
                  rfl
                refine pure_ (i := 10) (N := some 111) (v := ?_) (a' := ?_) #[true, true, true, true, true, true, true, true, true, true, true, false, false, false, false, false, false, false, false, false, false, false, false, false] rfl rfl (by kernel_rfl) (fun _ _ _ h => h) (Or.inl ⟨by rfl, ?_⟩) ?_ ?_
                rotate_left
                · intro w'
                  go_simp
                  with_reducible rfl
                rotate_left
                · simp only [Act.put, List.setIfInBounds_toArray, List.set_cons_zero, List.set_cons_succ, i64_w, i32_w]
                  rfl
                refine pure_ (i := 11) (N := some 112) (v := ?_) (a' := ?_) #[true, true, true, true, true, true, true, true, true, true, true, true, false, false, false, false, false, false, false, false, false, false, false, false] rfl rfl (by kernel_rfl) (fun _ _ _ h => h) (Or.inl ⟨by rfl, ?_⟩) ?_ ?_
                rotate_left
                · intro w'
                  go_simp
                  with_reducible rfl
                rotate_left
                · simp only [Act.put, List.setIfInBounds_toArray, List.set_cons_zero, List.set_cons_succ, i64_w, i32_w]
                  rfl
                refine pure_ (i := 13) (N := some 114) (v := ?_) (a' := ?_) #[true, true, true, true, true, true, true, true, true, true, true, true, false, true, false, false, false, false, false, false, false, false, false, false] rfl rfl (by kernel_rfl) (fun _ _ _ h => h) (Or.inl ⟨by rfl, ?_⟩) ?_ ?_
                rotate_left
                · intro w'
                  go_simp
                  with_reducible rfl
                rotate_left
                · simp only [Act.put, List.setIfInBounds_toArray, List.set_cons_zero, List.set_cons_succ, i64_w, i32_w]
                  rfl
                refine pure_ (i := 20) (N := some 121) (v := ?_) (a' := ?_) #[true, true, true, true, true, true, true, true, true, true, true, true, false, true, false, false, false, false, false, false, true, false, false, false] rfl rfl (by kernel_rfl) (fun _ _ _ h => h) (Or.inl ⟨by rfl, ?_⟩) ?_ ?_
                rotate_left
                · intro w'
                  go_simp
                  with_reducible rfl
                rotate_left
                · simp only [Act.put, List.setIfInBounds_toArray, List.set_cons_zero, List.set_cons_succ, i64_w, i32_w]
                  rfl
                refine take_ (i := 12) (N := some 113) (v := ?_) (a' := ?_) #[true, true, true, true, true, true, true, true, true, true, true, true, true, true, false, false, false, false, false, false, true, false, false, false] rfl rfl (by kernel_rfl) (fun _ _ _ h => h) (Or.inl ⟨by rfl, ?_⟩) hHeld ?_ ?_
                rotate_left
                · rintro w' ⟨s0, s1, s2, s3, s4, s5⟩
                  go_simp
                  with_reducible rfl
                rotate_left
                · simp only [Act.put, List.setIfInBounds_toArray, List.set_cons_zero, List.set_cons_succ, i64_w, i32_w]
                  rfl
                refine take_ (i := 14) (N := some 115) (v := ?_) (a' := ?_) #[true, true, true, true, true, true, true, true, true, true, true, true, true, true, true, false, false, false, false, false, true, false, false, false] rfl rfl (by kernel_rfl) (fun _ _ _ h => h) (Or.inl ⟨by rfl, ?_⟩) hHeld ?_ ?_
                rotate_left
                · rintro w' ⟨s0, s1, s2, s3, s4, s5⟩
                  go_simp
                  with_reducible rfl
                rotate_left
                · simp only [Act.put, List.setIfInBounds_toArray, List.set_cons_zero, List.set_cons_succ, i64_w, i32_w]
                  rfl
                refine pure_ (i := 15) (N := some 116) (v := ?_) (a' := ?_) #[true, true, true, true, true, true, true, true, true, true, true, true, true, true, true, true, false, false, false, false, true, false, false, false] rfl rfl (by kernel_rfl) (fun _ _ _ h => h) (Or.inl ⟨by rfl, ?_⟩) ?_ ?_
                rotate_left
                · intro w'
                  go_simp
                  with_reducible rfl
                rotate_left
                · simp only [Act.put, List.setIfInBounds_toArray, List.set_cons_zero, List.set_cons_succ, i64_w, i32_w]
                  rfl
                refine take_ (i := 16) (N := some 117) (v := ?_) (a' := ?_) #[true, true, true, true, true, true, true, true, true, true, true, true, true, true, true, true, true, false, false, false, true, false, false, false] rfl rfl (by kernel_rfl) (fun _ _ _ h => h) (Or.inl ⟨by rfl, ?_⟩) hHeld ?_ ?_
                rotate_left
                · rintro w' ⟨s0, s1, s2, s3, s4, s5⟩
                  go_simp
                  with_reducible rfl
                rotate_left
                · simp only [Act.put, List.setIfInBounds_toArray, List.set_cons_zero, List.set_cons_succ, i64_w, i32_w]
                  rfl
                refine pure_ (i := 17) (N := some 118) (v := ?_) (a' := ?_) #[true, true, true, true, true, true, true, true, true, true, true, true, true, true, true, true, true, true, false, false, true, false, false, false] rfl rfl (by kernel_rfl) (fun _ _ _ h => h) (Or.inl ⟨by rfl, ?_⟩) ?_ ?_
                rotate_left
                · intro w'
                  go_simp
                  with_reducible rfl
                rotate_left
                · simp only [Act.put, List.setIfInBounds_toArray, List.set_cons_zero, List.set_cons_succ, i64_w, i32_w]
                  rfl
                refine one_ (i := 18) (N := some 119) #[true, true, true, true, true, true, true, true, true, true, true, true, true, true, true, true, true, true, true, false, true, false, false, false] rfl rfl (by kernel_rfl) (by decide) (fun K hK => ?_)
                refine value_ (w1 := ?_) (v := ?_) (by rfl) rfl ?_ ?_
                rotate_left 2
                · go_simp
                  constructor
                  · rfl
                  · rfl
                have m_ := MM.out.box18 STB.out
                obtain ⟨g18, hz_⟩ : ∃ z_, z_ = We2.heap.size := ⟨_, rfl⟩
                rw [← hz_] at m_ ⊢
                generalize We2.alloc (.cells #[.bool qv] 4) = We3 at m_ ⊢
                clear hz_ MM
                have MM := Aside0.mk m_
                clear m_
                refine hK.out _ _ ⟨(MM.out.cells).1, (MM.out.cells).2, ((blk_cell MM.out.P.2 0).trans rfl), ((blk_cell MM.out.P.2 1).trans rfl), ((MM.out.I.b 2).trans rfl), (EL.out _ MM.out.I)⟩ (fun hHeld => ?_)
                clear hK K
                refine norm_ (a' := ?_) ?_ ?_
                rotate_left
                · show Act.put _ (some 119) _ = _
                  simp only [Act.put, List.setIfInBounds_toArray, List.set_cons_zero, List.set_cons_succ, i64_w, i32_w]
                  rfl
                refine one_ (i := 19) (N := some 120) #[true, true, true, true, true, true, true, true, true, true, true, true, true, true, true, true, true, true, true, true, true, false, false, false] rfl rfl (by kernel_rfl) (by decide) (fun K hK => ?_)
                obtain ⟨inn, hown, fin⟩ := MM.out.app19 STB.out
                have hszI := MM.out.I.bel.size
                have hel := ELEN.out
                refine step_append_lies _ rfl (.tmp 107) (.tmp 119) _ rfl w.heap.size 4 i4 _ 1 1 Try.underlying23 hi4 hz4 hs4 hb4 rfl (by omega) ev _ inn rfl hown ⟨g18, 0, none⟩ 1 1 [.bool qv] rfl rfl (World.news_of_block (MM.out.B18 _ rfl)) (by simp [Value.oneCell']) (by omega) (by unfold maxLen; omega) (by omega) hszI We3.heap.size rfl ?_
                intro gg2 cap7 Wg hown4 hgr4 hat4 hlt4
                have m_ := fin _ _ _ hown4 hgr4 hat4
                have ME := Aside0.mk m_
                have f1 := blk_frozen ME.out.G 1
                have f2 := blk_frozen ME.out.G 2
                have c1_ := blk_cell ME.out.G 1
                have c2_ := blk_cell ME.out.G 2
                clear fin hown hown4 hgr4 hat4 hlt4 hszI hel m_
                refine hK.out _ _ ⟨((blk_cell ME.out.G 1).trans rfl), ((blk_cell ME.out.G 2).trans rfl), ((blk_cell ME.out.P.2 0).trans rfl), ((blk_cell ME.out.P.2 1).trans rfl), ((ME.out.I.b 2).trans rfl), (EL.out _ ME.out.I)⟩ (fun hHeld => ?_)
                clear hK K
                refine norm_ (a' := ?_) ?_ ?_
                rotate_left
                · show Act.put _ (some 120) _ = _
                  simp only [Act.put, List.setIfInBounds_toArray, List.set_cons_zero, List.set_cons_succ, i64_w, i32_w]
                  rfl
                refine last_ (i := 21) (N := none) #[true, true, true, true, true, true, true, true, true, true, true, true, true, true, true, true, true, true, true, true, true, true, false, false] rfl rfl (by kernel_rfl) (by decide) (fun K hK => ?_)
                refine skip_ (w1 := ?_) (by rfl) rfl ?_ ?_
                rotate_left
                · go_simp
                  rfl
                refine hK.out _ _ ?_
                clear hK K
                refine pure_ (i := 22) (N := some 122) (v := ?_) (a' := ?_) #[true, true, true, true, true, true, true, true, true, true, true, true, true, true, true, true, true, true, true, true, true, true, true, false] rfl rfl (by kernel_rfl) (fun _ _ _ h => h) (Or.inl ⟨by rfl, ?_⟩) ?_ ?_
                rotate_left
                · intro w'
                  go_simp
                  with_reducible rfl
                rotate_left
                · simp only [Act.put, List.setIfInBounds_toArray, List.set_cons_zero, List.set_cons_succ, i64_w, i32_w]
                  rfl
                refine last_ (i := 23) (N := none) #[true, true, true, true, true, true, true, true, true, true, true, true, true, true, true, true, true, true, true, true, true, true, true, true] rfl rfl (by kernel_rfl) (by decide) (fun K hK => ?_)
                refine skip_ (w1 := ?_) (by rfl) rfl ?_ ?_
                rotate_left
                · go_simp
                  rfl
                refine hK.out _ _ ?_
                clear hK K
                refine done_ (by kernel_rfl) ?_
                -- REGION 18 ON END
                obtain ⟨Wz, hWz⟩ : ∃ Wz, Wz = (Wg.setCell ⟨W1.heap.size, 1, none⟩ (.slice (some ⟨gg, 0, none⟩) (rows.length + 1) cap4)).setCell ⟨W1.heap.size, 2, none⟩ (.slice (some ⟨gg2, 0, none⟩) (ens.length + 1) cap7) := ⟨_, rfl⟩
                rw [← hWz]
                obtain ⟨IZ, OZ⟩ := ME.out.stored hge
                have hb1 := blk_put ME.out.G 1 (.slice (some ⟨gg, 0, none⟩) (rows.length + 1) cap4) rfl
                have PZ := (ME.out.P.1.far (p := ⟨W1.heap.size, 1, none⟩) ME.out.G (by decide) (by decide) (.slice (some ⟨gg, 0, none⟩) (rows.length + 1) cap4)).far (p := ⟨W1.heap.size, 2, none⟩) hb1 (by decide) (by decide) (.slice (some ⟨gg2, 0, none⟩) (ens.length + 1) cap7)
                rw [← hWz] at IZ OZ PZ
                have PZ1 := PZ.rebox IZ.ha (by decide)
                have hen := cellOf_ends (endM e2) PFX.out HX.out (v := qv) (by unfold endM; rw [decide_eq_true HX2.out, Z4.out]; rfl)
                rw [← HENS.out] at hen
                have IZ' := Aside0.mk IZ
                have PZ' := Aside0.mk PZ1
                have OZ' := Aside0.mk OZ
                have HEN := Aside0.mk hen
                clear IZ OZ PZ PZ1 hb1 hWz f1 f2 c1_ c2_ hi33 hz33 hs33 hb33 hi4 hz4 hs4 hb4 hen ME MM
                go_wp2_with fail
                go_roundg K
                case measure => omega
                case rel =>
                  refine ⟨l2, rows ++ [ks], by simp, IZ', PZ', ⟨?_⟩, TE, BD⟩
                  have h1 := OZ'.out
                  rw [HEN.out] at h1
                  simpa using h1
              · have hxb2 : (x.1 == 2) = false := beq_eq_false_iff_ne.2 hx2
                have MM := Aside0.mk (M0.out false)
                have HX2 := Aside0.mk hx2
                clear hx2 II M0
                go_upto_region 18 with (fail)
                -- REGION 18 OFF BEGIN
                refine start_ (n := 24) (S := fun w' => w'.cell? ⟨W1.heap.size, 1, none⟩ = some nv ∧ w'.cell? ⟨W1.heap.size, 2, none⟩ = some ev ∧ w'.cell? ⟨gx, 0, none⟩ = some (.int .i64 x.1)) (ds := [21, 23]) #[false, false, false, false, false, false, false, false, false, false, false, false, false, false, false, false, false, false, false, false, false, false, false, false] (by kernel_rfl) rfl rfl ⟨(MM.out.cells).1, (MM.out.cells).2, ((blk_cell MM.out.P.2 0).trans rfl)⟩ (fun hHeld => ?_)
                generalize wr.drew = Wd at MM hHeld ⊢
                refine pure_ (i := 0) (N := some 101) (v := ?_) (a' := ?_) #[true, false, false, false, false, false, false, false, false, false, false, false, false, false, false, false, false, false, false, false, false, false, false, false] rfl rfl (by kernel_rfl) (fun _ _ _ h => h) (Or.inl ⟨by rfl, ?_⟩) ?_ ?_
                rotate_left
                · intro w'
                  go_simp
                  with_reducible rfl
                rotate_left
                · simp only [Act.put, List.setIfInBounds_toArray, List.set_cons_zero, List.set_cons_succ, i64_w, i32_w]
                  rfl
                refine pure_ (i := 2) (N := some 103) (v := ?_) (a' := ?_) #[true, false, true, false, false, false, false, false, false, false, false, false, false, false, false, false, false, false, false, false, false, false, false, false] rfl rfl (by kernel_rfl) (fun _ _ _ h => h) (Or.inl ⟨by rfl, ?_⟩) ?_ ?_
                rotate_left
                · intro w'
                  go_simp
                  with_reducible rfl
                rotate_left
                · simp only [Act.put, List.setIfInBounds_toArray, List.set_cons_zero, List.set_cons_succ, i64_w, i32_w]
                  rfl
                refine pure_ (i := 5) (N := some 106) (v := ?_) (a' := ?_) #[true, false, true, false, false, true, false, false, false, false, false, false, false, false, false, false, false, false, false, false, false, false, false, false] rfl rfl (by kernel_rfl) (fun _ _ _ h => h) (Or.inl ⟨by rfl, ?_⟩) ?_ ?_
                rotate_left
                · intro w'
                  go_simp
                  with_reducible rfl
                rotate_left
                · simp only [Act.put, List.setIfInBounds_toArray, List.set_cons_zero, List.set_cons_succ, i64_w, i32_w]
                  rfl
                refine pure_ (i := 7) (N := some 108) (v := ?_) (a' := ?_) #[true, false, true, false, false, true, false, true, false, false, false, false, false, false, false, false, false, false, false, false, false, false, false, false] rfl rfl (by kernel_rfl) (fun _ _ _ h => h) (Or.inl ⟨by rfl, ?_⟩) ?_ ?_
                rotate_left
                · intro w'
                  go_simp
                  with_reducible rfl
                rotate_left
                · simp only [Act.put, List.setIfInBounds_toArray, List.set_cons_zero, List.set_cons_succ, i64_w, i32_w]
                  rfl
                refine take_ (i := 1) (N := some 102) (v := ?_) (a' := ?_) #[true, true, true, false, false, true, false, true, false, false, false, false, false, false, false, false, false, false, false, false, false, false, false, false] rfl rfl (by kernel_rfl) (fun _ _ _ h => h) (Or.inl ⟨by rfl, ?_⟩) hHeld ?_ ?_
                rotate_left
                · rintro w' ⟨s0, s1, s2⟩
                  go_simp
                  with_reducible rfl
                rotate_left
                · simp only [Act.put, List.setIfInBounds_toArray, List.set_cons_zero, List.set_cons_succ, i64_w, i32_w]
                  rfl
                refine take_ (i := 6) (N := some 107) (v := ?_) (a' := ?_) #[true, true, true, false, false, true, true, true, false, false, false, false, false, false, false, false, false, false, false, false, false, false, false, false] rfl rfl (by kernel_rfl) (fun _ _ _ h => h) (Or.inl ⟨by rfl, ?_⟩) hHeld ?_ ?_
                rotate_left
                · rintro w' ⟨s0, s1, s2⟩
                  go_simp
                  with_reducible rfl
                rotate_left
                · simp only [Act.put, List.setIfInBounds_toArray, List.set_cons_zero, List.set_cons_succ, i64_w, i32_w]
                  rfl
                refine take_ (i := 8) (N := some 109) (v := ?_) (a' := ?_) #[true, true, true, false, false, true, true, true, true, false, false, false, false, false, false, false, false, false, false, false, false, false, false, false] rfl rfl (by kernel_rfl) (fun _ _ _ h => h) (Or.inl ⟨by rfl, ?_⟩) hHeld ?_ ?_
                rotate_left
                · rintro w' ⟨s0, s1, s2⟩
                  go_simp
                  with_reducible rfl
                rotate_left
                · simp only [Act.put, List.setIfInBounds_toArray, List.set_cons_zero, List.set_cons_succ, i64_w, i32_w]
                  rfl
                refine pure_ (i := 9) (N := some 110) (v := ?_) (a' := ?_) #[true, true, true, false, false, true, true, true, true, true, false, false, false, false, false, false, false, false, false, false, false, false, false, false] rfl rfl (by kernel_rfl) (fun _ _ _ h => h) (Or.inl ⟨by rfl, ?_⟩) ?_ ?_
                rotate_left
                · intro w'
                  go_simp
                  with_reducible rfl
                rotate_left
                · simp only [Act.put, List.setIfInBounds_toArray, List.set_cons_zero, List.set_cons_succ, i64_w, i32_w]
                  rfl
                refine one_ (i := 3) (N := some 104) #[true, true, true, true, false, true, true, true, true, true, false, false, false, false, false, false, false, false, false, false, false, false, false, false] rfl rfl (by kernel_rfl) (by decide) (fun K hK => ?_)
                refine value_ (w1 := ?_) (v := ?_) (by rfl) rfl ?_ ?_
                rotate_left 2
                · go_simp
                  constructor
                  · rfl
                  · rfl
                have m_ := MM.out.box3 STB.out
                obtain ⟨g3, hz_⟩ : ∃ z_, z_ = Wd.heap.size := ⟨_, rfl⟩
                rw [← hz_] at m_ ⊢
                generalize Wd.alloc (.cells #[.slice (some ⟨ng, 0, none⟩) sg.toNat nc] 33) = We1 at m_ ⊢
                clear hz_ MM
                have MM := Aside0.mk m_
                clear m_
                refine hK.out _ _ ⟨(MM.out.cells).1, (MM.out.cells).2, ((blk_cell MM.out.P.2 0).trans rfl)⟩ (fun hHeld => ?_)
                clear hK K
                refine norm_ (a' := ?_) ?_ ?_
                rotate_left
                · show Act.put _ (some 104) _ = _
                  simp only [Act.put, List.setIfInBounds_toArray, List.set_cons_zero, List.set_cons_succ, i64_w, i32_w]
                  rfl
                refine one_ (i := 4) (N := some 105) #[true, true, true, true, true, true, true, true, true, true, false, false, false, false, false, false, false, false, false, false, false, false, false, false] rfl rfl (by kernel_rfl) (by decide) (fun K hK => ?_)
                obtain ⟨inn, hown, fin⟩ := MM.out.app4 STB.out
                have hszI := MM.out.I.bel.size
                refine step_append_lies _ rfl (.tmp 102) (.tmp 104) _ rfl w.heap.size 33 i33 _ 1 24 Try.underlying22 hi33 hz33 hs33 hb33 rfl (by omega) nv rows.length inn rfl hown ⟨g3, 0, none⟩ 1 1 [.slice (some ⟨ng, 0, none⟩) sg.toNat nc] rfl rfl (World.news_of_block (MM.out.B3 _ rfl rfl)) (by simp [Value.oneCell']) (by omega) (by unfold maxLen; omega) (by omega) hszI We1.heap.size rfl ?_
                intro gg cap4 We2 hown4 hgr4 hat4 hlt4
                have m_ := fin _ _ _ hown4 hgr4 hat4
                clear fin hown hown4 hgr4 hat4 hlt4 hszI MM
                have MM := Aside0.mk m_
                clear m_
                refine hK.out _ _ ⟨(MM.out.cells).1, (MM.out.cells).2, ((blk_cell MM.out.P.2 0).trans rfl)⟩ (fun hHeld => ?_)
                clear hK K
                refine norm_ (a' := ?_) ?_ ?_
                rotate_left
                · show Act.put _ (some 105) _ = _
                  simp only [Act.put, List.setIfInBounds_toArray, List.set_cons_zero, List.set_cons_succ, i64_w, i32_w]
                  rfl
                refine pure_ (i := 10) (N := some 111) (v := ?_) (a' := ?_) #[true, true, true, true, true, true, true, true, true, true, true, false, false, false, false, false, false, false, false, false, false, false, false, false] rfl rfl (by kernel_rfl) (fun _ _ _ h => h) (Or.inl ⟨by rfl, ?_⟩) ?_ ?_
                rotate_left
                · intro w'
                  go_simp
                  with_reducible rfl
                rotate_left
                · simp only [Act.put, List.setIfInBounds_toArray, List.set_cons_zero, List.set_cons_succ, i64_w, i32_w]
                  rfl
                refine pure_ (i := 11) (N := some 112) (v := undef) (a' := ?_) #[true, true, true, true, true, true, true, true, true, true, true, true, false, false, false, false, false, false, false, false, false, false, false, false] rfl rfl (by kernel_rfl) (fun _ _ _ h => h) (Or.inr ⟨by rfl, rfl⟩) ?_ ?_
                rotate_left
                · simp only [Act.put, List.setIfInBounds_toArray, List.set_cons_zero, List.set_cons_succ, i64_w, i32_w]
                  rfl
                refine pure_ (i := 12) (N := some 113) (v := undef) (a' := ?_) #[true, true, true, true, true, true, true, true, true, true, true, true, true, false, false, false, false, false, false, false, false, false, false, false] rfl rfl (by kernel_rfl) (fun _ _ _ h => h) (Or.inr ⟨by rfl, rfl⟩) ?_ ?_
                rotate_left
                · simp only [Act.put, List.setIfInBounds_toArray, List.set_cons_zero, List.set_cons_succ, i64_w, i32_w]
                  rfl
                refine pure_ (i := 13) (N := some 114) (v := undef) (a' := ?_) #[true, true, true, true, true, true, true, true, true, true, true, true, true, true, false, false, false, false, false, false, false, false, false, false] rfl rfl (by kernel_rfl) (fun _ _ _ h => h) (Or.inr ⟨by rfl, rfl⟩) ?_ ?_
                rotate_left
                · simp only [Act.put, List.setIfInBounds_toArray, List.set_cons_zero, List.set_cons_succ, i64_w, i32_w]
                  rfl
                refine pure_ (i := 14) (N := some 115) (v := undef) (a' := ?_) #[true, true, true, true, true, true, true, true, true, true, true, true, true, true, true, false, false, false, false, false, false, false, false, false] rfl rfl (by kernel_rfl) (fun _ _ _ h => h) (Or.inr ⟨by rfl, rfl⟩) ?_ ?_
                rotate_left
                · simp only [Act.put, List.setIfInBounds_toArray, List.set_cons_zero, List.set_cons_succ, i64_w, i32_w]
                  rfl
                refine pure_ (i := 15) (N := some 116) (v := undef) (a' := ?_) #[true, true, true, true, true, true, true, true, true, true, true, true, true, true, true, true, false, false, false, false, false, false, false, false] rfl rfl (by kernel_rfl) (fun _ _ _ h => h) (Or.inr ⟨by rfl, rfl⟩) ?_ ?_
                rotate_left
                · simp only [Act.put, List.setIfInBounds_toArray, List.set_cons_zero, List.set_cons_succ, i64_w, i32_w]
                  rfl
                refine pure_ (i := 16) (N := some 117) (v := undef) (a' := ?_) #[true, true, true, true, true, true, true, true, true, true, true, true, true, true, true, true, true, false, false, false, false, false, false, false] rfl rfl (by kernel_rfl) (fun _ _ _ h => h) (Or.inr ⟨by rfl, rfl⟩) ?_ ?_
                rotate_left
                · simp only [Act.put, List.setIfInBounds_toArray, List.set_cons_zero, List.set_cons_succ, i64_w, i32_w]
                  rfl
                refine pure_ (i := 17) (N := some 118) (v := ?_) (a' := ?_) #[true, true, true, true, true, true, true, true, true, true, true, true, true, true, true, true, true, true, false, false, false, false, false, false] rfl rfl (by kernel_rfl) (fun _ _ _ h => h) (Or.inl ⟨by rfl, ?_⟩) ?_ ?_
                rotate_left
                · intro w'
                  go_simp
                  with_reducible rfl
                rotate_left
                · simp only [Act.put, List.setIfInBounds_toArray, List.set_cons_zero, List.set_cons_succ, i64_w, i32_w]
                  rfl
                refine pure_ (i := 20) (N := some 121) (v := ?_) (a' := ?_) #[true, true, true, true, true, true, true, true, true, true, true, true, true, true, true, true, true, true, false, false, true, false, false, false] rfl rfl (by kernel_rfl) (fun _ _ _ h => h) (Or.inl ⟨by rfl, ?_⟩) ?_ ?_
                rotate_left
                · intro w'
                  go_simp
                  with_reducible rfl
                rotate_left
                · simp only [Act.put, List.setIfInBounds_toArray, List.set_cons_zero, List.set_cons_succ, i64_w, i32_w]
                  rfl
                refine one_ (i := 18) (N := some 119) #[true, true, true, true, true, true, true, true, true, true, true, true, true, true, true, true, true, true, true, false, true, false, false, false] rfl rfl (by kernel_rfl) (by decide) (fun K hK => ?_)
                refine value_ (w1 := ?_) (v := ?_) (by rfl) rfl ?_ ?_
                rotate_left 2
                · go_simp
                  constructor
                  · rfl
                  · rfl
                have m_ := MM.out.box18 STB.out
                obtain ⟨g18, hz_⟩ : ∃ z_, z_ = We2.heap.size := ⟨_, rfl⟩
                rw [← hz_] at m_ ⊢
                generalize We2.alloc (.cells #[.bool false] 4) = We3 at m_ ⊢
                clear hz_ MM
                have MM := Aside0.mk m_
                clear m_
                refine hK.out _ _ ⟨(MM.out.cells).1, (MM.out.cells).2, ((blk_cell MM.out.P.2 0).trans rfl)⟩ (fun hHeld => ?_)
                clear hK K
                refine norm_ (a' := ?_) ?_ ?_
                rotate_left
                · show Act.put _ (some 119) _ = _
                  simp only [Act.put, List.setIfInBounds_toArray, List.set_cons_zero, List.set_cons_succ, i64_w, i32_w]
                  rfl
                refine one_ (i := 19) (N := some 120) #[true, true, true, true, true, true, true, true, true, true, true, true, true, true, true, true, true, true, true, true, true, false, false, false] rfl rfl (by kernel_rfl) (by decide) (fun K hK => ?_)
                obtain ⟨inn, hown, fin⟩ := MM.out.app19 STB.out
                have hszI := MM.out.I.bel.size
                have hel := ELEN.out
                refine step_append_lies _ rfl (.tmp 107) (.tmp 119) _ rfl w.heap.size 4 i4 _ 1 1 Try.underlying23 hi4 hz4 hs4 hb4 rfl (by omega) ev _ inn rfl hown ⟨g18, 0, none⟩ 1 1 [.bool false] rfl rfl (World.news_of_block (MM.out.B18 _ rfl)) (by simp [Value.oneCell']) (by omega) (by unfold maxLen; omega) (by omega) hszI We3.heap.size rfl ?_
                intro gg2 cap7 Wg hown4 hgr4 hat4 hlt4
                have m_ := fin _ _ _ hown4 hgr4 hat4
                have ME := Aside0.mk m_
                have f1 := blk_frozen ME.out.G 1
                have f2 := blk_frozen ME.out.G 2
                have c1_ := blk_cell ME.out.G 1
                have c2_ := blk_cell ME.out.G 2
                clear fin hown hown4 hgr4 hat4 hlt4 hszI hel m_
                refine hK.out _ _ ⟨((blk_cell ME.out.G 1).trans rfl), ((blk_cell ME.out.G 2).trans rfl), ((blk_cell ME.out.P.2 0).trans rfl)⟩ (fun hHeld => ?_)
                clear hK K
                refine norm_ (a' := ?_) ?_ ?_
                rotate_left
                · show Act.put _ (some 120) _ = _
                  simp only [Act.put, List.setIfInBounds_toArray, List.set_cons_zero, List.set_cons_succ, i64_w, i32_w]
                  rfl
                refine last_ (i := 21) (N := none) #[true, true, true, true, true, true, true, true, true, true, true, true, true, true, true, true, true, true, true, true, true, true, false, false] rfl rfl (by kernel_rfl) (by decide) (fun K hK => ?_)
                refine skip_ (w1 := ?_) (by rfl) rfl ?_ ?_
                rotate_left
                · go_simp
                  rfl
                refine hK.out _ _ ?_
                clear hK K
                refine pure_ (i := 22) (N := some 122) (v := ?_) (a' := ?_) #[true, true, true, true, true, true, true, true, true, true, true, true, true, true, true, true, true, true, true, true, true, true, true, false] rfl rfl (by kernel_rfl) (fun _ _ _ h => h) (Or.inl ⟨by rfl, ?_⟩) ?_ ?_
                rotate_left
                · intro w'
                  go_simp
                  with_reducible rfl
                rotate_left
                · simp only [Act.put, List.setIfInBounds_toArray, List.set_cons_zero, List.set_cons_succ, i64_w, i32_w]
                  rfl
                refine last_ (i := 23) (N := none) #[true, true, true, true, true, true, true, true, true, true, true, true, true, true, true, true, true, true, true, true, true, true, true, true] rfl rfl (by kernel_rfl) (by decide) (fun K hK => ?_)
                refine skip_ (w1 := ?_) (by rfl) rfl ?_ ?_
                rotate_left
                · go_simp
                  rfl
                refine hK.out _ _ ?_
                clear hK K
                refine done_ (by kernel_rfl) ?_
                -- REGION 18 OFF END
                obtain ⟨Wz, hWz⟩ : ∃ Wz, Wz = (Wg.setCell ⟨W1.heap.size, 1, none⟩ (.slice (some ⟨gg, 0, none⟩) (rows.length + 1) cap4)).setCell ⟨W1.heap.size, 2, none⟩ (.slice (some ⟨gg2, 0, none⟩) (ens.length + 1) cap7) := ⟨_, rfl⟩
                rw [← hWz]
                obtain ⟨IZ, OZ⟩ := ME.out.stored hge
                have hb1 := blk_put ME.out.G 1 (.slice (some ⟨gg, 0, none⟩) (rows.length + 1) cap4) rfl
                have PZ := (ME.out.P.1.far (p := ⟨W1.heap.size, 1, none⟩) ME.out.G (by decide) (by decide) (.slice (some ⟨gg, 0, none⟩) (rows.length + 1) cap4)).far (p := ⟨W1.heap.size, 2, none⟩) hb1 (by decide) (by decide) (.slice (some ⟨gg2, 0, none⟩) (ens.length + 1) cap7)
                rw [← hWz] at IZ OZ PZ
                have PZ1 := PZ.rebox IZ.ha (by decide)
                have hen := cellOf_ends (endM e2) PFX.out HX.out (v := false) (by unfold endM; rw [decide_eq_false HX2.out]; rfl)
                rw [← HENS.out] at hen
                have IZ' := Aside0.mk IZ
                have PZ' := Aside0.mk PZ1
                have OZ' := Aside0.mk OZ
                have HEN := Aside0.mk hen
                clear IZ OZ PZ PZ1 hb1 hWz f1 f2 c1_ c2_ hi33 hz33 hs33 hb33 hi4 hz4 hs4 hb4 hen ME MM
                go_wp2_with fail
                go_roundg K
                case measure => omega
                case rel =>
                  refine ⟨l2, rows ++ [ks], by simp, IZ', PZ', ⟨?_⟩, TE, BD⟩
                  have h1 := OZ'.out
                  rw [HEN.out] at h1
                  simpa using h1
        · have hltb : decide ((rows.length : Int) < (l.length : Int)) = false := decide_eq_false (by omega)
          have hT := TE.out.done (by omega)
          have hrl : rows.length = l.length := Nat.le_antisymm TE.out.2.2.1 (by omega)
          rw [List.take_of_length_le (Nat.le_of_eq hrl.symm)] at he
          have e : r1 = sg ∧ r2 = rows ∧ r3 = l.map (endM e2) ∧ r4 = 0 := by
            have := HH.out
            rw [hT] at this
            simp only [markRes, Prod.mk.injEq] at this
            exact ⟨this.1.symm, this.2.1.symm, this.2.2.1.symm, this.2.2.2.symm⟩
          obtain ⟨rfl, rfl, hr3, rfl⟩ := e
          rw [← hr3] at he
          clear hr3 HH hT hrl hrow hpl hav
          have k6 := II.out.o 0
          have k7 := II.out.o 1
          have k8 := II.out.o 2
          have m6 := blk_frozen II.out.ho 0
          have m7 := blk_frozen II.out.ho 1
          have m8 := blk_frozen II.out.ho 2
          obtain ⟨Av, cv, rfl⟩ := Kd.S_slice hn
          obtain ⟨Ae, ce, rfl⟩ := Kd.R_slice he
          obtain ⟨kp3, hb3, bl3⟩ := keeps_put3 II.out.bel (show w.heap.size ≤ w.heap.size + 1 + 1 by omega) II.out.ho (.int .i64 r1) (.slice Av _ cv) (.slice Ae _ ce)
          have FIN := Aside0.mk (And.intro hb3 (And.intro (S_keeps (S_apart hn he) kp3 (by decide)) (R_keeps he kp3 (by decide))))
          have BEL := Aside0.mk bl3
          replace hb3 := Aside0.mk hb3
          replace kp3 := Aside0.mk kp3
          go_wp2_with fail
          refine bodyPost_ret (results_ct rfl _ _ (w.heap.size + 1 + 1) 25 #[.int .i64 r1, _, _] (0, 0) _ rfl FIN.out.1 Try.underlying25 rfl (by kernel_rfl)) rfl ?_
          exact ⟨_, _, rfl, FIN.out.2.1, FIN.out.2.2, BEL.out⟩
end Go.Proofs.Ytpedenbcfbflbaa.X
