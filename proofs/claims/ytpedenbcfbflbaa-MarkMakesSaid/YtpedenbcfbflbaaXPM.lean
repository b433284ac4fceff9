import Derived.Test.YtpedenbcfbflbaaXPI
import Derived.Test.YtpedenbcfbflbaaXNum45
import Derived.Laws.BitsLemmas
namespace Go.Proofs.Ytpedenbcfbflbaa.X
open Go.RowKit Go.Proofs.YtpedenbcfbflbaaW.PrintWords Go.Proofs.YtpedenbcfbflbaaW.PrintLast Go.Proofs.YtpedenbcfbflbaaW.PrintMore Go.Maps Num
set_option linter.unusedVariables false
set_option linter.unusedSimpArgs false

/-- The maker as it stands: its block, its map, its list; a box of a state's own (gx) is none of its rows. -/
structure PM (w : World) (gp mb gx : Nat) (v0 v1 v2 v3 v4 v5 : Value) (l : List (Int × Int)) (W : World) : Prop where
  lst : ∃ A cp, W.heap[gp]? = some (.cells #[v0, v1, v2, v3, v4, v5, .map (some mb), .slice A l.length cp] 52 (0, 0)) ∧ W.ownsRow w.heap.size 55 2 (.slice A l.length cp) l.length (cells2 l) ∧ some gx ≠ (.slice A l.length cp : Value).ownBlock
  map : ∃ D, W.ownsMap Try.prog 55 (plainElem Try.prog 3) mb l.length D ∧ Known Try.prog 55 enc2 l D
  gp_le : w.heap.size ≤ gp
  mb_le : w.heap.size ≤ mb
section
variable {w W W' : World} {gp mb gx : Nat} {v0 v1 v2 v3 v4 v5 : Value} {l : List (Int × Int)}
theorem PM.below (h : PM w gp mb gx v0 v1 v2 v3 v4 v5 l W) (hb : Below W.heap.size W W') : PM w gp mb gx v0 v1 v2 v3 v4 v5 l W' := by
  obtain ⟨⟨A, cp, h1, h2, ha⟩, ⟨D, h3, h4⟩, h5, h6⟩ := h
  exact ⟨⟨A, cp, blk_below h1 hb, pw_own_below h2 hb, ha⟩, ⟨D, h3.kept (grown_of_below hb none) (by simp), h4⟩, h5, h6⟩
theorem PM.far (h : PM w gp mb gx v0 v1 v2 v3 v4 v5 l W) {p : Addr} {cs : Array Value} {q : Nat} (hp : W.heap[p.block]? = some (.cells cs q (0, 0))) (h1 : q ≠ 52) (h2 : q ≠ 55) (u : Value) : PM w gp mb gx v0 v1 v2 v3 v4 v5 l (W.setCell p u) := by
  obtain ⟨⟨A, cp, h3, h4, ha⟩, ⟨D, h5, h6⟩, h7, h8⟩ := h
  refine ⟨⟨A, cp, blk_far h3 (blk_ne h3 hp (fun e => h1 e.symm)) _, own_setCell h4 (own_block_ne h4 hp (fun e => h2 e.symm)) _, ha⟩, ⟨D, h5.setCell ?_ _, h6⟩, h7, h8⟩
  obtain ⟨es, clock, hb, _⟩ := h5
  rintro rfl
  rw [hp] at hb
  cases hb
theorem PM.grown (h : PM w gp mb gx v0 v1 v2 v3 v4 v5 l W) {base e size n : Nat} {v : Value} {xs : List Value} (hv : W.ownsRow base e size v n xs) (hg : W.grownBy W' v.ownBlock) (h1 : e ≠ 52) (h2 : e ≠ 55) : PM w gp mb gx v0 v1 v2 v3 v4 v5 l W' := by
  obtain ⟨⟨A, cp, h3, h4, ha⟩, ⟨D, h5, h6⟩, h7, h8⟩ := h
  refine ⟨⟨A, cp, blk_grown h3 hg (own_block_ne hv h3 h1), own_other h4 hg (own_type_ne h4 hv (fun e => h2 e.symm)), ha⟩, ⟨D, h5.kept hg ?_, h6⟩, h7, h8⟩
  obtain ⟨es, clock, hb, _⟩ := h5
  rcases own_map_ne hv hb with e | e
  · rw [e]; simp
  · exact fun e' => e e'.symm
/-- Another box. -/
theorem PM.box (h : PM w gp mb gx v0 v1 v2 v3 v4 v5 l W) {g : Nat} (hg : W.heap.size ≤ g) : PM w gp mb g v0 v1 v2 v3 v4 v5 l W := by
  obtain ⟨⟨A, cp, h3, h4, ha⟩, h56, h7, h8⟩ := h
  exact ⟨⟨A, cp, h3, h4, fun e => by have := own_lt h4 g e.symm; omega⟩, h56, h7, h8⟩

/-- Another block, of another type. -/
theorem PM.rebox (h : PM w gp mb gx v0 v1 v2 v3 v4 v5 l W) {g q : Nat} {cs : Array Value} (hg : W.heap[g]? = some (.cells cs q (0, 0))) (hq : q ≠ 55) : PM w gp mb g v0 v1 v2 v3 v4 v5 l W := by
  obtain ⟨⟨A, cp, h3, h4, ha⟩, h56, h7, h8⟩ := h
  exact ⟨⟨A, cp, h3, h4, own_block_ne h4 hg (fun e => hq e.symm)⟩, h56, h7, h8⟩

/-- The number of a state. -/
theorem PM.number (h : PM w gp mb gx v0 v1 v2 v3 v4 v5 l W) (x : Int × Int) (w1 : (Lit.int .i64 x.1).wf = true) (w2 : (Lit.int .i64 x.2).wf = true) (hB : Below w.heap.size w W) (hlen : l.length ≤ 100000) {cx : Array Value} {qx : Nat} (hx : W.heap[gx]? = some (.cells cx qx (0, 0))) (hqx : qx ≠ 52) :
    Calls Try.prog 45 #[.pointer (some ⟨gp, 0, none⟩), .agg #[.int .i64 x.1, .int .i64 x.2]] W fun e w' => e = .returned (.int .i64 (idx l x)) ∧ PM w gp mb gx v0 v1 v2 v3 v4 v5 (put l x) w' ∧ Below w.heap.size W w' ∧ Keeps 52 55 W w' ∧ w'.heap[gx]? = some (.cells cx qx (0, 0)) := by
  obtain ⟨⟨A, cp, h3, h4, ha⟩, ⟨D, h5, h6⟩, h7, h8⟩ := h
  refine (number45 x l D v0 v1 v2 v3 v4 v5 gp mb w.heap.size A cp W w1 w2 hB.size hlen h7 h8 h3 h5 h6 h4).mono ?_
  rintro e w' ⟨rfl, D', A', cp', g1, g2, g3, g4, hc, hat⟩
  have hxl := blk_lt hx
  refine ⟨rfl, ⟨⟨A', cp', g1, g4, fun e => ?_⟩, ⟨D', g2, g3⟩, h7, h8⟩, hc.below hB.size ?_, ⟨hc.size, fun k cs q hq1 hq2 hk => ?_⟩, ?_⟩
  · rcases hat gx e.symm with h | h
    · exact ha h.symm
    · omega
  · rintro i (rfl | rfl | hi)
    · exact h7
    · exact h8
    · exact own_base h4 i hi.symm
  · rw [hc.block k (blk_lt hk) ?_]
    · exact hk
    · rintro (rfl | rfl | hi)
      · rw [h3] at hk
        injection hk with hk
        injection hk with _ hk
        exact hq1 hk.symm
      · obtain ⟨es, clock, hb, _⟩ := h5
        rw [hk] at hb
        cases hb
      · exact own_block_ne h4 hk (fun e => hq2 e.symm) hi
  · rw [hc.block gx hxl ?_]
    · exact hx
    · rintro (e | e | hi)
      · rw [e, h3] at hx
        injection hx with hx
        injection hx with _ hx
        exact absurd hx.symm hqx
      · obtain ⟨es, clock, hb, _⟩ := h5
        rw [e, hb] at hx
        cases hx
      · exact ha hi
theorem PM.len (h : PM w gp mb gx v0 v1 v2 v3 v4 v5 l W) : ∃ A cp, W.cell? ⟨gp, 7, none⟩ = some (.slice A l.length cp) := by
  obtain ⟨⟨A, cp, h1, h2, _⟩, _⟩ := h
  exact ⟨A, cp, (blk_cell h1 7).trans rfl⟩
end
theorem PM.start {w W : World} {v0 v1 v2 v3 v4 v5 : Value} {gx : Nat} (hB : Below w.heap.size w W) : PM w (W.heap.size + 1) W.heap.size gx v0 v1 v2 v3 v4 v5 [] ((W.alloc (.map #[] 0)).alloc (.cells #[v0, v1, v2, v3, v4, v5, .map (some W.heap.size), .slice none 0 0] 52)) := by
  have hs := hB.size
  refine ⟨⟨none, 0, ?_, own_nil _ _ _ _, by simp [Value.ownBlock]⟩, ⟨.map [], ?_, Known.nil⟩, by omega, by omega⟩
  · have := blk_new (W.alloc (.map #[] 0)) (.cells #[v0, v1, v2, v3, v4, v5, .map (some W.heap.size), .slice none 0 0] 52)
    simpa using this
  · exact (World.ownsMap_made W _ _ _).alloc _

/-- A state where it stands. -/
theorem state_cells {W : World} {base : Nat} {A : Option Addr} {cp : Nat} {l : List (Int × Int)} (h : W.ownsRow base 55 2 (.slice A l.length cp) l.length (cells2 l)) (i : Nat) (x : Int × Int) (hx : l[i]? = some x) :
    ∃ g, A = some ⟨g, 0, none⟩ ∧ W.cell? ⟨g, i * 2, none⟩ = some (.int .i64 x.1) ∧ W.cell? ⟨g, i * 2 + 1, none⟩ = some (.int .i64 x.2) := by
  have hlt := (List.getElem?_eq_some_iff.1 hx).1
  obtain ⟨g, cap, he, _, _⟩ := h.form (by omega)
  injection he with he _ _
  subst he
  have hget : ∀ (l : List (Int × Int)) (i : Nat) (x : Int × Int), l[i]? = some x → (cells2 l)[i * 2]? = some (.int .i64 x.1) ∧ (cells2 l)[i * 2 + 1]? = some (.int .i64 x.2) := by
    intro l
    induction l with
    | nil => intro i x h; simp at h
    | cons y r ih =>
      intro i x h
      have ec : cells2 (y :: r) = .int .i64 y.1 :: .int .i64 y.2 :: cells2 r := by simp [cells2]
      cases i with
      | zero => simp at h; subst h; simp [ec]
      | succ i =>
        obtain ⟨h1, h2⟩ := ih i x (by simpa using h)
        rw [ec]
        exact ⟨by rw [show (i + 1) * 2 = i * 2 + 1 + 1 by omega]; simpa using h1, by rw [show (i + 1) * 2 + 1 = i * 2 + 1 + 1 + 1 by omega]; simpa using h2⟩
  obtain ⟨h1, h2⟩ := hget l i x hx
  have a1 := h.cells (g := g) rfl (i * 2) _ h1
  have a2 := h.cells (g := g) rfl (i * 2 + 1) _ h2
  rw [add_plain] at a1 a2
  exact ⟨g, rfl, by simpa using a1, by simpa using a2⟩

theorem results_c {P : Program} {fn : Func} {p : Tmp} {ty : TypeId} (h : fn.results = #[.cell p ty]) (tmps : Array Value) (w : World) (g : Nat) (t : TypeId) (cs : Array Value) (fr : Nat × Nat) (d : TypeDesc)
    (hp : tmps.getD p undef = .pointer (some ⟨g, 0, none⟩)) (hg : w.heap[g]? = some (.cells cs t fr))
    (hu : P.underlying ty = some d) (hd : (match d with | .struct _ | .array _ _ => true | _ => false) = true) (hi : (P.info? ty).map (·.size) = some cs.size) :
    (results fn tmps).run P w = .ok (.agg cs) w := by
  have hp' : tmps[p]?.getD undef = .pointer (some ⟨g, 0, none⟩) := by simpa using hp
  simp [results, h, hp', asAddr, run_loadVar_row w g t ty cs fr d hg hu hd hi]

/-- Behind a state, by a sign. -/
def nextM (n1 : List (List Int)) (e1 : List Bool) (n2 : List (List Int)) (x : Int × Int) (s : Nat) : Int × Int :=
  if s % 2 = 1 then (if x.1 = 1 ∧ e1.getD x.2.toNat false = true then (2, (n2.getD 0 []).getD (s / 2) 0) else (3, 0))
  else if x.1 = 0 ∨ x.1 = 1 then (1, (n1.getD x.2.toNat []).getD (s / 2) 0)
  else if x.1 = 2 then (2, (n2.getD x.2.toNat []).getD (s / 2) 0)
  else (3, 0)
/-- A state that can be. -/
def okM (a b : Nat) (x : Int × Int) : Prop := ((x.1 = 0 ∨ x.1 = 1) ∧ 0 ≤ x.2 ∧ x.2 < a) ∨ (x.1 = 2 ∧ 0 ≤ x.2 ∧ x.2 < b) ∨ x = (3, 0)
theorem nextM_ok {n1 n2 : List (List Int)} {e1 : List Bool} {s1 : Int} (h1 : ∀ r ∈ n1, (r.length : Int) = s1 ∧ ∀ x ∈ r, 0 ≤ x ∧ x < n1.length) (h2 : ∀ r ∈ n2, (r.length : Int) = s1 ∧ ∀ x ∈ r, 0 ≤ x ∧ x < n2.length) (h0 : 0 < n2.length) {x : Int × Int} (hx : okM n1.length n2.length x) {s : Nat} (hs : (s : Int) < 2 * s1) :
    okM n1.length n2.length (nextM n1 e1 n2 x s) := by
  have hh : ((s / 2 : Nat) : Int) < s1 := by omega
  unfold nextM
  by_cases ho : s % 2 = 1
  · rw [if_pos ho]
    by_cases hc : x.1 = 1 ∧ e1.getD x.2.toNat false = true
    · rw [if_pos hc]
      obtain ⟨t1, t2⟩ := getD_row h2 0 (by omega) (by omega)
      exact .inr (.inl ⟨rfl, by simpa using t2 (s / 2) (by omega)⟩)
    · rw [if_neg hc]; exact .inr (.inr rfl)
  · rw [if_neg ho]
    by_cases hc : x.1 = 0 ∨ x.1 = 1
    · rw [if_pos hc]
      rcases hx with hx | hx | hx
      · obtain ⟨t1, t2⟩ := getD_row h1 x.2 hx.2.1 hx.2.2
        exact .inl ⟨.inr rfl, t2 (s / 2) (by omega)⟩
      · omega
      · rw [hx] at hc; simp at hc
    · rw [if_neg hc]
      by_cases h3 : x.1 = 2
      · rw [if_pos h3]
        rcases hx with hx | hx | hx
        · exact absurd hx.1 hc
        · obtain ⟨t1, t2⟩ := getD_row h2 x.2 hx.2.1 hx.2.2
          exact .inr (.inl ⟨rfl, t2 (s / 2) (by omega)⟩)
        · rw [hx] at h3; simp at h3
      · rw [if_neg h3]; exact .inr (.inr rfl)
theorem okM_bounds {a b : Nat} {x : Int × Int} (h : okM a b x) (ha : a ≤ 3000) (hb : b ≤ 3000) : 0 ≤ x.1 ∧ x.1 ≤ 3 ∧ 0 ≤ x.2 ∧ x.2 ≤ 3000 := by
  rcases h with h | h | h
  · omega
  · omega
  · rw [h]; simp
def BdM (a b : Nat) (l : List (Int × Int)) : Prop := ∀ x ∈ l, okM a b x
theorem BdM.put {a b : Nat} {l : List (Int × Int)} (h : BdM a b l) {x : Int × Int} (hx : okM a b x) : BdM a b (put l x) := by
  intro y hy
  unfold Num.put at hy
  split at hy
  · exact h y hy
  · rcases List.mem_append.1 hy with hy | hy
    · exact h y hy
    · rw [List.mem_singleton] at hy
      rw [hy]
      exact hx

/-- May the two be made a marked one of? -/
def markBad (s1 : Int) (n1 : List (List Int)) (e1 : List Bool) (s2 : Int) (n2 : List (List Int)) (e2 : List Bool) (most : Int) : Bool :=
  !rightB s1 n1 e1 || !rightB s2 n2 e2 || (s1 != s2) || decide (200 < s1) || decide (most < 1) || decide (3000 < most)
theorem markBad_ok {s1 : Int} {n1 : List (List Int)} {e1 : List Bool} {s2 : Int} {n2 : List (List Int)} {e2 : List Bool} {most : Int} (h1 : rightB s1 n1 e1 = true) (h2 : rightB s2 n2 e2 = true) (hs : s1 = s2) (hc : ¬ 200 < s1) (ha : ¬ most < 1) (hb : ¬ 3000 < most) : markBad s1 n1 e1 s2 n2 e2 most = false := by
  unfold markBad
  rw [h1, h2, bne_eq_false_iff_eq.2 hs, decide_eq_false ha, decide_eq_false hb, decide_eq_false hc]
  rfl
theorem markBad_inv {s1 : Int} {n1 : List (List Int)} {e1 : List Bool} {s2 : Int} {n2 : List (List Int)} {e2 : List Bool} {most : Int} (h : markBad s1 n1 e1 s2 n2 e2 most = false) : rightB s1 n1 e1 = true ∧ rightB s2 n2 e2 = true ∧ s1 = s2 ∧ s1 ≤ 200 ∧ 1 ≤ most ∧ most ≤ 3000 := by
  unfold markBad at h
  simp only [Bool.or_eq_false_iff, Bool.not_eq_false', bne_eq_false_iff_eq, decide_eq_false_iff_not] at h
  obtain ⟨⟨⟨⟨⟨a, b⟩, c⟩, f⟩, d⟩, e⟩ := h
  exact ⟨a, b, c, by omega, by omega, by omega⟩
def endM (e2 : List Bool) (x : Int × Int) : Bool := decide (x.1 = 2) && e2.getD x.2.toNat false
def markRes (sg : Int) (e2 : List Bool) : Option (List (Int × Int) × List (List Int)) → Int × List (List Int) × List Bool × Int
  | none => (0, [], [], 13)
  | some q => (sg, q.2, q.1.map (endM e2), 0)
/-- The automaton of the marked ones. -/
def markF (s1 : Int) (n1 : List (List Int)) (e1 : List Bool) (s2 : Int) (n2 : List (List Int)) (e2 : List Bool) (most : Int) : Int × List (List Int) × List Bool × Int :=
  if markBad s1 n1 e1 s2 n2 e2 most then (0, [], [], 1)
  else markRes (2 * s1) e2 (table (nextM n1 e1 n2) (2 * s1).toNat most.toNat (most.toNat + 1) 0 [(0, 0)])
theorem cellOf_ends {α : Type} {l l2 : List (Int × Int)} {x : Int × Int} {k : Nat} (f : Int × Int → α) (h : l <+: l2) (hx : l[k]? = some x) {v : α} (hv : f x = v) : (l.take k).map f ++ [v] = (l2.take (k + 1)).map f := by
  rw [← hv]; exact ends_snoc f h hx
theorem and_one (n : Nat) (h : n < 2 ^ 63) : bits .and .i64 (n : Int) 1 = (n : Int) % 2 := by
  have hk : ∀ m : Int, 0 ≤ m → m < 2 ^ 63 → IntKind.i64.wrap m = m := fun m h0 h1 => by rw [IntKind.wrap_i64]; omega
  have := bits_mask .i64 63 (by decide) hk 1 (by decide) (n : Int) (by omega) (by exact_mod_cast h)
  simpa using this
theorem and_odd (n : Nat) (h : n < 2 ^ 63) : (bits .and .i64 (n : Int) 1 == 1) = decide (n % 2 = 1) := by
  rw [and_one n h]
  by_cases ho : n % 2 = 1
  · rw [decide_eq_true ho]
    exact beq_iff_eq.2 (by omega)
  · rw [decide_eq_false ho]
    exact beq_eq_false_iff_ne.2 (by omega)
end Go.Proofs.Ytpedenbcfbflbaa.X
