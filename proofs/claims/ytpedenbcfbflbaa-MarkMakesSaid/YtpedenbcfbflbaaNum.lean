/- Plain lists, no program: what a numbering of states as they are met comes to. -/
namespace Go.Proofs.Ytpedenbcfbflbaa.Num
set_option linter.unusedVariables false

section
variable {σ : Type} [DecidableEq σ]

/-- The first place of x in l; l.length where it isn't there. -/
def idx : List σ → σ → Nat
  | [], _ => 0
  | y :: r, x => if y = x then 0 else idx r x + 1

theorem idx_le (l : List σ) (x : σ) : idx l x ≤ l.length := by
  induction l with
  | nil => simp [idx]
  | cons y r ih => unfold idx; split <;> simp <;> omega

theorem idx_lt {l : List σ} {x : σ} : idx l x < l.length ↔ x ∈ l := by
  induction l with
  | nil => simp [idx]
  | cons y r ih =>
    unfold idx
    by_cases h : y = x
    · simp [h]
    · simp [h, ih, Ne.symm h]

theorem idx_get {l : List σ} {x : σ} (h : x ∈ l) : l[idx l x]? = some x := by
  induction l with
  | nil => simp at h
  | cons y r ih =>
    unfold idx
    by_cases hy : y = x
    · simp [hy]
    · simp [hy]
      exact ih (by simpa [Ne.symm hy] using h)

theorem idx_append_left {l m : List σ} {x : σ} (h : x ∈ l) : idx (l ++ m) x = idx l x := by
  induction l with
  | nil => simp at h
  | cons y r ih =>
    simp only [List.cons_append, idx]
    by_cases hy : y = x
    · simp [hy]
    · simp [hy]
      exact ih (by simpa [Ne.symm hy] using h)

theorem idx_not {l : List σ} {x : σ} (h : x ∉ l) : idx l x = l.length := by
  have h1 := idx_le l x
  have h2 := mt idx_lt.1 h
  omega

theorem idx_append_new {l : List σ} {x : σ} (h : x ∉ l) : idx (l ++ [x]) x = l.length := by
  induction l with
  | nil => simp [idx]
  | cons y r ih =>
    simp only [List.mem_cons, not_or] at h
    simp [idx, Ne.symm h.1, ih h.2]

/-- One is looked for; it comes, if it isn't there. -/
def put (l : List σ) (x : σ) : List σ := if x ∈ l then l else l ++ [x]

theorem mem_put (l : List σ) (x : σ) : x ∈ put l x := by unfold put; split <;> simp_all
theorem put_prefix (l : List σ) (x : σ) : l <+: put l x := by unfold put; split; exact List.prefix_refl _; exact List.prefix_append _ _
theorem idx_put (l : List σ) (x : σ) : idx (put l x) x = idx l x := by
  unfold put
  split
  · rfl
  · rename_i h; rw [idx_append_new h, idx_not h]
theorem put_nodup {l : List σ} (h : l.Nodup) (x : σ) : (put l x).Nodup := by
  unfold put
  split
  · exact h
  · rename_i hx
    rw [List.nodup_append]
    exact ⟨h, by simp, by simp; intro a ha e; exact hx (e ▸ ha)⟩
theorem put_length (l : List σ) (x : σ) : (put l x).length ≤ l.length + 1 := by unfold put; split <;> simp

/-- One row: f s, f (s+1), ..: n of them. -/
def row (f : Nat → σ) (most : Nat) : Nat → Nat → List σ → Option (List σ × List Int)
  | 0, _, l => some (l, [])
  | n + 1, s, l => if most < (put l (f s)).length then none else (row f most n (s + 1) (put l (f s))).map fun r => (r.1, (idx l (f s) : Int) :: r.2)

/-- All rows from state i on. -/
def table (f : σ → Nat → σ) (signs most : Nat) : Nat → Nat → List σ → Option (List σ × List (List Int))
  | 0, _, l => some (l, [])
  | d + 1, i, l => match l[i]? with
    | none => some (l, [])
    | some x => match row (f x) most signs 0 l with
      | none => none
      | some (l', r) => (table f signs most d (i + 1) l').map fun q => (q.1, r :: q.2)
end
end Go.Proofs.Ytpedenbcfbflbaa.Num
