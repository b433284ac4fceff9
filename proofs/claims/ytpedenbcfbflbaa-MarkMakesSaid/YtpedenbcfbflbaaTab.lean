/- Plain lists, no program: where two loops that number states stand, round by round. -/
import Derived.Test.YtpedenbcfbflbaaNum
namespace Go.Proofs.Ytpedenbcfbflbaa.Num
set_option linter.unusedVariables false
section
variable {σ : Type} [DecidableEq σ]

def TEq (f : σ → Nat → σ) (sg mo : Nat) (T : Option (List σ × List (List Int))) (k : Nat) (l : List σ) (rows : List (List Int)) : Prop :=
  rows.length + k = mo + 1 ∧ l.length ≤ mo ∧ rows.length ≤ l.length ∧ (table f sg mo k rows.length l).map (fun q => (q.1, rows ++ q.2)) = T

def REq (f : σ → Nat → σ) (sg mo : Nat) (T : Option (List σ × List (List Int))) (K : Nat) (rows : List (List Int)) (l0 : List σ) (x : σ) (k : Nat) (l : List σ) (ks : List Int) : Prop :=
  ks.length + k = sg ∧ l.length ≤ mo ∧ l0 <+: l ∧ rows.length < l0.length ∧ rows.length + 1 + K = mo + 1 ∧
  (match row (f x) mo k ks.length l with | none => none | some (l', r) => (table f sg mo K (rows.length + 1) l').map (fun q => (q.1, rows ++ ((ks ++ r) :: q.2)))) = T

variable {f : σ → Nat → σ} {sg mo : Nat} {T : Option (List σ × List (List Int))}

theorem TEq.start {x0 : σ} (hm : 1 ≤ mo) : TEq f sg mo (table f sg mo (mo + 1) 0 [x0]) (mo + 1) [x0] [] :=
  ⟨by simp, by simpa using hm, by simp, by simp⟩

theorem TEq.done {k : Nat} {l : List σ} {rows : List (List Int)} (h : TEq f sg mo T k l rows) (he : l.length ≤ rows.length) : T = some (l, rows) := by
  obtain ⟨h1, h2, h3, h4⟩ := h
  obtain ⟨k, rfl⟩ : ∃ j, k = j + 1 := ⟨k - 1, by omega⟩
  rw [← h4]
  unfold table
  rw [List.getElem?_eq_none he]
  simp

theorem TEq.into {k : Nat} {l : List σ} {rows : List (List Int)} {x : σ} (h : TEq f sg mo T k l rows) (hx : l[rows.length]? = some x) : ∃ K, k = K + 1 ∧ REq f sg mo T K rows l x sg l [] := by
  obtain ⟨h1, h2, h3, h4⟩ := h
  have hlt := (List.getElem?_eq_some_iff.1 hx).1
  obtain ⟨K, rfl⟩ : ∃ j, k = j + 1 := ⟨k - 1, by omega⟩
  refine ⟨K, rfl, by simp, h2, List.prefix_refl _, hlt, by omega, ?_⟩
  rw [← h4]
  conv => rhs; unfold table
  rw [hx]
  simp only [List.length_nil]
  cases row (f x) mo sg 0 l with
  | none => rfl
  | some q =>
    simp only [Option.map_map]
    congr 1

theorem REq.none_ {K : Nat} {rows : List (List Int)} {l0 l : List σ} {x : σ} {k : Nat} {ks : List Int} (h : REq f sg mo T K rows l0 x k l ks) (hk : ks.length < sg) (hm : mo < (put l (f x ks.length)).length) : T = none := by
  obtain ⟨h1, h2, h3, h4, h5, h6⟩ := h
  obtain ⟨k, rfl⟩ : ∃ j, k = j + 1 := ⟨k - 1, by omega⟩
  rw [← h6]
  unfold row
  rw [if_pos hm]

theorem REq.step {K : Nat} {rows : List (List Int)} {l0 l : List σ} {x : σ} {k : Nat} {ks : List Int} (h : REq f sg mo T K rows l0 x k l ks) (hk : ks.length < sg) (hm : ¬ mo < (put l (f x ks.length)).length) :
    ∃ k', k = k' + 1 ∧ REq f sg mo T K rows l0 x k' (put l (f x ks.length)) (ks ++ [(idx l (f x ks.length) : Int)]) := by
  obtain ⟨h1, h2, h3, h4, h5, h6⟩ := h
  obtain ⟨k, rfl⟩ : ∃ j, k = j + 1 := ⟨k - 1, by omega⟩
  refine ⟨k, rfl, by simp; omega, by omega, h3.trans (put_prefix _ _), h4, h5, ?_⟩
  rw [← h6]
  conv => rhs; unfold row
  rw [if_neg hm]
  simp only [List.length_append, List.length_cons, List.length_nil, Nat.zero_add]
  cases row (f x) mo k (ks.length + 1) (put l (f x ks.length)) with
  | none => rfl
  | some q => simp

theorem REq.done {K : Nat} {rows : List (List Int)} {l0 l : List σ} {x : σ} {k : Nat} {ks : List Int} (h : REq f sg mo T K rows l0 x k l ks) (hk : sg ≤ ks.length) : TEq f sg mo T K l (rows ++ [ks]) := by
  obtain ⟨h1, h2, h3, h4, h5, h6⟩ := h
  obtain rfl : k = 0 := by omega
  have := h3.length_le
  refine ⟨by simp; omega, h2, by simp; omega, ?_⟩
  rw [← h6]
  simp [row]
end
end Go.Proofs.Ytpedenbcfbflbaa.Num
