/- The mc seat's ground: numbering, rows, regions. -/
import Derived.Test.YtpedenbcfbflbaaPMarkMakesx0
import Derived.Shelf.Abstract
import Derived.Laws.EntriesVeiled
import Derived.Maps.OwnSet
import Derived.DeepKeys4
import Derived.WideKeyPair
import Derived.StillTailTactics
import Derived.Deep.RegionLaw
import Derived.Deep.DrawnRows
import Derived.StillTail
/- Plain lists, no program: what a numbering of states as they are met comes to. -/
namespace Go.Proofs.Ytpedenbcfbflbaa.Num
set_option linter.unusedVariables false

section
variable {σ : Type} [DecidableEq σ]

/-- The first place of x in l; l.length where it isn't there. -/
def idx : List σ → σ → Nat
  | [], _ => 0
  | y :: r, x => if y = x then 0 else idx r x + 1

theorem idx_le (l : List σ) (x : σ) : idx l x ≤ l.length := by
  induction l with
  | nil => simp [idx]
  | cons y r ih => unfold idx; split <;> simp <;> omega

theorem idx_lt {l : List σ} {x : σ} : idx l x < l.length ↔ x ∈ l := by
  induction l with
  | nil => simp [idx]
  | cons y r ih =>
    unfold idx
    by_cases h : y = x
    · simp [h]
    · simp [h, ih, Ne.symm h]

theorem idx_get {l : List σ} {x : σ} (h : x ∈ l) : l[idx l x]? = some x := by
  induction l with
  | nil => simp at h
  | cons y r ih =>
    unfold idx
    by_cases hy : y = x
    · simp [hy]
    · simp [hy]
      exact ih (by simpa [Ne.symm hy] using h)

theorem idx_append_left {l m : List σ} {x : σ} (h : x ∈ l) : idx (l ++ m) x = idx l x := by
  induction l with
  | nil => simp at h
  | cons y r ih =>
    simp only [List.cons_append, idx]
    by_cases hy : y = x
    · simp [hy]
    · simp [hy]
      exact ih (by simpa [Ne.symm hy] using h)

theorem idx_not {l : List σ} {x : σ} (h : x ∉ l) : idx l x = l.length := by
  have h1 := idx_le l x
  have h2 := mt idx_lt.1 h
  omega

theorem idx_append_new {l : List σ} {x : σ} (h : x ∉ l) : idx (l ++ [x]) x = l.length := by
  induction l with
  | nil => simp [idx]
  | cons y r ih =>
    simp only [List.mem_cons, not_or] at h
    simp [idx, Ne.symm h.1, ih h.2]

/-- One is looked for; it comes, if it isn't there. -/
def put (l : List σ) (x : σ) : List σ := if x ∈ l then l else l ++ [x]

theorem mem_put (l : List σ) (x : σ) : x ∈ put l x := by unfold put; split <;> simp_all
theorem put_prefix (l : List σ) (x : σ) : l <+: put l x := by unfold put; split; exact List.prefix_refl _; exact List.prefix_append _ _
theorem idx_put (l : List σ) (x : σ) : idx (put l x) x = idx l x := by
  unfold put
  split
  · rfl
  · rename_i h; rw [idx_append_new h, idx_not h]
theorem put_nodup {l : List σ} (h : l.Nodup) (x : σ) : (put l x).Nodup := by
  unfold put
  split
  · exact h
  · rename_i hx
    rw [List.nodup_append]
    exact ⟨h, by simp, by simp; intro a ha e; exact hx (e ▸ ha)⟩
theorem put_length (l : List σ) (x : σ) : (put l x).length ≤ l.length + 1 := by unfold put; split <;> simp

/-- One row: f s, f (s+1), ..: n of them. -/
def row (f : Nat → σ) (most : Nat) : Nat → Nat → List σ → Option (List σ × List Int)
  | 0, _, l => some (l, [])
  | n + 1, s, l => if most < (put l (f s)).length then none else (row f most n (s + 1) (put l (f s))).map fun r => (r.1, (idx l (f s) : Int) :: r.2)

/-- All rows from state i on. -/
def table (f : σ → Nat → σ) (signs most : Nat) : Nat → Nat → List σ → Option (List σ × List (List Int))
  | 0, _, l => some (l, [])
  | d + 1, i, l => match l[i]? with
    | none => some (l, [])
    | some x => match row (f x) most signs 0 l with
      | none => none
      | some (l', r) => (table f signs most d (i + 1) l').map fun q => (q.1, r :: q.2)
end
end Go.Proofs.Ytpedenbcfbflbaa.Num
/- Plain lists, no program: where two loops that number states stand, round by round. -/
namespace Go.Proofs.Ytpedenbcfbflbaa.Num
set_option linter.unusedVariables false
section
variable {σ : Type} [DecidableEq σ]

def TEq (f : σ → Nat → σ) (sg mo : Nat) (T : Option (List σ × List (List Int))) (k : Nat) (l : List σ) (rows : List (List Int)) : Prop :=
  rows.length + k = mo + 1 ∧ l.length ≤ mo ∧ rows.length ≤ l.length ∧ (table f sg mo k rows.length l).map (fun q => (q.1, rows ++ q.2)) = T

def REq (f : σ → Nat → σ) (sg mo : Nat) (T : Option (List σ × List (List Int))) (K : Nat) (rows : List (List Int)) (l0 : List σ) (x : σ) (k : Nat) (l : List σ) (ks : List Int) : Prop :=
  ks.length + k = sg ∧ l.length ≤ mo ∧ l0 <+: l ∧ rows.length < l0.length ∧ rows.length + 1 + K = mo + 1 ∧
  (match row (f x) mo k ks.length l with | none => none | some (l', r) => (table f sg mo K (rows.length + 1) l').map (fun q => (q.1, rows ++ ((ks ++ r) :: q.2)))) = T

variable {f : σ → Nat → σ} {sg mo : Nat} {T : Option (List σ × List (List Int))}

theorem TEq.start {x0 : σ} (hm : 1 ≤ mo) : TEq f sg mo (table f sg mo (mo + 1) 0 [x0]) (mo + 1) [x0] [] :=
  ⟨by simp, by simpa using hm, by simp, by simp⟩

theorem TEq.done {k : Nat} {l : List σ} {rows : List (List Int)} (h : TEq f sg mo T k l rows) (he : l.length ≤ rows.length) : T = some (l, rows) := by
  obtain ⟨h1, h2, h3, h4⟩ := h
  obtain ⟨k, rfl⟩ : ∃ j, k = j + 1 := ⟨k - 1, by omega⟩
  rw [← h4]
  unfold table
  rw [List.getElem?_eq_none he]
  simp

theorem TEq.into {k : Nat} {l : List σ} {rows : List (List Int)} {x : σ} (h : TEq f sg mo T k l rows) (hx : l[rows.length]? = some x) : ∃ K, k = K + 1 ∧ REq f sg mo T K rows l x sg l [] := by
  obtain ⟨h1, h2, h3, h4⟩ := h
  have hlt := (List.getElem?_eq_some_iff.1 hx).1
  obtain ⟨K, rfl⟩ : ∃ j, k = j + 1 := ⟨k - 1, by omega⟩
  refine ⟨K, rfl, by simp, h2, List.prefix_refl _, hlt, by omega, ?_⟩
  rw [← h4]
  conv => rhs; unfold table
  rw [hx]
  simp only [List.length_nil]
  cases row (f x) mo sg 0 l with
  | none => rfl
  | some q =>
    simp only [Option.map_map]
    congr 1

theorem REq.none_ {K : Nat} {rows : List (List Int)} {l0 l : List σ} {x : σ} {k : Nat} {ks : List Int} (h : REq f sg mo T K rows l0 x k l ks) (hk : ks.length < sg) (hm : mo < (put l (f x ks.length)).length) : T = none := by
  obtain ⟨h1, h2, h3, h4, h5, h6⟩ := h
  obtain ⟨k, rfl⟩ : ∃ j, k = j + 1 := ⟨k - 1, by omega⟩
  rw [← h6]
  unfold row
  rw [if_pos hm]

theorem REq.step {K : Nat} {rows : List (List Int)} {l0 l : List σ} {x : σ} {k : Nat} {ks : List Int} (h : REq f sg mo T K rows l0 x k l ks) (hk : ks.length < sg) (hm : ¬ mo < (put l (f x ks.length)).length) :
    ∃ k', k = k' + 1 ∧ REq f sg mo T K rows l0 x k' (put l (f x ks.length)) (ks ++ [(idx l (f x ks.length) : Int)]) := by
  obtain ⟨h1, h2, h3, h4, h5, h6⟩ := h
  obtain ⟨k, rfl⟩ : ∃ j, k = j + 1 := ⟨k - 1, by omega⟩
  refine ⟨k, rfl, by simp; omega, by omega, h3.trans (put_prefix _ _), h4, h5, ?_⟩
  rw [← h6]
  conv => rhs; unfold row
  rw [if_neg hm]
  simp only [List.length_append, List.length_cons, List.length_nil, Nat.zero_add]
  cases row (f x) mo k (ks.length + 1) (put l (f x ks.length)) with
  | none => rfl
  | some q => simp

theorem REq.done {K : Nat} {rows : List (List Int)} {l0 l : List σ} {x : σ} {k : Nat} {ks : List Int} (h : REq f sg mo T K rows l0 x k l ks) (hk : sg ≤ ks.length) : TEq f sg mo T K l (rows ++ [ks]) := by
  obtain ⟨h1, h2, h3, h4, h5, h6⟩ := h
  obtain rfl : k = 0 := by omega
  have := h3.length_le
  refine ⟨by simp; omega, h2, by simp; omega, ?_⟩
  rw [← h6]
  simp [row]
end
end Go.Proofs.Ytpedenbcfbflbaa.Num
/- Plain lists, no program: what a numbering comes to, whatever its bound. -/
namespace Go.Proofs.Ytpedenbcfbflbaa.Num
set_option linter.unusedVariables false
section
variable {σ : Type} [DecidableEq σ]

def rowT (f : Nat → σ) : Nat → Nat → List σ → List σ × List Int
  | 0, _, l => (l, [])
  | n + 1, s, l => ((rowT f n (s + 1) (put l (f s))).1, (idx l (f s) : Int) :: (rowT f n (s + 1) (put l (f s))).2)
def tableT (f : σ → Nat → σ) (sg : Nat) : Nat → Nat → List σ → List σ × List (List Int)
  | 0, _, l => (l, [])
  | d + 1, i, l => match l[i]? with
    | none => (l, [])
    | some x => ((tableT f sg d (i + 1) (rowT (f x) sg 0 l).1).1, (rowT (f x) sg 0 l).2 :: (tableT f sg d (i + 1) (rowT (f x) sg 0 l).1).2)

theorem rowT_prefix (f : Nat → σ) : ∀ (n s : Nat) (l : List σ), l <+: (rowT f n s l).1
  | 0, _, l => List.prefix_refl l
  | n + 1, s, l => (put_prefix l (f s)).trans (rowT_prefix f n (s + 1) (put l (f s)))
theorem tableT_prefix (f : σ → Nat → σ) (sg : Nat) : ∀ (d i : Nat) (l : List σ), l <+: (tableT f sg d i l).1
  | 0, _, l => List.prefix_refl l
  | d + 1, i, l => by
    unfold tableT
    cases l[i]? with
    | none => exact List.prefix_refl l
    | some x => exact (rowT_prefix (f x) sg 0 l).trans (tableT_prefix f sg d (i + 1) _)

theorem row_eq (f : Nat → σ) (mo : Nat) : ∀ (n s : Nat) (l : List σ), l.length ≤ mo → row f mo n s l = if mo < (rowT f n s l).1.length then none else some (rowT f n s l)
  | 0, s, l, h => by
    have : ¬ mo < l.length := by omega
    simp [row, rowT, this]
  | n + 1, s, l, h => by
    unfold row rowT
    dsimp only
    have hp := (rowT_prefix f n (s + 1) (put l (f s))).length_le
    by_cases h1 : mo < (put l (f s)).length
    · rw [if_pos h1, if_pos (by omega)]
    · rw [if_neg h1, row_eq f mo n (s + 1) _ (by omega)]
      by_cases h2 : mo < (rowT f n (s + 1) (put l (f s))).1.length
      · rw [if_pos h2, if_pos h2]; rfl
      · rw [if_neg h2, if_neg h2]; rfl
theorem table_eq (f : σ → Nat → σ) (sg mo : Nat) : ∀ (d i : Nat) (l : List σ), l.length ≤ mo → table f sg mo d i l = if mo < (tableT f sg d i l).1.length then none else some (tableT f sg d i l)
  | 0, i, l, h => by
    have : ¬ mo < l.length := by omega
    simp [table, tableT, this]
  | d + 1, i, l, h => by
    unfold table tableT
    cases hx : l[i]? with
    | none =>
      have : ¬ mo < l.length := by omega
      simp [this]
    | some x =>
      simp only
      rw [row_eq (f x) mo sg 0 l h]
      have hp := (tableT_prefix f sg d (i + 1) (rowT (f x) sg 0 l).1).length_le
      by_cases h1 : mo < (rowT (f x) sg 0 l).1.length
      · rw [if_pos h1, if_pos (by omega)]
      · rw [if_neg h1]
        simp only
        rw [table_eq f sg mo d (i + 1) _ (by omega)]
        by_cases h2 : mo < (tableT f sg d (i + 1) (rowT (f x) sg 0 l).1).1.length
        · rw [if_pos h2, if_pos h2]; rfl
        · rw [if_neg h2, if_neg h2]; rfl
theorem tableT_depth (f : σ → Nat → σ) (sg : Nat) : ∀ (d i : Nat) (l : List σ) (d' : Nat), (tableT f sg d i l).1.length ≤ i + d → d ≤ d' → tableT f sg d' i l = tableT f sg d i l
  | 0, i, l, d', h, hd => by
    have hn : l[i]? = none := List.getElem?_eq_none (by simpa [tableT] using h)
    cases d' with
    | zero => rfl
    | succ d' => simp [tableT, hn]
  | d + 1, i, l, d', h, hd => by
    cases d' with
    | zero => omega
    | succ d' =>
      unfold tableT at h ⊢
      cases hx : l[i]? with
      | none => rfl
      | some x =>
        rw [hx] at h
        simp only at h ⊢
        rw [tableT_depth f sg d (i + 1) _ d' (by omega) (by omega)]

/-- What holds of all that come, if it holds of the first and goes on. -/
theorem rowT_all (f : Nat → σ) (P : σ → Prop) : ∀ (n s : Nat) (l : List σ), (∀ x ∈ l, P x) → (∀ j, s ≤ j → j < s + n → P (f j)) → ∀ x ∈ (rowT f n s l).1, P x
  | 0, _, l, h, _ => h
  | n + 1, s, l, h, hf => by
    unfold rowT
    refine rowT_all f P n (s + 1) _ (fun x hx => ?_) (fun j h1 h2 => hf j (by omega) (by omega))
    unfold put at hx
    split at hx
    · exact h x hx
    · rcases List.mem_append.1 hx with hx | hx
      · exact h x hx
      · rw [List.mem_singleton] at hx
        rw [hx]; exact hf s (Nat.le_refl _) (by omega)
theorem tableT_all (f : σ → Nat → σ) (sg : Nat) (P : σ → Prop) (hP : ∀ x, P x → ∀ s, s < sg → P (f x s)) : ∀ (d i : Nat) (l : List σ), (∀ x ∈ l, P x) → ∀ x ∈ (tableT f sg d i l).1, P x
  | 0, _, l, h => h
  | d + 1, i, l, h => by
    unfold tableT
    cases hx : l[i]? with
    | none => exact h
    | some y =>
      exact tableT_all f sg P hP d (i + 1) _ (rowT_all (f y) P sg 0 l h (fun j _ h2 => hP y (h y (List.mem_of_getElem? hx)) j (by omega)))
theorem rowT_nodup (f : Nat → σ) : ∀ (n s : Nat) (l : List σ), l.Nodup → (rowT f n s l).1.Nodup
  | 0, _, l, h => h
  | n + 1, s, l, h => by unfold rowT; exact rowT_nodup f n (s + 1) _ (put_nodup h _)
theorem tableT_nodup (f : σ → Nat → σ) (sg : Nat) : ∀ (d i : Nat) (l : List σ), l.Nodup → (tableT f sg d i l).1.Nodup
  | 0, _, l, h => h
  | d + 1, i, l, h => by
    unfold tableT
    cases l[i]? with
    | none => exact h
    | some y => exact tableT_nodup f sg d (i + 1) _ (rowT_nodup (f y) sg 0 l h)

/-- One row: the numbers of what is behind. -/
theorem rowT_spec (f : Nat → σ) : ∀ (n s : Nat) (l : List σ), (rowT f n s l).2 = (List.range n).map (fun j => (idx (rowT f n s l).1 (f (s + j)) : Int)) ∧ ∀ j, j < n → f (s + j) ∈ (rowT f n s l).1
  | 0, s, l => ⟨rfl, fun j h => by omega⟩
  | n + 1, s, l => by
    obtain ⟨h1, h2⟩ := rowT_spec f n (s + 1) (put l (f s))
    have hp := rowT_prefix f n (s + 1) (put l (f s))
    have hm : f s ∈ (rowT f n (s + 1) (put l (f s))).1 := hp.subset (mem_put l (f s))
    have hi : idx (rowT f n (s + 1) (put l (f s))).1 (f s) = idx l (f s) := by
      obtain ⟨t, ht⟩ := hp
      rw [← ht, idx_append_left (mem_put l (f s)), idx_put]
    refine ⟨?_, fun j hj => ?_⟩
    · unfold rowT
      rw [List.range_succ_eq_map, List.map_cons, List.map_map]
      simp only [Nat.add_zero, hi]
      congr 1
      rw [h1]
      apply List.map_congr_left
      intro j _
      simp only [Function.comp]
      congr 3
      omega
    · cases j with
      | zero => simpa [rowT] using hm
      | succ j =>
        have := h2 j (by omega)
        unfold rowT
        rw [show s + (j + 1) = s + 1 + j by omega]
        exact this
/-- All rows. -/
theorem tableT_spec (f : σ → Nat → σ) (sg : Nat) : ∀ (d i : Nat) (l : List σ), i ≤ l.length →
    (∀ j, j < (tableT f sg d i l).2.length → ∃ x, (tableT f sg d i l).1[i + j]? = some x ∧ (tableT f sg d i l).2[j]? = some ((List.range sg).map (fun s => (idx (tableT f sg d i l).1 (f x s) : Int))) ∧ ∀ s, s < sg → f x s ∈ (tableT f sg d i l).1) ∧
    (tableT f sg d i l).2.length ≤ d ∧ i + (tableT f sg d i l).2.length ≤ (tableT f sg d i l).1.length ∧ ((tableT f sg d i l).1.length ≤ i + (tableT f sg d i l).2.length ∨ (tableT f sg d i l).2.length = d)
  | 0, i, l, hil => ⟨fun j h => by simp [tableT] at h, by simp [tableT], by simpa [tableT] using hil, .inr rfl⟩
  | d + 1, i, l, hil => by
    unfold tableT
    cases hx : l[i]? with
    | none =>
      have := List.getElem?_eq_none_iff.1 hx
      exact ⟨fun j h => by simp at h, by simp, by simpa using hil, .inl (by simpa using this)⟩
    | some x =>
      simp only
      have hlt := (List.getElem?_eq_some_iff.1 hx).1
      have hp1 := rowT_prefix (f x) sg 0 l
      have hp2 := tableT_prefix f sg d (i + 1) (rowT (f x) sg 0 l).1
      obtain ⟨h1, h2, h3, h4⟩ := tableT_spec f sg d (i + 1) (rowT (f x) sg 0 l).1 (by have := hp1.length_le; omega)
      refine ⟨fun j hj => ?_, by simp; omega, by simp; omega, ?_⟩
      · cases j with
        | zero =>
          obtain ⟨r1, r2⟩ := rowT_spec (f x) sg 0 l
          refine ⟨x, ?_, ?_, fun s hs => hp2.subset (by simpa using r2 s hs)⟩
          · obtain ⟨t, ht⟩ := hp1.trans hp2
            rw [← ht, Nat.add_zero, List.getElem?_append_left hlt]
            exact hx
          · simp only [List.getElem?_cons_zero]
            rw [r1]
            congr 1
            apply List.map_congr_left
            intro s hs
            have hs' := List.mem_range.1 hs
            obtain ⟨t, ht⟩ := hp2
            have hm := r2 s hs'
            simp only [Nat.zero_add] at hm ⊢
            rw [← ht, idx_append_left hm]
        | succ j =>
          obtain ⟨y, y1, y2, y3⟩ := h1 j (by simpa using hj)
          exact ⟨y, by rw [show i + (j + 1) = i + 1 + j by omega]; exact y1, by simpa using y2, y3⟩
      · rcases h4 with h4 | h4
        · exact .inl (by simp; omega)
        · exact .inr (by simp [h4])
end
end Go.Proofs.Ytpedenbcfbflbaa.Num
namespace Go.Proofs.Ytpedenbcfbflbaa.X
open Go.RowKit Go.Proofs.YtpedenbcfbflbaaW.PrintWords Go.Proofs.YtpedenbcfbflbaaW.PrintLast Go.Proofs.YtpedenbcfbflbaaW.PrintMore
set_option linter.unusedVariables false
set_option linter.unusedSimpArgs false

theorem at_row {α : Type} {d : Kd α} {t : Nat} {w : World} {A : Option Addr} {n : Nat} {xs : List (List α)} (h : Kd.C (Kd.slice t d) w A n xs) (i : Nat) (h1 : i < n) :
    ∃ ad A0 c0, A = some ad ∧ w.cell? (ad.add i) = some (.slice A0 (xs.getD i []).length c0) ∧ (xs.getD i []).length ≤ c0 ∧ d.C w A0 (xs.getD i []).length (xs.getD i []) := by
  obtain ⟨ad, c, e, _, hK, hc0⟩ := Kd.C_get h ([] : List α) (i : Int) (by omega) (by omega)
  have hc : ∀ (j : Nat) u, c[j]? = some u → w.cell? (ad.add (i * 1 + j)) = some u := hc0
  obtain ⟨A0, c0, rfl, l0, g0⟩ := hK
  exact ⟨ad, A0, c0, e, by have hq := hc 0 _ rfl; rwa [Nat.mul_one, Nat.add_zero] at hq, l0, g0⟩

/-- Right$1: an odd state. -/
theorem right1 (x n : Int) (g : Nat) (w : World) (hc : w.cell? ⟨g, 0, none⟩ = some (.int .i64 n)) :
    Calls Try.prog 60 #[.int .i64 x, .pointer (some ⟨g, 0, none⟩)] w fun e w' => e = .returned (.bool (decide (x < 0) || decide (n ≤ x))) ∧ Drawn0 w w' := by
  by_cases h : x < 0
  · have hb : decide (x < 0) = true := decide_eq_true h
    go_enter Try.func60, Try.ntmps60
    go_wp2
    repeat (go_quiet (fail); try go_wp2)
    go_ret
    exact ⟨by simp [h], by repeat (first | exact Drawn0.refl _ | apply Drawn0.step)⟩
  · have hb : decide (x < 0) = false := decide_eq_false h
    go_enter Try.func60, Try.ntmps60
    go_wp2
    repeat (go_quiet (fail); try go_wp2)
    go_ret
    exact ⟨by simp [h], by repeat (first | exact Drawn0.refl _ | apply Drawn0.step)⟩

/-- The first place that holds true; -1. -/
def firstT : List Bool → Int
  | [] => -1
  | true :: _ => 0
  | false :: r => if firstT r < 0 then -1 else firstT r + 1
theorem firstT_hit : ∀ (bs : List Bool) (i : Nat), bs[i]? = some true → (∀ j, j < i → bs[j]? = some false) → firstT bs = i
  | [], i, h, _ => by simp at h
  | b :: r, 0, h, _ => by simp at h; subst h; rfl
  | b :: r, i + 1, h, hj => by
    have h0 := hj 0 (by omega)
    simp at h0
    subst h0
    have := firstT_hit r i (by simpa using h) (fun j hji => by simpa using hj (j + 1) (by omega))
    simp only [firstT, this]
    rw [if_neg (by omega)]
    omega
theorem firstT_miss : ∀ (bs : List Bool), (∀ j, j < bs.length → bs[j]? = some false) → firstT bs = -1
  | [], _ => rfl
  | b :: r, hj => by
    have h0 := hj 0 (by simp)
    simp at h0
    subst h0
    have := firstT_miss r (fun j hji => by simpa using hj (j + 1) (by simpa using hji))
    simp [firstT, this]
theorem firstT_nonneg : ∀ (bs : List Bool), decide (0 ≤ firstT bs) = bs.any id
  | [] => rfl
  | true :: r => by simp [firstT]
  | false :: r => by
    have := firstT_nonneg r
    simp only [firstT, List.any_cons, id, Bool.false_or, ← this]
    split <;> simp <;> omega

/-- IndexFunc: what answers of each place (elements of one cell; the function draws alone). -/
theorem index68 (g : Nat) (lb : Array Value) (eg : ∀ args w, (callFunc g args).run Try.prog w = .ok (.enter g args) w)
    (A : Option Addr) (c : Nat) (vs : List Value) (bs : List Bool) (w : World) (hl : vs.length = bs.length) (hm : vs.length ≤ 9223372036854775807)
    (hr : ∀ (j : Nat) v, vs[j]? = some v → ∃ ad, A = some ad ∧ w.cell? (ad.add j) = some v)
    (hp : ∀ (j : Nat) v b, vs[j]? = some v → bs[j]? = some b → ∀ w', Drawn0 w w' → Calls Try.prog g (#[v] ++ lb) w' fun e w'' => e = .returned (.bool b) ∧ Drawn0 w' w'') :
    Calls Try.prog 68 #[.slice A vs.length c, .func (.func g) #[] lb] w fun e w' => e = .returned (.int .i64 (firstT bs)) ∧ Drawn0 w w' := by
  have HR := Aside0.mk hr
  have HP := Aside0.mk hp
  have HL := Aside0.mk hl
  clear hr hp hl
  go_enter Try.func68, Try.ntmps68
  go_wp2
  go_loopg [5, 8] vs.length (fun kq v5 v8 w' => ∃ i : Nat, i + kq = vs.length ∧ v8 = .int .i64 i ∧ Aside0 (∀ j, j < i → bs[j]? = some false) ∧ Drawn0 w w')
  case atStart => exact ⟨0, by omega, rfl, ⟨fun j hj => absurd hj (by omega)⟩, Drawn0.refl _⟩
  case round =>
    obtain ⟨i, hi, rfl, HA, HD⟩ := hrel
    have hD := HD
    obtain ⟨⟨m1, rfl⟩⟩ := HD
    by_cases hlt : i < vs.length
    · have hltz : (i : Int) < (vs.length : Int) := by omega
      obtain ⟨v, hv⟩ : ∃ v, vs[i]? = some v := ⟨_, List.getElem?_eq_getElem hlt⟩
      obtain ⟨b, hb⟩ : ∃ b, bs[i]? = some b := ⟨_, List.getElem?_eq_getElem (by have := HL.out; omega)⟩
      obtain ⟨ad, rfl, hcell⟩ := HR.out i v hv
      have hcall := HP.out i v b hv hb _ hD
      have HB := Aside0.mk hb
      clear hv hb
      cases b with
      | true =>
        go_wp2_with (go_at_fn g; refine hcall.mono ?_; rintro e w' ⟨rfl, ⟨q', rfl⟩⟩)
        go_ret
        exact ⟨congrArg (fun z => Ending.returned (Value.int .i64 z)) (firstT_hit bs i HB.out HA.out).symm, (Drawn0.refl w).step _⟩
      | false =>
        go_wp2_with (go_at_fn g; refine hcall.mono ?_; rintro e w' ⟨rfl, ⟨q', rfl⟩⟩)
        go_roundg (vs.length - (i + 1))
        case measure => omega
        case rel =>
          refine ⟨i + 1, by omega, by go_num, ⟨fun j hj => ?_⟩, (Drawn0.refl w).step _⟩
          by_cases e : j = i
          · subst e; exact HB.out
          · exact HA.out j (by omega)
    · have hltz : ¬ (i : Int) < (vs.length : Int) := by omega
      go_wp2
      go_ret
      exact ⟨congrArg (fun z => Ending.returned (Value.int .i64 z)) (firstT_miss bs (fun j hj => HA.out j (by have := HL.out; omega))).symm, hD⟩

theorem contains63 (g : Nat) (lb : Array Value) (eg : ∀ args w, (callFunc g args).run Try.prog w = .ok (.enter g args) w)
    (A : Option Addr) (c : Nat) (vs : List Value) (bs : List Bool) (w : World) (hl : vs.length = bs.length) (hm : vs.length ≤ 9223372036854775807)
    (hr : ∀ (j : Nat) v, vs[j]? = some v → ∃ ad, A = some ad ∧ w.cell? (ad.add j) = some v)
    (hp : ∀ (j : Nat) v b, vs[j]? = some v → bs[j]? = some b → ∀ w', Drawn0 w w' → Calls Try.prog g (#[v] ++ lb) w' fun e w'' => e = .returned (.bool b) ∧ Drawn0 w' w'') :
    Calls Try.prog 63 #[.slice A vs.length c, .func (.func g) #[] lb] w fun e w' => e = .returned (.bool (bs.any id)) ∧ Drawn0 w w' := by
  have hc := index68 g lb eg A c vs bs w hl hm hr hp
  rw [← firstT_nonneg bs]
  clear hr hp hl
  generalize firstT bs = r at *
  go_enter Try.func63, Try.ntmps63
  go_wp2_with (go_at_call 68; refine hc.mono ?_; rintro e w' ⟨rfl, ⟨q', rfl⟩⟩)
  go_ret
  exact ⟨rfl, (Drawn0.refl w).step _⟩
/-- IndexFunc: what answers of each place (elements of one cell; the function draws alone). -/
theorem index67 (g : Nat) (lb : Array Value) (eg : ∀ args w, (callFunc g args).run Try.prog w = .ok (.enter g args) w)
    (A : Option Addr) (c : Nat) (vs : List Value) (bs : List Bool) (w : World) (hl : vs.length = bs.length) (hm : vs.length ≤ 9223372036854775807)
    (hr : ∀ (j : Nat) v, vs[j]? = some v → ∃ ad, A = some ad ∧ w.cell? (ad.add j) = some v)
    (hp : ∀ (j : Nat) v b, vs[j]? = some v → bs[j]? = some b → ∀ w', Drawn0 w w' → Calls Try.prog g (#[v] ++ lb) w' fun e w'' => e = .returned (.bool b) ∧ Drawn0 w' w'') :
    Calls Try.prog 67 #[.slice A vs.length c, .func (.func g) #[] lb] w fun e w' => e = .returned (.int .i64 (firstT bs)) ∧ Drawn0 w w' := by
  have HR := Aside0.mk hr
  have HP := Aside0.mk hp
  have HL := Aside0.mk hl
  clear hr hp hl
  go_enter Try.func67, Try.ntmps67
  go_wp2
  go_loopg [5, 8] vs.length (fun kq v5 v8 w' => ∃ i : Nat, i + kq = vs.length ∧ v8 = .int .i64 i ∧ Aside0 (∀ j, j < i → bs[j]? = some false) ∧ Drawn0 w w')
  case atStart => exact ⟨0, by omega, rfl, ⟨fun j hj => absurd hj (by omega)⟩, Drawn0.refl _⟩
  case round =>
    obtain ⟨i, hi, rfl, HA, HD⟩ := hrel
    have hD := HD
    obtain ⟨⟨m1, rfl⟩⟩ := HD
    by_cases hlt : i < vs.length
    · have hltz : (i : Int) < (vs.length : Int) := by omega
      obtain ⟨v, hv⟩ : ∃ v, vs[i]? = some v := ⟨_, List.getElem?_eq_getElem hlt⟩
      obtain ⟨b, hb⟩ : ∃ b, bs[i]? = some b := ⟨_, List.getElem?_eq_getElem (by have := HL.out; omega)⟩
      obtain ⟨ad, rfl, hcell⟩ := HR.out i v hv
      have hcall := HP.out i v b hv hb _ hD
      have HB := Aside0.mk hb
      clear hv hb
      cases b with
      | true =>
        go_wp2_with (go_at_fn g; refine hcall.mono ?_; rintro e w' ⟨rfl, ⟨q', rfl⟩⟩)
        go_ret
        exact ⟨congrArg (fun z => Ending.returned (Value.int .i64 z)) (firstT_hit bs i HB.out HA.out).symm, (Drawn0.refl w).step _⟩
      | false =>
        go_wp2_with (go_at_fn g; refine hcall.mono ?_; rintro e w' ⟨rfl, ⟨q', rfl⟩⟩)
        go_roundg (vs.length - (i + 1))
        case measure => omega
        case rel =>
          refine ⟨i + 1, by omega, by go_num, ⟨fun j hj => ?_⟩, (Drawn0.refl w).step _⟩
          by_cases e : j = i
          · subst e; exact HB.out
          · exact HA.out j (by omega)
    · have hltz : ¬ (i : Int) < (vs.length : Int) := by omega
      go_wp2
      go_ret
      exact ⟨congrArg (fun z => Ending.returned (Value.int .i64 z)) (firstT_miss bs (fun j hj => HA.out j (by have := HL.out; omega))).symm, hD⟩

theorem contains61 (g : Nat) (lb : Array Value) (eg : ∀ args w, (callFunc g args).run Try.prog w = .ok (.enter g args) w)
    (A : Option Addr) (c : Nat) (vs : List Value) (bs : List Bool) (w : World) (hl : vs.length = bs.length) (hm : vs.length ≤ 9223372036854775807)
    (hr : ∀ (j : Nat) v, vs[j]? = some v → ∃ ad, A = some ad ∧ w.cell? (ad.add j) = some v)
    (hp : ∀ (j : Nat) v b, vs[j]? = some v → bs[j]? = some b → ∀ w', Drawn0 w w' → Calls Try.prog g (#[v] ++ lb) w' fun e w'' => e = .returned (.bool b) ∧ Drawn0 w' w'') :
    Calls Try.prog 61 #[.slice A vs.length c, .func (.func g) #[] lb] w fun e w' => e = .returned (.bool (bs.any id)) ∧ Drawn0 w w' := by
  have hc := index67 g lb eg A c vs bs w hl hm hr hp
  rw [← firstT_nonneg bs]
  clear hr hp hl
  generalize firstT bs = r at *
  go_enter Try.func61, Try.ntmps61
  go_wp2_with (go_at_call 67; refine hc.mono ?_; rintro e w' ⟨rfl, ⟨q', rfl⟩⟩)
  go_ret
  exact ⟨rfl, (Drawn0.refl w).step _⟩

/-- A row of whole numbers by its cells. -/
theorem cells_int {w : World} {A : Option Addr} {l : List Int} (hr : Kd.C (Kd.int .i64) w A l.length l) : ∀ (j : Nat) v, (nums .i64 l)[j]? = some v → ∃ ad, A = some ad ∧ w.cell? (ad.add j) = some v := by
  intro j v hv
  simp only [nums, List.getElem?_map, Option.map_eq_some_iff] at hv
  obtain ⟨x, hx, rfl⟩ := hv
  have hj := (List.getElem?_eq_some_iff.1 hx).1
  obtain ⟨ad, e, h⟩ := Kd.at_int hr (j : Int) (by omega) (by omega)
  refine ⟨ad, e, ?_⟩
  simpa [rd, List.getD_eq_getElem?_getD, hx] using h
theorem C_drewN {α : Type} {d : Kd α} {w : World} {A : Option Addr} {n : Nat} {xs : List α} (h : d.C w A n xs) (q : Nat) : d.C (w.drewN q) A n xs := Kd.C_below h (pw_below_drewN (Below.refl _ _) q)

theorem odd63 (A : Option Addr) (c : Nat) (l : List Int) (n : Int) (gn : Nat) (w : World) (hr : Kd.C (Kd.int .i64) w A l.length l) (hn : w.cell? ⟨gn, 0, none⟩ = some (.int .i64 n)) :
    Calls Try.prog 63 #[.slice A l.length c, .func (.func 60) #[] #[.pointer (some ⟨gn, 0, none⟩)]] w fun e w' => e = .returned (.bool (l.any fun x => decide (x < 0) || decide (n ≤ x))) ∧ Drawn0 w w' := by
  have hcon := contains63 60 #[.pointer (some ⟨gn, 0, none⟩)] (enters_of Try.func60 (by kernel_rfl) rfl) A c (nums .i64 l) (l.map fun x => decide (x < 0) || decide (n ≤ x)) w
    (by simp [nums]) (by rw [nums_length]; exact hr.2.1) (cells_int hr)
    (fun j v b hv hb w' hd => by
      simp only [nums, List.getElem?_map, Option.map_eq_some_iff] at hv hb
      obtain ⟨x, hx, rfl⟩ := hv
      obtain ⟨x', hx', rfl⟩ := hb
      obtain rfl : x = x' := by rw [hx] at hx'; exact Option.some.inj hx'
      obtain ⟨⟨q, rfl⟩⟩ := hd
      exact right1 x n gn _ hn)
  have e1 : (l.map fun x => decide (x < 0) || decide (n ≤ x)).any id = l.any fun x => decide (x < 0) || decide (n ≤ x) := by rw [List.any_map]; rfl
  rw [e1, nums_length] at hcon
  exact hcon

theorem quiet_of {P : Program} {f : FuncId} {args : Array Value} {w : World} {n : Nat} {v : Value} (h : Calls P f args (w.drewN n) fun e w' => e = .returned v ∧ Drawn0 (w.drewN n) w') :
    Calls P f args (w.drewN n) fun e w'' => e = .returned v ∧ ∃ m, w'' = w.drewN m :=
  Calls.quiet_of (h.mono fun _ _ ⟨he, hm⟩ => ⟨he, hm.out⟩)

/-- Right$2: a row that is none. -/
theorem right2 (A : Option Addr) (c : Nat) (l : List Int) (s n : Int) (gd gn go : Nat) (w : World) (hr : Kd.C (Kd.int .i64) w A l.length l)
    (hs : w.cell? ⟨gd, 0, none⟩ = some (.int .i64 s)) (hn : w.cell? ⟨gn, 0, none⟩ = some (.int .i64 n)) (ho : w.cell? ⟨go, 0, none⟩ = some (.func (.func 60) #[] #[.pointer (some ⟨gn, 0, none⟩)])) :
    Calls Try.prog 62 #[.slice A l.length c, .pointer (some ⟨gd, 0, none⟩), .pointer (some ⟨go, 0, none⟩)] w
      fun e w' => e = .returned (.bool (decide ((l.length : Int) ≠ s) || l.any fun x => decide (x < 0) || decide (n ≤ x))) ∧ Drawn0 w w' := by
  have hm : l.length ≤ 9223372036854775807 := hr.2.1
  have hcon := odd63 A c l n gn w hr hn
  generalize (l.any fun x => decide (x < 0) || decide (n ≤ x)) = r at *
  clear hr hn
  by_cases h : (l.length : Int) = s
  · have hb : ((l.length : Int) != s) = false := bne_eq_false_iff_eq.2 h
    have e0 : decide ((l.length : Int) ≠ s) = false := by simp [h]
    rw [e0, Bool.false_or]
    clear h e0
    go_enter Try.func62, Try.ntmps62
    go_wp2_with (go_at_call 63; refine hcon.mono ?_; rintro e w' ⟨rfl, ⟨q', rfl⟩⟩)
    go_ret
    exact ⟨rfl, by repeat (first | exact Drawn0.refl _ | apply Drawn0.step)⟩
  · have hb : ((l.length : Int) != s) = true := bne_iff_ne.2 h
    have e0 : decide ((l.length : Int) ≠ s) = true := by simp [h]
    rw [e0, Bool.true_or]
    clear h e0
    go_enter Try.func62, Try.ntmps62
    go_wp2
    repeat (go_quiet (fail); try go_wp2)
    go_ret
    exact ⟨rfl, by repeat (first | exact Drawn0.refl _ | apply Drawn0.step)⟩

/-- What det.Right answers. -/
def rightB (s : Int) (next : List (List Int)) (en : List Bool) : Bool :=
  !(decide (s < 1) || decide (400 < s) || decide (next.length = 0) || decide (3000 < next.length) || decide (en.length ≠ next.length)) &&
  !(next.any fun l => decide ((l.length : Int) ≠ s) || l.any fun x => decide (x < 0) || decide ((next.length : Int) ≤ x))


theorem odd61 (A : Option Addr) (c : Nat) (next : List (List Int)) (s n : Int) (gd gn go : Nat) (w : World) (hr : Kd.C (Kd.slice 3 (Kd.int .i64)) w A next.length next)
    (hs : w.cell? ⟨gd, 0, none⟩ = some (.int .i64 s)) (hn : w.cell? ⟨gn, 0, none⟩ = some (.int .i64 n)) (ho : w.cell? ⟨go, 0, none⟩ = some (.func (.func 60) #[] #[.pointer (some ⟨gn, 0, none⟩)])) :
    Calls Try.prog 61 #[.slice A next.length c, .func (.func 62) #[] #[.pointer (some ⟨gd, 0, none⟩), .pointer (some ⟨go, 0, none⟩)]] w
      fun e w' => e = .returned (.bool (next.any fun l => decide ((l.length : Int) ≠ s) || l.any fun x => decide (x < 0) || decide (n ≤ x))) ∧ Drawn0 w w' := by
  have hm := hr.2.1
  -- the rows' values
  have hx : ∃ vs : List Value, vs.length = next.length ∧ ∀ (j : Nat) v, vs[j]? = some v → ∃ ad A0 c0 l, A = some ad ∧ w.cell? (ad.add j) = some v ∧ next[j]? = some l ∧ v = .slice A0 l.length c0 ∧ Kd.C (Kd.int .i64) w A0 l.length l := by
    have hall : ∀ m, m ≤ next.length → ∃ vs : List Value, vs.length = m ∧ ∀ (j : Nat) v, vs[j]? = some v → ∃ ad A0 c0 l, A = some ad ∧ w.cell? (ad.add j) = some v ∧ next[j]? = some l ∧ v = .slice A0 l.length c0 ∧ Kd.C (Kd.int .i64) w A0 l.length l := by
      intro m
      induction m with
      | zero => exact fun _ => ⟨[], rfl, fun j v h => by simp at h⟩
      | succ m ih =>
        intro hle
        obtain ⟨vs, hl, hv⟩ := ih (by omega)
        obtain ⟨ad, A0, c0, e, hcell, _, hC⟩ := at_row hr m (by omega)
        refine ⟨vs ++ [.slice A0 (next.getD m []).length c0], by simp [hl], fun j v h => ?_⟩
        rcases Nat.lt_or_ge j m with hj | hj
        · rw [List.getElem?_append_left (by omega)] at h
          exact hv j v h
        · rw [List.getElem?_append_right (by omega)] at h
          have hj0 : j - vs.length = 0 := by
            have := (List.getElem?_eq_some_iff.1 h).1
            simp at this
            omega
          rw [hj0] at h
          obtain rfl : j = m := by omega
          simp at h
          subst h
          refine ⟨ad, A0, c0, next.getD j [], e, by simpa using hcell, ?_, rfl, hC⟩
          simp [List.getD_eq_getElem?_getD, List.getElem?_eq_getElem (show j < next.length by omega)]
    exact hall _ (Nat.le_refl _)
  obtain ⟨vs, hl, hv⟩ := hx
  have hcon := contains61 62 #[.pointer (some ⟨gd, 0, none⟩), .pointer (some ⟨go, 0, none⟩)] (enters_of Try.func62 (by kernel_rfl) rfl) A c vs (next.map fun l => decide ((l.length : Int) ≠ s) || l.any fun x => decide (x < 0) || decide (n ≤ x)) w
    (by simp [hl]) (by omega) (fun j v h => by obtain ⟨ad, _, _, _, e, hcell, _⟩ := hv j v h; exact ⟨ad, e, hcell⟩)
    (fun j v b h hb w' hd => by
      obtain ⟨ad, A0, c0, l, e, hcell, hln, rfl, hC⟩ := hv j v h
      simp only [List.getElem?_map, Option.map_eq_some_iff] at hb
      obtain ⟨l', hl', rfl⟩ := hb
      obtain rfl : l = l' := by rw [hln] at hl'; exact Option.some.inj hl'
      obtain ⟨⟨q, rfl⟩⟩ := hd
      exact right2 A0 c0 l s n gd gn go _ (C_drewN hC q) hs hn ho)
  have e1 : (next.map fun l => decide ((l.length : Int) ≠ s) || l.any fun x => decide (x < 0) || decide (n ≤ x)).any id = next.any fun l => decide ((l.length : Int) ≠ s) || l.any fun x => decide (x < 0) || decide (n ≤ x) := by rw [List.any_map]; rfl
  rw [e1, hl] at hcon
  exact hcon

set_option maxHeartbeats 1000000 in
theorem det_Right (s : Int) (A : Option Addr) (c : Nat) (next : List (List Int)) (B : Option Addr) (d : Nat) (en : List Bool) (w : World)
    (hr : Kd.C (Kd.slice 3 (Kd.int .i64)) w A next.length next) (hc : next.length ≤ c) (hr2 : Kd.C Kd.bool w B en.length en) (hc2 : en.length ≤ d) :
    Calls Try.prog 44 #[.agg #[.int .i64 s, .slice A next.length c, .slice B en.length d]] w fun e w' => e = .returned (.bool (rightB s next en)) ∧ Below w.heap.size w w' := by
  have hm : next.length ≤ 9223372036854775807 := hr.2.1
  have hm2 : en.length ≤ 9223372036854775807 := hr2.2.1
  have HR := Aside0.mk hr
  have HR2 := Aside0.mk hr2
  clear hr hr2
  by_cases h1 : s < 1
  · have b1 : decide (s < 1) = true := decide_eq_true h1
    have e : rightB s next en = false := by simp [rightB, h1]
    rw [e]
    clear e
    go_enter Try.func44, Try.ntmps44
    go_wp2_with fail
    go_ret
    exact ⟨rfl, by repeat (first | exact Below.refl _ _ | apply below_alloc | apply pw_below_drewN | apply below_drew1)⟩
  by_cases h2 : 400 < s
  · have b1 : decide (s < 1) = false := decide_eq_false h1
    have b2 : decide (400 < s) = true := decide_eq_true h2
    have e : rightB s next en = false := by simp [rightB, h2]
    rw [e]
    clear e
    go_enter Try.func44, Try.ntmps44
    go_wp2_with fail
    go_ret
    exact ⟨rfl, by repeat (first | exact Below.refl _ _ | apply below_alloc | apply pw_below_drewN | apply below_drew1)⟩
  have b1 : decide (s < 1) = false := decide_eq_false h1
  have b2 : decide (400 < s) = false := decide_eq_false h2
  by_cases h3 : next.length = 0
  · have b3 : ((next.length : Int) == 0) = true := by simp [h3]
    have e : rightB s next en = false := by simp [rightB, h3]
    rw [e]
    clear e h3
    go_enter Try.func44, Try.ntmps44
    go_wp2_with fail
    go_ret
    exact ⟨rfl, by repeat (first | exact Below.refl _ _ | apply below_alloc | apply pw_below_drewN | apply below_drew1)⟩
  have b3 : ((next.length : Int) == 0) = false := beq_eq_false_iff_ne.2 (by omega)
  by_cases h4 : 3000 < next.length
  · have b4 : decide (3000 < (next.length : Int)) = true := decide_eq_true (by omega)
    have e : rightB s next en = false := by simp [rightB, h4]
    rw [e]
    clear e
    go_enter Try.func44, Try.ntmps44
    go_wp2_with fail
    go_ret
    exact ⟨rfl, by repeat (first | exact Below.refl _ _ | apply below_alloc | apply pw_below_drewN | apply below_drew1)⟩
  have b4 : decide (3000 < (next.length : Int)) = false := decide_eq_false (by omega)
  by_cases h5 : en.length = next.length
  · have b5 : ((en.length : Int) != (next.length : Int)) = false := bne_eq_false_iff_eq.2 (by omega)
    have e : rightB s next en = !(next.any fun l => decide ((l.length : Int) ≠ s) || l.any fun x => decide (x < 0) || decide ((next.length : Int) ≤ x)) := by
      unfold rightB; simp [h1, h2, h3, h4, h5]
    rw [e]
    have hcon := fun W gd gn go hr hs hn ho => odd61 A c next s (next.length : Int) gd gn go W hr hs hn ho
    generalize (next.any fun l => decide ((l.length : Int) ≠ s) || l.any fun x => decide (x < 0) || decide ((next.length : Int) ≤ x)) = r at *
    have HCON := Aside0.mk hcon
    clear e h5 h1 h2 h3 h4 hcon
    go_enter Try.func44, Try.ntmps44
    go_wp2_with fail
    refine (HCON.out _ w.heap.size (w.heap.size + 1) (w.heap.size + 1 + 1) ?_ ?_ ?_ ?_).mono ?_
    · exact Kd.C_below HR.out (by repeat (first | exact Below.refl _ _ | apply below_alloc | apply pw_below_drewN | apply below_drew1))
    · go_simp
    · go_simp
    · go_simp
    · rintro e w' ⟨rfl, ⟨q', rfl⟩⟩
      go_wp2_with fail
      go_ret
      exact ⟨rfl, by repeat (first | exact Below.refl _ _ | apply below_alloc | apply pw_below_drewN | apply below_drew1)⟩
  · have b5 : ((en.length : Int) != (next.length : Int)) = true := bne_iff_ne.2 (by omega)
    have e : rightB s next en = false := by simp [rightB, h5]
    rw [e]
    clear e h5
    go_enter Try.func44, Try.ntmps44
    go_wp2_with fail
    go_ret
    exact ⟨rfl, by repeat (first | exact Below.refl _ _ | apply below_alloc | apply pw_below_drewN | apply below_drew1)⟩
end Go.Proofs.Ytpedenbcfbflbaa.X
namespace Go.Proofs.Ytpedenbcfbflbaa.X
open Go.RowKit Go.Proofs.YtpedenbcfbflbaaW.PrintWords Go.Proofs.YtpedenbcfbflbaaW.PrintLast Go.Proofs.YtpedenbcfbflbaaW.PrintMore Go.Maps
set_option linter.unusedVariables false

theorem laidOut : laidOutB Try.prog = true := by kernel_rfl
theorem tsize : ∃ m, Try.prog.types.size = m + 1 := ⟨Try.prog.types.size - 1, by kernel_rfl⟩
theorem law82 : Keyed Try.prog 82 := Keyed.of_law (deep_law_laid laidOut (m := 5) (by omega) (of_decide_eq_true (by kernel_rfl)) (by kernel_rfl) (by kernel_rfl))
theorem law55 : Keyed Try.prog 55 := Keyed.of_law (deep_law_laid laidOut (m := 5) (by omega) (of_decide_eq_true (by kernel_rfl)) (by kernel_rfl) (by kernel_rfl))
theorem key82 {a b : Int} (wa : (Lit.int .i64 a).wf = true) (wb : (Lit.int .i64 b).wf = true) : ∃ kl, keyOf Try.prog 82 (.agg #[.int .i64 a, .int .i64 b]) = some kl := by
  have h1 : Try.prog.keyType 82 = true := by kernel_rfl
  have h2 : ∀ a b : Int, Value.formed Try.prog 82 (.agg #[.int .i64 a, .int .i64 b]) = true := fun a b => by kernel_rfl
  obtain ⟨m, hm⟩ := tsize
  have hc : Try.prog.cellsOf 82 = 2 := by kernel_rfl
  have hc3 : Try.prog.cellsOf 3 = 1 := by kernel_rfl
  refine ⟨.string (keyBytes [.int .i64 a, .int .i64 b]), ?_⟩
  unfold keyOf
  simp only [Try.underlying82, h1, h2, Bool.and_self, if_true]
  rw [hm]
  unfold Program.keyLits
  simp only [Try.underlying82, Value.cells]
  rw [if_pos (by rw [hc]; rfl), show List.range 2 = [0, 1] from rfl, List.mapM_cons, List.mapM_cons, List.mapM_nil]
  simp [hc3, Program.keyLits, Try.underlying3, wa, wb]
theorem key55 {a b : Int} (wa : (Lit.int .i64 a).wf = true) (wb : (Lit.int .i64 b).wf = true) : ∃ kl, keyOf Try.prog 55 (.agg #[.int .i64 a, .int .i64 b]) = some kl := by
  have h1 : Try.prog.keyType 55 = true := by kernel_rfl
  have h2 : ∀ a b : Int, Value.formed Try.prog 55 (.agg #[.int .i64 a, .int .i64 b]) = true := fun a b => by kernel_rfl
  obtain ⟨m, hm⟩ := tsize
  have hc : Try.prog.cellsOf 55 = 2 := by kernel_rfl
  have hc3 : Try.prog.cellsOf 3 = 1 := by kernel_rfl
  refine ⟨.string (keyBytes [.int .i64 a, .int .i64 b]), ?_⟩
  unfold keyOf
  simp only [Try.underlying55, h1, h2, Bool.and_self, if_true]
  rw [hm]
  unfold Program.keyLits
  simp only [Try.underlying55, Value.cells]
  rw [if_pos ⟨by rw [hc]; rfl, by kernel_rfl⟩, List.mapM_cons, List.mapM_cons, List.mapM_nil]
  simp [hc3, Program.keyLits, Try.underlying3, wa, wb]
theorem wf_of {x : Int} (h0 : 0 ≤ x) (h1 : x ≤ 9223372036854775807) : (Lit.int .i64 x).wf = true := WalkArith.wf_i64 (by omega)

end Go.Proofs.Ytpedenbcfbflbaa.X
namespace Go.Proofs.Ytpedenbcfbflbaa.X
open Go.RowKit Go.Proofs.YtpedenbcfbflbaaW.PrintWords Go.Proofs.YtpedenbcfbflbaaW.PrintLast Go.Proofs.YtpedenbcfbflbaaW.PrintMore Go.Maps Num
set_option linter.unusedVariables false

/-- What a map of numbers, got as they were met, holds. -/
def Known {σ : Type} [DecidableEq σ] (P : Program) (K : TypeId) (enc : σ → Value) (l : List σ) (D : DataW Unit) : Prop :=
  IsMap D ∧ ∀ x kl, keyOf P K (enc x) = some kl → has D kl = decide (x ∈ l) ∧ (x ∈ l → ∀ z, D.atKey kl z = .lit (.int .i64 (idx l x)))

section
variable {σ : Type} [DecidableEq σ] {P : Program} {K T E : TypeId} {enc : σ → Value} {l : List σ} {D : DataW Unit} {w : World} {b n : Nat}

theorem Known.nil : Known P K enc ([] : List σ) (.map []) := ⟨isMap_empty, fun x kl _ => ⟨by simp [has], fun h => by simp at h⟩⟩

theorem Known.put (hK : Keyed P K) (hinj : ∀ x y, enc x = enc y → x = y) (h : Known P K enc l D) {x : σ} {kl : Lit} (hx : keyOf P K (enc x) = some kl) (hn : x ∉ l) :
    Known P K enc (l ++ [x]) (D.put kl (.lit (.int .i64 l.length))) := by
  refine ⟨h.1.put _ _, fun y kl' hy => ?_⟩
  by_cases e : y = x
  · subst e
    obtain rfl : kl = kl' := by rw [hx] at hy; exact Option.some.inj hy
    refine ⟨by rw [has_put_same h.1 (hK.key hx)]; simp, fun _ z => ?_⟩
    rw [atKey_put_same h.1 (hK.key hx), idx_append_new hn]
  · have hne : kl' ≠ kl := fun e' => e (hinj _ _ (hK.inj (e' ▸ hy) hx))
    obtain ⟨h1, h2⟩ := h.2 y kl' hy
    refine ⟨by rw [has_put_other hne, h1]; simp [e], fun hm z => ?_⟩
    have hm' : y ∈ l := by simpa [e] using hm
    rw [atKey_put_other hne, h2 hm', idx_append_left hm']

theorem Known.look (hK : Keyed P K) (ht : P.underlying T = some (.map K E)) (he : P.underlying E = some (.int .i64)) (hz : (zeroValue E).run P w = .ok (.int .i64 0) w)
    (ho : w.ownsMap P K (plainElem P E) b n D) (h : Known P K enc l D) {x : σ} {kl : Lit} (hx : keyOf P K (enc x) = some kl) :
    ∃ c : Int, (Instr.lookup T (.map (some b)) (enc x) true).run P w = .ok (.tuple #[.int .i64 c, .bool (decide (x ∈ l))]) w ∧ (x ∈ l → c = idx l x) := by
  obtain ⟨v, ps, hrun, hv⟩ := ho.look_ok hK ht hz (plainElem_int he (by decide)) hx
  obtain ⟨h1, h2⟩ := h.2 x kl hx
  obtain ⟨c, rfl, hc, _⟩ := plainElem_int_inv he hv
  refine ⟨c, by rw [h1] at hrun; exact hrun, fun hm => ?_⟩
  rw [h2 hm] at hc
  simp only [Prod.mk.injEq, DataW.lit.injEq, Lit.int.injEq, true_and] at hc
  exact hc.1.symm
end

/-- What has been changed: new blocks, and those of S. -/
structure Chg (S : Nat → Prop) (w w' : World) : Prop where
  os : w'.os = w.os
  tape : w'.tape = w.tape
  output : w'.output = w.output
  size : w.heap.size ≤ w'.heap.size
  block : ∀ i, i < w.heap.size → ¬ S i → w'.heap[i]? = w.heap[i]?
section
variable {S S' : Nat → Prop} {w w1 w2 : World}
theorem Chg.refl (S : Nat → Prop) (w : World) : Chg S w w := ⟨rfl, rfl, rfl, Nat.le_refl _, fun _ _ _ => rfl⟩
theorem Chg.trans (h : Chg S w w1) (k : Chg S' w1 w2) (hs : ∀ i, i < w.heap.size → S' i → S i) : Chg S w w2 :=
  ⟨k.os.trans h.os, k.tape.trans h.tape, k.output.trans h.output, Nat.le_trans h.size k.size, fun i hi hn => (k.block i (Nat.lt_of_lt_of_le hi h.size) (fun hs' => hn (hs i hi hs'))).trans (h.block i hi hn)⟩
theorem Chg.grown (h : Chg S w w1) {row : Option Nat} (hg : w1.grownBy w2 row) (hs : ∀ i, i < w.heap.size → row = some i → S i) : Chg S w w2 :=
  h.trans (S' := fun i => row = some i) ⟨hg.os, hg.tape, hg.output, hg.size, fun i hi hn => hg.block i hi (fun e => hn e.symm)⟩ hs
theorem Chg.alloc (h : Chg S w w1) (o : Obj) : Chg S w (w1.alloc o) :=
  h.trans (S' := fun _ => False) ⟨rfl, rfl, rfl, by simp, fun i hi _ => Below.heap_alloc _ _ _ hi⟩ (fun _ _ h => h.elim)
theorem Chg.drewN (h : Chg S w w1) (n : Nat) : Chg S w (w1.drewN n) := ⟨h.os, h.tape, h.output, h.size, h.block⟩
theorem Chg.drew (h : Chg S w w1) : Chg S w w1.drew := ⟨h.os, h.tape, h.output, h.size, h.block⟩
theorem Chg.setCell (h : Chg S w w1) {p : Addr} (hp : p.block < w.heap.size → S p.block) (u : Value) : Chg S w (w1.setCell p u) :=
  h.trans (S' := fun i => i = p.block) ⟨rfl, rfl, rfl, by simp [World.setCell], fun i hi hn => Below.heap_setCell _ _ _ _ hn⟩ (fun i hi e => by subst e; exact hp hi)
theorem Chg.of_below (h : Below w.heap.size w w1) : Chg S w w1 := ⟨h.os, h.tape, h.output, h.size, fun i hi _ => h.block i hi⟩
theorem Chg.below {B : Nat} (h : Chg S w w1) (hB : B ≤ w.heap.size) (hs : ∀ i, S i → B ≤ i) : Below B w w1 :=
  ⟨h.os, h.tape, h.output, h.size, fun i hi => h.block i (by omega) (fun e => by have := hs i e; omega)⟩
theorem Chg.mono (h : Chg S w w1) (hs : ∀ i, i < w.heap.size → S i → S' i) : Chg S' w w1 := ⟨h.os, h.tape, h.output, h.size, fun i hi hn => h.block i hi (fun e => hn (hs i hi e))⟩
end
end Go.Proofs.Ytpedenbcfbflbaa.X
namespace Go.Proofs.Ytpedenbcfbflbaa.X
open Go.RowKit Go.Proofs.YtpedenbcfbflbaaW.PrintWords Go.Proofs.YtpedenbcfbflbaaW.PrintLast Go.Proofs.YtpedenbcfbflbaaW.PrintMore Go.Maps Num
set_option linter.unusedVariables false

def enc2 (x : Int × Int) : Value := .agg #[.int .i64 x.1, .int .i64 x.2]
def cells2 (l : List (Int × Int)) : List Value := l.flatMap fun x => [.int .i64 x.1, .int .i64 x.2]
theorem cells2_snoc (l : List (Int × Int)) (x : Int × Int) : cells2 (l ++ [x]) = cells2 l ++ [.int .i64 x.1, .int .i64 x.2] := by simp [cells2]
theorem cells2_length (l : List (Int × Int)) : (cells2 l).length = l.length * 2 := by
  induction l with
  | nil => rfl
  | cons x r ih => simp only [cells2, List.flatMap_cons, List.length_append, List.length_cons, List.length_nil] at *; omega
theorem enc2_inj (x y : Int × Int) (h : enc2 x = enc2 y) : x = y := by
  simp only [enc2, Value.agg.injEq] at h
  have h1 : [Value.int .i64 x.1, .int .i64 x.2] = [.int .i64 y.1, .int .i64 y.2] := by
    have := congrArg Array.toList h
    simpa using this
  simp at h1
  exact Prod.ext h1.1 h1.2

/-- A map's block is no row. -/
theorem own_map_ne {w : World} {base : Nat} {e : TypeId} {size n mb : Nat} {v : Value} {xs : List Value} {es : Array MapEntry} {clock : Nat} (h : w.ownsRow base e size v n xs) (hm : w.heap[mb]? = some (.map es clock)) : v.ownBlock = none ∨ v.ownBlock ≠ some mb := by
  cases hv : v.ownBlock with
  | none => exact .inl rfl
  | some k =>
    refine .inr fun e => ?_
    obtain ⟨cells, hc⟩ := own_typed h k hv
    injection e with e
    subst e
    rw [hm] at hc
    cases hc

theorem own_block_ne {w : World} {base : Nat} {e t : TypeId} {size n g : Nat} {v : Value} {xs : List Value} {cs : Array Value} {fr : Nat × Nat} (h : w.ownsRow base e size v n xs) (hb : w.heap[g]? = some (.cells cs t fr)) (ht : e ≠ t) : some g ≠ v.ownBlock := by
  intro e'
  obtain ⟨cells, hc⟩ := own_typed h g e'.symm
  rw [hb] at hc
  injection hc with hc
  injection hc with _ hc
  exact ht hc.symm

/-- What the new one's coming leaves (in whatever numbering: e the list's elements' type, t the block's). -/
theorem num_fin {σ : Type} [DecidableEq σ] {P : Program} {K : TypeId} {enc : σ → Value} {cells : List σ → List Value} {l : List σ} {x : σ} {kl : Lit} {D : DataW Unit} {w W W1 w2 : World} {o0 o1 : Obj} {nq base g mb gg cap e size t j : Nat} {v : Value} {cs cs' : Array Value} {R : Value → Option (DataW Unit × List MemPlace)}
    (hK : Keyed P K) (hinj : ∀ x y, enc x = enc y → x = y) (hW : W = (w.alloc o0).drewN nq) (hg1 : W.drew.grownBy W1 (some mb)) (hg2 : ((W1.alloc o1).drew).grownBy w2 v.ownBlock) (hm1 : W1.ownsMap P K R mb (l.length + 1) (D.put kl (.lit (.int .i64 l.length))))
    (b1 : W1.heap[g]? = some (.cells cs t (0, 0))) (hne : some g ≠ v.ownBlock) (hmv : v.ownBlock = none ∨ v.ownBlock ≠ some mb) (hgw : g < w.heap.size) (hmw : mb < w.heap.size) (hgm : g ≠ mb) (hk : Known P K enc l D) (hkl : keyOf P K (enc x) = some kl) (hx : x ∉ l)
    (hown : w2.ownsRow base e size (.slice (some ⟨gg, 0, none⟩) (l.length + 1) cap) (l.length + 1) (cells (l ++ [x]))) (hat : v.ownBlock = some gg ∨ gg = W1.heap.size + 1) (hcs : cs.setIfInBounds j (.slice (some ⟨gg, 0, none⟩) (l.length + 1) cap) = cs') :
    (w2.setCell ⟨g, j, none⟩ (.slice (some ⟨gg, 0, none⟩) (l.length + 1) cap)).heap[g]? = some (.cells cs' t (0, 0)) ∧
    (w2.setCell ⟨g, j, none⟩ (.slice (some ⟨gg, 0, none⟩) (l.length + 1) cap)).ownsMap P K R mb (l.length + 1) (D.put kl (.lit (.int .i64 l.length))) ∧ Known P K enc (l ++ [x]) (D.put kl (.lit (.int .i64 l.length))) ∧
    (w2.setCell ⟨g, j, none⟩ (.slice (some ⟨gg, 0, none⟩) (l.length + 1) cap)).ownsRow base e size (.slice (some ⟨gg, 0, none⟩) (l.length + 1) cap) (l.length + 1) (cells (l ++ [x])) ∧
    Chg (fun i => i = g ∨ i = mb ∨ some i = v.ownBlock) w (w2.setCell ⟨g, j, none⟩ (.slice (some ⟨gg, 0, none⟩) (l.length + 1) cap)) := by
  have hsz : W.drew.heap.size = w.heap.size + 1 := by rw [hW]; simp
  have hs1 := hg1.size
  have hb2 : w2.heap[g]? = some (.cells cs t (0, 0)) := blk_grown (blk_drew (blk_alloc b1 o1)) hg2 hne
  have hggn : g ≠ gg := by
    rintro rfl
    rcases hat with h | h
    · exact hne h.symm
    · omega
  refine ⟨blk_put hb2 j _ hcs, ?_, hk.put hK hinj hkl hx, own_setCell hown (by simp [Value.ownBlock]; exact hggn) _, ?_⟩
  · refine World.ownsMap.setCell ?_ (fun e => hgm e.symm) _
    refine (hm1.alloc o1).drew.kept hg2 ?_
    rcases hmv with h | h
    · rw [h]; simp
    · exact fun e => h e.symm
  · refine Chg.setCell (p := ⟨g, j, none⟩) ?_ (fun _ => .inl rfl) _
    refine Chg.grown (w1 := (W1.alloc o1).drew) ?_ hg2 (fun i _ e => .inr (.inr e.symm))
    refine Chg.drew (Chg.alloc ?_ o1)
    refine Chg.grown (w1 := W.drew) ?_ hg1 (fun i _ e => .inr (.inl (by injection e with e; exact e.symm)))
    rw [hW]
    exact Chg.drew (Chg.drewN ((Chg.refl _ w).alloc o0) nq)

theorem look_not {σ : Type} [DecidableEq σ] {P : Program} {K T E : TypeId} {enc : σ → Value} {l : List σ} {D : DataW Unit} {w : World} {b n : Nat} (hK : Keyed P K) (ht : P.underlying T = some (.map K E)) (he : P.underlying E = some (.int .i64)) (hz : (zeroValue E).run P w = .ok (.int .i64 0) w)
    (ho : w.ownsMap P K (plainElem P E) b n D) (h : Known P K enc l D) {x : σ} {kl : Lit} (hx : keyOf P K (enc x) = some kl) (hn : x ∉ l) :
    (Instr.lookup T (.map (some b)) (enc x) true).run P w = .ok (.tuple #[.int .i64 0, .bool false]) w := by
  obtain ⟨v, ps, hrun, hv⟩ := ho.look_ok hK ht hz (plainElem_int he (by decide)) hx
  obtain ⟨h1, h2⟩ := h.2 x kl hx
  obtain ⟨c, rfl, hc, _⟩ := plainElem_int_inv he hv
  have hno : has D kl = false := by rw [h1]; simp [hn]
  rw [atKey_of_not_has hno] at hc
  simp only [Prod.mk.injEq, DataW.lit.injEq, Lit.int.injEq, true_and] at hc
  rw [hno] at hrun
  rw [← hc.1] at hrun
  exact hrun
end Go.Proofs.Ytpedenbcfbflbaa.X
namespace Go.Proofs.Ytpedenbcfbflbaa.X
open Go.RowKit Go.Proofs.YtpedenbcfbflbaaW.PrintWords Go.Proofs.YtpedenbcfbflbaaW.PrintLast Go.Proofs.YtpedenbcfbflbaaW.PrintMore Go.Maps Num
set_option linter.unusedVariables false

theorem info82 : (Try.prog.info? 82).map (fun i => (i.zero, i.size, i.bytes)) = some (some (.agg #[.int .i64 0, .int .i64 0]), 2, 16) := by kernel_rfl
theorem zero3 (w : World) : (zeroValue 3).run Try.prog w = .ok (.int .i64 0) w := by kernel_rfl

attribute [local go_sem ↓] Go.wp_at_zero Go.wp_at_succ
set_option maxHeartbeats 1000000 in
theorem number65_known (x : Int × Int) (l : List (Int × Int)) (D : DataW Unit) (g mb base : Nat) (lv : Value) (w : World)
    (w1 : (Lit.int .i64 x.1).wf = true) (w2 : (Lit.int .i64 x.2).wf = true)
    (hb : w.heap[g]? = some (.cells #[.map (some mb), lv] 80 (0, 0))) (hm : w.ownsMap Try.prog 82 (plainElem Try.prog 3) mb l.length D) (hk : Known Try.prog 82 enc2 l D) (hx : x ∈ l) :
    Calls Try.prog 65 #[.pointer (some ⟨g, 0, none⟩), .agg #[.int .i64 x.1, .int .i64 x.2]] w fun e w' => e = .returned (.int .i64 (idx l x)) ∧ Below w.heap.size w w' := by
  obtain ⟨kl, hkl⟩ := key82 w1 w2
  obtain ⟨c, hlook, hc⟩ := Known.look (K := 82) (T := 77) (E := 3) (w := w) law82 Try.underlying77 Try.underlying3 (zero3 w) hm hk (x := x) hkl
  have hlk : ∀ (o : Obj) q, (Instr.lookup 77 (.map (some mb)) (.agg #[.int .i64 x.1, .int .i64 x.2]) true).run Try.prog ((w.alloc o).drewN q) = .ok (.tuple #[.int .i64 (idx l x), .bool true]) ((w.alloc o).drewN q) := by
    intro o q
    obtain ⟨c, hlook, hc⟩ := Known.look (K := 82) (T := 77) (E := 3) (w := (w.alloc o).drewN q) law82 Try.underlying77 Try.underlying3 (zero3 _) (hm.alloc o) hk (x := x) hkl
    rw [hc hx] at hlook
    simpa [hx, enc2] using hlook
  have hg := blk_lt hb
  have c0 : ∀ o, (w.alloc o).cell? ⟨g, 0, none⟩ = some (.map (some mb)) := fun o => (blk_cell (blk_alloc hb o) 0).trans rfl
  clear hb hm
  clear hlook hc hkl hk hx
  generalize (idx l x : Int) = r at *
  go_enter Try.func65, Try.ntmps65
  go_wp2
  go_quiet (fail)
  go_wp2
  go_ret
  exact ⟨rfl, by repeat (first | exact Below.refl _ _ | apply below_alloc | apply pw_below_drewN | apply below_drew1)⟩

set_option maxHeartbeats 2000000 in
theorem number65_new (x : Int × Int) (l : List (Int × Int)) (D : DataW Unit) (g mb base : Nat) (A : Option Addr) (cp : Nat) (w : World)
    (w1 : (Lit.int .i64 x.1).wf = true) (w2 : (Lit.int .i64 x.2).wf = true) (hbase : base ≤ w.heap.size) (hlen : l.length ≤ 100000) (hgb : base ≤ g) (hmb : base ≤ mb)
    (hb : w.heap[g]? = some (.cells #[.map (some mb), .slice A l.length cp] 80 (0, 0))) (hm : w.ownsMap Try.prog 82 (plainElem Try.prog 3) mb l.length D) (hk : Known Try.prog 82 enc2 l D) (hx : x ∉ l)
    (hl : w.ownsRow base 82 2 (.slice A l.length cp) l.length (cells2 l)) :
    Calls Try.prog 65 #[.pointer (some ⟨g, 0, none⟩), .agg #[.int .i64 x.1, .int .i64 x.2]] w fun e w' => e = .returned (.int .i64 l.length) ∧ ∃ D' A' cp', w'.heap[g]? = some (.cells #[.map (some mb), .slice A' (l.length + 1) cp'] 80 (0, 0)) ∧
      w'.ownsMap Try.prog 82 (plainElem Try.prog 3) mb (l.length + 1) D' ∧ Known Try.prog 82 enc2 (l ++ [x]) D' ∧ w'.ownsRow base 82 2 (.slice A' (l.length + 1) cp') (l.length + 1) (cells2 (l ++ [x])) ∧
      Chg (fun i => i = g ∨ i = mb ∨ some i = (.slice A l.length cp : Value).ownBlock) w w' := by
  obtain ⟨i0, hi, hz0, hz1, hz2⟩ := info_parts info82
  obtain ⟨kl, hkl⟩ := key82 w1 w2
  obtain ⟨c, hlook, hc⟩ := Known.look (K := 82) (T := 77) (E := 3) (w := w) law82 Try.underlying77 Try.underlying3 (zero3 w) hm hk (x := x) hkl
  have hlk : ∃ c : Int, ∀ (o : Obj) q, (Instr.lookup 77 (.map (some mb)) (.agg #[.int .i64 x.1, .int .i64 x.2]) true).run Try.prog ((w.alloc o).drewN q) = .ok (.tuple #[.int .i64 c, .bool false]) ((w.alloc o).drewN q) := by
    refine ⟨0, fun o q => ?_⟩
    have h := look_not (K := 82) (T := 77) (E := 3) (w := (w.alloc o).drewN q) law82 Try.underlying77 Try.underlying3 (zero3 _) (hm.alloc o) hk hkl hx
    simpa [enc2] using h
  obtain ⟨c1, hlk⟩ := hlk
  have hg := blk_lt hb
  have c0 : ∀ o, (w.alloc o).cell? ⟨g, 0, none⟩ = some (.map (some mb)) := fun o => (blk_cell (blk_alloc hb o) 0).trans rfl
  have c1 : ∀ o, (w.alloc o).cell? ⟨g, 1, none⟩ = some (.slice A l.length cp) := fun o => (blk_cell (blk_alloc hb o) 1).trans rfl
  have HB := Aside0.mk hb
  have HM := Aside0.mk hm
  have HK := Aside0.mk hk
  have HL := Aside0.mk hl
  have HX := Aside0.mk hx
  have HKL := Aside0.mk hkl
  clear hb hm hk hl hx hlook hc hkl
  go_enter Try.func65, Try.ntmps65
  go_wp2
  go_quiet (fail)
  go_wp2
  obtain ⟨W, hW⟩ : ∃ W, W = (w.alloc (.cells #[.int .i64 x.1, .int .i64 x.2] 82)).drewN nq := ⟨_, rfl⟩
  have d0 : W.cell? ⟨g, 0, none⟩ = some (.map (some mb)) := by rw [hW]; exact c0 _
  have d1 : W.cell? ⟨g, 1, none⟩ = some (.slice A l.length cp) := by rw [hW]; exact c1 _
  have e0 : W.cell? ⟨w.heap.size, 0, none⟩ = some (.int .i64 x.1) := by rw [hW]; simp
  have e1 : W.cell? ⟨w.heap.size, 1, none⟩ = some (.int .i64 x.2) := by rw [hW]; simp
  rw [← hW]
  have HW := Aside0.mk hW
  clear hW c0 c1 hlk
  refine wp_region_still_tail 6 (by kernel_rfl) (by kernel_rfl) ?_
  simp only [List.take_succ_cons, List.take_zero, List.drop_succ_cons, List.drop_zero]
  change wpStill _ _ W.drew _ _ _
  repeat still_step
  refine wpStill_nil ?_
  change wpList _ _ _ _ _ W.drew
  have hmW : W.drew.ownsMap Try.prog 82 (plainElem Try.prog 3) mb l.length D := by rw [HW.out]; exact HM.out.alloc _
  refine wpList_mapUpdate_own _ rfl _ _ _ 77 rfl 82 3 law82 Try.underlying77 _ mb l.length D rfl hmW (by unfold maxLen; omega) _ _ kl rfl rfl HKL.out _ [] (plainElem_int Try.underlying3 (wf_of (by omega) (by omega))) ?_
  intro W1 hm1 hg1
  have hsz : W.drew.heap.size = w.heap.size + 1 := by rw [HW.out]; simp
  obtain ⟨es, clock, hmb0, _⟩ := HM.out
  have hmlt := blk_lt hmb0
  have hgm : g ≠ mb := by rintro rfl; rw [HB.out] at hmb0; cases hmb0
  have b1 : W1.heap[g]? = some (.cells #[.map (some mb), .slice A l.length cp] 80 (0, 0)) := by
    rw [hg1.block g (by omega) (by simp; exact hgm), HW.out]; exact blk_alloc HB.out _
  have b2 : W1.heap[w.heap.size]? = some (.cells #[.int .i64 x.1, .int .i64 x.2] 82 (0, 0)) := by
    rw [hg1.block w.heap.size (by omega) (by simp; omega), HW.out]; exact heap_alloc_new _ _
  have hl1 : W1.ownsRow base 82 2 (.slice A l.length cp) l.length (cells2 l) := by
    refine World.ownsRow.kept ?_ hg1 ?_
    · rw [HW.out]; exact (HL.out.alloc _)
    · exact own_map_ne HL.out hmb0
  have hs1 := hg1.size
  have f1 : W1.cell? ⟨g, 1, none⟩ = some (.slice A l.length cp) := (blk_cell b1 1).trans rfl
  have f2 : W1.cell? ⟨w.heap.size, 0, none⟩ = some (.int .i64 x.1) := (blk_cell b2 0).trans rfl
  have f3 : W1.cell? ⟨w.heap.size, 1, none⟩ = some (.int .i64 x.2) := (blk_cell b2 1).trans rfl
  have f4 : W1.frozen? ⟨g, 1, none⟩ = false := blk_frozen b1 1
  have f5 : ∀ o, (W1.alloc o).frozen? ⟨g, 1, none⟩ = false := fun o => blk_frozen (blk_alloc b1 o) 1
  have f6 : ∀ o, (W1.alloc o).cell? ⟨g, 1, none⟩ = some (.slice A l.length cp) := fun o => (blk_cell (blk_alloc b1 o) 1).trans rfl
  have HNE := Aside0.mk (own_block_ne hl1 b1 (by decide))
  have HMV := Aside0.mk (own_map_ne HL.out hmb0)
  have HG1 := Aside0.mk hg1
  have HM1 := Aside0.mk hm1
  have HL1 := Aside0.mk hl1
  have B1 := Aside0.mk b1
  have B2 := Aside0.mk b2
  clear hm1 hg1 hl1 hmW hmb0 b1 b2 d0 d1 e0 e1
  go_wp2
  go_region_law
    ((refine step_append_lies _ (by rfl) _ _ _ (by rfl) base 82 i0 _ 2 16 Try.underlying78 hi hz0 hz1 hz2 rfl (by omega) (.slice A l.length cp) l.length (cells2 l) (by rfl) ((HL1.out.alloc _).drew)
        ⟨W1.heap.size, 0, none⟩ 1 1 [.int .i64 x.1, .int .i64 x.2] (by rfl) (by rfl) (World.news_of_block (cs := #[.int .i64 x.1, .int .i64 x.2]) (t := 82) (fr := (0, 0)) (heap_alloc_new W1 _)) (by simp [Value.oneCell'])
        (by omega) (by unfold maxLen; omega) (by omega) (by simp; omega) (W1.heap.size + 1) (by simp) ?_; intro gg cap w2 hown2 hgrow2 hat2 hlt2; have k1 := (hgrow2.cell_far ⟨g, 1, none⟩ (by simp; omega) HNE.out).trans (f6 _); have k2 := (hgrow2.frozen_far ⟨g, 1, none⟩ (by simp; omega) HNE.out).trans (f5 _)))
  all_goals
    have hfin := num_fin (K := 82) (x := x) (kl := kl) (cells := cells2) (j := 1) law82 enc2_inj HW.out HG1.out hgrow2 HM1.out B1.out HNE.out HMV.out hg hmlt hgm HK.out HKL.out HX.out (by rw [cells2_snoc]; exact hown2) hat2 rfl
    have HF := Aside0.mk hfin
    clear hfin hown2 hgrow2 hat2
    go_wp2
    go_ret
    exact ⟨rfl, _, _, _, HF.out⟩

/-- pairs.number: the pair's number; it comes, if it isn't there. -/
theorem number65 (x : Int × Int) (l : List (Int × Int)) (D : DataW Unit) (g mb base : Nat) (A : Option Addr) (cp : Nat) (w : World)
    (w1 : (Lit.int .i64 x.1).wf = true) (w2 : (Lit.int .i64 x.2).wf = true) (hbase : base ≤ w.heap.size) (hlen : l.length ≤ 100000) (hgb : base ≤ g) (hmb : base ≤ mb)
    (hb : w.heap[g]? = some (.cells #[.map (some mb), .slice A l.length cp] 80 (0, 0))) (hm : w.ownsMap Try.prog 82 (plainElem Try.prog 3) mb l.length D) (hk : Known Try.prog 82 enc2 l D)
    (hl : w.ownsRow base 82 2 (.slice A l.length cp) l.length (cells2 l)) :
    Calls Try.prog 65 #[.pointer (some ⟨g, 0, none⟩), .agg #[.int .i64 x.1, .int .i64 x.2]] w fun e w' => e = .returned (.int .i64 (idx l x)) ∧ ∃ D' A' cp', w'.heap[g]? = some (.cells #[.map (some mb), .slice A' (put l x).length cp'] 80 (0, 0)) ∧
      w'.ownsMap Try.prog 82 (plainElem Try.prog 3) mb (put l x).length D' ∧ Known Try.prog 82 enc2 (put l x) D' ∧ w'.ownsRow base 82 2 (.slice A' (put l x).length cp') (put l x).length (cells2 (put l x)) ∧
      Chg (fun i => i = g ∨ i = mb ∨ some i = (.slice A l.length cp : Value).ownBlock) w w' := by
  by_cases hx : x ∈ l
  · have e : put l x = l := by simp [put, hx]
    rw [e]
    refine (number65_known x l D g mb base _ w w1 w2 hb hm hk hx).mono ?_
    rintro e w' ⟨rfl, hbel⟩
    exact ⟨rfl, D, A, cp, blk_below hb hbel, hm.kept (grown_of_below hbel none) (by simp), hk, pw_own_below hl hbel, Chg.of_below hbel⟩
  · have e : put l x = l ++ [x] := by simp [put, hx]
    rw [e, idx_not hx]
    simp only [List.length_append, List.length_cons, List.length_nil, Nat.zero_add]
    exact number65_new x l D g mb base A cp w w1 w2 hbase hlen hgb hmb hb hm hk hx hl
end Go.Proofs.Ytpedenbcfbflbaa.X
namespace Go.Proofs.Ytpedenbcfbflbaa.X
open Go.RowKit Go.Proofs.YtpedenbcfbflbaaW.PrintWords Go.Proofs.YtpedenbcfbflbaaW.PrintLast Go.Proofs.YtpedenbcfbflbaaW.PrintMore Go.Maps Num
set_option linter.unusedVariables false

theorem info55 : (Try.prog.info? 55).map (fun i => (i.zero, i.size, i.bytes)) = some (some (.agg #[.int .i64 0, .int .i64 0]), 2, 16) := by kernel_rfl

attribute [local go_sem ↓] Go.wp_at_zero Go.wp_at_succ
set_option maxHeartbeats 1000000 in
theorem number45_known (x : Int × Int) (l : List (Int × Int)) (D : DataW Unit) (v0 v1 v2 v3 v4 v5 : Value) (g mb base : Nat) (lv : Value) (w : World)
    (w1 : (Lit.int .i64 x.1).wf = true) (w2 : (Lit.int .i64 x.2).wf = true)
    (hb : w.heap[g]? = some (.cells #[v0, v1, v2, v3, v4, v5, .map (some mb), lv] 52 (0, 0))) (hm : w.ownsMap Try.prog 55 (plainElem Try.prog 3) mb l.length D) (hk : Known Try.prog 55 enc2 l D) (hx : x ∈ l) :
    Calls Try.prog 45 #[.pointer (some ⟨g, 0, none⟩), .agg #[.int .i64 x.1, .int .i64 x.2]] w fun e w' => e = .returned (.int .i64 (idx l x)) ∧ Below w.heap.size w w' := by
  obtain ⟨kl, hkl⟩ := key55 w1 w2
  obtain ⟨c, hlook, hc⟩ := Known.look (K := 55) (T := 49) (E := 3) (w := w) law55 Try.underlying49 Try.underlying3 (zero3 w) hm hk (x := x) hkl
  have hlk : ∀ (o : Obj) q, (Instr.lookup 49 (.map (some mb)) (.agg #[.int .i64 x.1, .int .i64 x.2]) true).run Try.prog ((w.alloc o).drewN q) = .ok (.tuple #[.int .i64 (idx l x), .bool true]) ((w.alloc o).drewN q) := by
    intro o q
    obtain ⟨c, hlook, hc⟩ := Known.look (K := 55) (T := 49) (E := 3) (w := (w.alloc o).drewN q) law55 Try.underlying49 Try.underlying3 (zero3 _) (hm.alloc o) hk (x := x) hkl
    rw [hc hx] at hlook
    simpa [hx, enc2] using hlook
  have hg := blk_lt hb
  have c0 : ∀ o, (w.alloc o).cell? ⟨g, 6, none⟩ = some (.map (some mb)) := fun o => (blk_cell (blk_alloc hb o) 6).trans rfl
  clear hb hm
  clear hlook hc hkl hk hx
  generalize (idx l x : Int) = r at *
  go_enter Try.func45, Try.ntmps45
  go_wp2
  go_quiet (fail)
  go_wp2
  go_ret
  exact ⟨rfl, by repeat (first | exact Below.refl _ _ | apply below_alloc | apply pw_below_drewN | apply below_drew1)⟩

set_option maxHeartbeats 2000000 in
theorem number45_new (x : Int × Int) (l : List (Int × Int)) (D : DataW Unit) (v0 v1 v2 v3 v4 v5 : Value) (g mb base : Nat) (A : Option Addr) (cp : Nat) (w : World)
    (w1 : (Lit.int .i64 x.1).wf = true) (w2 : (Lit.int .i64 x.2).wf = true) (hbase : base ≤ w.heap.size) (hlen : l.length ≤ 100000) (hgb : base ≤ g) (hmb : base ≤ mb)
    (hb : w.heap[g]? = some (.cells #[v0, v1, v2, v3, v4, v5, .map (some mb), .slice A l.length cp] 52 (0, 0))) (hm : w.ownsMap Try.prog 55 (plainElem Try.prog 3) mb l.length D) (hk : Known Try.prog 55 enc2 l D) (hx : x ∉ l)
    (hl : w.ownsRow base 55 2 (.slice A l.length cp) l.length (cells2 l)) :
    Calls Try.prog 45 #[.pointer (some ⟨g, 0, none⟩), .agg #[.int .i64 x.1, .int .i64 x.2]] w fun e w' => e = .returned (.int .i64 l.length) ∧ ∃ D' A' cp', w'.heap[g]? = some (.cells #[v0, v1, v2, v3, v4, v5, .map (some mb), .slice A' (l.length + 1) cp'] 52 (0, 0)) ∧
      w'.ownsMap Try.prog 55 (plainElem Try.prog 3) mb (l.length + 1) D' ∧ Known Try.prog 55 enc2 (l ++ [x]) D' ∧ w'.ownsRow base 55 2 (.slice A' (l.length + 1) cp') (l.length + 1) (cells2 (l ++ [x])) ∧
      Chg (fun i => i = g ∨ i = mb ∨ some i = (.slice A l.length cp : Value).ownBlock) w w' ∧ (∀ k, (.slice A' (l.length + 1) cp' : Value).ownBlock = some k → (.slice A l.length cp : Value).ownBlock = some k ∨ w.heap.size ≤ k) := by
  obtain ⟨i0, hi, hz0, hz1, hz2⟩ := info_parts info55
  obtain ⟨kl, hkl⟩ := key55 w1 w2
  obtain ⟨c, hlook, hc⟩ := Known.look (K := 55) (T := 49) (E := 3) (w := w) law55 Try.underlying49 Try.underlying3 (zero3 w) hm hk (x := x) hkl
  have hlk : ∃ c : Int, ∀ (o : Obj) q, (Instr.lookup 49 (.map (some mb)) (.agg #[.int .i64 x.1, .int .i64 x.2]) true).run Try.prog ((w.alloc o).drewN q) = .ok (.tuple #[.int .i64 c, .bool false]) ((w.alloc o).drewN q) := by
    refine ⟨0, fun o q => ?_⟩
    have h := look_not (K := 55) (T := 49) (E := 3) (w := (w.alloc o).drewN q) law55 Try.underlying49 Try.underlying3 (zero3 _) (hm.alloc o) hk hkl hx
    simpa [enc2] using h
  obtain ⟨c1, hlk⟩ := hlk
  have hg := blk_lt hb
  have c0 : ∀ o, (w.alloc o).cell? ⟨g, 6, none⟩ = some (.map (some mb)) := fun o => (blk_cell (blk_alloc hb o) 6).trans rfl
  have c1 : ∀ o, (w.alloc o).cell? ⟨g, 7, none⟩ = some (.slice A l.length cp) := fun o => (blk_cell (blk_alloc hb o) 7).trans rfl
  have HB := Aside0.mk hb
  have HM := Aside0.mk hm
  have HK := Aside0.mk hk
  have HL := Aside0.mk hl
  have HX := Aside0.mk hx
  have HKL := Aside0.mk hkl
  clear hb hm hk hl hx hlook hc hkl
  go_enter Try.func45, Try.ntmps45
  go_wp2
  go_quiet (fail)
  go_wp2
  obtain ⟨W, hW⟩ : ∃ W, W = (w.alloc (.cells #[.int .i64 x.1, .int .i64 x.2] 55)).drewN nq := ⟨_, rfl⟩
  have d0 : W.cell? ⟨g, 6, none⟩ = some (.map (some mb)) := by rw [hW]; exact c0 _
  have d1 : W.cell? ⟨g, 7, none⟩ = some (.slice A l.length cp) := by rw [hW]; exact c1 _
  have e0 : W.cell? ⟨w.heap.size, 0, none⟩ = some (.int .i64 x.1) := by rw [hW]; simp
  have e1 : W.cell? ⟨w.heap.size, 1, none⟩ = some (.int .i64 x.2) := by rw [hW]; simp
  rw [← hW]
  have HW := Aside0.mk hW
  clear hW c0 c1 hlk
  refine wp_region_still_tail 6 (by kernel_rfl) (by kernel_rfl) ?_
  simp only [List.take_succ_cons, List.take_zero, List.drop_succ_cons, List.drop_zero]
  change wpStill _ _ W.drew _ _ _
  repeat still_step
  refine wpStill_nil ?_
  change wpList _ _ _ _ _ W.drew
  have hmW : W.drew.ownsMap Try.prog 55 (plainElem Try.prog 3) mb l.length D := by rw [HW.out]; exact HM.out.alloc _
  refine wpList_mapUpdate_own _ rfl _ _ _ 49 rfl 55 3 law55 Try.underlying49 _ mb l.length D rfl hmW (by unfold maxLen; omega) _ _ kl rfl rfl HKL.out _ [] (plainElem_int Try.underlying3 (wf_of (by omega) (by omega))) ?_
  intro W1 hm1 hg1
  have hsz : W.drew.heap.size = w.heap.size + 1 := by rw [HW.out]; simp
  obtain ⟨es, clock, hmb0, _⟩ := HM.out
  have hmlt := blk_lt hmb0
  have hgm : g ≠ mb := by rintro rfl; rw [HB.out] at hmb0; cases hmb0
  have b1 : W1.heap[g]? = some (.cells #[v0, v1, v2, v3, v4, v5, .map (some mb), .slice A l.length cp] 52 (0, 0)) := by
    rw [hg1.block g (by omega) (by simp; exact hgm), HW.out]; exact blk_alloc HB.out _
  have b2 : W1.heap[w.heap.size]? = some (.cells #[.int .i64 x.1, .int .i64 x.2] 55 (0, 0)) := by
    rw [hg1.block w.heap.size (by omega) (by simp; omega), HW.out]; exact heap_alloc_new _ _
  have hl1 : W1.ownsRow base 55 2 (.slice A l.length cp) l.length (cells2 l) := by
    refine World.ownsRow.kept ?_ hg1 ?_
    · rw [HW.out]; exact (HL.out.alloc _)
    · exact own_map_ne HL.out hmb0
  have hs1 := hg1.size
  have f1 : W1.cell? ⟨g, 7, none⟩ = some (.slice A l.length cp) := (blk_cell b1 7).trans rfl
  have f2 : W1.cell? ⟨w.heap.size, 0, none⟩ = some (.int .i64 x.1) := (blk_cell b2 0).trans rfl
  have f3 : W1.cell? ⟨w.heap.size, 1, none⟩ = some (.int .i64 x.2) := (blk_cell b2 1).trans rfl
  have f4 : W1.frozen? ⟨g, 7, none⟩ = false := blk_frozen b1 7
  have f5 : ∀ o, (W1.alloc o).frozen? ⟨g, 7, none⟩ = false := fun o => blk_frozen (blk_alloc b1 o) 7
  have f6 : ∀ o, (W1.alloc o).cell? ⟨g, 7, none⟩ = some (.slice A l.length cp) := fun o => (blk_cell (blk_alloc b1 o) 7).trans rfl
  have HNE := Aside0.mk (own_block_ne hl1 b1 (by decide))
  have HMV := Aside0.mk (own_map_ne HL.out hmb0)
  have HG1 := Aside0.mk hg1
  have HM1 := Aside0.mk hm1
  have HL1 := Aside0.mk hl1
  have B1 := Aside0.mk b1
  have B2 := Aside0.mk b2
  clear hm1 hg1 hl1 hmW hmb0 b1 b2 d0 d1 e0 e1
  go_wp2
  go_region_law
    ((refine step_append_lies _ (by rfl) _ _ _ (by rfl) base 55 i0 _ 2 16 Try.underlying50 hi hz0 hz1 hz2 rfl (by omega) (.slice A l.length cp) l.length (cells2 l) (by rfl) ((HL1.out.alloc _).drew)
        ⟨W1.heap.size, 0, none⟩ 1 1 [.int .i64 x.1, .int .i64 x.2] (by rfl) (by rfl) (World.news_of_block (cs := #[.int .i64 x.1, .int .i64 x.2]) (t := 55) (fr := (0, 0)) (heap_alloc_new W1 _)) (by simp [Value.oneCell'])
        (by omega) (by unfold maxLen; omega) (by omega) (by simp; omega) (W1.heap.size + 1) (by simp) ?_; intro gg cap w2 hown2 hgrow2 hat2 hlt2; have k1 := (hgrow2.cell_far ⟨g, 7, none⟩ (by simp; omega) HNE.out).trans (f6 _); have k2 := (hgrow2.frozen_far ⟨g, 7, none⟩ (by simp; omega) HNE.out).trans (f5 _)))
  all_goals
    have hfin := num_fin (K := 55) (x := x) (kl := kl) (cells := cells2) (j := 7) law55 enc2_inj HW.out HG1.out hgrow2 HM1.out B1.out HNE.out HMV.out hg hmlt hgm HK.out HKL.out HX.out (by rw [cells2_snoc]; exact hown2) hat2 rfl
    have HF := Aside0.mk hfin
    have HAT : Aside0 (∀ k, (.slice (some ⟨gg, 0, none⟩) (l.length + 1) cap : Value).ownBlock = some k → (.slice A l.length cp : Value).ownBlock = some k ∨ w.heap.size ≤ k) := ⟨fun k hk => by
      have e : gg = k := by simpa [Value.ownBlock] using hk
      subst e
      rcases hat2 with h | h
      · exact .inl h
      · exact .inr (by omega)⟩
    clear hfin hown2 hgrow2 hat2
    go_wp2
    go_ret
    exact ⟨rfl, _, _, _, HF.out.1, HF.out.2.1, HF.out.2.2.1, HF.out.2.2.2.1, HF.out.2.2.2.2, HAT.out⟩

/-- maker.number: the state's number; it comes, if it isn't there. -/
theorem number45 (x : Int × Int) (l : List (Int × Int)) (D : DataW Unit) (v0 v1 v2 v3 v4 v5 : Value) (g mb base : Nat) (A : Option Addr) (cp : Nat) (w : World)
    (w1 : (Lit.int .i64 x.1).wf = true) (w2 : (Lit.int .i64 x.2).wf = true) (hbase : base ≤ w.heap.size) (hlen : l.length ≤ 100000) (hgb : base ≤ g) (hmb : base ≤ mb)
    (hb : w.heap[g]? = some (.cells #[v0, v1, v2, v3, v4, v5, .map (some mb), .slice A l.length cp] 52 (0, 0))) (hm : w.ownsMap Try.prog 55 (plainElem Try.prog 3) mb l.length D) (hk : Known Try.prog 55 enc2 l D)
    (hl : w.ownsRow base 55 2 (.slice A l.length cp) l.length (cells2 l)) :
    Calls Try.prog 45 #[.pointer (some ⟨g, 0, none⟩), .agg #[.int .i64 x.1, .int .i64 x.2]] w fun e w' => e = .returned (.int .i64 (idx l x)) ∧ ∃ D' A' cp', w'.heap[g]? = some (.cells #[v0, v1, v2, v3, v4, v5, .map (some mb), .slice A' (put l x).length cp'] 52 (0, 0)) ∧
      w'.ownsMap Try.prog 55 (plainElem Try.prog 3) mb (put l x).length D' ∧ Known Try.prog 55 enc2 (put l x) D' ∧ w'.ownsRow base 55 2 (.slice A' (put l x).length cp') (put l x).length (cells2 (put l x)) ∧
      Chg (fun i => i = g ∨ i = mb ∨ some i = (.slice A l.length cp : Value).ownBlock) w w' ∧ (∀ k, (.slice A' ((put l x).length) cp' : Value).ownBlock = some k → (.slice A l.length cp : Value).ownBlock = some k ∨ w.heap.size ≤ k) := by
  by_cases hx : x ∈ l
  · have e : put l x = l := by simp [put, hx]
    rw [e]
    refine (number45_known x l D v0 v1 v2 v3 v4 v5 g mb base _ w w1 w2 hb hm hk hx).mono ?_
    rintro e w' ⟨rfl, hbel⟩
    exact ⟨rfl, D, A, cp, blk_below hb hbel, hm.kept (grown_of_below hbel none) (by simp), hk, pw_own_below hl hbel, Chg.of_below hbel, fun k hk => .inl hk⟩
  · have e : put l x = l ++ [x] := by simp [put, hx]
    rw [e, idx_not hx]
    simp only [List.length_append, List.length_cons, List.length_nil, Nat.zero_add]
    exact number45_new x l D v0 v1 v2 v3 v4 v5 g mb base A cp w w1 w2 hbase hlen hgb hmb hb hm hk hx hl
end Go.Proofs.Ytpedenbcfbflbaa.X
namespace Go.Proofs.Ytpedenbcfbflbaa.X
open Go.RowKit Go.Proofs.YtpedenbcfbflbaaW.PrintWords Go.Proofs.YtpedenbcfbflbaaW.PrintLast Go.Proofs.YtpedenbcfbflbaaW.PrintMore Go.Maps Num
set_option linter.unusedVariables false
set_option linter.unusedSimpArgs false

theorem info3 : (Try.prog.info? 3).map (fun i => (i.zero, i.size, i.bytes)) = some (some (.int .i64 0), 1, 8) := by kernel_rfl
theorem info4 : (Try.prog.info? 4).map (fun i => (i.zero, i.size, i.bytes)) = some (some (.bool false), 1, 1) := by kernel_rfl
theorem info33 : (Try.prog.info? 33).map (fun i => (i.zero, i.size, i.bytes)) = some (some (.slice none 0 0), 1, 24) := by kernel_rfl

/-- Of what a right automaton is. -/
theorem rightB_spec {s : Int} {next : List (List Int)} {en : List Bool} (h : rightB s next en = true) : 1 ≤ s ∧ s ≤ 400 ∧ 0 < next.length ∧ next.length ≤ 3000 ∧ en.length = next.length ∧
    ∀ r ∈ next, (r.length : Int) = s ∧ ∀ x ∈ r, 0 ≤ x ∧ x < next.length := by
  unfold rightB at h
  simp only [Bool.and_eq_true, Bool.not_eq_true', Bool.or_eq_false_iff, decide_eq_false_iff_not] at h
  obtain ⟨⟨⟨⟨⟨a, b⟩, c⟩, d⟩, e⟩, f⟩ := h
  refine ⟨by omega, by omega, by omega, by omega, by omega, fun r hr => ?_⟩
  have h1 := List.any_eq_false.1 f r hr
  simp only [Bool.or_eq_true, decide_eq_true_eq, not_or] at h1
  refine ⟨by omega, fun x hx => ?_⟩
  have h2 : ¬ (decide (x < 0) || decide ((next.length : Int) ≤ x)) = true := fun h3 => h1.2 (List.any_eq_true.2 ⟨x, hx, h3⟩)
  simp only [Bool.or_eq_true, decide_eq_true_eq, not_or] at h2
  omega

/-- Blocks of other types than these two stay. -/
structure Keeps (t1 t2 : Nat) (W W' : World) : Prop where
  size : W.heap.size ≤ W'.heap.size
  block : ∀ (k : Nat) cs q, q ≠ t1 → q ≠ t2 → W.heap[k]? = some (.cells cs q (0, 0)) → W'.heap[k]? = some (.cells cs q (0, 0))
theorem Keeps.refl (t1 t2 : Nat) (W : World) : Keeps t1 t2 W W := ⟨Nat.le_refl _, fun _ _ _ _ _ h => h⟩
theorem Keeps.trans {t1 t2 : Nat} {W W1 W2 : World} (h : Keeps t1 t2 W W1) (k : Keeps t1 t2 W1 W2) : Keeps t1 t2 W W2 := ⟨Nat.le_trans h.size k.size, fun i cs q h1 h2 hb => k.block i cs q h1 h2 (h.block i cs q h1 h2 hb)⟩
theorem Keeps.of_below {t1 t2 : Nat} {W W1 : World} (h : Below W.heap.size W W1) : Keeps t1 t2 W W1 := ⟨h.size, fun _ _ _ _ _ hb => blk_below hb h⟩
theorem R_keeps {α : Type} {d : Kd α} {e base t1 t2 : Nat} {ok : Nat → Prop} {W W1 : World} {v : Value} {xs : List α} (h : d.R e W base ok v xs) (hk : Keeps t1 t2 W W1) (h1 : ∀ q, q ∈ e :: d.E → q ≠ t1 ∧ q ≠ t2) : d.R e W1 base ok v xs :=
  Kd.R_mono (Kd.R_move (Kd.R_bound h) (fun k hk' => by
    obtain ⟨_, _, _, q, hq, cells, hc⟩ := hk'
    rw [hc, hk.block k cells q (h1 q hq).1 (h1 q hq).2 hc])) (fun _ h => h.1)
theorem S_keeps {α : Type} {d : Kd α} {e base t1 t2 : Nat} {ok : Nat → Prop} {W W1 : World} {v : Value} {xs : List α} (h : Kd.S d e W base ok v xs) (hk : Keeps t1 t2 W W1) (h1 : ∀ q, q ∈ e :: d.E → q ≠ t1 ∧ q ≠ t2) : Kd.S d e W1 base ok v xs :=
  Kd.S_mono (Kd.S_move (Kd.S_bound h) (fun k hk' => by
    obtain ⟨_, _, _, q, hq, cells, hc⟩ := hk'
    rw [hc, hk.block k cells q (h1 q hq).1 (h1 q hq).2 hc])) (fun _ h => h.1)

theorem S_appended {α : Type} {d : Kd α} {e base : Nat} {W : World} {v : Value} {xs : List α} {p : α} {cs : List Value} {ok okp : Nat → Prop} (HO : Kd.S d e W base (fun k => ok k ∧ ¬ okp k) v xs) (hp : d.M W base okp p cs) (hokp : ∀ k, okp k → ok k ∧ some k ≠ v.ownBlock) (hfresh : ∀ k, W.heap.size ≤ k → ok k) :
    ∃ inner, W.ownsRow base e d.sz v xs.length inner ∧ ∀ v1 w1, w1.ownsRow base e d.sz v1 (xs.length + 1) (inner ++ cs) → W.grownBy w1 v.ownBlock → (v1.ownBlock = v.ownBlock ∨ ∃ b, v1.ownBlock = some b ∧ W.heap.size ≤ b) → Kd.S d e w1 base ok v1 (xs ++ [p]) := by
  obtain ⟨f, hf, hR⟩ := Kd.S_tag HO xs.length okp (fun _ hk h2 => h2.2 hk)
  obtain ⟨h0, inner, hown, hrep⟩ := Kd.R_mono hR (fun _ hk => hk.1)
  refine ⟨inner, by rw [List.length_zipIdx] at hown; exact hown, fun v1 w1 h1 hg hat => ?_⟩
  have := Kd.R_appended (d := Kd.tag f d) (p := (p, xs.length)) (cs := cs) (okp := okp) h0 hrep (d.M_mono (fun k hk => ⟨hk, hf k hk⟩) hp) hokp hfresh (by rw [List.length_zipIdx]; exact h1) hg hat
  rw [← Kd.zip_snoc] at this
  exact ⟨f, this⟩
theorem R_appended' {α : Type} {d : Kd α} {e base : Nat} {W : World} {v : Value} {xs : List α} {p : α} {cs : List Value} {ok okp : Nat → Prop} (HO : d.R e W base ok v xs) (hp : d.M W base okp p cs) (hokp : ∀ k, okp k → ok k ∧ some k ≠ v.ownBlock) (hfresh : ∀ k, W.heap.size ≤ k → ok k) :
    ∃ inner, W.ownsRow base e d.sz v xs.length inner ∧ ∀ v1 w1, w1.ownsRow base e d.sz v1 (xs.length + 1) (inner ++ cs) → W.grownBy w1 v.ownBlock → (v1.ownBlock = v.ownBlock ∨ ∃ b, v1.ownBlock = some b ∧ W.heap.size ≤ b) → d.R e w1 base ok v1 (xs ++ [p]) := by
  obtain ⟨h0, inner, hown, hrep⟩ := HO
  exact ⟨inner, hown, fun v1 w1 h1 hg hat => Kd.R_appended h0 hrep hp hokp hfresh h1 hg hat⟩

/-- The three first blocks of the call's own, in whatever world. -/
structure Init3 (w : World) (ca cb co : Array Value) (W : World) : Prop where
  ha : W.heap[w.heap.size]? = some (.cells ca 25 (0, 0))
  hb : W.heap[w.heap.size + 1]? = some (.cells cb 25 (0, 0))
  ho : W.heap[w.heap.size + 1 + 1]? = some (.cells co 25 (0, 0))
  bel : Below w.heap.size w W
theorem Init3.start (w : World) (ca cb co : Array Value) : Init3 w ca cb co (((w.alloc (.cells ca 25)).alloc (.cells cb 25)).alloc (.cells co 25)) :=
  ⟨blk_alloc (blk_alloc (blk_new _ _) _) _, by
    have := blk_alloc (blk_new (w.alloc (.cells ca 25)) (.cells cb 25)) (.cells co 25)
    simpa using this, by
    have := blk_new ((w.alloc (.cells ca 25)).alloc (.cells cb 25)) (.cells co 25)
    simpa using this, below_alloc (below_alloc (below_alloc (Below.refl _ _) _) _) _⟩
section
variable {w W W' : World} {ca cb co : Array Value}
theorem Init3.a (h : Init3 w ca cb co W) (i : Nat) : W.cell? ⟨w.heap.size, i, none⟩ = ca[i]? := blk_cell h.ha i
theorem Init3.b (h : Init3 w ca cb co W) (i : Nat) : W.cell? ⟨w.heap.size + 1, i, none⟩ = cb[i]? := blk_cell h.hb i
theorem Init3.o (h : Init3 w ca cb co W) (i : Nat) : W.cell? ⟨w.heap.size + 1 + 1, i, none⟩ = co[i]? := blk_cell h.ho i
theorem Init3.below (h : Init3 w ca cb co W) (hb : Below W.heap.size W W') : Init3 w ca cb co W' :=
  ⟨blk_below h.ha hb, blk_below h.hb hb, blk_below h.ho hb, h.bel.trans (hb.mono h.bel.size)⟩
theorem Init3.keeps {t1 t2 : Nat} (h : Init3 w ca cb co W) (hk : Keeps t1 t2 W W') (h1 : 25 ≠ t1) (h2 : 25 ≠ t2) (hb : Below w.heap.size W W') : Init3 w ca cb co W' :=
  ⟨hk.block _ _ _ h1 h2 h.ha, hk.block _ _ _ h1 h2 h.hb, hk.block _ _ _ h1 h2 h.ho, h.bel.trans hb⟩
end
theorem below_put3 {w W : World} {g : Nat} (h : Below w.heap.size w W) (hg : w.heap.size ≤ g) (u0 u1 u2 : Value) : Below w.heap.size w (((W.setCell ⟨g, 0, none⟩ u0).setCell ⟨g, 1, none⟩ u1).setCell ⟨g, 2, none⟩ u2) :=
  ((h.setCell (p := ⟨g, 0, none⟩) hg u0).setCell (p := ⟨g, 1, none⟩) hg u1).setCell (p := ⟨g, 2, none⟩) hg u2
end Go.Proofs.Ytpedenbcfbflbaa.X
namespace Go.Proofs.Ytpedenbcfbflbaa.X
open Go.RowKit Go.Proofs.YtpedenbcfbflbaaW.PrintWords Go.Proofs.YtpedenbcfbflbaaW.PrintLast Go.Proofs.YtpedenbcfbflbaaW.PrintMore Go.Maps Num
set_option linter.unusedVariables false
set_option linter.unusedSimpArgs false

/-- The pairs as they stand: their block, their map, their list. -/
structure PL (w : World) (gp mb : Nat) (l : List (Int × Int)) (W : World) : Prop where
  lst : ∃ A cp, W.heap[gp]? = some (.cells #[.map (some mb), .slice A l.length cp] 80 (0, 0)) ∧ W.ownsRow w.heap.size 82 2 (.slice A l.length cp) l.length (cells2 l)
  map : ∃ D, W.ownsMap Try.prog 82 (plainElem Try.prog 3) mb l.length D ∧ Known Try.prog 82 enc2 l D
  gp_le : w.heap.size ≤ gp
  mb_le : w.heap.size ≤ mb
section
variable {w W W' : World} {gp mb : Nat} {l : List (Int × Int)}
theorem PL.below (h : PL w gp mb l W) (hb : Below W.heap.size W W') : PL w gp mb l W' := by
  obtain ⟨⟨A, cp, h1, h2⟩, ⟨D, h3, h4⟩, h5, h6⟩ := h
  exact ⟨⟨A, cp, blk_below h1 hb, pw_own_below h2 hb⟩, ⟨D, h3.kept (grown_of_below hb none) (by simp), h4⟩, h5, h6⟩
/-- What a store into a block of another type, or a row of another type, leaves. -/
theorem PL.far (h : PL w gp mb l W) {p : Addr} {cs : Array Value} {q : Nat} (hp : W.heap[p.block]? = some (.cells cs q (0, 0))) (h1 : q ≠ 80) (h2 : q ≠ 82) (u : Value) : PL w gp mb l (W.setCell p u) := by
  obtain ⟨⟨A, cp, h3, h4⟩, ⟨D, h5, h6⟩, h7, h8⟩ := h
  refine ⟨⟨A, cp, blk_far h3 (blk_ne h3 hp (fun e => h1 e.symm)) _, own_setCell h4 (own_block_ne h4 hp (fun e => h2 e.symm)) _⟩, ⟨D, h5.setCell ?_ _, h6⟩, h7, h8⟩
  obtain ⟨es, clock, hb, _⟩ := h5
  rintro rfl
  rw [hp] at hb
  cases hb
theorem PL.grown (h : PL w gp mb l W) {base e size n : Nat} {v : Value} {xs : List Value} (hv : W.ownsRow base e size v n xs) (hg : W.grownBy W' v.ownBlock) (h1 : e ≠ 80) (h2 : e ≠ 82) : PL w gp mb l W' := by
  obtain ⟨⟨A, cp, h3, h4⟩, ⟨D, h5, h6⟩, h7, h8⟩ := h
  refine ⟨⟨A, cp, blk_grown h3 hg (own_block_ne hv h3 h1), own_other h4 hg (own_type_ne h4 hv (fun e => h2 e.symm))⟩, ⟨D, h5.kept hg ?_, h6⟩, h7, h8⟩
  obtain ⟨es, clock, hb, _⟩ := h5
  rcases own_map_ne hv hb with e | e
  · rw [e]; simp
  · exact fun e' => e e'.symm

/-- The number of a pair. -/
theorem PL.number (h : PL w gp mb l W) (x : Int × Int) (w1 : (Lit.int .i64 x.1).wf = true) (w2 : (Lit.int .i64 x.2).wf = true) (hB : Below w.heap.size w W) (hlen : l.length ≤ 100000) :
    Calls Try.prog 65 #[.pointer (some ⟨gp, 0, none⟩), .agg #[.int .i64 x.1, .int .i64 x.2]] W fun e w' => e = .returned (.int .i64 (idx l x)) ∧ PL w gp mb (put l x) w' ∧ Below w.heap.size W w' ∧ Keeps 80 82 W w' := by
  obtain ⟨⟨A, cp, h3, h4⟩, ⟨D, h5, h6⟩, h7, h8⟩ := h
  refine (number65 x l D gp mb w.heap.size A cp W w1 w2 hB.size hlen h7 h8 h3 h5 h6 h4).mono ?_
  rintro e w' ⟨rfl, D', A', cp', g1, g2, g3, g4, hc⟩
  refine ⟨rfl, ⟨⟨A', cp', g1, g4⟩, ⟨D', g2, g3⟩, h7, h8⟩, hc.below hB.size ?_, ⟨hc.size, fun k cs q hq1 hq2 hk => ?_⟩⟩
  · rintro i (rfl | rfl | hi)
    · exact h7
    · exact h8
    · exact own_base h4 i hi.symm
  · rw [hc.block k (blk_lt hk) ?_]
    · exact hk
    · rintro (rfl | rfl | hi)
      · rw [h3] at hk
        injection hk with hk
        injection hk with _ hk
        exact hq1 hk.symm
      · obtain ⟨es, clock, hb, _⟩ := h5
        rw [hk] at hb
        cases hb
      · exact own_block_ne h4 hk (fun e => hq2 e.symm) hi
end
theorem PL.start {w W : World} (hB : Below w.heap.size w W) : PL w (W.heap.size + 1) W.heap.size [] ((W.alloc (.map #[] 0)).alloc (.cells #[.map (some W.heap.size), .slice none 0 0] 80)) := by
  have hs := hB.size
  refine ⟨⟨none, 0, ?_, own_nil _ _ _ _⟩, ⟨.map [], ?_, Known.nil⟩, by omega, by omega⟩
  · have := blk_new (W.alloc (.map #[] 0)) (.cells #[.map (some W.heap.size), .slice none 0 0] 80)
    simpa using this
  · exact (World.ownsMap_made W _ _ _).alloc _
/-- What is made, as it stands: its block, its rows. -/
structure PO (w : World) (gd : Nat) (s : Int) (ok : Nat → Prop) (rows : List (List Int)) (ends : List Bool) (W : World) : Prop where
  blk : ∃ nv ev, W.heap[gd]? = some (.cells #[.int .i64 s, nv, ev] 25 (0, 0)) ∧ Kd.S (Kd.slice 3 (Kd.int .i64)) 33 W w.heap.size ok nv rows ∧ Kd.R Kd.bool 4 W w.heap.size (fun _ => True) ev ends
  ge : w.heap.size + 1 + 1 < gd
section
variable {w W W' : World} {gd : Nat} {s : Int} {ok : Nat → Prop} {rows : List (List Int)} {ends : List Bool}
theorem PO.below (h : PO w gd s ok rows ends W) (hb : Below W.heap.size W W') : PO w gd s ok rows ends W' := by
  obtain ⟨⟨nv, ev, h1, h2, h3⟩, h4⟩ := h
  exact ⟨⟨nv, ev, blk_below h1 hb, Kd.S_below h2 hb, Kd.R_below h3 hb⟩, h4⟩
theorem PO.keeps {t1 t2 : Nat} (h : PO w gd s ok rows ends W) (hk : Keeps t1 t2 W W') (h1 : ∀ q, q ∈ [3, 4, 25, 33] → q ≠ t1 ∧ q ≠ t2) : PO w gd s ok rows ends W' := by
  obtain ⟨⟨nv, ev, g1, g2, g3⟩, h4⟩ := h
  refine ⟨⟨nv, ev, hk.block _ _ _ (h1 25 (by simp)).1 (h1 25 (by simp)).2 g1, S_keeps g2 hk (fun q hq => h1 q ?_), R_keeps g3 hk (fun q hq => h1 q ?_)⟩, h4⟩
  · simp [Kd.slice, Kd.int, Kd.scalar] at hq; simp; omega
  · simp [Kd.bool, Kd.scalar] at hq; simp; omega
theorem PO.mono {ok' : Nat → Prop} (h : PO w gd s ok rows ends W) (hk : ∀ k, ok k → ok' k) : PO w gd s ok' rows ends W := by
  obtain ⟨⟨nv, ev, g1, g2, g3⟩, h4⟩ := h
  exact ⟨⟨nv, ev, g1, Kd.S_mono g2 hk, g3⟩, h4⟩
theorem PO.start {w W : World} {ca cb co : Array Value} {s : Int} (hB : Init3 w ca cb co W) : PO w W.heap.size s (fun _ => True) [] [] (W.alloc (.cells #[.int .i64 s, .slice none 0 0, .slice none 0 0] 25)) :=
  ⟨⟨_, _, blk_new _ _, Kd.S_nil _ _ _ _ _, Kd.R_nil _ _ _ _ _⟩, blk_lt hB.ho⟩
end

/-- The pairs are of states. -/
def Bd (a b : Nat) (l : List (Int × Int)) : Prop := ∀ x ∈ l, 0 ≤ x.1 ∧ x.1 < a ∧ 0 ≤ x.2 ∧ x.2 < b
theorem Bd.put {a b : Nat} {l : List (Int × Int)} (h : Bd a b l) {x : Int × Int} (hx : 0 ≤ x.1 ∧ x.1 < a ∧ 0 ≤ x.2 ∧ x.2 < b) : Bd a b (put l x) := by
  intro y hy
  unfold Num.put at hy
  split at hy
  · exact h y hy
  · rcases List.mem_append.1 hy with hy | hy
    · exact h y hy
    · rw [List.mem_singleton] at hy
      rw [hy]
      exact hx
/-- A pair where it stands. -/
theorem pair_cells {W : World} {base : Nat} {A : Option Addr} {cp : Nat} {l : List (Int × Int)} (h : W.ownsRow base 82 2 (.slice A l.length cp) l.length (cells2 l)) (i : Nat) (x : Int × Int) (hx : l[i]? = some x) :
    ∃ g, A = some ⟨g, 0, none⟩ ∧ W.cell? ⟨g, i * 2, none⟩ = some (.int .i64 x.1) ∧ W.cell? ⟨g, i * 2 + 1, none⟩ = some (.int .i64 x.2) := by
  have hlt := (List.getElem?_eq_some_iff.1 hx).1
  obtain ⟨g, cap, he, _, _⟩ := h.form (by omega)
  injection he with he _ _
  subst he
  have hget : ∀ (l : List (Int × Int)) (i : Nat) (x : Int × Int), l[i]? = some x → (cells2 l)[i * 2]? = some (.int .i64 x.1) ∧ (cells2 l)[i * 2 + 1]? = some (.int .i64 x.2) := by
    intro l
    induction l with
    | nil => intro i x h; simp at h
    | cons y r ih =>
      intro i x h
      have ec : cells2 (y :: r) = .int .i64 y.1 :: .int .i64 y.2 :: cells2 r := by simp [cells2]
      cases i with
      | zero => simp at h; subst h; simp [ec]
      | succ i =>
        obtain ⟨h1, h2⟩ := ih i x (by simpa using h)
        rw [ec]
        exact ⟨by rw [show (i + 1) * 2 = i * 2 + 1 + 1 by omega]; simpa using h1, by rw [show (i + 1) * 2 + 1 = i * 2 + 1 + 1 + 1 by omega]; simpa using h2⟩
  obtain ⟨h1, h2⟩ := hget l i x hx
  have a1 := h.cells (g := g) rfl (i * 2) _ h1
  have a2 := h.cells (g := g) rfl (i * 2 + 1) _ h2
  rw [add_plain] at a1 a2
  exact ⟨g, rfl, by simpa using a1, by simpa using a2⟩
/-- A cell of an automaton that is read. -/
theorem cell_next {W : World} {A : Option Addr} {n : List (List Int)} (hr : Kd.C (Kd.slice 3 (Kd.int .i64)) W A n.length n) (i : Int) (h0 : 0 ≤ i) (h1 : i < n.length) (s : Nat) (hs : s < (n.getD i.toNat []).length) :
    ∃ ad ra rc, A = some ad ∧ W.cell? (ad.add i.toNat) = some (.slice (some ra) (n.getD i.toNat []).length rc) ∧ W.cell? (ra.add s) = some (.int .i64 ((n.getD i.toNat []).getD s 0)) := by
  obtain ⟨ad, A0, c0, e, h2, h3, h4⟩ := at_row hr i.toNat (by omega)
  obtain ⟨ra, e2, h5⟩ := Kd.at_int h4 (s : Int) (by omega) (by omega)
  subst e2
  exact ⟨ad, ra, c0, e, h2, by simpa [rd] using h5⟩
theorem cell_next' {W : World} {A : Option Addr} {n : List (List Int)} (hr : Kd.C (Kd.slice 3 (Kd.int .i64)) W A n.length n) (i : Int) (h0 : 0 ≤ i) (h1 : i < n.length) (s : Nat) (hs : s < (n.getD i.toNat []).length) :
    ∃ ad ra rc N v, A = some ad ∧ W.cell? (ad.add i.toNat) = some (.slice (some ra) N rc) ∧ W.cell? (ra.add s) = some (.int .i64 v) ∧ s < N ∧ v = (n.getD i.toNat []).getD s 0 := by
  obtain ⟨ad, ra, rc, e, h2, h3⟩ := cell_next hr i h0 h1 s hs
  exact ⟨ad, ra, rc, _, _, e, h2, h3, hs, rfl⟩
theorem PO.old {w W : World} {gd : Nat} {s : Int} {ok : Nat → Prop} {rows : List (List Int)} {ends : List Bool} (h : PO w gd s ok rows ends W) : PO w gd s (fun k => ok k ∧ k < W.heap.size) rows ends W := by
  obtain ⟨⟨nv, ev, g1, g2, g3⟩, h4⟩ := h
  exact ⟨⟨nv, ev, g1, Kd.S_mono (Kd.S_bound g2) (fun k hk => ⟨hk.1, hk.2.2.1⟩), g3⟩, h4⟩
theorem PL.drew {w W : World} {gp mb : Nat} {l : List (Int × Int)} (h : PL w gp mb l W) : PL w gp mb l W.drew := h.below (below_drew (Below.refl _ _))
theorem getD_row {n : List (List Int)} {s : Int} (h : ∀ r ∈ n, (r.length : Int) = s ∧ ∀ x ∈ r, 0 ≤ x ∧ x < n.length) (i : Int) (h0 : 0 ≤ i) (h1 : i < n.length) : ((n.getD i.toNat []).length : Int) = s ∧ ∀ j, j < (n.getD i.toNat []).length → 0 ≤ (n.getD i.toNat []).getD j 0 ∧ (n.getD i.toNat []).getD j 0 < n.length := by
  have hm : n.getD i.toNat [] ∈ n := by
    rw [List.getD_eq_getElem?_getD, List.getElem?_eq_getElem (by omega)]
    exact List.getElem_mem _
  obtain ⟨h2, h3⟩ := h _ hm
  generalize n.getD i.toNat [] = r at *
  refine ⟨h2, fun j hj => h3 _ ?_⟩
  rw [List.getD_eq_getElem?_getD, List.getElem?_eq_getElem hj]
  exact List.getElem_mem _
theorem row_block {W : World} {base ng n nc : Nat} {ok : Nat → Prop} {xs : List Int} (h : Kd.R (Kd.int .i64) 3 W base ok (.slice (some ⟨ng, 0, none⟩) n nc) xs) : (∃ cells, W.heap[ng]? = some (.cells cells 3 (0, 0))) ∧ base ≤ ng := by
  obtain ⟨_, inner, ho, _⟩ := h
  exact ⟨own_typed ho ng rfl, own_base ho ng rfl⟩
theorem PO.put {w W : World} {gd : Nat} {s : Int} {ok : Nat → Prop} {rows : List (List Int)} {ends : List Bool} (h : PO w gd s ok rows ends W) {ng : Nat} {cells : Array Value} (hb : W.heap[ng]? = some (.cells cells 3 (0, 0))) (hok : ∀ k, ok k → k ≠ ng) (j : Nat) (u : Value) : PO w gd s ok rows ends (W.setCell ⟨ng, j, none⟩ u) := by
  obtain ⟨⟨nv, ev, g1, g2, g3⟩, h4⟩ := h
  refine ⟨⟨nv, ev, blk_far g1 (blk_ne g1 hb (by decide)) u, Kd.S_move g2 (fun k hk => Below.heap_setCell W ⟨ng, j, none⟩ u k (hok k hk)), Kd.R_set g3 hb (fun q hq => ?_) j u⟩, h4⟩
  simp [Kd.bool, Kd.scalar] at hq
  omega
theorem Init3.put {w W : World} {ca cb co : Array Value} (h : Init3 w ca cb co W) {ng : Nat} {cells : Array Value} (hb : W.heap[ng]? = some (.cells cells 3 (0, 0))) (hng : w.heap.size ≤ ng) (j : Nat) (u : Value) : Init3 w ca cb co (W.setCell ⟨ng, j, none⟩ u) :=
  ⟨blk_far h.ha (blk_ne h.ha hb (by decide)) u, blk_far h.hb (blk_ne h.hb hb (by decide)) u, blk_far h.ho (blk_ne h.ho hb (by decide)) u, h.bel.setCell (p := ⟨ng, j, none⟩) hng u⟩
theorem set_mid (ks : List Int) (u : Int) (k : Nat) : (ks ++ List.replicate (k + 1) 0).set ks.length u = (ks ++ [u]) ++ List.replicate k 0 := by
  rw [List.replicate_succ]
  simp
theorem PL.len {w W : World} {gp mb : Nat} {l : List (Int × Int)} (h : PL w gp mb l W) : ∃ A cp, W.cell? ⟨gp, 1, none⟩ = some (.slice A l.length cp) := by
  obtain ⟨⟨A, cp, h1, h2⟩, _⟩ := h
  exact ⟨A, cp, (blk_cell h1 1).trans rfl⟩
theorem Keeps.of_grown {W w1 : World} {base e size n : Nat} {v : Value} {xs : List Value} (hown : W.ownsRow base e size v n xs) (hg : W.grownBy w1 v.ownBlock) : Keeps e e W w1 :=
  ⟨hg.size, fun k cs q h1 _ hk => (blk_grown hk hg (own_block_ne hown hk (fun e' => h1 e'.symm)))⟩
theorem below_of_grown {w W w1 : World} {e size n : Nat} {v : Value} {xs : List Value} (hB : Below w.heap.size w W) (hown : W.ownsRow w.heap.size e size v n xs) (hg : W.grownBy w1 v.ownBlock) : Below w.heap.size W w1 :=
  pw_below_grown (Below.refl _ _) v.ownBlock hB.size hg (fun k hk => own_base hown k hk)
theorem Init3.far {w W : World} {ca cb co : Array Value} (h : Init3 w ca cb co W) {gd : Nat} (hg : w.heap.size + 1 + 1 < gd) (j : Nat) (u : Value) : Init3 w ca cb co (W.setCell ⟨gd, j, none⟩ u) :=
  ⟨blk_far h.ha (by simp; omega) u, blk_far h.hb (by simp; omega) u, blk_far h.ho (by simp; omega) u, h.bel.setCell (p := ⟨gd, j, none⟩) (by simp; omega) u⟩
/-- An end of an automaton that is read. -/
theorem cell_end {W : World} {B : Option Addr} {e : List Bool} (hb : Kd.C Kd.bool W B e.length e) (i : Int) (h0 : 0 ≤ i) (h1 : i < e.length) : ∃ ad v, B = some ad ∧ W.cell? (ad.add i.toNat) = some (.bool v) ∧ v = e.getD i.toNat false := by
  obtain ⟨ad, e1, h2⟩ := Kd.at_bool hb i h0 h1
  exact ⟨ad, _, e1, h2, rfl⟩
theorem app_rows {W : World} {base ng n nc : Nat} {nv : Value} {rows : List (List Int)} {ks : List Int} (h : Kd.S (Kd.slice 3 (Kd.int .i64)) 33 W base (fun k => k ≠ ng) nv rows) (hx : Kd.R (Kd.int .i64) 3 W base (fun _ => True) (.slice (some ⟨ng, 0, none⟩) n nc) ks) :
    ∃ inner, W.ownsRow base 33 1 nv rows.length inner ∧ ∀ v1 w1, w1.ownsRow base 33 1 v1 (rows.length + 1) (inner ++ [.slice (some ⟨ng, 0, none⟩) n nc]) → W.grownBy w1 nv.ownBlock → (v1.ownBlock = nv.ownBlock ∨ ∃ b, v1.ownBlock = some b ∧ W.heap.size ≤ b) →
      Kd.S (Kd.slice 3 (Kd.int .i64)) 33 w1 base (fun _ => True) v1 (rows ++ [ks]) := by
  obtain ⟨⟨cells, hcell⟩, _⟩ := row_block hx
  have h1 : Kd.S (Kd.slice 3 (Kd.int .i64)) 33 W base (fun k => True ∧ ¬ k = ng) nv rows := Kd.S_mono h (fun k hk => ⟨trivial, hk⟩)
  have hown : ∃ inner, W.ownsRow base 33 1 nv rows.length inner := by
    obtain ⟨f, h0, inner, ho, _⟩ := h1
    rw [List.length_zipIdx] at ho
    exact ⟨inner, ho⟩
  obtain ⟨i0, hown⟩ := hown
  exact S_appended (ok := fun _ => True) (okp := fun k => k = ng) (p := ks) (cs := [.slice (some ⟨ng, 0, none⟩) n nc]) h1 ⟨_, rfl, Kd.R_flat (fun h => h) hx (fun k hk _ => by injection hk with hk; exact hk.symm)⟩
    (fun k hk => by subst hk; exact ⟨trivial, own_block_ne hown hcell (by decide)⟩) (fun _ _ => trivial)
theorem app_ends {W : World} {base : Nat} {ev : Value} {ends : List Bool} (q : Bool) (h : Kd.R Kd.bool 4 W base (fun _ => True) ev ends) :
    ∃ inner, W.ownsRow base 4 1 ev ends.length inner ∧ ∀ v1 w1, w1.ownsRow base 4 1 v1 (ends.length + 1) (inner ++ [.bool q]) → W.grownBy w1 ev.ownBlock → (v1.ownBlock = ev.ownBlock ∨ ∃ b, v1.ownBlock = some b ∧ W.heap.size ≤ b) →
      Kd.R Kd.bool 4 w1 base (fun _ => True) v1 (ends ++ [q]) :=
  R_appended' (okp := fun _ => False) (p := q) (cs := [.bool q]) h rfl (fun k hk => hk.elim) (fun _ _ => trivial)
theorem PO.stored {w W : World} {gd : Nat} {s : Int} {nv ev v1 v2 : Value} {rows : List (List Int)} {ends : List Bool} (hb : W.heap[gd]? = some (.cells #[.int .i64 s, nv, ev] 25 (0, 0))) (hg : w.heap.size + 1 + 1 < gd)
    (h1 : Kd.S (Kd.slice 3 (Kd.int .i64)) 33 W w.heap.size (fun _ => True) v1 rows) (h2 : Kd.R Kd.bool 4 W w.heap.size (fun _ => True) v2 ends) :
    PO w gd s (fun _ => True) rows ends ((W.setCell ⟨gd, 1, none⟩ v1).setCell ⟨gd, 2, none⟩ v2) := by
  have hb1 := blk_put hb 1 v1 rfl
  have e1 : Keeps 25 25 W (W.setCell ⟨gd, 1, none⟩ v1) := ⟨by simp, fun k cs q hq _ hk => blk_far hk (blk_ne hk hb hq) _⟩
  have e2 : Keeps 25 25 (W.setCell ⟨gd, 1, none⟩ v1) ((W.setCell ⟨gd, 1, none⟩ v1).setCell ⟨gd, 2, none⟩ v2) := ⟨by simp, fun k cs q hq _ hk => blk_far hk (blk_ne hk hb1 hq) _⟩
  have e := e1.trans e2
  exact ⟨⟨v1, v2, blk_put hb1 2 v2 rfl, S_keeps h1 e (by decide), R_keeps h2 e (by decide)⟩, hg⟩
theorem ends_snoc {α : Type} {l l2 : List (Int × Int)} {x : Int × Int} {k : Nat} (f : Int × Int → α) (h : l <+: l2) (hx : l[k]? = some x) : (l.take k).map f ++ [f x] = (l2.take (k + 1)).map f := by
  obtain ⟨t, rfl⟩ := h
  have hlt := (List.getElem?_eq_some_iff.1 hx).1
  have h2 : (l ++ t)[k]? = some x := by rw [List.getElem?_append_left hlt]; exact hx
  rw [List.take_add_one, h2, List.take_append_of_le_length (by omega)]
  simp
theorem keeps_put {W : World} {g : Nat} {cs : Array Value} (hb : W.heap[g]? = some (.cells cs 25 (0, 0))) (j : Nat) (u : Value) : Keeps 25 25 W (W.setCell ⟨g, j, none⟩ u) :=
  ⟨by simp, fun k cs q hq _ hk => blk_far hk (blk_ne hk hb hq) _⟩
theorem keeps_put3 {w W : World} {g : Nat} {c0 c1 c2 : Value} (hB : Below w.heap.size w W) (hg : w.heap.size ≤ g) (hb : W.heap[g]? = some (.cells #[c0, c1, c2] 25 (0, 0))) (u0 u1 u2 : Value) :
    Keeps 25 25 W (((W.setCell ⟨g, 0, none⟩ u0).setCell ⟨g, 1, none⟩ u1).setCell ⟨g, 2, none⟩ u2) ∧ (((W.setCell ⟨g, 0, none⟩ u0).setCell ⟨g, 1, none⟩ u1).setCell ⟨g, 2, none⟩ u2).heap[g]? = some (.cells #[u0, u1, u2] 25 (0, 0)) ∧ Below w.heap.size w (((W.setCell ⟨g, 0, none⟩ u0).setCell ⟨g, 1, none⟩ u1).setCell ⟨g, 2, none⟩ u2) := by
  have h0 := blk_put hb 0 u0 rfl
  have h1 := blk_put h0 1 u1 rfl
  have h2 := blk_put h1 2 u2 rfl
  exact ⟨(keeps_put hb 0 u0).trans ((keeps_put h0 1 u1).trans (keeps_put h1 2 u2)), h2, below_put3 hB hg u0 u1 u2⟩
theorem S_apart {W : World} {base : Nat} {nv ev : Value} {rows : List (List Int)} {ends : List Bool} (h1 : Kd.S (Kd.slice 3 (Kd.int .i64)) 33 W base (fun _ => True) nv rows) (h2 : Kd.R Kd.bool 4 W base (fun _ => True) ev ends) :
    Kd.S (Kd.slice 3 (Kd.int .i64)) 33 W base (fun k => some k ≠ ev.ownBlock) nv rows := by
  obtain ⟨_, inner, hown, _⟩ := h2
  refine Kd.S_mono (Kd.S_bound h1) (fun k hk => ?_)
  obtain ⟨_, _, _, q, hq, cells, hc⟩ := hk
  refine own_block_ne hown hc ?_
  rintro rfl
  simp [Kd.slice, Kd.int, Kd.scalar] at hq
end Go.Proofs.Ytpedenbcfbflbaa.X
/- A region that draws its order: some few first operations yield in whatever world and are taken ahead; the others of its head only read; its tail is one chain. -/
namespace Go.Proofs.Ytpedenbcfbflbaa.X
open Go
set_option linter.unusedVariables false
section
variable {P : Program} {ops : Array Oper} {md : Region.Mode} {w : World}

/-- Every operation of the head, but the k first ones, is waited for. -/
def sinkFrom (k0 : Nat) (md : Region.Mode) (ops : Array Oper) (n : Nat) : Bool :=
  (List.range n).all fun i => decide (i < k0) || (List.range (n + 1)).any fun j => decide (i < j) && Region.waitsFor md ops j i

def LowDone (k0 : Nat) (listed : Array Bool) : Prop := ∀ i, i < k0 → listed.getD i true = true

theorem LowDone.set {k0 i : Nat} {listed : Array Bool} (h : LowDone k0 listed) : LowDone k0 (listed.setIfInBounds i true) := by
  intro j hj
  by_cases hij : i = j
  · subst hij
    rcases Nat.lt_or_ge i listed.size with h' | h' <;> simp [h']
  · rw [getD_set_ne true hij]; exact h j hj

theorem tail_waits_from {k0 n : Nat} {listed : Array Bool} (hs : sinkFrom k0 md ops n = true) (hc : Region.chainB md ops n = true) (hn : n < ops.size) (inv : HeadInv md ops n listed) (low : LowDone k0 listed) :
    ∀ (d i : Nat), n - i = d → i < n → listed.getD i true = false → ∀ t, n ≤ t → t ∉ Region.ready md ops listed := by
  intro d
  induction d using Nat.strongRecOn with
  | _ d ih =>
    intro i hd hi hun t ht hr
    obtain ⟨_, ot, hot, hall⟩ := mem_ready.1 hr
    have htlt : t < ops.size := (Array.getElem?_eq_some_iff.1 hot).1
    by_cases htn : t = n
    · subst htn
      have h1 := List.all_eq_true.1 hs i (List.mem_range.2 hi)
      have hik : ¬ i < k0 := fun h => by rw [low i h] at hun; cases hun
      simp only [Bool.or_eq_true, decide_eq_true_eq, hik, false_or] at h1
      obtain ⟨j, hj, hj2⟩ := List.any_eq_true.1 h1
      simp only [Bool.and_eq_true, decide_eq_true_eq] at hj2
      obtain ⟨oj, hoj, e, he, hb, hon⟩ := Region.waitsFor_spec hj2.2
      have hjle : j ≤ t := by have := List.mem_range.1 hj; omega
      by_cases hjt : j = t
      · subst hjt
        have : oj = ot := Option.some.inj (hoj.symm.trans hot)
        subst this
        have h2 := hall e he hb
        rw [hon, getD_both hun] at h2
        cases h2
      · cases hl : listed.getD j false with
        | true =>
          have h2 := inv.closed j oj hoj hl e he hb
          rw [hon, getD_both hun] at h2
          cases h2
        | false =>
          have hjs : j < listed.size := by rw [inv.size]; omega
          exact ih (t - j) (by omega) j rfl (by omega) (getD_in hjs hl) t (Nat.le_refl _) hr
    · have h1 := List.all_eq_true.1 hc t (List.mem_range.2 htlt)
      simp only [Bool.or_eq_true, decide_eq_true_eq] at h1
      rcases h1 with h1 | h1
      · omega
      · obtain ⟨o', ho', e, he, hb, hon⟩ := Region.waitsFor_spec h1
        have : o' = ot := Option.some.inj (ho'.symm.trans hot)
        subst this
        have h2 := hall e he hb
        rw [hon, getD_both (inv.tail (t - 1) (by omega) (by omega))] at h2
        cases h2

theorem first_from {k0 n i : Nat} {oi : Oper} {v : Value} {L : Array Bool → Act → Prop} (hi : ops[i]? = some oi) (hsel : ∀ (j : Nat) (o : Oper) cs b, ops[j]? = some o → o.op ≠ .select cs b)
    (hs : sinkFrom k0 md ops n = true) (hc : Region.chainB md ops n = true) (hn : n < ops.size) (hin : i < n)
    (hdone : ∀ listed a, L listed a → ∀ j ∈ Region.ready md ops listed, n ≤ j) :
    ∀ (f : Nat) (listed : Array Bool) (a : Act), HeadInv md ops n listed → LowDone k0 listed →
      (∀ j oj, ops[j]? = some oj → j ≠ i → listed.getD j true = false → (∀ e ∈ oj.after, Region.binds md e = true → e.on ≠ i) → oi.apart ops oj = true) →
      i ∈ Region.ready md ops listed → YieldsAt P ops w oi v a →
      wpAnyL P md ops w n L f (listed.setIfInBounds i true) (a.put oi.dst v) → wpAnyL P md ops w n L (f + 1) listed a := by
  intro f
  induction f with
  | zero =>
    intro listed a inv low _ hr hy H
    have hun := (mem_ready.1 hr).1
    refine ⟨fun h => (by rw [h] at hr; cases hr), fun j hj => ?_⟩
    have hjn : j < n := by
      rcases Nat.lt_or_ge j n with h | h
      · exact h
      · exact absurd hj (tail_waits_from hs hc hn inv low _ i rfl hin hun j h)
    refine ⟨hjn, ?_⟩
    by_cases hji : j = i
    · subst hji; exact hy.stOp hi H
    · exact absurd (hdone _ _ H j (ready_mono hj hji)) (by omega)
  | succ f ih =>
    intro listed a inv low hfree hr hy H
    have hun := (mem_ready.1 hr).1
    refine ⟨fun h => (by rw [h] at hr; cases hr), fun j hj => ?_⟩
    have hjn : j < n := by
      rcases Nat.lt_or_ge j n with h | h
      · exact h
      · exact absurd hj (tail_waits_from hs hc hn inv low _ i rfl hin hun j h)
    refine ⟨hjn, ?_⟩
    by_cases hji : j = i
    · subst hji; exact hy.stOp hi H
    · have h1 := (H.2 j (ready_mono hj hji)).2
      obtain ⟨hjun, oj, hoj, hall⟩ := mem_ready.1 hj
      have hnot : ∀ e ∈ oj.after, Region.binds md e = true → e.on ≠ i := fun e he hb heq => by
        have h1 := hall e he hb
        rw [heq, getD_both hun] at h1
        cases h1
      have h2 := stOp_put hoj (hfree j oj hoj hji hjun hnot) (fun cs b => hsel i oi cs b hi) (fun cs b => hsel j oj cs b hoj) hy h1
      have hfree' : ∀ k ok, ops[k]? = some ok → k ≠ i → (listed.setIfInBounds j true).getD k true = false →
          (∀ e ∈ ok.after, Region.binds md e = true → e.on ≠ i) → oi.apart ops ok = true := fun k ok hk hki hun hno => by
        refine hfree k ok hk hki ?_ hno
        by_cases hjk : j = k
        · subst hjk; exact hjun
        · rw [getD_set_ne true hjk] at hun; exact hun
      refine stOp_mono (fun a' h3 => ih (listed.setIfInBounds j true) a' (inv.set hj hjn) low.set hfree' (ready_mono hr (Ne.symm hji)) h3.1 ?_) h2
      rw [Array.setIfInBounds_comm _ _ hji]
      exact h3.2

theorem lex_from {k0 n g : Nat} {Lq : Act → Prop} (hsel : Region.noSelect ops = true) (hs : sinkFrom k0 md ops n = true) (hc : Region.chainB md ops n = true) (hn : n < ops.size) :
    ∀ (l : List Oper) (k : Nat) (listed : Array Bool) (a : Act), (∀ j, j < l.length → l[j]? = ops[k + j]?) → k + l.length = n → HeadInv md ops n listed → LowDone k0 listed →
    Region.lexHead md ops g l.length k listed = true → wpStill P ops w Lq l a →
    wpAnyL P md ops w n (fun listed' a' => Region.seqB md ops g n listed' = true ∧ Lq a') l.length listed a
  | [], k, listed, a, _, hk, _, _, hB, h => by
    have : k = n := by simpa using hk
    subst this
    exact ⟨by simpa [Region.lexHead] using hB, h⟩
  | o :: l, k, listed, a, hl, hk, inv, low, hB, h => by
    have h0 : ops[k]? = some o := by simpa using (hl 0 (by simp)).symm
    simp only [List.length_cons, Region.lexHead, Bool.and_eq_true] at hB
    obtain ⟨⟨hr, hf⟩, hB'⟩ := hB
    have hkn : k < n := by simp only [List.length_cons] at hk; omega
    have hr' : k ∈ Region.ready md ops listed := by simpa using hr
    have hst : stOp P ops w k (wpStill P ops w Lq l) a := by unfold stOp; simp only [h0]; exact h
    obtain ⟨v, hy, hK⟩ := yieldsAt_of_stOp h0 hst
    exact first_from h0 (Region.noSelect_spec hsel) hs hc hn hkn (fun listed' a' hL => seqB_ready hL.1) l.length listed a inv low (Region.free_spec h0 hf) hr' hy
      (lex_from hsel hs hc hn l (k + 1) _ _ (fun j hj => by have := hl (j + 1) (by simp; omega); simpa [Nat.add_assoc, Nat.add_comm 1 j] using this) (by simp only [List.length_cons] at hk; omega) (inv.set hr' hkn) low.set hB' hK)

/-- What is to be looked at: kernel's work. -/
def tailFromB (md : Region.Mode) (ops : Array Oper) (k0 n : Nat) (listed : Array Bool) : Bool :=
  Region.noSelect ops && decide (n < ops.size) && sinkFrom k0 md ops n && Region.chainB md ops n && Region.lexHead md ops (ops.size - n) (n - k0) k0 listed &&
    (List.range ops.size).all fun i => listed.getD i false == decide (i < k0)

/-- The k0 first operations of the region wait for none but one another. -/
def lowClosed (md : Region.Mode) (ops : Array Oper) (k0 : Nat) : Bool :=
  (List.range k0).all fun i => match ops[i]? with | none => true | some o => o.after.all fun e => !Region.binds md e || decide (e.on < k0)

theorem still_tail_from {Q : Exit → Act → World → Prop} {a : Act} {l : List Oper} {listed : Array Bool} (k0 n fuel : Nat) (hk : k0 ≤ n) (hsz : listed.size = l.toArray.size) (hB : tailFromB md l.toArray k0 n listed = true) (hlow : lowClosed md l.toArray k0 = true)
    (hfuel : fuel = l.toArray.size - k0)
    (h : wpStill P l.toArray w (fun a' => wpList P l.toArray Q (l.drop n) a' w) ((l.drop k0).take (n - k0)) a) : wpAny P md l.toArray Q fuel listed a w := by
  subst hfuel
  simp only [tailFromB, Bool.and_eq_true, decide_eq_true_eq] at hB
  obtain ⟨⟨⟨⟨⟨hsel, hn⟩, hs⟩, hc⟩, hlex⟩, hli⟩ := hB
  have hget : ∀ i, i < l.toArray.size → listed.getD i false = decide (i < k0) := fun i hi => by
    have := List.all_eq_true.1 hli i (List.mem_range.2 hi)
    exact eq_of_beq this
  have hn' : n < l.length := by simpa using hn
  have htl : ((l.drop k0).take (n - k0)).length = n - k0 := by simp; omega
  have hdl : (l.drop n).length = l.toArray.size - n := by simp
  have low : LowDone k0 listed := fun i hi => by
    have h1 := hget i (by omega)
    rw [decide_eq_true hi] at h1
    have : i < listed.size := by omega
    simp [this] at h1 ⊢
    exact h1
  have inv0 : HeadInv md l.toArray n listed := by
    refine ⟨hsz, fun j oj hj hl e he hb => ?_, fun t ht ht' => ?_⟩
    · have hjlt : j < l.toArray.size := (Array.getElem?_eq_some_iff.1 hj).1
      rw [hget j hjlt] at hl
      have hjk := of_decide_eq_true hl
      have h1 := List.all_eq_true.1 hlow j (List.mem_range.2 hjk)
      simp only [hj] at h1
      have h2 := Array.all_eq_true'.1 h1 e he
      rw [hb] at h2
      simp at h2
      rw [hget e.on (by omega)]
      exact decide_eq_true h2
    · have h1 := hget t ht'
      rw [decide_eq_false (by omega)] at h1
      exact getD_in (by omega) h1
  have H := lex_from (md := md) (g := l.toArray.size - n) hsel hs hc hn ((l.drop k0).take (n - k0)) k0 _ a (fun j hj => by
    have hj' : j < n - k0 := by rw [htl] at hj; exact hj
    simp [hj', List.getElem?_drop]) (by rw [htl]; omega) inv0 low (by rw [htl]; exact hlex) h
  have := wpAny_of_head (Q' := Q) (g := l.toArray.size - n) (fun listed a' hL => by
    have := wpAny_of_seq (md := md) (Q' := Q) (l.drop n) n listed a' w (fun j => by simp [List.getElem?_drop]) (by rw [hdl]; exact hL.1) hL.2
    rwa [hdl] at this) _ _ _ H
  rw [htl, show n - k0 + (l.toArray.size - n) = l.toArray.size - k0 by omega] at this
  exact this
end
end Go.Proofs.Ytpedenbcfbflbaa.X
namespace Go.Proofs.Ytpedenbcfbflbaa.X
open Go.RowKit Go.Proofs.YtpedenbcfbflbaaW.PrintWords Go.Proofs.YtpedenbcfbflbaaW.PrintLast Go.Proofs.YtpedenbcfbflbaaW.PrintMore Go.Maps Num
set_option linter.unusedVariables false
set_option linter.unusedSimpArgs false

/-- What rows of rows and ends leave alone. -/
structure Stable (Pr : World → Prop) : Prop where
  below : ∀ W W', Below W.heap.size W W' → Pr W → Pr W'
  grown : ∀ (W W' : World) (base e size n : Nat) (v : Value) (xs : List Value), W.ownsRow base e size v n xs → W.grownBy W' v.ownBlock → (e = 33 ∨ e = 4) → Pr W → Pr W'

/-- Within the region that appends a row and its end: what has come up (d3: the row's box, d4: the rows behind the append, d18: the end's box). -/
structure Mid (w : World) (ca cb co : Array Value) (gd : Nat) (s : Int) (nv ev : Value) (ng n nc : Nat) (rows : List (List Int)) (ks : List Int) (ens : List Bool) (q : Bool) (Pr : World → Prop) (d3 : Option Nat) (d4 : Option Value) (d18 : Option Nat) (W : World) : Prop where
  I : Init3 w ca cb co W
  G : W.heap[gd]? = some (.cells #[.int .i64 s, nv, ev] 25 (0, 0))
  P : Pr W
  E : Kd.R Kd.bool 4 W w.heap.size (fun _ => True) ev ens
  S0 : d4 = none → Kd.S (Kd.slice 3 (Kd.int .i64)) 33 W w.heap.size (fun k => k ≠ ng) nv rows ∧ Kd.R (Kd.int .i64) 3 W w.heap.size (fun _ => True) (.slice (some ⟨ng, 0, none⟩) n nc) ks
  S1 : ∀ v, d4 = some v → Kd.S (Kd.slice 3 (Kd.int .i64)) 33 W w.heap.size (fun _ => True) v (rows ++ [ks])
  B3 : ∀ g, d3 = some g → d4 = none → W.heap[g]? = some (.cells #[.slice (some ⟨ng, 0, none⟩) n nc] 33 (0, 0))
  B18 : ∀ g, d18 = some g → W.heap[g]? = some (.cells #[.bool q] 4 (0, 0))
section
variable {w W : World} {ca cb co : Array Value} {gd : Nat} {s : Int} {nv ev : Value} {ng n nc : Nat} {rows : List (List Int)} {ks : List Int} {ens : List Bool} {q : Bool} {Pr : World → Prop} {d3 d18 : Option Nat} {d4 : Option Value}
theorem Mid.below {W' : World} (hP : Stable Pr) (h : Mid w ca cb co gd s nv ev ng n nc rows ks ens q Pr d3 d4 d18 W) (hb : Below W.heap.size W W') : Mid w ca cb co gd s nv ev ng n nc rows ks ens q Pr d3 d4 d18 W' :=
  ⟨h.I.below hb, blk_below h.G hb, hP.below _ _ hb h.P, Kd.R_below h.E hb, fun e => ⟨Kd.S_below (h.S0 e).1 hb, Kd.R_below (h.S0 e).2 hb⟩, fun v e => Kd.S_below (h.S1 v e) hb, fun g e1 e2 => blk_below (h.B3 g e1 e2) hb, fun g e => blk_below (h.B18 g e) hb⟩
theorem Mid.box3 (hP : Stable Pr) (h : Mid w ca cb co gd s nv ev ng n nc rows ks ens q Pr none d4 d18 W) : Mid w ca cb co gd s nv ev ng n nc rows ks ens q Pr (some W.heap.size) d4 d18 (W.alloc (.cells #[.slice (some ⟨ng, 0, none⟩) n nc] 33)) := by
  have h' := h.below hP (below_alloc (Below.refl _ _) (.cells #[.slice (some ⟨ng, 0, none⟩) n nc] 33))
  exact ⟨h'.I, h'.G, h'.P, h'.E, h'.S0, h'.S1, fun g e _ => (by injection e with e; subst e; exact blk_new _ _), h'.B18⟩
theorem Mid.box18 (hP : Stable Pr) (h : Mid w ca cb co gd s nv ev ng n nc rows ks ens q Pr d3 d4 none W) : Mid w ca cb co gd s nv ev ng n nc rows ks ens q Pr d3 d4 (some W.heap.size) (W.alloc (.cells #[.bool q] 4)) := by
  have h' := h.below hP (below_alloc (Below.refl _ _) (.cells #[.bool q] 4))
  exact ⟨h'.I, h'.G, h'.P, h'.E, h'.S0, h'.S1, h'.B3, fun g e => (by injection e with e; subst e; exact blk_new _ _)⟩
theorem Mid.app4 (hP : Stable Pr) (h : Mid w ca cb co gd s nv ev ng n nc rows ks ens q Pr d3 none d18 W) :
    ∃ inner, W.ownsRow w.heap.size 33 1 nv rows.length inner ∧ ∀ gg cap w1, w1.ownsRow w.heap.size 33 1 (.slice (some ⟨gg, 0, none⟩) (rows.length + 1) cap) (rows.length + 1) (inner ++ [.slice (some ⟨ng, 0, none⟩) n nc]) → W.grownBy w1 nv.ownBlock → (nv.ownBlock = some gg ∨ gg = W.heap.size) →
      Mid w ca cb co gd s nv ev ng n nc rows ks ens q Pr d3 (some (.slice (some ⟨gg, 0, none⟩) (rows.length + 1) cap)) d18 w1 := by
  obtain ⟨hs, hx⟩ := h.S0 rfl
  obtain ⟨inner, hown, fin⟩ := app_rows hs hx
  refine ⟨inner, hown, fun gg cap w1 h1 hg hat => ?_⟩
  have kp := Keeps.of_grown hown hg
  have bl := below_of_grown h.I.bel hown hg
  exact ⟨h.I.keeps kp (by decide) (by decide) bl, kp.block _ _ _ (by decide) (by decide) h.G, hP.grown _ _ _ _ _ _ _ _ hown hg (.inl rfl) h.P, R_keeps h.E kp (by decide), fun e => (by cases e),
    fun v e => (by
      injection e with e
      subst e
      exact fin _ _ h1 hg (hat.elim (fun h => .inl h.symm) (fun h => .inr ⟨_, rfl, Nat.le_of_eq h.symm⟩))),
    fun g _ e => (by cases e), fun g e => kp.block _ _ _ (by decide) (by decide) (h.B18 g e)⟩
/-- At the end of it all, ahead of the stores. -/
structure MidEnd (w : World) (ca cb co : Array Value) (gd : Nat) (s : Int) (nv ev : Value) (rows : List (List Int)) (ens : List Bool) (Pr : World → Prop) (v4 v19 : Value) (W : World) : Prop where
  I : Init3 w ca cb co W
  G : W.heap[gd]? = some (.cells #[.int .i64 s, nv, ev] 25 (0, 0))
  P : Pr W
  S : Kd.S (Kd.slice 3 (Kd.int .i64)) 33 W w.heap.size (fun _ => True) v4 rows
  E : Kd.R Kd.bool 4 W w.heap.size (fun _ => True) v19 ens
theorem Mid.app19 {v4 : Value} (hP : Stable Pr) (h : Mid w ca cb co gd s nv ev ng n nc rows ks ens q Pr d3 (some v4) d18 W) :
    ∃ inner, W.ownsRow w.heap.size 4 1 ev ens.length inner ∧ ∀ gg cap w1, w1.ownsRow w.heap.size 4 1 (.slice (some ⟨gg, 0, none⟩) (ens.length + 1) cap) (ens.length + 1) (inner ++ [.bool q]) → W.grownBy w1 ev.ownBlock → (ev.ownBlock = some gg ∨ gg = W.heap.size) →
      MidEnd w ca cb co gd s nv ev (rows ++ [ks]) (ens ++ [q]) Pr v4 (.slice (some ⟨gg, 0, none⟩) (ens.length + 1) cap) w1 := by
  obtain ⟨inner, hown, fin⟩ := app_ends q h.E
  refine ⟨inner, hown, fun gg cap w1 h1 hg hat => ?_⟩
  have kp := Keeps.of_grown hown hg
  have bl := below_of_grown h.I.bel hown hg
  exact ⟨h.I.keeps kp (by decide) (by decide) bl, kp.block _ _ _ (by decide) (by decide) h.G, hP.grown _ _ _ _ _ _ _ _ hown hg (.inr rfl) h.P, S_keeps (h.S1 _ rfl) kp (by decide),
    fin _ _ h1 hg (hat.elim (fun h => .inl h.symm) (fun h => .inr ⟨_, rfl, Nat.le_of_eq h.symm⟩))⟩
theorem Mid.cells (h : Mid w ca cb co gd s nv ev ng n nc rows ks ens q Pr d3 d4 d18 W) : W.cell? ⟨gd, 1, none⟩ = some nv ∧ W.cell? ⟨gd, 2, none⟩ = some ev := ⟨(blk_cell h.G 1).trans rfl, (blk_cell h.G 2).trans rfl⟩
theorem MidEnd.stored {v4 v19 : Value} {ens' : List Bool} {rows' : List (List Int)} (h : MidEnd w ca cb co gd s nv ev rows' ens' Pr v4 v19 W) (hg : w.heap.size + 1 + 1 < gd) :
    Init3 w ca cb co ((W.setCell ⟨gd, 1, none⟩ v4).setCell ⟨gd, 2, none⟩ v19) ∧ PO w gd s (fun _ => True) rows' ens' ((W.setCell ⟨gd, 1, none⟩ v4).setCell ⟨gd, 2, none⟩ v19) :=
  ⟨(h.I.far hg 1 v4).far hg 2 v19, PO.stored h.G hg h.S h.E⟩
end
end Go.Proofs.Ytpedenbcfbflbaa.X
