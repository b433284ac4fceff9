/- What comes in: lists of ranges, and lists of those. -/
import Derived.Test.YtippkbgeeeimjaaRows
import Derived.Test.YtippkbgeeeimjaaAx0
import Derived.Deep.Slices
import Derived.ChangeSame
import Derived.WalkKit
import Derived.ProofKit
import Derived.OpenShut
namespace Go.Proofs.Ytippkbgeeeimjaa.X
open Go.RowKit Go.ChangeShapes Go.WideShapes Go.Deep Go.Proofs.YtippkbgeeeimjaaW.PrintWords Go.Proofs.YtippkbgeeeimjaaW.PrintLast Go.Proofs.YtippkbgeeeimjaaW.PrintMore Go.Proofs.Ytippkbgeeeimjaa.A
set_option linter.unusedVariables false
set_option linter.unusedSimpArgs false
theorem C_of_cellsN {α : Type} {d : Kd α} {W : World} {a : Addr} {len : Nat} (hm : len ≤ 9223372036854775807) (h : ∀ i, i < len → ∃ cs x, cs.length = d.sz ∧ d.K W x cs ∧ ∀ j u, cs[j]? = some u → W.cell? (a.add (i * d.sz + j)) = some u) : ∃ xs : List α, xs.length = len ∧ d.C W (some a) xs.length xs := by
  have h1 : ∀ m, m ≤ len → ∃ xs : List α, xs.length = m ∧ (∀ i x, xs[i]? = some x → ∃ cs, cs.length = d.sz ∧ d.K W x cs ∧ ∀ j u, cs[j]? = some u → W.cell? (a.add (i * d.sz + j)) = some u) := by
    intro m
    induction m with
    | zero => exact fun _ => ⟨[], rfl, fun i x hx => by simp at hx⟩
    | succ m ih =>
      intro hm
      obtain ⟨xs, hl, hx⟩ := ih (by omega)
      obtain ⟨cs, x, h2, h3, h4⟩ := h m (by omega)
      refine ⟨xs ++ [x], by simp [hl], fun i y hy => ?_⟩
      by_cases hi : i < xs.length
      · rw [List.getElem?_append_left hi] at hy; exact hx i y hy
      · have : i = m := by
          have := (List.getElem?_eq_some_iff.1 hy).1
          simp at this; omega
        subst this
        rw [List.getElem?_append_right (by omega), hl, Nat.sub_self] at hy
        simp at hy
        subst hy
        exact ⟨cs, h2, h3, h4⟩
  obtain ⟨xs, hl, hx⟩ := h1 len (Nat.le_refl _)
  refine ⟨xs, hl, ⟨rfl, by omega, fun _ => ⟨a, rfl, fun j p hp => ?_⟩⟩⟩
  obtain ⟨cs, h2, h3, h4⟩ := hx j p hp
  exact ⟨cs, h2, h3, h4⟩
variable {H : Type} {enc : TypeId × Value → H} {W : World} {base : Nat} {spare : Nat → Bool} {held : Bool}
theorem rng_cells {fuel : Nat} {cs : List Value} {x : DataW H × List MemPlace} (h : DataW.trod enc Try.prog W base spare held fuel 34 cs = some x) : ∃ r : S34, cs = [.int .i64 r.f0, .int .i64 r.f1] := by
  have c3 : Try.prog.cellsOf 3 = 1 := by kernel_rfl
  have c34 : Try.prog.cellsOf 34 = 2 := by kernel_rfl
  have hu34 := Try.underlying34
  have hu3 := Try.underlying3
  generalize Try.prog = P at *
  obtain ⟨y0, y1, n, _, hl, h0, h1⟩ := trod_struct2 hu34 h
  have hl : cs.length = 2 := hl.trans c34
  match cs, hl with
  | [u, v], _ =>
    dsimp only at h0 h1
    rw [c3] at h0 h1
    obtain ⟨z0, e0, _, _⟩ := DataW.trod_int hu3 (show DataW.trod enc P W base spare held n 3 [u] = some y0 from h0)
    obtain ⟨z1, e1, _, _⟩ := DataW.trod_int hu3 (show DataW.trod enc P W base spare held n 3 [v] = some y1 from h1)
    injection e0 with e0
    injection e1 with e1
    exact ⟨⟨z0, z1⟩, by rw [e0, e1]⟩
theorem add_add (a : Addr) (i j : Nat) : (a.add i).add j = a.add (i + j) := by
  by_cases hi : i = 0 <;> by_cases hj : j = 0 <;> simp [Addr.add, hi, hj, Nat.add_assoc]
theorem rng_of {fuel : Nat} {a : Option Addr} {len cap : Nat} {d : DataW H × List MemPlace} (hf : DataW.trod enc Try.prog W base spare held fuel 22 [.slice a len cap] = some d) :
    ∃ l : List S34, len = l.length ∧ l.length ≤ cap ∧ Kd.C k34 W a l.length l := by
  rcases open_slice Try.underlying22 hf with ⟨hcs, _⟩ | ⟨a', len', cap', m, n, D, Pl, hcs, hb, hl, hm, hmm, hx, hi⟩
  · injection hcs with hcs
    injection hcs with e1 e2 e3
    subst e1 e2 e3
    exact ⟨[], rfl, Nat.le_refl _, Kd.C_nil _ _⟩
  · injection hcs with hcs
    injection hcs with e1 e2 e3
    subst e1 e2 e3
    have hlm : len ≤ m := by rw [hmm]; split <;> omega
    obtain ⟨xs, hx1, hx2⟩ := C_of_cellsN (d := k34) (W := W) (a := a') (len := len) (by unfold maxLen at hm; omega) (fun i hil => by
      obtain ⟨cs', h1, h2⟩ := hi i (by omega)
      rw [show Try.prog.cellsOf 34 = 2 by kernel_rfl] at h1
      obtain ⟨_, h3, h4⟩ := World.cells?_some h1
      obtain ⟨r, rfl⟩ := rng_cells h2
      refine ⟨_, r, rfl, k34_mk W r, fun j u hu => ?_⟩
      have hj : j < 2 := (List.getElem?_eq_some_iff.1 hu).1
      have := h4 j hj
      rw [add_add] at this
      exact this.trans hu)
    exact ⟨xs, hx1.symm, by omega, hx2⟩
set_option maxRecDepth 1000000 in
theorem open_rng {r : Reach} {b0 : Nat} {v : Value} {d : DataW H} {p : List MemPlace} (hv : Value.okWide Try.prog W r b0 22 v) (h : DataW.Trod enc Try.prog W base spare held 22 v d p) :
    ∃ (A : Option Addr) (c : Nat) (l : List S34), v = .slice A l.length c ∧ l.length ≤ c ∧ Kd.C k34 W A l.length l := by
  obtain ⟨a, len, cap, rfl⟩ := okWide_slice Try.underlying22 hv
  obtain ⟨fuel, hf⟩ := h
  have hf : DataW.trod enc Try.prog W base spare held fuel 22 [.slice a len cap] = some (d, p) := by simpa [Value.cells] using hf
  obtain ⟨l, rfl, h1, h2⟩ := rng_of hf
  exact ⟨a, cap, l, rfl, h1, h2⟩
set_option maxRecDepth 1000000 in
theorem open_rngs {r : Reach} {b0 : Nat} {v : Value} {d : DataW H} {p : List MemPlace} (hv : Value.okWide Try.prog W r b0 35 v) (h : DataW.Trod enc Try.prog W base spare held 35 v d p) :
    ∃ (A : Option Addr) (c : Nat) (l : List (List S34)), v = .slice A l.length c ∧ l.length ≤ c ∧ Kd.C (Kd.slice 34 k34) W A l.length l := by
  obtain ⟨a, len, cap, rfl⟩ := okWide_slice Try.underlying35 hv
  obtain ⟨fuel, hf⟩ := h
  have hf : DataW.trod enc Try.prog W base spare held fuel 35 [.slice a len cap] = some (d, p) := by simpa [Value.cells] using hf
  rcases open_slice1 Try.underlying35 (by kernel_rfl) hf with ⟨hcs, _⟩ | ⟨a, len, cap, m, n, V, D, Pl, hcs, hb, hl, hm, hmm, hx, hi⟩
  · injection hcs with hcs
    exact ⟨none, 0, [], hcs, Nat.le_refl _, Kd.C_nil _ _⟩
  · injection hcs with hcs
    have hlm : len ≤ m := by rw [hmm]; split <;> omega
    obtain ⟨xs, hx1, hx2⟩ := C_of_cellsN (d := Kd.slice 34 k34) (W := W) (a := a) (len := len) (by unfold maxLen at hm; omega) (fun i hil => by
      obtain ⟨h1, h2⟩ := hi i (by omega)
      rcases open_slice Try.underlying22 h2 with ⟨hc, _⟩ | ⟨a', len', cap', m', n', D', Pl', hc, _⟩
      · rw [hc] at h2
        obtain ⟨l, e, h3, h4⟩ := rng_of h2
        refine ⟨_, l, rfl, (show Kd.K (Kd.slice 34 k34) W l [.slice none l.length 0] from ⟨none, 0, rfl, h3, h4⟩), fun j u hu => ?_⟩
        cases j with
        | zero => simp at hu; subst hu; rw [← e]; injection hc with hc; rw [← hc]; exact (show W.cell? (a.add (i * 1 + 0)) = _ by simpa using h1)
        | succ j => simp at hu
      · rw [hc] at h2
        obtain ⟨l, e, h3, h4⟩ := rng_of h2
        refine ⟨_, l, rfl, (show Kd.K (Kd.slice 34 k34) W l [.slice (some a') l.length cap'] from ⟨some a', cap', rfl, h3, h4⟩), fun j u hu => ?_⟩
        cases j with
        | zero => simp at hu; subst hu; rw [← e]; injection hc with hc; rw [← hc]; exact (show W.cell? (a.add (i * 1 + 0)) = _ by simpa using h1)
        | succ j => simp at hu)
    exact ⟨some a, cap, xs, by rw [hx1]; exact hcs, by omega, hx2⟩
end Go.Proofs.Ytippkbgeeeimjaa.X
