import Derived.Test.YtpedenbcfbflbaaXLawMM
import Derived.Lib.SmallJoins
import Derived.Deep.Slices
import Derived.ChangeArms
namespace Go.Proofs.Ytpedenbcfbflbaa.X
open Go.RowKit Go.Proofs.YtpedenbcfbflbaaW.PrintWords Go.Proofs.YtpedenbcfbflbaaW.PrintLast Go.Proofs.YtpedenbcfbflbaaW.PrintMore Go.Joins Go.ChangeShapes Go.WideShapes Go.Deep
set_option linter.unusedVariables false
set_option linter.unusedSimpArgs false

theorem C_of_cells {α : Type} {d : Kd α} (hsz : d.sz = 1) {W : World} {a : Addr} {len : Nat} (hm : len ≤ 9223372036854775807) (h : ∀ i, i < len → ∃ v x, W.cell? (a.add i) = some v ∧ d.K W x [v]) : ∃ xs : List α, xs.length = len ∧ d.C W (some a) xs.length xs := by
  have h1 : ∀ m, m ≤ len → ∃ xs : List α, xs.length = m ∧ ∀ i x, xs[i]? = some x → ∃ v, W.cell? (a.add i) = some v ∧ d.K W x [v] := by
    intro m
    induction m with
    | zero => exact fun _ => ⟨[], rfl, fun i x hx => by simp at hx⟩
    | succ m ih =>
      intro hm
      obtain ⟨xs, hl, hx⟩ := ih (by omega)
      obtain ⟨v, x, h2, h3⟩ := h m (by omega)
      refine ⟨xs ++ [x], by simp [hl], fun i y hy => ?_⟩
      by_cases hi : i < xs.length
      · rw [List.getElem?_append_left hi] at hy; exact hx i y hy
      · have : i = m := by
          have := (List.getElem?_eq_some_iff.1 hy).1
          simp at this; omega
        subst this
        rw [List.getElem?_append_right (by omega), hl, Nat.sub_self] at hy
        simp at hy
        subst hy
        exact ⟨v, h2, h3⟩
  obtain ⟨xs, hl, hx⟩ := h1 len (Nat.le_refl _)
  refine ⟨xs, hl, rfl, by omega, fun _ => ⟨a, rfl, fun j p hp => ?_⟩⟩
  obtain ⟨v, h2, h3⟩ := hx j p hp
  refine ⟨[v], by rw [hsz]; rfl, h3, fun i u hu => ?_⟩
  cases i with
  | zero =>
    simp at hu
    subst hu
    rw [hsz]
    simpa using h2
  | succ i => simp at hu

variable {H : Type} {enc : TypeId × Value → H} {W : World} {base : Nat} {spare : Nat → Bool} {held : Bool}
theorem slice_ints {fuel : Nat} {v : Value} {x : DataW H × List MemPlace} (h : DataW.trod enc Try.prog W base spare held fuel 33 [v] = some x) : ∃ A c l, v = .slice A l.length c ∧ l.length ≤ c ∧ Kd.C (Kd.int .i64) W A l.length l := by
  rcases open_slice1 Try.underlying33 (by kernel_rfl) h with ⟨hcs, _⟩ | ⟨a, len, cap, m, n, V, D, Pl, hcs, hb, hl, hm, hmm, hx, hi⟩
  · injection hcs with hcs
    exact ⟨none, 0, [], hcs, Nat.le_refl _, Kd.C_nil _ _⟩
  · injection hcs with hcs
    have hlm : len ≤ m := by rw [hmm]; split <;> omega
    obtain ⟨xs, hx1, hx2⟩ := C_of_cells (d := Kd.int .i64) (W := W) (a := a) (len := len) rfl (by unfold maxLen at hm; omega) (fun i hil => by
      obtain ⟨h1, h2⟩ := hi i (by omega)
      obtain ⟨z, hz, _, _⟩ := DataW.trod_int Try.underlying3 h2
      injection hz with hz
      exact ⟨V i, z, h1, by rw [hz]; rfl⟩)
    exact ⟨some a, cap, xs, by rw [hx1]; exact hcs, by omega, hx2⟩
theorem slice_bools {fuel : Nat} {v : Value} {x : DataW H × List MemPlace} (h : DataW.trod enc Try.prog W base spare held fuel 23 [v] = some x) : ∃ A c l, v = .slice A l.length c ∧ l.length ≤ c ∧ Kd.C Kd.bool W A l.length l := by
  rcases open_slice1 Try.underlying23 (by kernel_rfl) h with ⟨hcs, _⟩ | ⟨a, len, cap, m, n, V, D, Pl, hcs, hb, hl, hm, hmm, hx, hi⟩
  · injection hcs with hcs
    exact ⟨none, 0, [], hcs, Nat.le_refl _, Kd.C_nil _ _⟩
  · injection hcs with hcs
    have hlm : len ≤ m := by rw [hmm]; split <;> omega
    obtain ⟨xs, hx1, hx2⟩ := C_of_cells (d := Kd.bool) (W := W) (a := a) (len := len) rfl (by unfold maxLen at hm; omega) (fun i hil => by
      obtain ⟨h1, h2⟩ := hi i (by omega)
      obtain ⟨z, hz, _⟩ := DataW.trod_bool Try.underlying4 h2
      injection hz with hz
      exact ⟨V i, z, h1, by rw [hz]; rfl⟩)
    exact ⟨some a, cap, xs, by rw [hx1]; exact hcs, by omega, hx2⟩
theorem slice_rows {fuel : Nat} {v : Value} {x : DataW H × List MemPlace} (h : DataW.trod enc Try.prog W base spare held fuel 22 [v] = some x) : ∃ A c l, v = .slice A l.length c ∧ l.length ≤ c ∧ Kd.C (Kd.slice 3 (Kd.int .i64)) W A l.length l := by
  rcases open_slice1 Try.underlying22 (by kernel_rfl) h with ⟨hcs, _⟩ | ⟨a, len, cap, m, n, V, D, Pl, hcs, hb, hl, hm, hmm, hx, hi⟩
  · injection hcs with hcs
    exact ⟨none, 0, [], hcs, Nat.le_refl _, Kd.C_nil _ _⟩
  · injection hcs with hcs
    have hlm : len ≤ m := by rw [hmm]; split <;> omega
    obtain ⟨xs, hx1, hx2⟩ := C_of_cells (d := Kd.slice 3 (Kd.int .i64)) (W := W) (a := a) (len := len) rfl (by unfold maxLen at hm; omega) (fun i hil => by
      obtain ⟨h1, h2⟩ := hi i (by omega)
      obtain ⟨A, c, l, hz, hc, hC⟩ := slice_ints h2
      exact ⟨V i, l, h1, A, c, by rw [hz], hc, hC⟩)
    exact ⟨some a, cap, xs, by rw [hx1]; exact hcs, by omega, hx2⟩
/-- An automaton that came in. -/
theorem open_det {r : Reach} {b0 : Nat} {v : Value} {d : DataW H} {p : List MemPlace} (hv : Value.okWide Try.prog W r b0 25 v) (h : DataW.Trod enc Try.prog W base spare held 25 v d p) :
    ∃ s A c n B b e, v = .agg #[.int .i64 s, .slice A n.length c, .slice B e.length b] ∧ (Lit.int .i64 s).wf = true ∧ Got 0 A c n B b e W := by
  obtain ⟨v0, v1, v2, y0, y1, y2, n, rfl, _, _, h0, h1, h2⟩ := open_agg3 Try.underlying25 (by kernel_rfl) (by kernel_rfl) hv h
  obtain ⟨s, hs, _, hw⟩ := DataW.trod_int Try.underlying3 h0
  obtain ⟨A, c, l, rfl, hc, hC⟩ := slice_rows h1
  obtain ⟨B, b, e, rfl, hb, hB⟩ := slice_bools h2
  injection hs with hs
  subst hs
  exact ⟨s, A, c, l, B, b, e, rfl, hw, hc, hC, hb, hB⟩
end Go.Proofs.Ytpedenbcfbflbaa.X
