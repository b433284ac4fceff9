/- What came in is no longer than its weight allows. -/
import Derived.Test.YtpedenbcfbflbaaZA
import Derived.SizedLaws
namespace Go.Proofs.Ytpedenbcfbflbaa.X
open Go.RowKit Go.Proofs.YtpedenbcfbflbaaW.PrintWords Go.Proofs.YtpedenbcfbflbaaW.PrintLast Go.Proofs.YtpedenbcfbflbaaW.PrintMore Go.Joins Go.ChangeShapes Go.WideShapes Go.Deep
set_option linter.unusedVariables false
set_option linter.unusedSimpArgs false

variable {H : Type} {enc : TypeId × Value → H} {W : World} {base : Nat} {spare : Nat → Bool} {held : Bool}
theorem weightsAll_mem {P : Program} {e : TypeId} : ∀ {l : List (DataW H)} {d : DataW H} {k : Nat}, d ∈ l → k ∈ d.weights P e → k ∈ DataW.weightsAll P e l
  | [], _, _, h, _ => by cases h
  | x :: r, d, k, h, hk => by
    simp only [DataW.weightsAll, List.mem_append]
    rcases List.mem_cons.1 h with rfl | h
    · exact .inl hk
    · exact .inr (weightsAll_mem h hk)
theorem bytes3 : Try.prog.bytesOf 3 = 8 := by kernel_rfl
theorem bytes4 : Try.prog.bytesOf 4 = 1 := by kernel_rfl
theorem bytes33 : Try.prog.bytesOf 33 = 24 := by kernel_rfl
theorem slice_ints_sized {fuel : Nat} {v : Value} {x : DataW H × List MemPlace} (h : DataW.trod enc Try.prog W base spare held fuel 33 [v] = some x) (hw : ∀ k ∈ x.1.weights Try.prog 33, k ≤ reachBytes) : ∃ A c l, v = .slice A l.length c ∧ l.length ≤ c ∧ Kd.C (Kd.int .i64) W A l.length l ∧ l.length * 8 ≤ reachBytes := by
  rcases open_slice1 Try.underlying33 (by kernel_rfl) h with ⟨hcs, _⟩ | ⟨a, len, cap, m, n, V, D, Pl, hcs, hb, hl, hm, hmm, hx, hi⟩
  · injection hcs with hcs
    exact ⟨none, 0, [], hcs, Nat.le_refl _, Kd.C_nil _ _, by simp⟩
  · injection hcs with hcs
    have hlm : len ≤ m := by rw [hmm]; split <;> omega
    obtain ⟨xs, hx1, hx2⟩ := C_of_cells (d := Kd.int .i64) (W := W) (a := a) (len := len) rfl (by unfold maxLen at hm; omega) (fun i hil => by
      obtain ⟨h1, h2⟩ := hi i (by omega)
      obtain ⟨z, hz, _, _⟩ := DataW.trod_int Try.underlying3 h2
      injection hz with hz
      exact ⟨V i, z, h1, by rw [hz]; rfl⟩)
    have hwt := hw (((List.range len).map D).length + ((List.range (m - len)).map fun j => D (len + j)).length |> (· * Try.prog.bytesOf 3)) (by rw [hx]; simp [DataW.weights, Try.underlying33])
    simp only [List.length_map, List.length_range, bytes3] at hwt
    exact ⟨some a, cap, xs, by rw [hx1]; exact hcs, by omega, hx2, by omega⟩
theorem slice_bools_sized {fuel : Nat} {v : Value} {x : DataW H × List MemPlace} (h : DataW.trod enc Try.prog W base spare held fuel 23 [v] = some x) (hw : ∀ k ∈ x.1.weights Try.prog 23, k ≤ reachBytes) : ∃ A c l, v = .slice A l.length c ∧ l.length ≤ c ∧ Kd.C Kd.bool W A l.length l ∧ l.length ≤ reachBytes := by
  rcases open_slice1 Try.underlying23 (by kernel_rfl) h with ⟨hcs, _⟩ | ⟨a, len, cap, m, n, V, D, Pl, hcs, hb, hl, hm, hmm, hx, hi⟩
  · injection hcs with hcs
    exact ⟨none, 0, [], hcs, Nat.le_refl _, Kd.C_nil _ _, by simp⟩
  · injection hcs with hcs
    have hlm : len ≤ m := by rw [hmm]; split <;> omega
    obtain ⟨xs, hx1, hx2⟩ := C_of_cells (d := Kd.bool) (W := W) (a := a) (len := len) rfl (by unfold maxLen at hm; omega) (fun i hil => by
      obtain ⟨h1, h2⟩ := hi i (by omega)
      obtain ⟨z, hz, _⟩ := DataW.trod_bool Try.underlying4 h2
      injection hz with hz
      exact ⟨V i, z, h1, by rw [hz]; rfl⟩)
    have hwt := hw (((List.range len).map D).length + ((List.range (m - len)).map fun j => D (len + j)).length |> (· * Try.prog.bytesOf 4)) (by rw [hx]; simp [DataW.weights, Try.underlying23])
    simp only [List.length_map, List.length_range, bytes4] at hwt
    exact ⟨some a, cap, xs, by rw [hx1]; exact hcs, by omega, hx2, by omega⟩
theorem slice_rows_sized {fuel : Nat} {v : Value} {x : DataW H × List MemPlace} (h : DataW.trod enc Try.prog W base spare held fuel 22 [v] = some x) (hw : ∀ k ∈ x.1.weights Try.prog 22, k ≤ reachBytes) : ∃ A c l, v = .slice A l.length c ∧ l.length ≤ c ∧ Kd.C (Kd.slice 3 (Kd.int .i64)) W A l.length l ∧ l.length * 24 ≤ reachBytes ∧ ∀ r ∈ l, r.length * 8 ≤ reachBytes := by
  rcases open_slice1 Try.underlying22 (by kernel_rfl) h with ⟨hcs, _⟩ | ⟨a, len, cap, m, n, V, D, Pl, hcs, hb, hl, hm, hmm, hx, hi⟩
  · injection hcs with hcs
    exact ⟨none, 0, [], hcs, Nat.le_refl _, Kd.C_nil _ _, by simp, by simp⟩
  · injection hcs with hcs
    have hlm : len ≤ m := by rw [hmm]; split <;> omega
    obtain ⟨xs, hx1, hx2, hx3⟩ := C_of_cellsQ (d := Kd.slice 3 (Kd.int .i64)) (fun r => r.length * 8 ≤ reachBytes) (W := W) (a := a) (len := len) rfl (by unfold maxLen at hm; omega) (fun i hil => by
      obtain ⟨h1, h2⟩ := hi i (by omega)
      obtain ⟨A, c, l, hz, hc, hC, hs⟩ := slice_ints_sized h2 (fun k hk => hw k (by
        rw [hx]
        simp only [DataW.weights, Try.underlying22, List.mem_cons, List.mem_append]
        exact .inr (.inl (weightsAll_mem (List.mem_map.2 ⟨i, List.mem_range.2 hil, rfl⟩) hk))))
      exact ⟨V i, l, h1, ⟨A, c, by rw [hz], hc, hC⟩, hs⟩)
    have hwt := hw (((List.range len).map D).length + ((List.range (m - len)).map fun j => D (len + j)).length |> (· * Try.prog.bytesOf 33)) (by rw [hx]; simp [DataW.weights, Try.underlying22])
    simp only [List.length_map, List.length_range, bytes33] at hwt
    exact ⟨some a, cap, xs, by rw [hx1]; exact hcs, by omega, hx2, by omega, hx3⟩
/-- An automaton that came in is no longer than this. -/
def SmallD (n : List (List Int)) (e : List Bool) : Prop := n.length * 24 ≤ 140737488351232 ∧ (∀ r ∈ n, r.length * 8 ≤ 140737488351232) ∧ e.length ≤ 140737488351232
theorem open_det_sized {r : Reach} {b0 : Nat} {v : Value} {d : DataW H} {p : List MemPlace} {ts : List TypeId} {ds : List (DataW H)} {j : Nat} (hsz : (DataW.weightsEach Try.prog ts ds).all (· ≤ reachBytes) = true) (ht : ts[j]? = some 25) (hd : ds[j]? = some d) (hv : Value.okWide Try.prog W r b0 25 v) (h : DataW.Trod enc Try.prog W base spare held 25 v d p) :
    ∃ s A c n B b e, v = .agg #[.int .i64 s, .slice A n.length c, .slice B e.length b] ∧ SmallD n e ∧ Got 0 A c n B b e W := by
  obtain ⟨v0, v1, v2, y0, y1, y2, n, rfl, rfl, _, h0, h1, h2⟩ := open_agg3 Try.underlying25 (by kernel_rfl) (by kernel_rfl) hv h
  have hall : ∀ k ∈ (DataW.agg [y0.1, y1.1, y2.1]).weights Try.prog 25, k ≤ reachBytes := fun k hk => by
    have := List.all_eq_true.1 hsz _ (DataW.weights_mem_each ht hd k hk)
    simpa using this
  have hm : ∀ (i : Nat) (t : TypeId) (y : DataW H), ([3, 22, 23] : List TypeId)[i]? = some t → [y0.1, y1.1, y2.1][i]? = some y → ∀ k ∈ y.weights Try.prog t, k ≤ reachBytes := fun i t y e1 e2 k hk => hall k (by
    simp only [DataW.weights, Try.underlying25]
    exact DataW.weights_mem_each e1 e2 k hk)
  obtain ⟨s, hs, _, hw⟩ := DataW.trod_int Try.underlying3 h0
  obtain ⟨A, c, l, rfl, hc, hC, z1, z2⟩ := slice_rows_sized h1 (hm 1 22 _ rfl rfl)
  obtain ⟨B, b, e, rfl, hb, hB, z3⟩ := slice_bools_sized h2 (hm 2 23 _ rfl rfl)
  injection hs with hs
  subst hs
  have hr : reachBytes = 140737488351232 := by decide
  rw [hr] at z1 z2 z3
  exact ⟨s, A, c, l, B, b, e, rfl, ⟨z1, z2, z3⟩, hc, hC, hb, hB⟩
end Go.Proofs.Ytpedenbcfbflbaa.X
