/- What comes in: lists of numbers and of bytes; utf8's tables out of the row's list; a world that holds them. -/
import Derived.Test.YtfdllcakpmaifaaDoorRows
import Derived.Test.YtfdllcakpmaifaaDoorXFirst
import Derived.Lib.LaidU8T
import Derived.Deep.Slices
import Derived.WalkKit
import Derived.ProofKit
import Derived.OpenShut
import Derived.Deep.DeepHandedRow
namespace Go.Proofs.YtfdllcakpmaifaaDoor.X
open Go.RowKit Go.ChangeShapes Go.WideShapes Go.Deep Go.Shelf Go.Lib Go.Proofs.YtfdllcakpmaifaaDoorW.PrintWords Go.Proofs.YtfdllcakpmaifaaDoorW.PrintLast Go.Proofs.YtfdllcakpmaifaaDoorW.PrintMore
set_option linter.unusedVariables false
set_option linter.unusedSimpArgs false

theorem own : ownKnob Tryd.prog.godebug = none := by kernel_rfl
theorem laidOut : laidOutB Tryd.prog = true := by kernel_rfl
theorem C_of_cellsQ {α : Type} {d : Kd α} (Q : α → Prop) (hsz : d.sz = 1) {W : World} {a : Addr} {len : Nat} (hm : len ≤ 9223372036854775807) (h : ∀ i, i < len → ∃ v x, W.cell? (a.add i) = some v ∧ d.K W x [v] ∧ Q x) : ∃ xs : List α, xs.length = len ∧ d.C W (some a) xs.length xs ∧ ∀ x ∈ xs, Q x := by
  have h1 : ∀ m, m ≤ len → ∃ xs : List α, xs.length = m ∧ (∀ i x, xs[i]? = some x → ∃ v, W.cell? (a.add i) = some v ∧ d.K W x [v]) ∧ ∀ x ∈ xs, Q x := by
    intro m
    induction m with
    | zero => exact fun _ => ⟨[], rfl, fun i x hx => by simp at hx, fun x hx => by simp at hx⟩
    | succ m ih =>
      intro hm
      obtain ⟨xs, hl, hx, hq⟩ := ih (by omega)
      obtain ⟨v, x, h2, h3, h4⟩ := h m (by omega)
      refine ⟨xs ++ [x], by simp [hl], fun i y hy => ?_, fun y hy => ?_⟩
      · by_cases hi : i < xs.length
        · rw [List.getElem?_append_left hi] at hy; exact hx i y hy
        · have : i = m := by
            have := (List.getElem?_eq_some_iff.1 hy).1
            simp at this; omega
          subst this
          rw [List.getElem?_append_right (by omega), hl, Nat.sub_self] at hy
          simp at hy
          subst hy
          exact ⟨v, h2, h3⟩
      · rcases List.mem_append.1 hy with hy | hy
        · exact hq y hy
        · rw [List.mem_singleton] at hy
          rw [hy]; exact h4
  obtain ⟨xs, hl, hx, hq⟩ := h1 len (Nat.le_refl _)
  refine ⟨xs, hl, ⟨rfl, by omega, fun _ => ⟨a, rfl, fun j p hp => ?_⟩⟩, hq⟩
  obtain ⟨v, h2, h3⟩ := hx j p hp
  refine ⟨[v], by rw [hsz]; rfl, h3, fun i u hu => ?_⟩
  cases i with
  | zero =>
    simp at hu
    subst hu
    rw [hsz]
    simpa using h2
  | succ i => simp at hu
variable {H : Type} {enc : TypeId × Value → H} {W : World} {base : Nat} {spare : Nat → Bool} {held : Bool}
theorem open_ints {r : Reach} {b0 : Nat} {v : Value} {d : DataW H} {p : List MemPlace} (hv : Value.okWide Tryd.prog W r b0 24 v) (h : DataW.Trod enc Tryd.prog W base spare held 24 v d p) :
    ∃ A c l, v = .slice A l.length c ∧ (∀ z ∈ l, (Lit.int .i64 z).wf = true) ∧ l.length ≤ c ∧ Kd.C (Kd.int .i64) W A l.length l := by
  obtain ⟨a, len, cap, rfl⟩ := okWide_slice Tryd.underlying24 hv
  obtain ⟨fuel, hf⟩ := h
  have hf : DataW.trod enc Tryd.prog W base spare held fuel 24 [.slice a len cap] = some (d, p) := by simpa [Value.cells] using hf
  rcases open_slice1 Tryd.underlying24 (by kernel_rfl) hf with ⟨hcs, _⟩ | ⟨a, len, cap, m, n, V, D, Pl, hcs, hb, hl, hm, hmm, hx, hi⟩
  · injection hcs with hcs
    exact ⟨none, 0, [], hcs, fun z hz => by simp at hz, Nat.le_refl _, Kd.C_nil _ _⟩
  · injection hcs with hcs
    have hlm : len ≤ m := by rw [hmm]; split <;> omega
    obtain ⟨xs, hx1, hx2, hx3⟩ := C_of_cellsQ (d := Kd.int .i64) (fun z => (Lit.int .i64 z).wf = true) (W := W) (a := a) (len := len) rfl (by unfold maxLen at hm; omega) (fun i hil => by
      obtain ⟨h1, h2⟩ := hi i (by omega)
      obtain ⟨z, hz, _, hw⟩ := DataW.trod_int Tryd.underlying3 h2
      injection hz with hz
      exact ⟨V i, z, h1, by rw [hz]; rfl, hw⟩)
    exact ⟨some a, cap, xs, by rw [hx1]; exact hcs, hx3, by omega, hx2⟩
theorem byte_wf {z : Int} (h : (Lit.int .u8 z).wf = true) : 0 ≤ z ∧ z < 256 := by
  simp [Lit.wf, IntKind.min, IntKind.max, IntKind.signed, IntKind.bits] at h
  omega
theorem open_bytes {r : Reach} {b0 : Nat} {v : Value} {d : DataW H} {p : List MemPlace} (hv : Value.okWide Tryd.prog W r b0 22 v) (h : DataW.Trod enc Tryd.prog W base spare held 22 v d p) :
    ∃ A c l, v = .slice A l.length c ∧ (∀ z ∈ l, 0 ≤ z ∧ z < 256) ∧ l.length ≤ c ∧ Kd.C (Kd.int .u8) W A l.length l := by
  obtain ⟨a, len, cap, rfl⟩ := okWide_slice Tryd.underlying22 hv
  obtain ⟨fuel, hf⟩ := h
  have hf : DataW.trod enc Tryd.prog W base spare held fuel 22 [.slice a len cap] = some (d, p) := by simpa [Value.cells] using hf
  rcases open_slice1 Tryd.underlying22 (by kernel_rfl) hf with ⟨hcs, _⟩ | ⟨a, len, cap, m, n, V, D, Pl, hcs, hb, hl, hm, hmm, hx, hi⟩
  · injection hcs with hcs
    exact ⟨none, 0, [], hcs, fun z hz => by simp at hz, Nat.le_refl _, Kd.C_nil _ _⟩
  · injection hcs with hcs
    have hlm : len ≤ m := by rw [hmm]; split <;> omega
    obtain ⟨xs, hx1, hx2, hx3⟩ := C_of_cellsQ (d := Kd.int .u8) (fun z => 0 ≤ z ∧ z < 256) (W := W) (a := a) (len := len) rfl (by unfold maxLen at hm; omega) (fun i hil => by
      obtain ⟨h1, h2⟩ := hi i (by omega)
      obtain ⟨z, hz, _, hw⟩ := DataW.trod_int Tryd.underlying5 h2
      injection hz with hz
      exact ⟨V i, z, h1, by rw [hz]; rfl, byte_wf hw⟩)
    exact ⟨some a, cap, xs, by rw [hx1]; exact hcs, hx3, by omega, hx2⟩
theorem u16_of {z : Int} (h : (Lit.int .u16 z).wf = true) : 0 ≤ z ∧ z < 65536 := by
  simp [Lit.wf, IntKind.min, IntKind.max, IntKind.signed, IntKind.bits] at h
  omega
def ren : Ren := ⟨fun n => n, fun | 5 => 5 | 119 => 51 | 138 => 54 | 139 => 55 | n => n, fun | 3 => 0 | 4 => 1 | n => n⟩
theorem types : U8Types Tryd.prog ren := ⟨Tryd.underlying5, Tryd.underlying51, Tryd.underlying54, Tryd.underlying55⟩
theorem extra : U8Extra Tryd.prog ren := ⟨by kernel_rfl, by kernel_rfl, by kernel_rfl, by kernel_rfl, by kernel_rfl, by kernel_rfl, by kernel_rfl⟩
theorem first_eq : Rows.laid_unicode_utf8_first = firstData := by kernel_rfl
theorem accept_eq : Rows.laid_unicode_utf8_acceptRanges (H := Unit) = acceptData := by kernel_rfl
theorem tabs_of_laid {W : World} {of : List (String × DataW Unit)} (e : of = [("unicode/utf8.acceptRanges", Rows.laid_unicode_utf8_acceptRanges), ("unicode/utf8.first", Rows.laid_unicode_utf8_first)]) (h : laidMetH Tryd.prog of W) : L.Tabs W := by
  subst e
  have h' : laidMet Tryd.prog [("unicode/utf8.acceptRanges", Rows.laid_unicode_utf8_acceptRanges), ("unicode/utf8.first", Rows.laid_unicode_utf8_first)] W := h
  have r3 := laidMet.reads h' (n := "unicode/utf8.first") (d := Rows.laid_unicode_utf8_first) (by simp)
  have r4 := laidMet.reads h' (n := "unicode/utf8.acceptRanges") (d := Rows.laid_unicode_utf8_acceptRanges) (by simp)
  rw [first_eq] at r3
  rw [accept_eq] at r4
  exact utf8Tabs_of_readsT types extra r3 r4
/-- A world for the witness: the settled one, the two tables holding what their text lays. -/
noncomputable def laidWorld (os : Os) : World :=
  let w0 := World.holding Tryd.prog os ⟨#[], #[], []⟩
  { w0 with heap := Array.modify (Array.modify w0.heap 0 fun
      | .cells _ t frozen => .cells (firstTab.map (Value.int .u8)).toArray t frozen
      | o => o) 1 fun
      | .cells _ t frozen => .cells ((List.range 16).flatMap fun i => [Value.int .u8 (accLo i : Int), Value.int .u8 (accHi i : Int)]).toArray t frozen
      | o => o }
end Go.Proofs.YtfdllcakpmaifaaDoor.X
