/- span.Has in the print's shape. -/
import Derived.Test.YtippkbgeeeimjaaXSpan
import Derived.Outline
namespace Go.Proofs.Ytippkbgeeeimjaa.L
open Go.RowKit Go.Proofs.YtippkbgeeeimjaaW.PrintWords Go.Proofs.YtippkbgeeeimjaaW.PrintLast Go.Proofs.YtippkbgeeeimjaaW.PrintMore Go.Proofs.Ytippkbgeeeimjaa.A Go.Proofs.Ytippkbgeeeimjaa.P
set_option linter.unusedVariables false
set_option linter.unusedSimpArgs false
theorem has_one (r : S34) (c : Int) (gc : Nat) (w : World) (hc : w.cell? ⟨gc, 0, none⟩ = some (.int .i64 c)) :
    Calls Try.prog 49 #[.agg #[.int .i64 r.f0, .int .i64 r.f1], .pointer (some ⟨gc, 0, none⟩)] w fun e w' => e = .returned (.bool (inR r c)) ∧ Below w.heap.size w w' := by
  have hlt : gc < w.heap.size := by
    rcases Nat.lt_or_ge gc w.heap.size with h | h
    · exact h
    · simp [World.cell?, Array.getElem?_eq_none h] at hc
  have hne : gc ≠ w.heap.size := by omega
  unfold inR
  by_cases h1 : r.f0 ≤ c
  · by_cases h2 : c ≤ r.f1
    · have b1 : decide (r.f0 ≤ c) = true := decide_eq_true h1
      have b2 : decide (c ≤ r.f1) = true := decide_eq_true h2
      rw [b1, b2]
      clear h1 h2
      go_enter Try.func49, Try.ntmps49
      go_wp2_with fail
      go_ret
      exact ⟨rfl, below_alloc (Below.refl _ _) _⟩
    · have b1 : decide (r.f0 ≤ c) = true := decide_eq_true h1
      have b2 : decide (c ≤ r.f1) = false := decide_eq_false h2
      rw [b1, b2]
      clear h1 h2
      go_enter Try.func49, Try.ntmps49
      go_wp2_with fail
      go_ret
      exact ⟨rfl, below_alloc (Below.refl _ _) _⟩
  · have b1 : decide (r.f0 ≤ c) = false := decide_eq_false h1
    rw [b1, Bool.false_and]
    clear h1
    go_enter Try.func49, Try.ntmps49
    go_wp2_with fail
    go_ret
    exact ⟨rfl, below_alloc (Below.refl _ _) _⟩
/-- The first range that has it. -/
def idxF (l : List S34) (c : Int) : Int := match l.findIdx? fun r => inR r c with
  | some i => i
  | none => -1
theorem idxF_ge (l : List S34) (c : Int) : decide (0 ≤ idxF l c) = Mem l c := by
  unfold idxF Mem
  cases h : l.findIdx? fun r => inR r c with
  | none =>
    have := List.findIdx?_eq_none_iff.1 h
    simp only
    rw [decide_eq_false (by omega)]
    symm
    rw [List.any_eq_false]
    intro x hx
    rw [this x hx]
    decide
  | some i =>
    simp only
    rw [decide_eq_true (by omega)]
    symm
    obtain ⟨hi, hp, _⟩ := List.findIdx?_eq_some_iff_getElem.1 h
    exact List.any_eq_true.2 ⟨_, List.getElem_mem hi, hp⟩
def Lix (w : World) (l : List S34) (c : Int) (u : Value) (W : World) : Prop := ∃ j : Nat, j ≤ l.length ∧ u = .int .i64 j ∧ Below w.heap.size w W ∧ ∀ r ∈ l.take j, inR r c = false
set_option maxHeartbeats 2000000 in
theorem index_func (A0 : Option Addr) (c0 : Nat) (l0 : List S34) (c : Int) (gc : Nat) (w : World) (hr0 : Kd.C k34 w A0 l0.length l0) (hc0 : l0.length ≤ c0) (hg : w.heap[gc]? = some (.cells #[.int .i64 c] 3 (0, 0))) :
    Calls Try.prog 67 #[.slice A0 l0.length c0, .func (.func 49) #[] #[.pointer (some ⟨gc, 0, none⟩)]] w fun e w' => e = .returned (.int .i64 (idxF l0 c)) ∧ Below w.heap.size w w' := by
  have HR := Aside0.mk hr0
  have HG := Aside0.mk hg
  have HM : l0.length ≤ 9223372036854775807 := Kd.C_max hr0
  have eg : ∀ args w, (callFunc 49 args).run Try.prog w = .ok (.enter 49 args) w := enters_of Try.func49 (by kernel_rfl) rfl
  clear hr0 hg
  go_enter Try.func67, Try.ntmps67
  go_wp2_with fail
  go_loopw [8] (fun u W => Lix w l0 c u W) (fun u _ => l0.length - (intOf u).toNat)
  case atStart => exact ⟨0, Nat.zero_le _, rfl, Below.refl _ _, (fun r hr => by simp at hr)⟩
  case round =>
    obtain ⟨j, hj, rfl, hb, hno⟩ := hrel
    have HB := Aside0.mk hb
    have HN := Aside0.mk hno
    clear hb hno
    by_cases hlt : j < l0.length
    · have b1 : decide ((j : Int) < (l0.length : Int)) = true := decide_eq_true (by omega)
      have b2 : decide (j < l0.length) = true := decide_eq_true hlt
      obtain ⟨ad, rfl, k0, k1⟩ := at_T34 (Kd.C_below HR.out HB.out) (j : Int) (by omega) (by omega)
      rw [Int.toNat_natCast] at k0 k1
      have hq0 : 0 ≤ (j : Int) := by omega
      have hq1 : (j : Int) < (l0.length : Int) := by omega
      have w2 : IntKind.i64.wrap ((j : Int) + 1) = (j : Int) + 1 := IntWalk.i64_in _ (by omega)
      have hel : l0[j]? = some (rd_T34 l0 j) := by
        unfold rd_T34
        rw [Int.toNat_natCast, List.getD_eq_getElem?_getD, List.getElem?_eq_getElem hlt]
        rfl
      have HE := Aside0.mk hel
      clear hel
      obtain ⟨s, hs⟩ : ∃ s, s = rd_T34 l0 j := ⟨_, rfl⟩
      rw [← hs] at k0 k1 HE
      clear hs
      go_wp2_with fail
      have hcell : wr.cell? ⟨gc, 0, none⟩ = some (.int .i64 c) := (blk_cell (blk_below HG.out HB.out) 0).trans rfl
      refine (has_one s c gc wr hcell).mono ?_
      rintro e W7 ⟨rfl, hb7⟩
      have HB7 := Aside0.mk (HB.out.trans (hb7.mono HB.out.size))
      clear hb7 hcell k0 k1
      cases hi : inR s c with
      | true =>
        have HI := Aside0.mk hi
        clear hi
        go_wp2_with fail
        go_ret
        have hfi : (l0.findIdx? fun r => inR r c) = some j := List.findIdx?_eq_some_iff_getElem.2 ⟨hlt, (by rw [List.getElem?_eq_getElem hlt] at HE; rw [Option.some.inj HE.out]; exact HI.out), (fun i hi => by
          have := HN.out (l0[i]'(by omega)) (List.mem_take_iff_getElem.2 ⟨i, by omega, rfl⟩)
          rw [this]
          decide)⟩
        have hix : idxF l0 c = j := by
          unfold idxF
          rw [hfi]
        exact ⟨by rw [hix]; rfl, HB7.out⟩
      | false =>
        have HI := Aside0.mk hi
        clear hi
        go_wp2_with fail
        go_roundw
        case rel =>
          refine ⟨j + 1, hlt, by go_num, HB7.out, fun r hr => ?_⟩
          rw [List.take_add_one, HE.out] at hr
          rcases List.mem_append.1 hr with hr | hr
          · exact HN.out r hr
          · simp at hr
            rw [hr]
            exact HI.out
        case measure => simp [intOf]; omega
    · have b1 : decide ((j : Int) < (l0.length : Int)) = false := decide_eq_false (by omega)
      have b2 : decide (j < l0.length) = false := decide_eq_false hlt
      go_wp2_with fail
      go_ret
      have : idxF l0 c = -1 := by
        unfold idxF
        rw [List.findIdx?_eq_none_iff.2 fun x hx => HN.out x (by rw [List.take_of_length_le (by omega)]; exact hx)]
      exact ⟨by rw [this]; rfl, HB.out⟩
theorem contains_func (A0 : Option Addr) (c0 : Nat) (l0 : List S34) (c : Int) (gc : Nat) (w : World) (hr0 : Kd.C k34 w A0 l0.length l0) (hc0 : l0.length ≤ c0) (hg : w.heap[gc]? = some (.cells #[.int .i64 c] 3 (0, 0))) :
    Calls Try.prog 48 #[.slice A0 l0.length c0, .func (.func 49) #[] #[.pointer (some ⟨gc, 0, none⟩)]] w fun e w' => e = .returned (.bool (Mem l0 c)) ∧ Below w.heap.size w w' := by
  have hi := index_func A0 c0 l0 c gc w hr0 hc0 hg
  have hge := idxF_ge l0 c
  generalize idxF l0 c = i at hi hge
  rw [← hge]
  have HI := Aside0.mk hi
  clear hi hr0 hc0 hg hge
  go_enter Try.func48, Try.ntmps48
  go_wp2_with fail
  refine HI.out.mono ?_
  rintro e w' ⟨rfl, hb⟩
  have HB := Aside0.mk hb
  clear hb
  go_wp2_with fail
  go_ret
  exact ⟨rfl, HB.out⟩
def hasF (l : List S34) (c : Int) : Bool := decide (0 ≤ c) && decide (c ≤ 1114111) && hasB l c
def span_Has.f (l0 : List S34) (a1 : Int) : Option Bool := some (hasF l0 a1)
theorem span_Has.calls (A0 : Option Addr) (c0 : Nat) (l0 : List S34) (a1 : Int) (r : Bool) (w : World) (hr0 : Kd.C k34 w A0 l0.length l0) (hc0 : l0.length ≤ c0) (h : span_Has.f l0 a1 = some r) :
    Calls Try.prog 24 #[.slice A0 l0.length c0, .int .i64 a1] w fun e w' => e = .returned (.bool r) ∧ Below w.heap.size w w' := by
  obtain rfl : hasF l0 a1 = r := Option.some.inj h
  clear h
  unfold hasF hasB
  have hs := contains_func A0 c0 l0 a1 w.heap.size (w.alloc (.cells #[.int .i64 a1] 3)) (Kd.C_alloc hr0 _) hc0 (blk_new _ _)
  have HS := Aside0.mk hs
  clear hs hr0 hc0
  by_cases h1 : 0 ≤ a1
  · have b1 : decide (0 ≤ a1) = true := decide_eq_true h1
    by_cases h2 : a1 ≤ 1114111
    · have b2 : decide (a1 ≤ 1114111) = true := decide_eq_true h2
      by_cases h3 : l0.length ≤ 400
      · have b3 : decide (l0.length ≤ 400) = true := decide_eq_true h3
        have b4 : decide ((l0.length : Int) ≤ 400) = true := decide_eq_true (by omega)
        rw [b1, b2, b3, Bool.true_and, Bool.true_and, Bool.true_and]
        clear h1 h2 h3
        go_enter Try.func24, Try.ntmps24
        go_wp2_with fail
        refine HS.out.mono ?_
        rintro e w' ⟨rfl, hb⟩
        have HB := Aside0.mk ((below_alloc (Below.refl w.heap.size w) (.cells #[.int .i64 a1] 3)).trans (hb.mono (by simp)))
        clear hb
        go_wp2_with fail
        go_ret
        exact ⟨rfl, HB.out⟩
      · have b3 : decide (l0.length ≤ 400) = false := decide_eq_false h3
        have b4 : decide ((l0.length : Int) ≤ 400) = false := decide_eq_false (by omega)
        rw [b3, Bool.false_and, Bool.and_false]
        clear h1 h2 h3
        go_enter Try.func24, Try.ntmps24
        go_wp2_with fail
        go_ret
        exact ⟨rfl, below_alloc (Below.refl _ _) _⟩
    · have b2 : decide (a1 ≤ 1114111) = false := decide_eq_false h2
      rw [b2, Bool.and_false, Bool.false_and]
      clear h1 h2
      go_enter Try.func24, Try.ntmps24
      go_wp2_with fail
      go_ret
      exact ⟨rfl, below_alloc (Below.refl _ _) _⟩
  · have b1 : decide (0 ≤ a1) = false := decide_eq_false h1
    rw [b1, Bool.false_and, Bool.false_and]
    clear h1
    go_enter Try.func24, Try.ntmps24
    go_wp2_with fail
    go_ret
    exact ⟨rfl, below_alloc (Below.refl _ _) _⟩
end Go.Proofs.Ytippkbgeeeimjaa.L
