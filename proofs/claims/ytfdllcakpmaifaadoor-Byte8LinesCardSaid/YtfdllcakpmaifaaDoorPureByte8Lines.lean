/- Plain lists, no program: the law Byte8Lines answers true. -/
import Derived.Test.YtfdllcakpmaifaaDoorPLaw
import Derived.Test.YtfdllcakpmaifaaDoorGx2
namespace Go.Proofs.YtfdllcakpmaifaaDoor.P
open Go.RowKit Go.Proofs.YtfdllcakpmaifaaDoorW.PrintWords L R E F G
set_option linter.unusedVariables false
set_option linter.unusedSimpArgs false

theorem Byte8Lines {l : List Int} (hl : ∀ x ∈ l, 0 ≤ x ∧ x < 256) {p : Int} (hp : 0 ≤ p) (hp' : p < 65536) : ∃ k, caesuralaw03_Byte8Lines.f k l p = some true := by
  refine Ev.rounds (g := fun k => caesuralaw03_Byte8Lines.f k l p) ?_
  unfold caesuralaw03_Byte8Lines.f
  refine Ev.congr (fun k => by rw [show caesuralaw03_alive.f = some true from rfl, Option.bind_some, if_pos rfl]) ?_
  by_cases hz : (l.length : Int) > 1000
  · exact ev_if hz (Ev.step (f := fun _ => some true) (fun k => by rw [caesuralaw03_Byte8Lines.j0, if_pos rfl]) (Ev.now _))
  refine ev_else hz ?_
  by_cases h0 : (l.length : Int) = 0
  · exact Ev.step (f := fun _ => some true) (fun k => by rw [caesuralaw03_Byte8Lines.j0, if_pos (beq_iff_eq.2 h0)]) (Ev.now _)
  have hm : Int.tmod (wrap64 p) (l.length : Int) = p % (l.length : Int) := by
    rw [w64 (by omega) (by omega), Int.tmod_eq_emod_of_nonneg hp]
  refine Ev.step (fun k => by rw [caesuralaw03_Byte8Lines.j0, if_neg (by simpa using h0), if_neg h0, hm]) ?_
  obtain ⟨i, hi⟩ : ∃ i : Nat, p % (l.length : Int) = i := ⟨(p % (l.length : Int)).toNat, by have := Int.emod_nonneg p h0; omega⟩
  have hil : i < l.length := by have := Int.emod_lt_of_pos p (show (0 : Int) < l.length by omega); omega
  rw [hi, w64 (n := (i : Int) + 1) (by omega) (by omega)]
  refine Ev.bind (f := fun k t => _) (own_line hl (by omega) (i : Int)) ?_
  refine Ev.bind (f := fun k t => _) (own_line hl (by omega) ((i : Int) + 1)) ?_
  have r1 : lineR l (i : Int) = (cntN l i + 1, (i : Int) - lastN l i) := by
    unfold lineR
    rw [if_neg (by omega), Int.toNat_natCast]
  have r2 : lineR l ((i : Int) + 1) = (cntN l (i + 1) + 1, ((i : Int) + 1) - lastN l (i + 1)) := by
    unfold lineR
    rw [if_neg (by omega), show ((i : Int) + 1).toNat = i + 1 from by omega]
  have a := cntN_le l i
  have b := lastN_lt l i
  rw [r1, r2, show cntN l (i + 1) = cntN l i + (if rd l (i : Int) = 10 then 1 else 0) from rfl, show lastN l (i + 1) = (if rd l (i : Int) = 10 then (i : Int) else lastN l i) from rfl]
  refine ev_if (by omega) (ev_if (by omega) ?_)
  by_cases h10 : rd l (i : Int) = 10
  · rw [if_pos h10, if_pos h10, if_pos h10]
    refine ev_if ?_ ?_
    · show cntN l i + 1 + 1 = wrap64 (cntN l i + 1 + 1)
      rw [w64 (by omega) (by omega)]
    · exact ev_some (fun k => by
        have : (i : Int) + 1 - (i : Int) = 1 := by omega
        simp [this])
  · rw [if_neg h10, if_neg h10, if_neg h10]
    refine ev_if ?_ (ev_if ?_ (ev_if ?_ ?_))
    · show cntN l i + 0 + 1 = cntN l i + 1
      omega
    · show (i : Int) + 1 - lastN l i = wrap64 ((i : Int) - lastN l i + 1)
      rw [w64 (by omega) (by omega)]
      omega
    · show cntN l i + 1 ≥ 1
      omega
    · exact ev_some (fun k => by
        show some (decide ((i : Int) - lastN l i ≥ 1)) = some true
        rw [decide_eq_true (by omega)])
end Go.Proofs.YtfdllcakpmaifaaDoor.P
