/- Plain lists, no program: the law Byte8Writes answers true. -/
import Derived.Test.YtfdllcakpmaifaaDoorPLaw
import Derived.Test.YtfdllcakpmaifaaDoorGx1
namespace Go.Proofs.YtfdllcakpmaifaaDoor.P
open Go.RowKit Go.Proofs.YtfdllcakpmaifaaDoorW.PrintWords L R E F G
set_option linter.unusedVariables false
set_option linter.unusedSimpArgs false

theorem Byte8Writes (l : List Int) : ∃ k, caesuralaw03_Byte8Writes.f k l = some true := by
  refine Ev.rounds (g := fun k => caesuralaw03_Byte8Writes.f k l) ?_
  unfold caesuralaw03_Byte8Writes.f
  refine Ev.congr (fun k => by rw [show caesuralaw03_alive.f = some true from rfl, Option.bind_some, if_pos rfl]) ?_
  by_cases hz : (l.length : Int) > 4000
  · exact ev_if hz (Ev.now _)
  refine ev_else hz ?_
  refine Ev.bind (f := fun k t => _) (own_enc (by omega)) ?_
  refine Ev.bind (f := fun k t => _) (ref_enc (by omega)) ?_
  refine ev_if rfl ?_
  exact ev_some (fun k => by simp)
end Go.Proofs.YtfdllcakpmaifaaDoor.P
