/- Plain lists, no program: the law Byte8Joins answers true. -/
import Derived.Test.YtfdllcakpmaifaaDoorPLaw
import Derived.Test.YtfdllcakpmaifaaDoorGx3
namespace Go.Proofs.YtfdllcakpmaifaaDoor.P
open Go.RowKit Go.Proofs.YtfdllcakpmaifaaDoorW.PrintWords L R E F G
set_option linter.unusedVariables false
set_option linter.unusedSimpArgs false

theorem len_le {cs l rest : List Int} (hp : Parts l cs rest) : cs.length ≤ l.length := by
  obtain ⟨hg, he, _⟩ := hp
  rw [he, List.length_append]
  clear he
  induction cs with
  | nil => simp
  | cons c cs ih =>
    have := enc_len (hg c List.mem_cons_self)
    have := ih (fun x hx => hg x (List.mem_cons_of_mem _ hx))
    rw [encs_cons, List.length_append, List.length_cons]
    omega
theorem Byte8Joins {a b : List Int} (ha : ∀ x ∈ a, 0 ≤ x ∧ x < 256) (hb : ∀ x ∈ b, 0 ≤ x ∧ x < 256) : ∃ k, caesuralaw03_Byte8Joins.f k a b = some true := by
  refine Ev.rounds (g := fun k => caesuralaw03_Byte8Joins.f k a b) ?_
  unfold caesuralaw03_Byte8Joins.f
  refine Ev.congr (fun k => by rw [show caesuralaw03_alive.f = some true from rfl, Option.bind_some, if_pos rfl]) ?_
  by_cases hz : (a.length : Int) > 1400
  · exact ev_if hz (Ev.step (f := fun _ => some true) (fun k => by rw [caesuralaw03_Byte8Joins.j0, if_pos rfl]) (Ev.now _))
  refine ev_else hz ?_
  by_cases hzb : (b.length : Int) > 1400
  · exact Ev.step (f := fun _ => some true) (fun k => by rw [caesuralaw03_Byte8Joins.j0, if_pos (decide_eq_true hzb)]) (Ev.now _)
  refine Ev.step (fun k => by rw [caesuralaw03_Byte8Joins.j0, if_neg (by simpa using hzb)]) ?_
  obtain ⟨cs, rest, hp, h⟩ := own_dec ha (by omega)
  obtain ⟨ds, rest', hp', h'⟩ := own_dec hb (by omega)
  refine Ev.bind (f := fun k t => _) h ?_
  unfold decR
  by_cases hr : rest = []
  · subst hr
    rw [if_pos rfl]
    have hae : a = encs cs := by simpa using hp.2.1
    refine ev_if rfl ?_
    refine Ev.bind (f := fun k t => _) h' ?_
    refine Ev.congr (fun k => by rw [Option.bind_some]) ?_
    refine ev_if (by simp; omega) ?_
    refine Ev.congr (fun k => by rw [Option.bind_some]) ?_
    refine ev_if (by simp; omega) ?_
    rw [List.nil_append]
    have hab : ∀ x ∈ a ++ b, 0 ≤ x ∧ x < 256 := fun x hx => (List.mem_append.1 hx).elim (ha x) (hb x)
    obtain ⟨fs, rest'', hq, hh⟩ := own_dec hab (by rw [List.length_append]; omega)
    have hj : Parts (a ++ b) (cs ++ ds) rest' := by
      refine ⟨fun c hc => (List.mem_append.1 hc).elim (hp.1 c) (hp'.1 c), ?_, hp'.2.2⟩
      rw [encs_app, List.append_assoc, ← hp'.2.1, ← hae]
    obtain ⟨rfl, rfl⟩ := Parts.one hq hj
    refine Ev.bind (f := fun k t => _) hh ?_
    unfold decR
    have l1 := len_le hp
    have l2 := len_le hp'
    have o1 := offs_len 0 cs
    have o2 := offs_len 0 (cs ++ ds)
    by_cases hr2 : rest'' = []
    · subst hr2
      rw [if_pos rfl, if_pos rfl]
      refine ev_if rfl (ev_if rfl ?_)
      refine Ev.congr (fun k => by rw [Option.bind_some]) ?_
      refine ev_if (by simp; omega) ?_
      refine Ev.congr (fun k => by rw [Option.bind_some]) ?_
      refine ev_if (by simp; omega) ?_
      rw [List.nil_append]
      refine Ev.bind (f := fun k t => _) (ints_ev (l := cs ++ ds) (by rw [List.length_append]; omega) rfl) ?_
      have q1 : ((offs 0 (cs ++ ds) ++ [((a ++ b).length : Int)]).length : Int) = (cs.length : Int) + (ds.length : Int) + 1 := by
        rw [List.length_append, o2, List.length_append, List.length_singleton]
        omega
      have q2 : ((offs 0 cs ++ [(a.length : Int)]).length : Int) = (cs.length : Int) + 1 := by
        rw [List.length_append, o1, List.length_singleton]
        omega
      refine ev_if rfl (ev_if ?_ (ev_if (by omega) (ev_if ?_ (ev_if ?_ ?_))))
      · show ((offs 0 (cs ++ ds) ++ [((a ++ b).length : Int)]).length : Int) = _
        rw [q1, w64 (n := (cs.length : Int) + (ds.length : Int)) (by omega) (by omega), w64 (by omega) (by omega)]
      · show (cs.length : Int) ≤ ((offs 0 (cs ++ ds) ++ [((a ++ b).length : Int)]).length : Int)
        omega
      · show (cs.length : Int) ≤ ((offs 0 cs ++ [(a.length : Int)]).length : Int)
        omega
      · refine Ev.bind (a := true) (f := fun _ t => some t) ?_ (Ev.now _)
        refine ints_ev ?_ ?_
        · simp only [Int.toNat_natCast, List.length_take]
          omega
        · show (offs 0 (cs ++ ds) ++ [((a ++ b).length : Int)]).take ((cs.length : Int)).toNat = (offs 0 cs ++ [(a.length : Int)]).take ((cs.length : Int)).toNat
          rw [Int.toNat_natCast, offs_app, List.append_assoc, List.take_left' o1, List.take_left' o1]
    · rw [if_neg hr2, if_neg hr2]
      refine ev_else (show ¬ ((3 : Int) = 0) by decide) (ev_if rfl ?_)
      refine ev_some (fun k => ?_)
      show some (((encs (cs ++ ds)).length : Int) == wrap64 (((encs ds).length : Int) + (a.length : Int))) = some true
      have : (encs ds).length ≤ b.length := by rw [hp'.2.1, List.length_append]; omega
      have e2 := congrArg List.length hae
      rw [w64 (by omega) (by omega), encs_app, List.length_append, e2]
      simp
      omega
  · rw [if_neg hr]
    exact ev_else (show ¬ ((3 : Int) = 0) by decide) (Ev.now _)
end Go.Proofs.YtfdllcakpmaifaaDoor.P
