/- Plain lists, no program: the law Byte8Back answers true. -/
import Derived.Test.YtfdllcakpmaifaaDoorPLaw
import Derived.Test.YtfdllcakpmaifaaDoorGx1
namespace Go.Proofs.YtfdllcakpmaifaaDoor.P
open Go.RowKit Go.Proofs.YtfdllcakpmaifaaDoorW.PrintWords L R E F G
set_option linter.unusedVariables false
set_option linter.unusedSimpArgs false

theorem encs_byte {cs : List Int} (hg : ∀ c ∈ cs, Good c) : ∀ x ∈ encs cs, 0 ≤ x ∧ x < 256 := by
  intro x hx
  obtain ⟨c, hc, hx⟩ := List.mem_flatMap.1 hx
  exact enc_byte (hg c hc) x hx
theorem encs_len {cs : List Int} (hg : ∀ c ∈ cs, Good c) : cs.length ≤ (encs cs).length := by
  induction cs with
  | nil => simp
  | cons c cs ih =>
    have := enc_len (hg c List.mem_cons_self)
    have := ih (fun x hx => hg x (List.mem_cons_of_mem _ hx))
    rw [encs_cons, List.length_append, List.length_cons]
    omega
theorem whole_dec {cs : List Int} (hg : ∀ c ∈ cs, Good c) (hz : (encs cs).length ≤ 3000) : Ev (fun k => byte8_Decode.f k (encs cs)) (cs, offs 0 cs ++ [((encs cs).length : Int)], -1, 0) := by
  obtain ⟨ds, rest, hp, h⟩ := own_dec (encs_byte hg) hz
  obtain ⟨rfl, rfl⟩ := Parts.one hp ⟨hg, (List.append_nil _).symm, noHead_nil⟩
  exact h
theorem back_b {l : List Int} (hl : ∀ x ∈ l, 0 ≤ x ∧ x < 256) (hz : l.length ≤ 4000) : Ev (fun k => caesuralaw03_Byte8Back.j1 k l) true := by
  refine Ev.step (fun k => by rw [caesuralaw03_Byte8Back.j1]) ?_
  by_cases h3 : l.length ≤ 3000
  · obtain ⟨cs, rest, hp, h⟩ := own_dec hl h3
    refine Ev.bind (f := fun k t => _) h ?_
    have hg := hp.1
    have he : (encs cs).length ≤ 3000 := by
      have := congrArg List.length hp.2.1
      rw [List.length_append] at this
      omega
    unfold decR
    by_cases hr : rest = []
    · subst hr
      rw [if_pos rfl]
      refine ev_if rfl ?_
      have hn := encs_len hg
      have e2 : encR cs = (encs cs, 0) := by
        unfold encR
        rw [if_pos (goods_iff.2 hg), if_neg (by omega)]
      have := own_enc (l := cs) (by omega)
      rw [e2] at this
      refine Ev.bind (f := fun k t => _) this ?_
      refine ev_if rfl ?_
      have hl' : l = encs cs := by simpa using hp.2.1
      rw [hl']
      exact ev_some (fun k => by simp)
    · rw [if_neg hr]
      have hlt : (encs cs).length < l.length := by
        have := congrArg List.length hp.2.1
        rw [List.length_append] at this
        have := List.length_pos_iff.2 hr
        omega
      refine ev_else (show ¬ ((3 : Int) = 0) by decide) (ev_if rfl (ev_if (by show ((encs cs).length : Int) ≥ 0; omega) (ev_else (show ¬ ((3 : Int) = 2) by decide) (ev_if (by show ((encs cs).length : Int) < _; omega) (ev_if (by show 0 ≤ ((encs cs).length : Int); omega) (ev_if (by show ((encs cs).length : Int) ≤ _; omega) ?_))))))
      have ht : l.take ((encs cs).length : Int).toNat = encs cs := by
        rw [Int.toNat_natCast, hp.2.1, List.take_left]
      show Ev (fun k => (caesuralaw03_whole.f k (l.take ((encs cs).length : Int).toNat)).bind fun t => some t) true
      rw [ht]
      refine Ev.bind (a := true) (f := fun _ t => some t) ?_ (Ev.now _)
      unfold caesuralaw03_whole.f
      exact Ev.bind (f := fun _ (t : List Int × List Int × Int × Int) => some (t.2.2.2 == 0)) (whole_dec hg he) (ev_some (fun k => by simp))
  · refine Ev.bind (f := fun k t => _) (own_long h3) ?_
    exact ev_else (by decide) (ev_if rfl (ev_if (by decide) (ev_if rfl (Ev.now _))))
theorem Byte8Back {l b : List Int} (hb : ∀ x ∈ b, 0 ≤ x ∧ x < 256) : ∃ k, caesuralaw03_Byte8Back.f k l b = some true := by
  refine Ev.rounds (g := fun k => caesuralaw03_Byte8Back.f k l b) ?_
  unfold caesuralaw03_Byte8Back.f
  refine Ev.congr (fun k => by rw [show caesuralaw03_alive.f = some true from rfl, Option.bind_some, if_pos rfl]) ?_
  by_cases hz : (l.length : Int) > 4000
  · exact ev_if hz (Ev.step (f := fun _ => some true) (fun k => by rw [caesuralaw03_Byte8Back.j0, if_pos rfl]) (Ev.now _))
  refine ev_else hz ?_
  by_cases hzb : (b.length : Int) > 4000
  · exact Ev.step (f := fun _ => some true) (fun k => by rw [caesuralaw03_Byte8Back.j0, if_pos (decide_eq_true hzb)]) (Ev.now _)
  refine Ev.step (fun k => by rw [caesuralaw03_Byte8Back.j0, if_neg (by simpa using hzb)]) ?_
  refine Ev.bind (f := fun k t => _) (own_enc (l := l) (by omega)) ?_
  have hback := back_b hb (by omega)
  unfold encR
  by_cases hg : goods l = true
  · rw [if_pos hg]
    by_cases h3 : 3000 < (encs l).length
    · rw [if_pos h3]
      exact ev_else (by decide) hback
    · rw [if_neg h3]
      refine ev_if rfl ?_
      have hg' := goods_iff.1 hg
      refine Ev.bind (f := fun k t => _) (whole_dec hg' (by omega)) ?_
      refine ev_if rfl (ev_if rfl ?_)
      refine Ev.bind (f := fun k t => _) (ints_ev (l := l) (by omega) rfl) ?_
      have ho := offs_len 0 l
      have hq : ((offs 0 l ++ [((encs l).length : Int)]).length : Int) = (l.length : Int) + 1 := by
        rw [List.length_append, ho, List.length_singleton]
        omega
      refine ev_if rfl (ev_if (by show ((offs 0 l ++ [((encs l).length : Int)]).length : Int) = _; rw [hq, w64 (by omega) (by omega)]) (ev_if (by omega) (ev_if (by show (l.length : Int) < ((offs 0 l ++ [((encs l).length : Int)]).length : Int); omega) (ev_if ?_ hback))))
      show rd (offs 0 l ++ [((encs l).length : Int)]) (l.length : Int) = ((encs l).length : Int)
      unfold rd
      rw [Int.toNat_natCast, List.getD_eq_getElem?_getD, List.getElem?_append_right (by omega), ho, Nat.sub_self]
      rfl
  · rw [if_neg hg]
    exact ev_else (by decide) hback
end Go.Proofs.YtfdllcakpmaifaaDoor.P
