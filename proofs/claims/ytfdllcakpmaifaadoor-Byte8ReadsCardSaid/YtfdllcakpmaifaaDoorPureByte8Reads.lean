/- Plain lists, no program: the law Byte8Reads answers true. -/
import Derived.Test.YtfdllcakpmaifaaDoorPLaw
import Derived.Test.YtfdllcakpmaifaaDoorGx1
namespace Go.Proofs.YtfdllcakpmaifaaDoor.P
open Go.RowKit Go.Proofs.YtfdllcakpmaifaaDoorW.PrintWords L R E F G
set_option linter.unusedVariables false
set_option linter.unusedSimpArgs false

theorem Byte8Reads {l : List Int} (hl : ∀ x ∈ l, 0 ≤ x ∧ x < 256) (p : Int) : ∃ k, caesuralaw03_Byte8Reads.f k l p = some true := by
  refine Ev.rounds (g := fun k => caesuralaw03_Byte8Reads.f k l p) ?_
  unfold caesuralaw03_Byte8Reads.f
  refine Ev.congr (fun k => by rw [show caesuralaw03_alive.f = some true from rfl, Option.bind_some, if_pos rfl]) ?_
  by_cases hz : (l.length : Int) > 4000
  · exact ev_if hz (Ev.now _)
  refine ev_else hz ?_
  have hd : ∃ r : List Int × List Int × Int × Int, Ev (fun k => byte8_Decode.f k l) r ∧ Ev (fun k => caesuraref03_Decode.f k l) r ∧ r.1.length ≤ 4001 ∧ r.2.1.length ≤ 4001 := by
    by_cases h3 : l.length ≤ 3000
    · obtain ⟨cs, rest, hp, h⟩ := own_dec hl h3
      obtain ⟨cs', rest', hp', h'⟩ := ref_dec hl h3
      obtain ⟨rfl, rfl⟩ := Parts.one hp hp'
      refine ⟨_, h, h', ?_⟩
      have hcs : cs.length ≤ (encs cs).length := by
        have hg := hp.1
        clear hp hp' h h'
        induction cs with
        | nil => simp
        | cons c cs ih =>
          have := enc_len (hg c List.mem_cons_self)
          have := ih (fun x hx => hg x (List.mem_cons_of_mem _ hx))
          rw [encs_cons, List.length_append, List.length_cons]
          omega
      have : (encs cs).length ≤ l.length := by rw [hp.2.1, List.length_append]; omega
      unfold decR
      split
      · simp only [List.length_append, offs_len, List.length_singleton]
        omega
      · simp
    · exact ⟨_, own_long h3, ref_long h3, by simp⟩
  obtain ⟨⟨m, q, n, e⟩, h1, h2, hm, hq⟩ := hd
  obtain ⟨c, z, hf, hs⟩ := byte8_first hl
  obtain ⟨c', z', hf', hs'⟩ := ref_first hl
  obtain ⟨rfl, rfl⟩ := hs.one hs'
  have hl1 := own_line hl (by omega) p
  have hl2 := ref_line (l := l) (by omega) p
  generalize lineR l p = r at hl1 hl2
  refine Ev.bind (f := fun k t => _) h1 ?_
  refine Ev.bind (f := fun k t => _) h2 ?_
  refine Ev.congr (fun k => by rw [hf, Option.bind_some]) ?_
  refine Ev.bind (f := fun k t => _) hf' ?_
  refine Ev.bind (f := fun k t => _) hl1 ?_
  refine Ev.bind (f := fun k t => _) hl2 ?_
  refine Ev.bind (f := fun k t => _) (ints_ev (l := m) (by simp only at hm; omega) rfl) ?_
  refine ev_if rfl ?_
  refine Ev.bind (f := fun k t => _) (ints_ev (l := q) (by simp only at hq; omega) rfl) ?_
  refine ev_if rfl (ev_if rfl (ev_if rfl (ev_if rfl (ev_if rfl (ev_if rfl ?_)))))
  exact ev_some (fun k => by simp)
end Go.Proofs.YtfdllcakpmaifaaDoor.P
