/- AtomMore, in plain Lean. -/
import Derived.Test.YtippkbgeeeimjaaAMx1
import Derived.Test.YtippkbgeeeimjaaZE
namespace Go.Proofs.Ytippkbgeeeimjaa.P
open Go.RowKit Go.Proofs.YtippkbgeeeimjaaW.PrintWords Go.Proofs.Ytippkbgeeeimjaa.A Go.Proofs.Ytippkbgeeeimjaa.L Go.Proofs.Ytippkbgeeeimjaa.B Go.Proofs.Ytippkbgeeeimjaa.D
set_option linter.unusedVariables false
set_option linter.unusedSimpArgs false
theorem bad_more {l0 : List (List S34)} {s : List S34} (f : Few l0 (edgesOf l0)) (f2 : Few (l0 ++ [s]) (edgesOf (l0 ++ [s]))) (h : badB l0 = true) : badB (l0 ++ [s]) = true := by
  rw [badB_iff f] at h
  rw [badB_iff f2]
  rcases h with h | h | ⟨j, h1, h2, h3⟩
  · exact Or.inl (by rw [List.length_append]; omega)
  · refine Or.inr (Or.inl ?_)
    unfold longF at h ⊢
    rw [List.any_append, h]
    rfl
  · refine Or.inr (Or.inr ⟨j, h1, by rw [List.length_append]; omega, ?_⟩)
    unfold ofAt at h3 ⊢
    rw [List.take_append_of_le_length h2]
    exact h3
theorem more_less {l0 : List (List S34)} {s : List S34} {m : Int} (h0 : 0 ≤ m) (h1 : m ≤ 1114111) (hA : (clsF l0 m).length ≤ 400) : lessF (clsF (l0 ++ [s]) m) (clsF l0 m) = [] := by
  refine canon_nil fun c k0 k1 => ?_
  cases q : hasB (clsF (l0 ++ [s]) m) c with
  | false => rfl
  | true =>
    have hm := (hasB_iff.1 q).2
    have k : Mem (clsF (l0 ++ [s]) m) c = decide (sigF (l0 ++ [s]) c = sigF (l0 ++ [s]) m) := cls_mem k0 k1
    rw [mem_iff.2 hm] at k
    have e := of_decide_eq_true k.symm
    rw [sig_snoc, sig_snoc] at e
    have e2 := (snoc_iff.1 e).1
    have k2 : hasB (clsF l0 m) c = decide (sigF l0 c = sigF l0 m) := has_canon (P := fun d => decide (sigF l0 d = sigF l0 m)) hA k0 k1
    rw [k2, decide_eq_true e2]
    rfl
theorem more_loop {l0 : List (List S34)} {s : List S34} {a b : List (List S34)} (ha : Cls l0 a) (hSa : Short a) (hb : Cls (l0 ++ [s]) b) (hSb : Short b) (hL : b.length ≤ 200) (hLa : a.length ≤ 200) :
    ∀ d i : Nat, i + d = b.length → Ev (fun k => AM.caesuralaw02_AtomMore.l0 k a b (i : Int)) true := by
  intro d
  induction d with
  | zero =>
    intro i hi
    exact Ev.step (f := fun _ => some true) (fun k => by rw [AM.caesuralaw02_AtomMore.l0, if_neg (by omega)]) (Ev.now _)
  | succ d ih =>
    intro i hi
    have hlt : i < b.length := by omega
    have hg : b[i]? = some b[i] := List.getElem?_eq_getElem hlt
    have hmem : b[i] ∈ b := List.getElem_mem hlt
    have hrow : AM.rd_L2 b (i : Int) = b[i] := rd3 hg
    have hn := ih (i + 1) (by omega)
    rw [show ((i + 1 : Nat) : Int) = (i : Int) + 1 from by omega] at hn
    generalize b[i] = x at *
    obtain ⟨_, f0, f1, e⟩ := hb.first hSb hmem
    obtain ⟨k, ek, hk⟩ := class_at ha hSa f0 f1
    have hkl := (List.getElem?_eq_some_iff.1 hk).1
    refine Ev.step (f := fun k' => (caesuraref01_First.f x).bind fun t121 => ((atom_Class.f a t121).bind fun t122 => (if t122 < 0 then (some false) else (if 0 ≤ t122 then (if t122 < (a.length : Int) then ((caesuraref01_Less.f x (AM.rd_L2 a t122)).bind fun t125 => (if (t125.length : Int) > 0 then (some false) else (AM.caesuralaw02_AtomMore.l0 k' a b ((i : Int) + 1)))) else (none)) else (none))))) (fun k => by
      rw [AM.caesuralaw02_AtomMore.l0, if_pos (by omega), if_pos (show (0 : Int) ≤ (i : Int) by omega), hrow, w64 (n := (i : Int) + 1) (by omega) (by omega)]) ?_
    refine Ev.bind ⟨0, fun _ _ => ref_first x⟩ ?_
    refine Ev.bind (a := (k : Int)) ⟨0, fun _ _ => congrArg some ek⟩ ?_
    refine ev_else (by omega) (ev_if (by omega) (ev_if (by omega) ?_))
    rw [show AM.rd_L2 a (k : Int) = clsF l0 (firstF x) from rd3 hk]
    have hle : caesuraref01_Less.f x (clsF l0 (firstF x)) = some [] := by
      unfold caesuraref01_Less.f
      have := more_less (s := s) f0 f1 (hSa _ (List.mem_of_getElem? hk))
      rw [← e] at this
      rw [this]
    refine Ev.bind (a := []) ⟨0, fun _ _ => hle⟩ (ev_else (by decide) hn)
theorem more_law (l0 : List (List S34)) (s : List S34) (hs : X.SmallL l0) : Ev (fun k => AM.caesuralaw02_AtomMore.f k l0 s) true := by
  obtain ⟨b, hb, hb2⟩ := great_ev l0 200 (by decide) hs
  unfold AM.caesuralaw02_AtomMore.f
  refine Ev.bind (a := true) ⟨0, fun _ _ => rfl⟩ (ev_if rfl ?_)
  refine Ev.bind hb ?_
  have htrue : Ev (fun k => AM.caesuralaw02_AtomMore.j0 k l0 s true) true := Ev.step (f := fun _ => some true) (fun k => by rw [AM.caesuralaw02_AtomMore.j0, if_pos rfl]) (Ev.now _)
  cases b with
  | true => exact ev_if rfl htrue
  | false =>
    refine ev_else (by decide) ?_
    have hsum := hb2 rfl
    by_cases hz : (s.length : Int) > 100
    · rw [decide_eq_true hz]
      exact htrue
    rw [decide_eq_false hz]
    have f : Few l0 (edgesOf l0) := few_edges (by omega)
    have f2 : Few (l0 ++ [s]) (edgesOf (l0 ++ [s])) := few_edges (by
      rw [List.map_append, List.sum_append, List.map_cons, List.map_nil, List.sum_cons, List.sum_nil]
      omega)
    refine Ev.step (f := fun k => (atom_Of.f l0).bind fun bt103 => ((some (([] : List (List (S34))) : List (List (S34)))).bind fun y107 => (if y107.length + l0.length < 5864062014805 then ((some (y107 ++ l0 : List (List (S34)))).bind fun y110 => (if y110.length < 5864062014805 then ((atom_Of.f (y110 ++ [s])).bind fun bt116 => (if bt103.2 = 0 then (AM.caesuralaw02_AtomMore.j1 k bt103.1 bt116.1 bt116.2 (bt116.2 != 0)) else (AM.caesuralaw02_AtomMore.j1 k bt103.1 bt116.1 bt116.2 true))) else (none))) else (none)))) (fun k => by rw [AM.caesuralaw02_AtomMore.j0, if_neg (by decide)]) ?_
    have mid : ∀ {a : List (List S34) × Int} {b : List (List S34) × Int}, atom_Of.f l0 = some a → atom_Of.f (l0 ++ [s]) = some b → Ev (fun k => if a.2 = 0 then (AM.caesuralaw02_AtomMore.j1 k a.1 b.1 b.2 (b.2 != 0)) else (AM.caesuralaw02_AtomMore.j1 k a.1 b.1 b.2 true)) true → Ev (fun k => (atom_Of.f l0).bind fun bt103 => ((some (([] : List (List (S34))) : List (List (S34)))).bind fun y107 => (if y107.length + l0.length < 5864062014805 then ((some (y107 ++ l0 : List (List (S34)))).bind fun y110 => (if y110.length < 5864062014805 then ((atom_Of.f (y110 ++ [s])).bind fun bt116 => (if bt103.2 = 0 then (AM.caesuralaw02_AtomMore.j1 k bt103.1 bt116.1 bt116.2 (bt116.2 != 0)) else (AM.caesuralaw02_AtomMore.j1 k bt103.1 bt116.1 bt116.2 true))) else (none))) else (none)))) true := by
      intro a b h1 h2 h
      refine Ev.bind ⟨0, fun _ _ => h1⟩ ?_
      refine Ev.bind (a := []) (Ev.now _) (ev_if (by rw [List.length_nil]; omega) ?_)
      refine Ev.bind (a := l0) (by rw [List.nil_append]; exact Ev.now _) (ev_if (by omega) ?_)
      exact Ev.bind ⟨0, fun _ _ => h2⟩ h
    have hj1 : ∀ a b e, Ev (fun k => AM.caesuralaw02_AtomMore.j1 k a b e true) (e == 9) := fun a b e => Ev.step (f := fun _ => some (e == 9)) (fun k => by rw [AM.caesuralaw02_AtomMore.j1, if_pos rfl]) (Ev.now _)
    cases q1 : badB l0 with
    | true => exact mid (of_bad f q1) (of_bad f2 (bad_more (s := s) f f2 q1)) (ev_else (by decide) (hj1 _ _ 9))
    | false =>
      cases q2 : badB (l0 ++ [s]) with
      | true => exact mid (of_ok f q1) (of_bad f2 q2) (ev_if rfl (hj1 _ _ 9))
      | false =>
        refine mid (of_ok f q1) (of_ok f2 q2) (ev_if rfl ?_)
        obtain ⟨ha, hc, hS, hL⟩ := of_good f q1
        obtain ⟨ha2, hc2, hS2, hL2⟩ := of_good f2 q2
        show Ev (fun k => AM.caesuralaw02_AtomMore.j1 k (clsL l0) (clsL (l0 ++ [s])) 0 false) true
        obtain ⟨T, hT, e1, _⟩ := sigs_of ha
        obtain ⟨U, hU, e2, _⟩ := sigs_of ha2
        have hm := hT.more hU
        have n1 : (clsL l0).length = T.length := by rw [e1, List.length_map]
        have n2 : (clsL (l0 ++ [s])).length = U.length := by rw [e2, List.length_map]
        clear e1 e2
        generalize clsL l0 = a at *
        generalize clsL (l0 ++ [s]) = b at *
        refine Ev.step (f := fun k => AM.caesuralaw02_AtomMore.j2 k a b false) (fun k => by
          rw [AM.caesuralaw02_AtomMore.j1, if_neg (by decide), if_neg (by omega), w64 (n := 2 * (a.length : Int)) (by omega) (by omega), decide_eq_false (by omega)]) ?_
        exact Ev.step (f := fun k => AM.caesuralaw02_AtomMore.l0 k a b 0) (fun k => by rw [AM.caesuralaw02_AtomMore.j2, if_neg (by decide)]) (more_loop hc hS hc2 hS2 hL2 hL b.length 0 (by omega))
end Go.Proofs.Ytippkbgeeeimjaa.P
