/- AtomTurned, in plain Lean. -/
import Derived.Test.YtippkbgeeeimjaaATx1
import Derived.Test.YtippkbgeeeimjaaZE
namespace Go.Proofs.Ytippkbgeeeimjaa.P
open Go.RowKit Go.Proofs.YtippkbgeeeimjaaW.PrintWords Go.Proofs.Ytippkbgeeeimjaa.A Go.Proofs.Ytippkbgeeeimjaa.L Go.Proofs.Ytippkbgeeeimjaa.B Go.Proofs.Ytippkbgeeeimjaa.D
set_option linter.unusedVariables false
set_option linter.unusedSimpArgs false
theorem mod_at' {n : Nat} (hn : 0 < n) {a : Int} (h0 : 0 ≤ a) (h1 : a ≤ 255) : ∃ i : Nat, i < n ∧ Int.tmod (wrap64 a) (n : Int) = i := by
  rw [w64 (by omega) (by omega), Int.tmod_eq_emod_of_nonneg h0]
  have e0 := Int.emod_nonneg a (show (n : Int) ≠ 0 by omega)
  have e1 := Int.emod_lt_of_pos a (show (0 : Int) < n by omega)
  exact ⟨(a % (n : Int)).toNat, by omega, by omega⟩
theorem len_sum' {l0 : List (List S34)} {x : List S34} (h : x ∈ l0) : x.length ≤ (l0.map List.length).sum := by
  induction l0 with
  | nil => cases h
  | cons y l0 ih =>
    rw [List.map_cons, List.sum_cons]
    rcases List.mem_cons.1 h with rfl | h
    · omega
    · have := ih h
      omega
theorem same_rows (L : List (List S34)) (hl : L.length ≤ 100000) (h : ∀ x ∈ L, (x.length : Int) ≤ 9223372036854775806) : Ev (fun k => caesuraref02_Same.f k L L) true := by
  unfold caesuraref02_Same.f
  refine ev_if rfl ?_
  have go : ∀ d i : Nat, i + d = L.length → Ev (fun k => caesuraref02_Same.l0 k L L (i : Int)) true := by
    intro d
    induction d with
    | zero =>
      intro i hi
      exact Ev.step (f := fun _ => some true) (fun k => by rw [caesuraref02_Same.l0, if_neg (by omega)]) (Ev.now _)
    | succ d ih =>
      intro i hi
      have hlt : i < L.length := by omega
      have hg : L[i]? = some L[i] := List.getElem?_eq_getElem hlt
      have hn := ih (i + 1) (by omega)
      rw [show ((i + 1 : Nat) : Int) = (i : Int) + 1 from by omega] at hn
      refine Ev.step (f := fun k => (caesuraref01_Ranges.f k L[i] L[i]).bind fun t118 => (if t118 = true then (caesuraref02_Same.l0 k L L ((i : Int) + 1)) else (some false))) (fun k => by
        rw [caesuraref02_Same.l0, if_pos (by omega), if_pos (show (0 : Int) ≤ (i : Int) by omega), if_pos (by omega), rd3 hg, w64 (n := (i : Int) + 1) (by omega) (by omega)]) ?_
      exact Ev.bind (rng_ev (h _ (List.getElem_mem hlt)) true (by simp)).1 (ev_if rfl hn)
  exact go L.length 0 (by omega)
theorem turned_sig {l0 : List (List S34)} {s : List S34} (hs : s ∈ l0) (hl : s.length + 1 ≤ 400) {c d : Int} (c0 : 0 ≤ c) (c1 : c ≤ 1114111) (d0 : 0 ≤ d) (d1 : d ≤ 1114111) : sigF l0 c = sigF l0 d ↔ sigF (l0.reverse ++ [s] ++ [notF s]) c = sigF (l0.reverse ++ [s] ++ [notF s]) d := by
  constructor
  · intro h
    unfold sigF
    refine List.map_inj_left.2 fun t ht => ?_
    simp only [List.mem_append, List.mem_reverse, List.mem_singleton] at ht
    rcases ht with (ht | ht) | ht
    · exact sig_has h ht
    · rw [ht]; exact sig_has h hs
    · rw [ht, has_not hl c0 c1, has_not hl d0 d1, sig_has h hs]
  · intro h
    unfold sigF
    refine List.map_inj_left.2 fun t ht => ?_
    refine sig_has h ?_
    simp only [List.mem_append, List.mem_reverse]
    exact Or.inl (Or.inl ht)
theorem turned_few {l0 : List (List S34)} {s : List S34} (hs : s ∈ l0) (hl : s.length + 1 ≤ 400) (f : Few l0 (edgesOf l0)) : Few (l0.reverse ++ [s] ++ [notF s]) (edgesOf l0) :=
  ⟨fun c h0 h1 h => f.at_ c h0 h1 fun e => h ((turned_sig hs hl (by omega) h1 (by omega) (by omega)).1 e), f.le⟩
theorem turned_bad {l0 : List (List S34)} {s : List S34} (hs : s ∈ l0) (hsum : (l0.map List.length).sum ≤ 150) (h25 : l0.length ≤ 25) (f : Few l0 (edgesOf l0)) : clsL (l0.reverse ++ [s] ++ [notF s]) = clsL l0 ∧ badB (l0.reverse ++ [s] ++ [notF s]) = badB l0 := by
  have hl := len_sum' hs
  have hl2 : s.length + 1 ≤ 400 := by omega
  have e : clsL (l0.reverse ++ [s] ++ [notF s]) = clsL l0 := (cls_one (fun c d c0 c1 d0 d1 => turned_sig hs hl2 c0 c1 d0 d1) (clsL_cls f) (clsL_cls (turned_few hs hl2 f))).symm
  refine ⟨e, ?_⟩
  have long : ∀ L : List (List S34), (∀ x ∈ L, x.length ≤ 400) → longF L = false := by
    intro L h
    unfold longF
    rw [List.any_eq_false]
    intro x hx
    have := h x hx
    simp only [decide_eq_true_eq]
    omega
  unfold badB
  rw [e, long l0 fun x hx => by have := len_sum' hx; omega, long _ fun x hx => by
    simp only [List.mem_append, List.mem_reverse, List.mem_singleton] at hx
    rcases hx with (hx | hx) | hx
    · have := len_sum' hx; omega
    · rw [hx]; omega
    · rw [hx]
      have := len_not s
      omega]
  rw [decide_eq_false (by omega : ¬ 60 < l0.length), decide_eq_false]
  simp only [List.length_append, List.length_reverse, List.length_singleton]
  omega
theorem turned_loop (l0 : List (List S34)) (a1 : Int) (a : List (List S34)) (e : Int) (h25 : l0.length ≤ 25)
    (hfin : Ev (fun k => AT.caesuralaw02_AtomTurned.l0 k l0 a1 a e l0.reverse (-1)) true) :
    ∀ i : Nat, i ≤ l0.length → Ev (fun k => AT.caesuralaw02_AtomTurned.l0 k l0 a1 a e (l0.drop i).reverse ((i : Int) - 1)) true := by
  intro i
  induction i with
  | zero =>
    intro _
    rw [List.drop_zero]
    exact hfin
  | succ i ih =>
    intro hi
    have hlt : i < l0.length := by omega
    have hg : l0[i]? = some l0[i] := List.getElem?_eq_getElem hlt
    have hrow : AT.rd_L2 l0 (i : Int) = l0[i] := rd3 hg
    have hn := ih (by omega)
    rw [List.drop_eq_getElem_cons hlt, List.reverse_cons] at hn
    rw [show ((i + 1 : Nat) : Int) - 1 = (i : Int) from by omega]
    refine Ev.step (f := fun k => AT.caesuralaw02_AtomTurned.l0 k l0 a1 a e ((l0.drop (i + 1)).reverse ++ [l0[i]]) ((i : Int) - 1)) (fun k => by
      rw [AT.caesuralaw02_AtomTurned.l0, if_pos (show (i : Int) ≥ 0 by omega), if_pos (show (0 : Int) ≤ (i : Int) by omega), if_pos (by omega), hrow, w64 (n := (i : Int) - 1) (by omega) (by omega), if_pos (by rw [List.length_reverse, List.length_drop]; omega)]) hn
theorem turned_law (l0 : List (List S34)) (a1 : Int) (h0 : 0 ≤ a1) (h1 : a1 ≤ 255) (hs : X.SmallL l0) : Ev (fun k => AT.caesuralaw02_AtomTurned.f k l0 a1) true := by
  obtain ⟨b, hb, hb2⟩ := great_ev l0 150 (by decide) hs
  unfold AT.caesuralaw02_AtomTurned.f
  refine Ev.bind (a := true) ⟨0, fun _ _ => rfl⟩ (ev_if rfl ?_)
  refine Ev.bind hb ?_
  have htrue : Ev (fun k => AT.caesuralaw02_AtomTurned.j0 k l0 a1 true) true := Ev.step (f := fun _ => some true) (fun k => by rw [AT.caesuralaw02_AtomTurned.j0, if_pos rfl]) (Ev.now _)
  cases b with
  | true => exact ev_if rfl htrue
  | false =>
    refine ev_else (by decide) ?_
    have hsum := hb2 rfl
    by_cases hz : l0.length = 0
    · exact ev_if (by omega) htrue
    refine ev_else (by omega) ?_
    by_cases h25 : (l0.length : Int) > 25
    · rw [decide_eq_true h25]
      exact htrue
    rw [decide_eq_false h25]
    have f : Few l0 (edgesOf l0) := few_edges (by omega)
    obtain ⟨i, hi, ei⟩ := mod_at' (n := l0.length) (by omega) h0 h1
    have hg : l0[i]? = some l0[i] := List.getElem?_eq_getElem hi
    have hmem : l0[i] ∈ l0 := List.getElem_mem hi
    have hrow : AT.rd_L2 l0 (i : Int) = l0[i] := rd3 hg
    have hlen := len_sum' hmem
    generalize l0[i] = s at *
    have hl2 : s.length + 1 ≤ 400 := by omega
    have f2 := turned_few hmem hl2 f
    obtain ⟨hcl, hbd⟩ := turned_bad hmem (by omega) (by omega) f
    have o1 := of_f f
    have o2 := of_f f2
    rw [hcl, hbd] at o2
    obtain ⟨p, hp⟩ : ∃ p : List (List S34) × Int, p = (if badB l0 then [] else clsL l0, if badB l0 then 9 else 0) := ⟨_, rfl⟩
    rw [← hp] at o1 o2
    have hrows : p.1.length ≤ 100000 ∧ ∀ x ∈ p.1, (x.length : Int) ≤ 9223372036854775806 := by
      rw [hp]
      cases q : badB l0 with
      | true => exact ⟨Nat.zero_le _, fun x hx => by cases hx⟩
      | false =>
        obtain ⟨ha, hc, hS, hL⟩ := of_good f q
        show (clsL l0).length ≤ 100000 ∧ ∀ x ∈ clsL l0, (x.length : Int) ≤ 9223372036854775806
        exact ⟨by omega, fun x hx => by have := hS x hx; omega⟩
    refine Ev.step (f := fun k => (atom_Of.f l0).bind fun bt103 => AT.caesuralaw02_AtomTurned.l0 k l0 a1 bt103.1 bt103.2 ([] : List (List (S34))) ((l0.length : Int) - 1)) (fun k => by
      rw [AT.caesuralaw02_AtomTurned.j0, if_neg (by decide), w64 (n := (l0.length : Int) - 1) (by omega) (by omega)]) ?_
    refine Ev.bind ⟨0, fun _ _ => o1⟩ ?_
    have := turned_loop l0 a1 p.1 p.2 (by omega) ?_ l0.length (Nat.le_refl _)
    · rw [List.drop_length] at this
      exact this
    · refine Ev.step (f := fun k => (some (l0.reverse ++ [s] : List (List (S34)))).bind fun y112 => ((caesuraref01_Not.f s).bind fun t115 => (if y112.length < 5864062014805 then ((atom_Of.f (y112 ++ [t115])).bind fun bt121 => (if p.2 = bt121.2 then ((caesuraref02_Same.f k p.1 bt121.1).bind fun t125 => (some t125)) else (some false))) else (none)))) (fun k => by
        rw [AT.caesuralaw02_AtomTurned.l0, if_neg (by decide), if_neg (by omega), ei, if_pos (by omega), if_pos (by omega), if_pos (by rw [List.length_reverse]; omega), hrow]) ?_
      refine Ev.bind (a := l0.reverse ++ [s]) (Ev.now _) ?_
      refine Ev.bind ⟨0, fun _ _ => refnot s⟩ ?_
      refine ev_if (by rw [List.length_append, List.length_reverse, List.length_singleton]; omega) ?_
      refine Ev.bind ⟨0, fun _ _ => o2⟩ (ev_if rfl ?_)
      exact Ev.bind (same_rows p.1 hrows.1 hrows.2) (Ev.now _)
end Go.Proofs.Ytippkbgeeeimjaa.P
