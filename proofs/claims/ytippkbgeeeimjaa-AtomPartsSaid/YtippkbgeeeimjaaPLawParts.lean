/- AtomParts, in plain Lean. -/
import Derived.Test.YtippkbgeeeimjaaAPx1
import Derived.Test.YtippkbgeeeimjaaZE
namespace Go.Proofs.Ytippkbgeeeimjaa.P
open Go.RowKit Go.Proofs.YtippkbgeeeimjaaW.PrintWords Go.Proofs.Ytippkbgeeeimjaa.A Go.Proofs.Ytippkbgeeeimjaa.L Go.Proofs.Ytippkbgeeeimjaa.B Go.Proofs.Ytippkbgeeeimjaa.D
set_option linter.unusedVariables false
set_option linter.unusedSimpArgs false
theorem parts_inner (l0 : List (List S34)) (a1 a2 : Int) (L : List (List S34)) (same : Bool) (i : Nat) (hi : i < l0.length) (hl0 : l0.length ≤ 100000) (hL : L.length ≤ 200) (hS : Short L) (w : List Int) (hw : ∀ k ∈ w, 0 ≤ k ∧ k < (L.length : Int)) (hwl : w.length ≤ 200)
    (hn : Ev (fun k => AP.caesuralaw02_AtomParts.l0 k l0 a1 a2 L same ((i : Int) + 1)) true) (s : List S34) (hs : l0[i]? = some s) :
    ∀ d j : Nat, j + d = w.length → ∀ acc : List S34, acc.length ≤ 400 * j → ((acc ++ ((w.drop j).map (rd_L3 L)).flatten).length ≤ 400 → sameF (acc ++ ((w.drop j).map (rd_L3 L)).flatten) s = true) → Ev (fun k => AP.caesuralaw02_AtomParts.l1 k l0 a1 a2 L same (i : Int) acc w (j : Int)) true := by
  intro d
  induction d with
  | zero =>
    intro j hj acc ha hsm
    rw [List.drop_eq_nil_iff.2 (by omega), List.map_nil, List.flatten_nil, List.append_nil] at hsm
    refine Ev.step (f := fun k => if (acc.length : Int) ≤ 400 then ((caesuraref01_Same.f k acc s).bind fun t125 => (if t125 = true then (AP.caesuralaw02_AtomParts.l0 k l0 a1 a2 L same ((i : Int) + 1)) else (some false))) else (AP.caesuralaw02_AtomParts.l0 k l0 a1 a2 L same ((i : Int) + 1))) (fun k => by
      rw [AP.caesuralaw02_AtomParts.l1, if_neg (by omega), if_pos (show (0 : Int) ≤ (i : Int) by omega), if_pos (show (i : Int) < (l0.length : Int) by omega), w64 (n := (i : Int) + 1) (by omega) (by omega)]
      rw [show AP.rd_L2 l0 (i : Int) = s from rd3 hs]) ?_
    by_cases q : (acc.length : Int) ≤ 400
    · refine ev_if q ?_
      have hq := hsm (by omega)
      have := ref_same acc s
      rw [hq] at this
      exact Ev.bind this (ev_if rfl hn)
    · exact ev_else q hn
  | succ d ih =>
    intro j hj acc ha hsm
    have hlt : j < w.length := by omega
    have hg : w[j]? = some w[j] := List.getElem?_eq_getElem hlt
    have hk := hw _ (List.getElem_mem hlt)
    have hrd : rd w (j : Int) = w[j] := by
      unfold rd
      rw [Int.toNat_natCast, List.getD_eq_getElem?_getD, hg]
      rfl
    have hrow : (rd_L3 L w[j]).length ≤ 400 := by
      unfold rd_L3
      rw [List.getD_eq_getElem?_getD, List.getElem?_eq_getElem (by omega)]
      exact hS _ (List.getElem_mem _)
    rw [List.drop_eq_getElem_cons hlt, List.map_cons, List.flatten_cons, ← List.append_assoc] at hsm
    have := ih (j + 1) (by omega) (acc ++ rd_L3 L w[j]) (by rw [List.length_append]; omega) hsm
    refine Ev.step (f := fun k => AP.caesuralaw02_AtomParts.l1 k l0 a1 a2 L same (i : Int) (acc ++ rd_L3 L w[j]) w ((j : Int) + 1)) (fun k => by
      rw [AP.caesuralaw02_AtomParts.l1, if_pos (by omega), if_pos (show (0 : Int) ≤ (j : Int) by omega), hrd, if_pos hk.1, if_pos hk.2, w64 (n := (j : Int) + 1) (by omega) (by omega)]
      rw [show AP.rd_L2 L w[j] = rd_L3 L w[j] from rfl, if_pos (by omega)]) ?_
    rw [show (j : Int) + 1 = ((j + 1 : Nat) : Int) from by omega]
    exact this
theorem parts_outer (l0 : List (List S34)) (a1 a2 : Int) (L : List (List S34)) (same : Bool) (hl0 : l0.length ≤ 100000) (h : Cls l0 L) (hS : Short L) (hL : L.length ≤ 200) (hsame : same = true → ∀ s ∈ l0, hasF s a1 = hasF s a2) :
    ∀ d i : Nat, i + d = l0.length → Ev (fun k => AP.caesuralaw02_AtomParts.l0 k l0 a1 a2 L same (i : Int)) true := by
  intro d
  induction d with
  | zero =>
    intro i hi
    exact Ev.step (f := fun _ => some true) (fun k => by rw [AP.caesuralaw02_AtomParts.l0, if_neg (by omega)]) (Ev.now _)
  | succ d ih =>
    intro i hi
    have hlt : i < l0.length := by omega
    have hg : l0[i]? = some l0[i] := List.getElem?_eq_getElem hlt
    have hn := ih (i + 1) (by omega)
    rw [show ((i + 1 : Nat) : Int) = (i : Int) + 1 from by omega] at hn
    have hmem : l0[i] ∈ l0 := List.getElem_mem hlt
    have hj3 : Ev (fun k => AP.caesuralaw02_AtomParts.j3 k l0 a1 a2 L same (i : Int) false) true := by
      refine Ev.step (f := fun k => (atom_Within.f k L l0[i]).bind fun t116 => AP.caesuralaw02_AtomParts.l1 k l0 a1 a2 L same (i : Int) ([] : List S34) t116 0) (fun k => by
        rw [AP.caesuralaw02_AtomParts.j3, if_neg (by decide), if_pos (show (0 : Int) ≤ (i : Int) by omega), if_pos (show (i : Int) < (l0.length : Int) by omega)]
        rw [show AP.rd_L2 l0 (i : Int) = l0[i] from rd3 hg]) ?_
      refine Ev.bind (within_f L l0[i] (by omega)) ?_
      have hr := within_rows L l0[i]
      refine parts_inner l0 a1 a2 L same i hlt hl0 hL hS (withinF L l0[i]) (fun k hk => ?_) (Nat.le_trans (wi_len _ _) (by rw [List.length_map]; exact hL)) hn _ hg (withinF L l0[i]).length 0 (by omega) [] (Nat.zero_le _) ?_
      · have := wi_rng _ _ k hk
        rw [List.length_map] at this
        omega
      · rw [List.drop_zero, List.nil_append, hr]
        exact within_same h hS fun c d _ _ _ _ e => sig_has e hmem
    cases same with
    | false =>
      refine Ev.step (f := fun k => AP.caesuralaw02_AtomParts.j3 k l0 a1 a2 L false (i : Int) false) (fun k => by
        rw [AP.caesuralaw02_AtomParts.l0, if_pos (by omega), if_neg (by decide)]) hj3
    | true =>
      refine Ev.step (f := fun k => (caesuraref01_Has.f k l0[i] a1).bind fun t112 => ((caesuraref01_Has.f k l0[i] a2).bind fun t114 => (AP.caesuralaw02_AtomParts.j3 k l0 a1 a2 L true (i : Int) (t112 != t114)))) (fun k => by
        rw [AP.caesuralaw02_AtomParts.l0, if_pos (by omega), if_pos rfl, if_pos (show (0 : Int) ≤ (i : Int) by omega)]
        rw [show AP.rd_L2 l0 (i : Int) = l0[i] from rd3 hg]) ?_
      refine Ev.bind (ref_has _ _) (Ev.bind (ref_has _ _) ?_)
      rw [hsame rfl _ hmem, bne_self_eq_false]
      exact hj3
theorem parts_law (l0 : List (List S34)) (a1 a2 : Int) (hs : X.SmallL l0) : Ev (fun k => AP.caesuralaw02_AtomParts.f k l0 a1 a2) true := by
  obtain ⟨b, hb, hb2⟩ := great_ev l0 200 (by decide) hs
  unfold AP.caesuralaw02_AtomParts.f
  refine Ev.bind (a := true) ⟨0, fun _ _ => rfl⟩ (ev_if rfl ?_)
  refine Ev.bind hb ?_
  cases b with
  | true => exact ev_if rfl (Ev.now _)
  | false =>
    refine ev_else (by decide) ?_
    have hsum := hb2 rfl
    have f : Few l0 (edgesOf l0) := few_edges (by omega)
    cases hbad : badB l0 with
    | true => exact Ev.bind ⟨0, fun _ _ => of_bad f hbad⟩ (ev_else (by decide) (ev_if rfl (Ev.now _)))
    | false =>
      refine Ev.bind ⟨0, fun _ _ => of_ok f hbad⟩ (ev_if rfl ?_)
      obtain ⟨ha, hc, hS, hL⟩ := of_good f hbad
      show Ev (fun k => (atom_Right.f (clsL l0)).bind _) true
      generalize clsL l0 = L at *
      refine Ev.bind (a := true) ⟨0, fun _ _ => congrArg some (cls_right ha hc hS hL)⟩ (ev_if rfl ?_)
      have hj1 : ∀ same, (same = true → ∀ s ∈ l0, hasF s a1 = hasF s a2) → Ev (fun k => AP.caesuralaw02_AtomParts.j1 k l0 a1 a2 L same) true := fun same h => Ev.step (f := fun k => AP.caesuralaw02_AtomParts.l0 k l0 a1 a2 L same 0) (fun k => by rw [AP.caesuralaw02_AtomParts.j1]) (parts_outer l0 a1 a2 L same (by omega) hc hS hL h l0.length 0 (by omega))
      have hj0 : ∀ is : Bool, (is = true ↔ 0 ≤ a1 ∧ a1 ≤ 1114111) → Ev (fun k => AP.caesuralaw02_AtomParts.j0 k l0 a1 a2 L is) true := by
        intro is his
        have hcl : decide (classF L a1 ≥ 0) = is := by
          by_cases q : 0 ≤ a1 ∧ a1 ≤ 1114111
          · obtain ⟨k, e, _⟩ := class_at hc hS q.1 q.2
            rw [his.2 q, e]
            exact decide_eq_true (by omega)
          · rw [class_none hc hS q]
            cases is with
            | true => exact absurd (his.1 rfl) q
            | false => rfl
        refine Ev.step (f := fun k => (atom_Class.f L a1).bind fun t108 => (if ((decide (t108 ≥ 0)) != is) = true then (some false) else (if is = true then ((atom_Class.f L a1).bind fun t109 => ((atom_Class.f L a2).bind fun t110 => (AP.caesuralaw02_AtomParts.j1 k l0 a1 a2 L (t109 == t110)))) else (AP.caesuralaw02_AtomParts.j1 k l0 a1 a2 L false)))) (fun k => by rw [AP.caesuralaw02_AtomParts.j0]) ?_
        refine Ev.bind (a := classF L a1) ⟨0, fun _ _ => rfl⟩ ?_
        rw [hcl, bne_self_eq_false]
        refine ev_else (by decide) ?_
        cases is with
        | false => exact ev_else (by decide) (hj1 false fun q => by cases q)
        | true =>
          refine ev_if rfl ?_
          refine Ev.bind (a := classF L a1) ⟨0, fun _ _ => rfl⟩ ?_
          refine Ev.bind (a := classF L a2) ⟨0, fun _ _ => rfl⟩ ?_
          refine hj1 _ fun q s hsm => ?_
          have q := beq_iff_eq.1 q
          obtain ⟨i0, i1⟩ := his.1 rfl
          obtain ⟨k, e, hk⟩ := class_at hc hS i0 i1
          by_cases r : 0 ≤ a2 ∧ a2 ≤ 1114111
          · obtain ⟨k2, e2, hk2⟩ := class_at hc hS r.1 r.2
            have : k = k2 := by omega
            subst this
            rw [hk] at hk2
            have e3 := cls_sig i0 i1 (Option.some.inj hk2)
            rw [hasF_in i0 i1, hasF_in r.1 r.2, sig_has e3 hsm]
          · rw [class_none hc hS r] at q
            omega
      by_cases q : a1 ≥ 0
      · refine ev_if q (hj0 _ ?_)
        simp only [decide_eq_true_eq]
        omega
      · refine ev_else q (hj0 _ ?_)
        constructor
        · intro h; cases h
        · intro h; omega
end Go.Proofs.Ytippkbgeeeimjaa.P
