/- AtomWithin, in plain Lean. -/
import Derived.Test.YtippkbgeeeimjaaAWx1
import Derived.Test.YtippkbgeeeimjaaZE
namespace Go.Proofs.Ytippkbgeeeimjaa.P
open Go.RowKit Go.Proofs.YtippkbgeeeimjaaW.PrintWords Go.Proofs.Ytippkbgeeeimjaa.A Go.Proofs.Ytippkbgeeeimjaa.L Go.Proofs.Ytippkbgeeeimjaa.B Go.Proofs.Ytippkbgeeeimjaa.D
set_option linter.unusedVariables false
set_option linter.unusedSimpArgs false
theorem wi_mem {s : List S34} : ∀ (fs : List Int) (i : Nat) (k : Int), k ∈ wiF s fs i → ∃ j : Nat, ∃ f, fs[j]? = some f ∧ k = ((i + j : Nat) : Int) ∧ hasF s f = true
  | [], _, k, hk => by cases hk
  | f :: fs, i, k, hk => by
    rw [wiF] at hk
    have ih := wi_mem (s := s) fs (i + 1) k
    split at hk
    · rename_i q
      rcases List.mem_cons.1 hk with rfl | hk
      · exact ⟨0, f, rfl, by omega, q⟩
      · obtain ⟨j, g, h1, h2, h3⟩ := ih hk
        exact ⟨j + 1, g, h1, by omega, h3⟩
    · obtain ⟨j, g, h1, h2, h3⟩ := ih hk
      exact ⟨j + 1, g, h1, by omega, h3⟩
theorem wi_nodup {s : List S34} : ∀ (fs : List Int) (i : Nat), (wiF s fs i).Nodup
  | [], _ => List.nodup_nil
  | f :: fs, i => by
    rw [wiF]
    have ih := wi_nodup (s := s) fs (i + 1)
    split
    · refine List.nodup_cons.2 ⟨fun h => ?_, ih⟩
      have := (wi_rng fs (i + 1) _ h).1
      omega
    · exact ih
theorem wi_both {s t : List S34} : ∀ (fs : List Int) (i : Nat), (∀ f ∈ fs, hasF t f = !hasF s f) → (wiF s fs i).length + (wiF t fs i).length = fs.length
  | [], _, _ => rfl
  | f :: fs, i, h => by
    have ih := wi_both (s := s) (t := t) fs (i + 1) fun g hg => h g (List.mem_cons_of_mem _ hg)
    have hf := h f (List.mem_cons_self ..)
    rw [wiF, wiF, hf]
    cases q : hasF s f <;> simp <;> omega
theorem wi_app {s t : List S34} (fs : List Int) (h : ∀ f ∈ fs, hasF t f = !hasF s f) : (wiF s fs 0 ++ wiF t fs 0).Nodup := by
  rw [List.nodup_append]
  refine ⟨wi_nodup _ _, wi_nodup _ _, fun a ha b hb e => ?_⟩
  obtain ⟨j, f, h1, h2, h3⟩ := wi_mem _ _ _ ha
  obtain ⟨j2, f2, k1, k2, k3⟩ := wi_mem _ _ _ hb
  have : j = j2 := by omega
  subst this
  rw [h1] at k1
  obtain rfl := Option.some.inj k1
  rw [h f (List.mem_of_getElem? h1), h3] at k3
  cases k3
theorem within_l1 {sets L : List (List S34)} (h : Cls sets L) (hS : Short L) (hL : L.length ≤ 200) (all : List Int) (hlen : all.length = L.length) :
    ∀ d j : Nat, j + d = L.length → Ev (fun k => AW.caesuralaw02_AtomWithin.l1 k L all (L.map firstF) (j : Int)) true := by
  intro d
  induction d with
  | zero =>
    intro j hj
    refine Ev.step (f := fun _ => some true) (fun k => by
      rw [AW.caesuralaw02_AtomWithin.l1, if_neg (by rw [List.length_map]; omega), hlen, beq_self_eq_true]) (Ev.now _)
  | succ d ih =>
    intro j hj
    have hlt : j < L.length := by omega
    have hg : L[j]? = some L[j] := List.getElem?_eq_getElem hlt
    have hrd : rd (L.map firstF) (j : Int) = firstF L[j] := by
      unfold rd
      rw [Int.toNat_natCast, List.getD_eq_getElem?_getD, List.getElem?_map, hg]
      rfl
    have := ih (j + 1) (by omega)
    rw [show ((j + 1 : Nat) : Int) = (j : Int) + 1 from by omega] at this
    refine Ev.step (f := fun k => (atom_Class.f L (firstF L[j])).bind fun t139 => (if t139 = (j : Int) then (AW.caesuralaw02_AtomWithin.l1 k L all (L.map firstF) ((j : Int) + 1)) else (some false))) (fun k => by
      rw [AW.caesuralaw02_AtomWithin.l1, if_pos (by rw [List.length_map]; omega), if_pos (show (0 : Int) ≤ (j : Int) by omega), hrd, w64 (n := (j : Int) + 1) (by omega) (by omega)]) ?_
    refine Ev.bind (a := (j : Int)) ⟨0, fun _ _ => congrArg some (class_get h hS hg)⟩ (ev_if rfl this)
theorem within_l0 (L : List (List S34)) (hL : L.length ≤ 200) (all : List Int) (hb : ∀ k ∈ all, 0 ≤ k ∧ k < (L.length : Int)) (hnd : all.Nodup) (hal : all.length ≤ 400)
    (hn : Ev (fun k => (atom_Firsts.f k L).bind fun t135 => AW.caesuralaw02_AtomWithin.l1 k L all t135 0) true) :
    ∀ d j : Nat, j + d = all.length → ∀ met : List Bool, met.length = L.length → (∀ k ∈ all.drop j, rdOf false met k = false) → Ev (fun k => AW.caesuralaw02_AtomWithin.l0 k L met all (j : Int)) true := by
  intro d
  induction d with
  | zero =>
    intro j hj met hm hf
    exact Ev.step (f := fun k => (atom_Firsts.f k L).bind fun t135 => AW.caesuralaw02_AtomWithin.l1 k L all t135 0) (fun k => by rw [AW.caesuralaw02_AtomWithin.l0, if_neg (by omega)]) hn
  | succ d ih =>
    intro j hj met hm hf
    have hlt : j < all.length := by omega
    have hg : all[j]? = some all[j] := List.getElem?_eq_getElem hlt
    have hk := hb _ (List.getElem_mem hlt)
    have hrd : rd all (j : Int) = all[j] := by
      unfold rd
      rw [Int.toNat_natCast, List.getD_eq_getElem?_getD, hg]
      rfl
    have hd := List.drop_eq_getElem_cons hlt
    rw [hd] at hf
    have hmet := hf _ (List.mem_cons_self ..)
    have hnd2 : all[j] ∉ all.drop (j + 1) := by
      have : (all.drop j).Nodup := hnd.sublist (List.drop_sublist _ _)
      rw [hd] at this
      exact (List.nodup_cons.1 this).1
    have := ih (j + 1) (by omega) (met.set all[j].toNat true) (by rw [List.length_set, hm]) fun k hk' => by
      have hne : all[j] ≠ k := fun e => hnd2 (e ▸ hk')
      have hk2 := hb k (List.mem_of_mem_drop hk')
      have := hf k (List.mem_cons_of_mem _ hk')
      unfold rdOf at this ⊢
      rw [List.getD_eq_getElem?_getD] at this ⊢
      rw [List.getElem?_set_ne (by omega)]
      exact this
    rw [show ((j + 1 : Nat) : Int) = (j : Int) + 1 from by omega] at this
    refine Ev.step (f := fun k => AW.caesuralaw02_AtomWithin.l0 k L (met.set all[j].toNat true) all ((j : Int) + 1)) (fun k => by
      rw [AW.caesuralaw02_AtomWithin.l0, if_pos (by omega), if_pos (show (0 : Int) ≤ (j : Int) by omega), hrd, if_neg (by omega), if_neg (by omega), if_pos (by omega), if_pos (by omega), hmet, if_neg (by decide), w64 (n := (j : Int) + 1) (by omega) (by omega)]) this
theorem mod_at {n : Nat} (hn : 0 < n) {a : Int} (h0 : 0 ≤ a) (h1 : a ≤ 255) : ∃ i : Nat, i < n ∧ Int.tmod (wrap64 a) (n : Int) = i := by
  rw [w64 (by omega) (by omega), Int.tmod_eq_emod_of_nonneg h0]
  have e0 := Int.emod_nonneg a (show (n : Int) ≠ 0 by omega)
  have e1 := Int.emod_lt_of_pos a (show (0 : Int) < n by omega)
  exact ⟨(a % (n : Int)).toNat, by omega, by omega⟩
theorem len_sum {l0 : List (List S34)} {x : List S34} (h : x ∈ l0) : x.length ≤ (l0.map List.length).sum := by
  induction l0 with
  | nil => cases h
  | cons y l0 ih =>
    rw [List.map_cons, List.sum_cons]
    rcases List.mem_cons.1 h with rfl | h
    · omega
    · have := ih h
      omega
theorem within_law (l0 : List (List S34)) (a1 : Int) (h0 : 0 ≤ a1) (h1 : a1 ≤ 255) (hs : X.SmallL l0) : Ev (fun k => AW.caesuralaw02_AtomWithin.f k l0 a1) true := by
  obtain ⟨b, hb, hb2⟩ := great_ev l0 200 (by decide) hs
  unfold AW.caesuralaw02_AtomWithin.f
  refine Ev.bind (a := true) ⟨0, fun _ _ => rfl⟩ (ev_if rfl ?_)
  refine Ev.bind hb ?_
  have htrue : Ev (fun k => AW.caesuralaw02_AtomWithin.j0 k l0 a1 true) true := Ev.step (f := fun _ => some true) (fun k => by rw [AW.caesuralaw02_AtomWithin.j0, if_pos rfl]) (Ev.now _)
  cases b with
  | true => exact ev_if rfl htrue
  | false =>
    refine ev_else (by decide) ?_
    have hsum := hb2 rfl
    by_cases hz : l0.length = 0
    · rw [show ((l0.length : Int) == 0) = true from beq_iff_eq.2 (by omega)]
      exact htrue
    rw [show ((l0.length : Int) == 0) = false from beq_eq_false_iff_ne.2 (by omega)]
    have f : Few l0 (edgesOf l0) := few_edges (by omega)
    obtain ⟨i, hi, ei⟩ := mod_at (n := l0.length) (by omega) h0 h1
    have hg : l0[i]? = some l0[i] := List.getElem?_eq_getElem hi
    have hmem : l0[i] ∈ l0 := List.getElem_mem hi
    have hrow : AW.rd_L2 l0 (i : Int) = l0[i] := rd3 hg
    have hlen := len_sum hmem
    generalize l0[i] = s at *
    cases hbad : badB l0 with
    | true =>
      refine Ev.step (f := fun _ => some true) (fun k => ?_) (Ev.now _)
      rw [AW.caesuralaw02_AtomWithin.j0, if_neg (by decide), of_bad f hbad, Option.bind_some, if_neg (by decide)]
    | false =>
      obtain ⟨ha, hc, hS, hL⟩ := of_good f hbad
      refine Ev.step (f := fun k => (atom_Within.f k (clsL l0) s).bind fun t108 => ((caesuraref01_Not.f s).bind fun t111 => ((atom_Within.f k (clsL l0) t111).bind fun t114 => (if 0 ≤ ((clsL l0).length : Int) then (if (((clsL l0).length : Int) : Int).toNat ≤ 281474976710656 then ((some (([] : List Int) : List Int)).bind fun y120 => (if y120.length + t108.length < 17592186044416 then ((some (y120 ++ t108 : List Int)).bind fun y123 => (if y123.length + t114.length < 17592186044416 then (AW.caesuralaw02_AtomWithin.l0 k (clsL l0) (List.replicate (((clsL l0).length : Int) : Int).toNat false) (y123 ++ t114) 0) else (none))) else (none))) else (none)) else (none))))) (fun k => by
        rw [AW.caesuralaw02_AtomWithin.j0, if_neg (by decide), of_ok f hbad, Option.bind_some, if_pos rfl, if_neg (by omega), ei, if_pos (by omega), if_pos (by omega), hrow]) ?_
      generalize clsL l0 = L at *
      refine Ev.bind (within_f L s (by omega)) ?_
      refine Ev.bind ⟨0, fun _ _ => refnot s⟩ ?_
      refine Ev.bind (within_f L (notF s) (by omega)) ?_
      have l1 : (withinF L s).length ≤ 200 := Nat.le_trans (wi_len _ _) (by rw [List.length_map]; exact hL)
      have l2 : (withinF L (notF s)).length ≤ 200 := Nat.le_trans (wi_len _ _) (by rw [List.length_map]; exact hL)
      have hcomp : ∀ g ∈ L.map firstF, hasF (notF s) g = !hasF s g := by
        intro g hg
        obtain ⟨x, hx, rfl⟩ := List.mem_map.1 hg
        obtain ⟨_, f0, f1, _⟩ := hc.first hS hx
        rw [hasF_in f0 f1, hasF_in f0 f1]
        exact has_not (by omega) f0 f1
      have hall : (withinF L s ++ withinF L (notF s)).length = L.length := by
        rw [List.length_append]
        have := wi_both (s := s) (t := notF s) (L.map firstF) 0 hcomp
        rw [List.length_map] at this
        exact this
      refine ev_if (by omega) (ev_if (by rw [Int.toNat_natCast]; omega) ?_)
      refine Ev.bind (a := []) (Ev.now _) (ev_if (by rw [List.length_nil]; omega) ?_)
      refine Ev.bind (a := withinF L s) (by rw [List.nil_append]; exact Ev.now _) (ev_if (by omega) ?_)
      refine within_l0 L hL (withinF L s ++ withinF L (notF s)) (fun k hk => ?_) (wi_app _ hcomp) (by omega) ?_ _ 0 (Nat.zero_add _) _ (by rw [List.length_replicate, Int.toNat_natCast]) fun k hk => ?_
      · rcases List.mem_append.1 hk with hk | hk
        · have := wi_rng _ _ k hk
          rw [List.length_map] at this
          omega
        · have := wi_rng _ _ k hk
          rw [List.length_map] at this
          omega
      · exact Ev.bind (firsts_f L (by omega)) (within_l1 hc hS hL _ hall L.length 0 (by omega))
      · unfold rdOf
        rw [List.getD_eq_getElem?_getD, List.getElem?_replicate]
        split <;> rfl
end Go.Proofs.Ytippkbgeeeimjaa.P
