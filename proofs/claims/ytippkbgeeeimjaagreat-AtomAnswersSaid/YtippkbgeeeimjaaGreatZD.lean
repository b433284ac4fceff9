/- Sets' algebra; atoms walked. -/
import Derived.Test.YtippkbgeeeimjaaGreatZC
import Derived.Outline
import Derived.RangeFuncNested
import Derived.RangeFuncBound
import Derived.RangeFuncCalls
import Derived.RangeFuncLeaves
import Derived.Shelf.Abstract
import Derived.Shelf.RegionOpen
import Derived.OwnWalkIn
import Derived.TacticsInMore
import Derived.LoopNIn
import Derived.LoopIn
import Derived.Sort.QuietIn
import Derived.Maps.OwnIn
import Derived.RangeFuncBox
import Derived.Test.YtippkbgeeeimjaaGreatProg
import Derived.Below
import Derived.Deep.Draws
import Derived.Deep.AppendLies
import Derived.Maps.AppendAt
import Derived.OwnWalk
import Derived.Laws.BytesArg
import Derived.Laws.MakeOwn
import Derived.Laws.OwnMore
import Derived.Deep.OwnRows
import Derived.Tactics
import Derived.Lib.ConvBytes
import Derived.Laws.Slices
import Derived.WalkKit
import Derived.KernelRfl
import Derived.RowKit3
import Derived.Deep.LoopGhost
import Derived.Deep.QuietTactic
import Derived.BigQuiet
import Derived.WideLaws
import Derived.Deep.DeepCutAuto
import Derived.Deep.CutBlock
import Derived.Deep.RegionHeld3
import Derived.Laws.Rows
import Derived.Lib.AppendStr
import Derived.ArgAppend
import Derived.Laws.IdiomCopy
import Derived.OrdersHeld
import Derived.Laws.BitsLemmas
import Derived.RowKit
import Derived.Test.YtippkbgeeeimjaaGreatZW
import Derived.Test.YtippkbgeeeimjaaGreatZB
/- Closed facts of alive: canonF at literal sets. -/
namespace Go.Proofs.YtippkbgeeeimjaaGreat.P
open Go.RowKit Go.Proofs.YtippkbgeeeimjaaGreatW.PrintWords Go.Proofs.YtippkbgeeeimjaaGreatW.PrintLast Go.Proofs.YtippkbgeeeimjaaGreatW.PrintMore Go.Proofs.YtippkbgeeeimjaaGreat.A Go.Proofs.YtippkbgeeeimjaaGreat.L Go.Proofs.YtippkbgeeeimjaaGreat.B
set_option linter.unusedVariables false
set_option linter.unusedSimpArgs false
abbrev la : List S38 := [⟨4, 5⟩, ⟨1, 3⟩, ⟨9, 8⟩]
abbrev lb : List S38 := [⟨3, 7⟩]
theorem canon_lit {P : Int → Bool} {xs : List S38} (h : Spec P xs 1114112) : canonF P = xs := (canon_of h).symm
theorem orF_aa : orF la [] = [⟨1, 5⟩] := by
  refine canon_lit ⟨by simp [Can], fun c h0 h1 => Bool.eq_iff_iff.mpr ?_⟩
  simp [Mem, inR, hasB]; omega
theorem andF_ab : andF la lb = [⟨3, 5⟩] := by
  refine canon_lit ⟨by simp [Can], fun c h0 h1 => Bool.eq_iff_iff.mpr ?_⟩
  simp [Mem, inR, hasB]; omega
theorem lessF_ba : lessF lb la = [⟨6, 7⟩] := by
  refine canon_lit ⟨by simp [Can], fun c h0 h1 => Bool.eq_iff_iff.mpr ?_⟩
  simp [Mem, inR, hasB]; omega
theorem l1 : span_Plain.f la = some [⟨1, 5⟩] := by unfold span_Plain.f span_Or.f; rw [orF_aa]; rfl
theorem l2 : span_And.f la lb = some [⟨3, 5⟩] := by unfold span_And.f; rw [andF_ab]
theorem l3 : span_Less.f lb la = some [⟨6, 7⟩] := by unfold span_Less.f; rw [lessF_ba]
end Go.Proofs.YtippkbgeeeimjaaGreat.P
/- alive of law 01: a fixed fact. -/
namespace Go.Proofs.YtippkbgeeeimjaaGreat.L
open Go.RowKit Go.Proofs.YtippkbgeeeimjaaGreatW.PrintWords Go.Proofs.YtippkbgeeeimjaaGreatW.PrintLast Go.Proofs.YtippkbgeeeimjaaGreatW.PrintMore Go.Proofs.YtippkbgeeeimjaaGreat.A Go.Proofs.YtippkbgeeeimjaaGreat.P Go.Proofs.YtippkbgeeeimjaaGreat.B
set_option linter.unusedVariables false
set_option linter.unusedSimpArgs false
def caesuralaw01_alive.f : Option Bool := some true
end Go.Proofs.YtippkbgeeeimjaaGreat.L
/- What First, Size, Same, Right, Ranges, great answer, of both; and the contracts so. -/
namespace Go.Proofs.YtippkbgeeeimjaaGreat.P
open Go.RowKit Go.Proofs.YtippkbgeeeimjaaGreatW.PrintWords Go.Proofs.YtippkbgeeeimjaaGreatW.PrintLast Go.Proofs.YtippkbgeeeimjaaGreatW.PrintMore Go.Proofs.YtippkbgeeeimjaaGreat.A Go.Proofs.YtippkbgeeeimjaaGreat.L Go.Proofs.YtippkbgeeeimjaaGreat.B
set_option linter.unusedVariables false
set_option linter.unusedSimpArgs false
def plF (l : List S38) : List S38 := orF l []
theorem bsome {α : Type} (o : Option α) : o.bind some = o := by cases o <;> rfl
theorem plF_eq (l : List S38) : plF l = canonF (hasB l) := by
  unfold plF orF
  exact canon_congr fun c _ _ => by simp [hasB, Mem]
def szF (xs : List S38) : Int := (xs.map fun r => r.f1 - r.f0 + 1).sum
theorem szF_nil : szF [] = 0 := rfl
theorem szF_cons (r : S38) (xs : List S38) : szF (r :: xs) = (r.f1 - r.f0 + 1) + szF xs := by simp [szF]
theorem szF_app (xs ys : List S38) : szF (xs ++ ys) = szF xs + szF ys := by
  induction xs with
  | nil => simp [szF_nil]
  | cons r xs ih => rw [List.cons_append, szF_cons, szF_cons, ih]; omega
def cnt (P : Int → Bool) : Nat → Int
  | 0 => 0
  | n + 1 => cnt P n + if P (n : Int) then 1 else 0
theorem ups_sz (P : Int → Bool) : ∀ n : Nat, szF (ups P n) = cnt P n
  | 0 => rfl
  | n + 1 => by
    have ih := ups_sz P n
    have hs := ups_spec P n
    rw [ups, cnt, ← ih]
    generalize ups P n = xs at hs ⊢
    unfold tellF
    by_cases hP : P (n : Int) = true
    · rw [if_pos ⟨by omega, hP⟩, if_pos hP]
      split
      · rename_i h
        obtain ⟨pre, r, e, hr, hset⟩ := last_of h.1
        rw [hset, hr, e, szF_app, szF_app, szF_cons, szF_cons, szF_nil]
        have := h.2
        rw [hr] at this
        dsimp only
        omega
      · rw [szF_app, szF_cons, szF_nil]
        dsimp only
        omega
    · rw [if_neg (fun q => hP q.2), if_neg hP]
      omega
theorem canon_sz (P : Int → Bool) : szF (canonF P) = cnt P 1114112 := ups_sz P 1114112
theorem cnt_rng (P : Int → Bool) : ∀ n : Nat, 0 ≤ cnt P n ∧ cnt P n ≤ n
  | 0 => ⟨Int.le_refl _, Int.le_refl _⟩
  | n + 1 => by
    have := cnt_rng P n
    rw [cnt]
    split <;> omega
theorem sz_ge : ∀ {xs : List S38}, (∀ r ∈ xs, r.f0 ≤ r.f1) → (xs.length : Int) ≤ szF xs
  | [], _ => by simp [szF_nil]
  | r :: xs, h => by
    have := sz_ge (xs := xs) fun s hs => h s (List.mem_cons_of_mem _ hs)
    have := h r (List.mem_cons_self ..)
    rw [szF_cons, List.length_cons]
    omega
structure Good (xs : List S38) : Prop where
  r : ∀ r ∈ xs, 0 ≤ r.f0 ∧ r.f0 ≤ r.f1 ∧ r.f1 < 1114112
  s : szF xs ≤ 1114112
  n : (xs.length : Int) ≤ 1114112
theorem canon_good (P : Int → Bool) : Good (canonF P) := by
  have h := canon_spec P
  have s := cnt_rng P 1114112
  rw [← canon_sz] at s
  exact ⟨h.1.1, by omega, by have := sz_ge (xs := canonF P) fun r hr => (h.1.1 r hr).2.1; omega⟩
theorem sz_nn {xs : List S38} (h : ∀ r ∈ xs, r.f0 ≤ r.f1) : 0 ≤ szF xs := by
  have := sz_ge h
  omega
theorem at_drop {l : List S38} {i : Nat} (h : i < l.length) : l.drop i = rd_T38 l (i : Int) :: l.drop (i + 1) := by
  have hs := step_at (l := l) (i := (i : Int)) (by omega) (by omega)
  rw [Int.toNat_natCast, show ((i : Int) + 1).toNat = i + 1 from by omega] at hs
  exact hs
theorem size_ev {t : List S38} (g : Good t) : ∀ d i : Nat, i + d = t.length → ∀ x : Int, 0 ≤ x → x + szF (t.drop i) ≤ 1114112 → Ev (fun k => span_Size.l0 k x t (t.length : Int) (i : Int)) (x + szF (t.drop i)) ∧ Ev (fun k => caesuraref01_Size.l0 k x t (i : Int)) (x + szF (t.drop i)) := by
  have gn := g.n
  intro d
  induction d with
  | zero =>
    intro i h x h0 hx
    rw [List.drop_eq_nil_iff.2 (by omega), szF_nil, Int.add_zero]
    exact ⟨Ev.step (f := fun _ => some x) (fun k => by rw [span_Size.l0, if_neg (by omega)]) (Ev.now _), Ev.step (f := fun _ => some x) (fun k => by rw [caesuraref01_Size.l0, if_neg (by omega)]) (Ev.now _)⟩
  | succ d ih =>
    intro i h x h0 hx
    have hm : rd_T38 t (i : Int) ∈ t := by
      have : rd_T38 t (i : Int) ∈ t.drop i := by rw [at_drop (by omega)]; exact List.mem_cons_self ..
      exact List.mem_of_mem_drop this
    have hr := g.r _ hm
    rw [at_drop (show i < t.length by omega), szF_cons] at hx ⊢
    have hn : 0 ≤ szF (t.drop (i + 1)) := sz_nn fun r hr => (g.r r (List.mem_of_mem_drop hr)).2.1
    have := ih (i + 1) (by omega) (x + ((rd_T38 t (i : Int)).f1 - (rd_T38 t (i : Int)).f0 + 1)) (by omega) (by omega)
    rw [show ((i + 1 : Nat) : Int) = (i : Int) + 1 from by omega, Int.add_assoc] at this
    refine ⟨Ev.step (fun k => ?_) this.1, Ev.step (fun k => ?_) this.2⟩
    · rw [span_Size.l0, if_pos (by omega), if_pos (by omega), if_pos (by omega), w64 (n := (rd_T38 t (i : Int)).f1 - _) (by omega) (by omega), w64 (n := (rd_T38 t (i : Int)).f1 - _ + 1) (by omega) (by omega), w64 (by omega) (by omega), w64 (n := (i : Int) + 1) (by omega) (by omega)]
    · rw [caesuraref01_Size.l0, if_pos (by omega), if_pos (by omega), w64 (n := x + (rd_T38 t (i : Int)).f1) (by omega) (by omega), w64 (n := x + (rd_T38 t (i : Int)).f1 - _) (by omega) (by omega), w64 (n := x + (rd_T38 t (i : Int)).f1 - _ + 1) (by omega) (by omega), w64 (n := (i : Int) + 1) (by omega) (by omega), show x + (rd_T38 t (i : Int)).f1 - (rd_T38 t (i : Int)).f0 + 1 = x + ((rd_T38 t (i : Int)).f1 - (rd_T38 t (i : Int)).f0 + 1) by omega]
def sizeF (l : List S38) : Int := cnt (hasB l) 1114112
theorem sizeF_eq (l : List S38) : szF (plF l) = sizeF l := by rw [plF_eq, canon_sz]; rfl
theorem good_pl (l : List S38) : Good (plF l) := by rw [plF_eq]; exact canon_good _
theorem span_size (l : List S38) : Ev (fun k => span_Size.f k l) (sizeF l) := by
  have h := (size_ev (good_pl l) _ 0 (Nat.zero_add _) 0 (Int.le_refl _) (by have := (good_pl l).s; simpa using this)).1
  rw [Int.zero_add, List.drop_zero, sizeF_eq] at h
  exact h
theorem ref_size (l : List S38) : Ev (fun k => caesuraref01_Size.f k l) (sizeF l) := by
  have h := (size_ev (good_pl l) _ 0 (Nat.zero_add _) 0 (Int.le_refl _) (by have := (good_pl l).s; simpa using this)).2
  rw [Int.zero_add, List.drop_zero, sizeF_eq] at h
  exact h
def hdF : List S38 → Int
  | [] => -1
  | r :: _ => r.f0
def firstF (l : List S38) : Int := hdF (plF l)
theorem span_first (l : List S38) : Ev (fun k => span_First.f k l) (firstF l) := by
  unfold firstF
  have : ∀ t : List S38, Ev (fun k => span_First.l0 k t (t.length : Int) 0) (hdF t) := by
    intro t
    cases t with
    | nil => exact Ev.step (f := fun _ => some (-1)) (fun k => rfl) (Ev.now _)
    | cons r t => exact Ev.step (f := fun _ => some r.f0) (fun k => by rw [span_First.l0, if_pos (by rw [List.length_cons]; omega), if_pos (by omega), if_pos (by rw [List.length_cons]; omega)]; rfl) (Ev.now _)
  exact this (plF l)
theorem ref_first (l : List S38) : caesuraref01_First.f l = some (firstF l) := by
  unfold firstF
  show (if ((plF l).length : Int) = 0 then some (-1) else if 0 < ((plF l).length : Int) then some ((rd_T38 (plF l) 0).f0) else none) = _
  cases plF l with
  | nil => rfl
  | cons r t => rw [if_neg (by rw [List.length_cons]; omega), if_pos (by rw [List.length_cons]; omega)]; rfl
theorem eq34 {r s : S38} : (!(r.f0 == s.f0) || !(r.f1 == s.f1)) = true ↔ r ≠ s := by
  obtain ⟨a, b⟩ := r
  obtain ⟨c, d⟩ := s
  simp
  by_cases h : a = c <;> simp [h]
theorem rng_ev {x y : List S38} (hm : (x.length : Int) ≤ 9223372036854775806) (r : Bool) (hr : r = true ↔ x = y) : Ev (fun k => caesuraref01_Ranges.f k x y) r ∧ Ev (fun k => api_Range.f k x y) r := by
  by_cases hl : (x.length : Int) = (y.length : Int)
  · have main : ∀ d i : Nat, i + d = x.length → ∀ r : Bool, (r = true ↔ x.drop i = y.drop i) → Ev (fun k => caesuraref01_Ranges.l0 k x y (i : Int)) r ∧ Ev (fun k => api_Range.l0 k x y (x.length : Int) (i : Int)) r := by
      intro d
      induction d with
      | zero =>
        intro i h r hr
        rw [List.drop_eq_nil_iff.2 (by omega), List.drop_eq_nil_iff.2 (by omega)] at hr
        rw [hr.2 rfl]
        exact ⟨Ev.step (f := fun _ => some true) (fun k => by rw [caesuraref01_Ranges.l0, if_neg (by omega)]) (Ev.now _), Ev.step (f := fun _ => some true) (fun k => by rw [api_Range.l0, if_neg (by omega)]) (Ev.now _)⟩
      | succ d ih =>
        intro i h r hr
        rw [at_drop (show i < x.length by omega), at_drop (show i < y.length by omega)] at hr
        by_cases he : rd_T38 x (i : Int) = rd_T38 y (i : Int)
        · have hr' : r = true ↔ x.drop (i + 1) = y.drop (i + 1) := by rw [hr, he]; simp
          have := ih (i + 1) (by omega) r hr'
          rw [show ((i + 1 : Nat) : Int) = (i : Int) + 1 from by omega] at this
          refine ⟨Ev.step (fun k => ?_) this.1, Ev.step (fun k => ?_) this.2⟩
          · rw [caesuraref01_Ranges.l0, if_pos (by omega), if_pos (by omega), if_pos (by omega), if_neg (fun q => eq34.1 q he), w64 (n := (i : Int) + 1) (by omega) (by omega)]
          · rw [api_Range.l0, if_pos (by omega), if_pos (by omega), if_pos (by omega), if_pos (by omega), if_neg (fun q => eq34.1 q he), w64 (n := (i : Int) + 1) (by omega) (by omega)]
        · have : r = false := by
            cases r with
            | false => rfl
            | true => exact absurd (List.cons.inj (hr.1 rfl)).1 he
          rw [this]
          refine ⟨Ev.step (f := fun _ => some false) (fun k => ?_) (Ev.now _), Ev.step (f := fun _ => some false) (fun k => ?_) (Ev.now _)⟩
          · rw [caesuraref01_Ranges.l0, if_pos (by omega), if_pos (by omega), if_pos (by omega), if_pos (eq34.2 he)]
          · rw [api_Range.l0, if_pos (by omega), if_pos (by omega), if_pos (by omega), if_pos (by omega), if_pos (eq34.2 he)]
    have := main x.length 0 (by omega) r (by rw [List.drop_zero, List.drop_zero]; exact hr)
    exact ⟨ev_if hl this.1, ev_if hl this.2⟩
  · have : r = false := by
      cases r with
      | false => rfl
      | true => exact absurd (by rw [hr.1 rfl]) hl
    rw [this]
    exact ⟨ev_else hl (Ev.now _), ev_else hl (Ev.now _)⟩
noncomputable def eqF (x y : List S38) : Bool := @decide (x = y) (Classical.propDecidable _)
theorem eqF_iff {x y : List S38} : eqF x y = true ↔ x = y := by unfold eqF; exact @decide_eq_true_iff _ (Classical.propDecidable _)
noncomputable def rightF (l : List S38) : Bool := decide (l.length ≤ 400) && eqF (plF l) l
theorem pl_len (l : List S38) : ((plF l).length : Int) ≤ 9223372036854775806 := by have := (good_pl l).n; omega
theorem span_right (l : List S38) : Ev (fun k => span_Right.f k l) (rightF l) := by
  by_cases h : (l.length : Int) ≤ 400
  · refine ev_if h ?_
    unfold rightF
    rw [decide_eq_true (show l.length ≤ 400 by omega), Bool.true_and]
    have := (rng_ev (x := l) (y := plF l) (by omega) (eqF (plF l) l) (by rw [eqF_iff]; exact eq_comm)).2
    exact Ev.congr (f := fun k => api_Range.f k l (plF l)) (fun k => by show ((api_Range.f k l (plF l)).bind some) = _; exact bsome _) this
  · unfold rightF
    rw [decide_eq_false (show ¬ l.length ≤ 400 by omega)]
    exact ev_else h (Ev.now _)
theorem ref_right (l : List S38) : Ev (fun k => caesuraref01_Right.f k l) (rightF l) := by
  by_cases h : (l.length : Int) ≤ 400
  · refine ev_if h ?_
    unfold rightF
    rw [decide_eq_true (show l.length ≤ 400 by omega), Bool.true_and]
    have := (rng_ev (x := plF l) (y := l) (pl_len l) (eqF (plF l) l) eqF_iff).1
    exact Ev.congr (f := fun k => caesuraref01_Ranges.f k (plF l) l) (fun k => by show ((caesuraref01_Ranges.f k (plF l) l).bind some) = _; exact bsome _) this
  · unfold rightF
    rw [decide_eq_false (show ¬ l.length ≤ 400 by omega)]
    exact ev_else h (Ev.now _)
end Go.Proofs.YtippkbgeeeimjaaGreat.P
/- The algebra of sets: lengths of least lists, and the laws. -/
namespace Go.Proofs.YtippkbgeeeimjaaGreat.P
open Go.RowKit Go.Proofs.YtippkbgeeeimjaaGreatW.PrintWords Go.Proofs.YtippkbgeeeimjaaGreatW.PrintLast Go.Proofs.YtippkbgeeeimjaaGreatW.PrintMore Go.Proofs.YtippkbgeeeimjaaGreat.A Go.Proofs.YtippkbgeeeimjaaGreat.L Go.Proofs.YtippkbgeeeimjaaGreat.B
set_option linter.unusedVariables false
set_option linter.unusedSimpArgs false
theorem nodup_len : ∀ (xs L : List Int), xs.Pairwise (· ≠ ·) → (∀ x ∈ xs, x ∈ L) → xs.length ≤ L.length
  | [], _, _, _ => Nat.zero_le _
  | x :: xs, L, hp, h => by
    obtain ⟨h1, h2⟩ := List.pairwise_cons.1 hp
    have hx := h x (List.mem_cons_self ..)
    have := nodup_len xs (L.erase x) h2 fun y hy => (List.mem_erase_of_ne (fun e => h1 y hy e.symm)).2 (h y (List.mem_cons_of_mem _ hy))
    rw [List.length_erase_of_mem hx] at this
    have := List.length_pos_of_mem hx
    rw [List.length_cons]
    omega
theorem hasB_iff {l : List S38} {c : Int} : hasB l c = true ↔ l.length ≤ 400 ∧ ∃ r ∈ l, r.f0 ≤ c ∧ c ≤ r.f1 := by
  unfold hasB
  rw [Bool.and_eq_true, decide_eq_true_iff, mem_iff]
theorem hasB_no {l : List S38} {c : Int} : hasB l c = false ↔ ¬ (l.length ≤ 400 ∧ ∃ r ∈ l, r.f0 ≤ c ∧ c ≤ r.f1) := by
  rw [← hasB_iff]
  cases hasB l c <;> simp
def lowsF (l : List S38) : List Int := l.map fun r => if 0 ≤ r.f0 then r.f0 else 0
def endsF (l : List S38) : List Int := l.map fun r => r.f1 + 1
theorem lows_len (l : List S38) : (lowsF l).length = l.length := List.length_map ..
theorem ends_len (l : List S38) : (endsF l).length = l.length := List.length_map ..
theorem starts {l : List S38} {c : Int} (h0 : 0 ≤ c) (h : hasB l c = true) (k : c = 0 ∨ hasB l (c - 1) = false) : c ∈ lowsF l := by
  obtain ⟨hl, r, hr, h1, h2⟩ := hasB_iff.1 h
  refine List.mem_map.2 ⟨r, hr, ?_⟩
  rcases k with rfl | k
  · split <;> omega
  · have := hasB_no.1 k
    by_cases hc : r.f0 ≤ c - 1
    · exact absurd ⟨hl, r, hr, hc, by omega⟩ this
    · rw [if_pos (by omega)]
      omega
theorem ends {l : List S38} {c : Int} (h : hasB l c = false) (k : hasB l (c - 1) = true) : c ∈ endsF l := by
  obtain ⟨hl, r, hr, h1, h2⟩ := hasB_iff.1 k
  refine List.mem_map.2 ⟨r, hr, ?_⟩
  have := hasB_no.1 h
  by_cases hc : c ≤ r.f1
  · exact absurd ⟨hl, r, hr, by omega, hc⟩ this
  · omega
theorem has_canon {P : Int → Bool} (hl : (canonF P).length ≤ 400) {c : Int} (h0 : 0 ≤ c) (h1 : c ≤ 1114111) : hasB (canonF P) c = P c := by
  unfold hasB
  rw [decide_eq_true hl, Bool.true_and, canon_mem P h0 h1]
theorem pl_canon {P : Int → Bool} (hl : (canonF P).length ≤ 400) : plF (canonF P) = canonF P := by
  rw [plF_eq]
  exact canon_congr fun c h0 h1 => has_canon hl h0 h1
theorem cnt_congr {P Q : Int → Bool} : ∀ n : Nat, n ≤ 1114112 → (∀ c, 0 ≤ c → c ≤ 1114111 → P c = Q c) → cnt P n = cnt Q n
  | 0, _, _ => rfl
  | n + 1, hn, h => by rw [cnt, cnt, cnt_congr n (by omega) h, h n (by omega) (by omega)]
section
variable {a b d : List S38}
theorem right_canon {P : Int → Bool} (hl : (canonF P).length ≤ 400) : rightF (canonF P) = true := by
  unfold rightF
  rw [decide_eq_true hl, Bool.true_and, eqF_iff]
  exact pl_canon hl
theorem canon_nil {P : Int → Bool} (h : ∀ c, 0 ≤ c → c ≤ 1114111 → P c = false) : canonF P = [] :=
  canon_lit ⟨⟨(fun r hr => nomatch hr), List.Pairwise.nil⟩, fun c h0 h1 => by rw [h c h0 (by omega)]; rfl⟩
end
end Go.Proofs.YtippkbgeeeimjaaGreat.P
/- The contracts by what both answer. -/
namespace Go.Proofs.YtippkbgeeeimjaaGreat.L
open Go.RowKit Go.Proofs.YtippkbgeeeimjaaGreatW.PrintWords Go.Proofs.YtippkbgeeeimjaaGreatW.PrintLast Go.Proofs.YtippkbgeeeimjaaGreatW.PrintMore Go.Proofs.YtippkbgeeeimjaaGreat.A Go.Proofs.YtippkbgeeeimjaaGreat.P Go.Proofs.YtippkbgeeeimjaaGreat.B
set_option linter.unusedVariables false
set_option linter.unusedSimpArgs false
section
variable (A0 : Option Addr) (c0 : Nat) (l0 : List S38) (w : World) (hr0 : Kd.C k38 w A0 l0.length l0) (hc0 : l0.length ≤ c0)
include hr0 hc0
theorem c26 (n : Int) (h : firstF l0 = n) : Calls Tryz.prog 33 #[.slice A0 l0.length c0] w fun e w' => e = .returned (.int .i64 n) ∧ Below w.heap.size w w' := by
  obtain ⟨k, hk⟩ := (span_first l0).rounds
  exact h ▸ span_First.calls k A0 c0 l0 _ w hr0 hc0 hk
theorem c28 (n : Int) (h : sizeF l0 = n) : Calls Tryz.prog 36 #[.slice A0 l0.length c0] w fun e w' => e = .returned (.int .i64 n) ∧ Below w.heap.size w w' := by
  obtain ⟨k, hk⟩ := (span_size l0).rounds
  exact h ▸ span_Size.calls k A0 c0 l0 _ w hr0 hc0 hk
theorem c32 (n : Bool) (h : rightF l0 = n) : Calls Tryz.prog 35 #[.slice A0 l0.length c0] w fun e w' => e = .returned (.bool n) ∧ Below w.heap.size w w' := by
  obtain ⟨k, hk⟩ := (span_right l0).rounds
  exact h ▸ span_Right.calls k A0 c0 l0 _ w hr0 hc0 hk
theorem c33 (n : Bool) (h : rightF l0 = n) : Calls Tryz.prog 39 #[.slice A0 l0.length c0] w fun e w' => e = .returned (.bool n) ∧ Below w.heap.size w w' := by
  obtain ⟨k, hk⟩ := (ref_right l0).rounds
  exact h ▸ caesuraref01_Right.calls k A0 c0 l0 _ w hr0 hc0 hk
theorem c24 (c : Int) (n : Bool) (h : hasF l0 c = n) : Calls Tryz.prog 31 #[.slice A0 l0.length c0, .int .i64 c] w fun e w' => e = .returned (.bool n) ∧ Below w.heap.size w w' :=
  h ▸ span_Has.calls A0 c0 l0 c _ w hr0 hc0 rfl
theorem c25 (c : Int) (n : Bool) (h : hasF l0 c = n) : Calls Tryz.prog 32 #[.slice A0 l0.length c0, .int .i64 c] w fun e w' => e = .returned (.bool n) ∧ Below w.heap.size w w' :=
  (h ▸ ref_has_calls A0 c0 l0 c w hr0 hc0).mono fun e w' ⟨q, k⟩ => ⟨q, k.below⟩
theorem c20 (r : List S38) (h : notF l0 = r) : Calls Tryz.prog 20 #[.slice A0 l0.length c0] w fun e w' => ∃ v0_ : Value, e = .returned v0_ ∧ Kd.R k38 38 w' w.heap.size (fun _ => True) v0_ r ∧ Below w.heap.size w w' :=
  span_Not.calls A0 c0 l0 r w hr0 hc0 (congrArg some h)
theorem c22 (r : List S38) (h : plF l0 = r) : Calls Tryz.prog 53 #[.slice A0 l0.length c0] w fun e w' => ∃ v0_ : Value, e = .returned v0_ ∧ Kd.R k38 38 w' w.heap.size (fun _ => True) v0_ r ∧ Below w.heap.size w w' :=
  span_Plain.calls A0 c0 l0 r w hr0 hc0 (congrArg some h)
theorem c23 (r : List S38) (h : plF l0 = r) : Calls Tryz.prog 54 #[.slice A0 l0.length c0] w fun e w' => ∃ v0_ : Value, e = .returned v0_ ∧ Kd.R k38 38 w' w.heap.size (fun _ => True) v0_ r ∧ Below w.heap.size w w' :=
  caesuraref01_Plain.calls A0 c0 l0 r w hr0 hc0 (congrArg some h)
variable (A1 : Option Addr) (c1 : Nat) (l1 : List S38) (hr1 : Kd.C k38 w A1 l1.length l1) (hc1 : l1.length ≤ c1)
include hr1 hc1
theorem c14 (r : List S38) (h : orF l0 l1 = r) : Calls Tryz.prog 76 #[.slice A0 l0.length c0, .slice A1 l1.length c1] w fun e w' => ∃ v0_ : Value, e = .returned v0_ ∧ Kd.R k38 38 w' w.heap.size (fun _ => True) v0_ r ∧ Below w.heap.size w w' := span_Or.calls A0 c0 l0 A1 c1 l1 r w hr0 hc0 hr1 hc1 (congrArg some h)
theorem c16 (r : List S38) (h : andF l0 l1 = r) : Calls Tryz.prog 45 #[.slice A0 l0.length c0, .slice A1 l1.length c1] w fun e w' => ∃ v0_ : Value, e = .returned v0_ ∧ Kd.R k38 38 w' w.heap.size (fun _ => True) v0_ r ∧ Below w.heap.size w w' := span_And.calls A0 c0 l0 A1 c1 l1 r w hr0 hc0 hr1 hc1 (congrArg some h)
theorem c18 (r : List S38) (h : lessF l0 l1 = r) : Calls Tryz.prog 46 #[.slice A0 l0.length c0, .slice A1 l1.length c1] w fun e w' => ∃ v0_ : Value, e = .returned v0_ ∧ Kd.R k38 38 w' w.heap.size (fun _ => True) v0_ r ∧ Below w.heap.size w w' := span_Less.calls A0 c0 l0 A1 c1 l1 r w hr0 hc0 hr1 hc1 (congrArg some h)
theorem c15 (r : List S38) (h : orF l0 l1 = r) : Calls Tryz.prog 77 #[.slice A0 l0.length c0, .slice A1 l1.length c1] w fun e w' => ∃ v0_ : Value, e = .returned v0_ ∧ Kd.R k38 38 w' w.heap.size (fun _ => True) v0_ r ∧ Below w.heap.size w w' := caesuraref01_Or.calls A0 c0 l0 A1 c1 l1 r w hr0 hc0 hr1 hc1 (congrArg some h)
theorem c17 (r : List S38) (h : andF l0 l1 = r) : Calls Tryz.prog 41 #[.slice A0 l0.length c0, .slice A1 l1.length c1] w fun e w' => ∃ v0_ : Value, e = .returned v0_ ∧ Kd.R k38 38 w' w.heap.size (fun _ => True) v0_ r ∧ Below w.heap.size w w' := caesuraref01_And.calls A0 c0 l0 A1 c1 l1 r w hr0 hc0 hr1 hc1 (congrArg some h)
theorem c13 (h : (l0.length : Int) ≤ 9223372036854775806) (e : l0 = l1) : Calls Tryz.prog 28 #[.slice A0 l0.length c0, .slice A1 l1.length c1] w fun e w' => e = .returned (.bool true) ∧ Below w.heap.size w w' := by
  obtain ⟨k, hk⟩ := (rng_ev (x := l0) (y := l1) h true (by simp [e])).1.rounds
  exact (caesuraref01_Ranges.calls k A0 c0 l0 A1 c1 l1 true w hr0 hc0 hr1 hc1 hk).mono fun e w' ⟨q, k⟩ => ⟨q, k.below⟩
end
end Go.Proofs.YtippkbgeeeimjaaGreat.L
/- slices.IndexFunc, ContainsFunc over [][]Range with the closures of atom; atom.Class. -/
namespace Go.Proofs.YtippkbgeeeimjaaGreat.L
open Go.RowKit Go.Proofs.YtippkbgeeeimjaaGreatW.PrintWords Go.Proofs.YtippkbgeeeimjaaGreatW.PrintLast Go.Proofs.YtippkbgeeeimjaaGreatW.PrintMore Go.Proofs.YtippkbgeeeimjaaGreat.A Go.Proofs.YtippkbgeeeimjaaGreat.P
set_option linter.unusedVariables false
set_option linter.unusedSimpArgs false
theorem long_one (A0 : Option Addr) (c0 : Nat) (l0 : List S38) (w : World) : Calls Tryz.prog 18 #[.slice A0 l0.length c0] w fun e w' => e = .returned (.bool (decide (400 < l0.length))) ∧ Below w.heap.size w w' := by
  by_cases h : 400 < l0.length
  · have b1 : decide (400 < l0.length) = true := decide_eq_true h
    have b2 : decide (400 < (l0.length : Int)) = true := decide_eq_true (by omega)
    rw [b1]
    clear h
    go_enter Tryz.func18, Tryz.ntmps18
    go_wp2_with fail
    go_ret
    exact ⟨by first | rfl | (simp [b1, b2]; done) | (rw [b2]; done), Below.refl _ _⟩
  · have b1 : decide (400 < l0.length) = false := decide_eq_false h
    have b2 : decide (400 < (l0.length : Int)) = false := decide_eq_false (by omega)
    rw [b1]
    clear h
    go_enter Tryz.func18, Tryz.ntmps18
    go_wp2_with fail
    go_ret
    exact ⟨by first | rfl | (simp [b1, b2]; done) | (rw [b2]; done), Below.refl _ _⟩
theorem class_one (c : Int) (gc : Nat) (A0 : Option Addr) (c0 : Nat) (l0 : List S38) (w : World) (hr0 : Kd.C k38 w A0 l0.length l0) (hc0 : l0.length ≤ c0) (hg : w.heap[gc]? = some (.cells #[.int .i64 c] 3 (0, 0))) :
    Calls Tryz.prog 30 #[.slice A0 l0.length c0, .pointer (some ⟨gc, 0, none⟩)] w fun e w' => e = .returned (.bool (hasF l0 c)) ∧ Below w.heap.size w w' := by
  have hs := c24 A0 c0 l0 w hr0 hc0 c _ rfl
  have hcell : w.cell? ⟨gc, 0, none⟩ = some (.int .i64 c) := (blk_cell hg 0).trans rfl
  generalize hasF l0 c = b at hs ⊢
  have HS := Aside0.mk hs
  clear hs hg hr0 hc0
  go_enter Tryz.func30, Tryz.ntmps30
  go_wp2_with fail
  refine HS.out.mono ?_
  rintro e w' ⟨rfl, hb⟩
  have HB := Aside0.mk hb
  clear hb
  go_wp2_with fail
  go_ret
  exact ⟨rfl, HB.out⟩
/-- The first row of which it holds. -/
def ixF (p : List S38 → Bool) (l : List (List S38)) : Int := match l.findIdx? p with
  | some i => i
  | none => -1
theorem ixF_ge (p : List S38 → Bool) (l : List (List S38)) : decide (0 ≤ ixF p l) = l.any p := by
  unfold ixF
  cases h : l.findIdx? p with
  | none =>
    have := List.findIdx?_eq_none_iff.1 h
    simp only
    rw [decide_eq_false (by omega)]
    symm
    rw [List.any_eq_false]
    intro x hx
    rw [this x hx]
    decide
  | some i =>
    simp only
    rw [decide_eq_true (by omega)]
    symm
    obtain ⟨hi, hp, _⟩ := List.findIdx?_eq_some_iff_getElem.1 h
    exact List.any_eq_true.2 ⟨_, List.getElem_mem hi, hp⟩
def Lxi (w : World) (l : List (List S38)) (p : List S38 → Bool) (u : Value) (W : World) : Prop := ∃ j : Nat, j ≤ l.length ∧ u = .int .i64 j ∧ Below w.heap.size w W ∧ ∀ r ∈ l.take j, p r = false
set_option maxHeartbeats 2000000 in
theorem index_long (A0 : Option Addr) (c0 : Nat) (l0 : List (List S38)) (w : World) (hr0 : Kd.C (Kd.slice 38 k38) w A0 l0.length l0) (hc0 : l0.length ≤ c0) :
    Calls Tryz.prog 29 #[.slice A0 l0.length c0, .func (.func 18) #[] #[]] w fun e w' => e = .returned (.int .i64 (ixF (fun x_ : List S38 => decide (400 < x_.length)) l0)) ∧ Below w.heap.size w w' := by
  have HR := Aside0.mk hr0
  have HM : l0.length ≤ 9223372036854775807 := Kd.C_max hr0
  have eg : ∀ args w, (callFunc 18 args).run Tryz.prog w = .ok (.enter 18 args) w := enters_of Tryz.func18 (by kernel_rfl) rfl
  clear hr0
  obtain ⟨p, hp⟩ : ∃ p : List S38 → Bool, p = fun x_ : List S38 => decide (400 < x_.length) := ⟨_, rfl⟩
  rw [← hp]
  have HP := Aside0.mk hp
  clear hp
  go_enter Tryz.func29, Tryz.ntmps29
  go_wp2_with fail
  go_loopw [8] (fun u W => Lxi w l0 p u W) (fun u _ => l0.length - (intOf u).toNat)
  case atStart => exact ⟨0, Nat.zero_le _, rfl, Below.refl _ _, (fun r hr => by simp at hr)⟩
  case round =>
    obtain ⟨j, hj, rfl, hb, hno⟩ := hrel
    have HB := Aside0.mk hb
    have HN := Aside0.mk hno
    clear hb hno
    by_cases hlt : j < l0.length
    · have b1 : decide ((j : Int) < (l0.length : Int)) = true := decide_eq_true (by omega)
      have b2 : decide (j < l0.length) = true := decide_eq_true hlt
      obtain ⟨ad, A1, c1, rfl, k0, k1, k2⟩ := at_L3 (Kd.C_below HR.out HB.out) (j : Int) (by omega) (by omega)
      rw [Int.toNat_natCast] at k0
      have hq0 : 0 ≤ (j : Int) := by omega
      have hq1 : (j : Int) < (l0.length : Int) := by omega
      have w2 : IntKind.i64.wrap ((j : Int) + 1) = (j : Int) + 1 := IntWalk.i64_in _ (by omega)
      have hel : l0[j]? = some (rd_L3 l0 j) := by
        unfold rd_L3
        rw [Int.toNat_natCast, List.getD_eq_getElem?_getD, List.getElem?_eq_getElem hlt]
        rfl
      have HE := Aside0.mk hel
      clear hel
      obtain ⟨s, hs⟩ : ∃ s, s = rd_L3 l0 j := ⟨_, rfl⟩
      rw [← hs] at k0 k1 k2 HE
      clear hs
      have HK := Aside0.mk k2
      have HK1 := Aside0.mk k1
      clear k2 k1
      go_wp2_with fail
      have hrl := long_one A1 c1 s wr
      rw [show decide (400 < s.length) = p s from by rw [HP.out]] at hrl
      refine hrl.mono ?_
      clear hrl
      rintro e W7 ⟨rfl, hb7⟩
      have HB7 := Aside0.mk (HB.out.trans (hb7.mono HB.out.size))
      clear hb7 k0
      cases hi : p s with
      | true =>
        have HI := Aside0.mk hi
        clear hi
        go_wp2_with fail
        go_ret
        have hfi : (l0.findIdx? p) = some j := List.findIdx?_eq_some_iff_getElem.2 ⟨hlt, (by rw [List.getElem?_eq_getElem hlt] at HE; rw [Option.some.inj HE.out]; exact HI.out), (fun i hi => by
          have := HN.out (l0[i]'(by omega)) (List.mem_take_iff_getElem.2 ⟨i, by omega, rfl⟩)
          rw [this]
          decide)⟩
        have hix : ixF p l0 = j := by
          unfold ixF
          rw [hfi]
        exact ⟨by rw [hix]; rfl, HB7.out⟩
      | false =>
        have HI := Aside0.mk hi
        clear hi
        go_wp2_with fail
        go_roundw
        case rel =>
          refine ⟨j + 1, hlt, by go_num, HB7.out, fun r hr => ?_⟩
          rw [List.take_add_one, HE.out] at hr
          rcases List.mem_append.1 hr with hr | hr
          · exact HN.out r hr
          · simp at hr
            rw [hr]
            exact HI.out
        case measure => simp [intOf]; omega
    · have b1 : decide ((j : Int) < (l0.length : Int)) = false := decide_eq_false (by omega)
      have b2 : decide (j < l0.length) = false := decide_eq_false hlt
      go_wp2_with fail
      go_ret
      have : ixF p l0 = -1 := by
        unfold ixF
        rw [List.findIdx?_eq_none_iff.2 fun x hx => HN.out x (by rw [List.take_of_length_le (by omega)]; exact hx)]
      exact ⟨by rw [this]; rfl, HB.out⟩
set_option maxHeartbeats 2000000 in
theorem index_class (c : Int) (gc : Nat) (A0 : Option Addr) (c0 : Nat) (l0 : List (List S38)) (w : World) (hr0 : Kd.C (Kd.slice 38 k38) w A0 l0.length l0) (hc0 : l0.length ≤ c0) (hg : w.heap[gc]? = some (.cells #[.int .i64 c] 3 (0, 0))) :
    Calls Tryz.prog 29 #[.slice A0 l0.length c0, .func (.func 30) #[] #[.pointer (some ⟨gc, 0, none⟩)]] w fun e w' => e = .returned (.int .i64 (ixF (fun x_ : List S38 => hasF x_ c) l0)) ∧ Below w.heap.size w w' := by
  have HR := Aside0.mk hr0
  have HG := Aside0.mk hg
  clear hg
  have HM : l0.length ≤ 9223372036854775807 := Kd.C_max hr0
  have eg : ∀ args w, (callFunc 30 args).run Tryz.prog w = .ok (.enter 30 args) w := enters_of Tryz.func30 (by kernel_rfl) rfl
  clear hr0
  obtain ⟨p, hp⟩ : ∃ p : List S38 → Bool, p = fun x_ : List S38 => hasF x_ c := ⟨_, rfl⟩
  rw [← hp]
  have HP := Aside0.mk hp
  clear hp
  go_enter Tryz.func29, Tryz.ntmps29
  go_wp2_with fail
  go_loopw [8] (fun u W => Lxi w l0 p u W) (fun u _ => l0.length - (intOf u).toNat)
  case atStart => exact ⟨0, Nat.zero_le _, rfl, Below.refl _ _, (fun r hr => by simp at hr)⟩
  case round =>
    obtain ⟨j, hj, rfl, hb, hno⟩ := hrel
    have HB := Aside0.mk hb
    have HN := Aside0.mk hno
    clear hb hno
    by_cases hlt : j < l0.length
    · have b1 : decide ((j : Int) < (l0.length : Int)) = true := decide_eq_true (by omega)
      have b2 : decide (j < l0.length) = true := decide_eq_true hlt
      obtain ⟨ad, A1, c1, rfl, k0, k1, k2⟩ := at_L3 (Kd.C_below HR.out HB.out) (j : Int) (by omega) (by omega)
      rw [Int.toNat_natCast] at k0
      have hq0 : 0 ≤ (j : Int) := by omega
      have hq1 : (j : Int) < (l0.length : Int) := by omega
      have w2 : IntKind.i64.wrap ((j : Int) + 1) = (j : Int) + 1 := IntWalk.i64_in _ (by omega)
      have hel : l0[j]? = some (rd_L3 l0 j) := by
        unfold rd_L3
        rw [Int.toNat_natCast, List.getD_eq_getElem?_getD, List.getElem?_eq_getElem hlt]
        rfl
      have HE := Aside0.mk hel
      clear hel
      obtain ⟨s, hs⟩ : ∃ s, s = rd_L3 l0 j := ⟨_, rfl⟩
      rw [← hs] at k0 k1 k2 HE
      clear hs
      have HK := Aside0.mk k2
      have HK1 := Aside0.mk k1
      clear k2 k1
      go_wp2_with fail
      have hrl := class_one c gc A1 c1 s wr HK.out HK1.out (blk_below HG.out HB.out)
      rw [show hasF s c = p s from by rw [HP.out]] at hrl
      refine hrl.mono ?_
      clear hrl
      rintro e W7 ⟨rfl, hb7⟩
      have HB7 := Aside0.mk (HB.out.trans (hb7.mono HB.out.size))
      clear hb7 k0
      cases hi : p s with
      | true =>
        have HI := Aside0.mk hi
        clear hi
        go_wp2_with fail
        go_ret
        have hfi : (l0.findIdx? p) = some j := List.findIdx?_eq_some_iff_getElem.2 ⟨hlt, (by rw [List.getElem?_eq_getElem hlt] at HE; rw [Option.some.inj HE.out]; exact HI.out), (fun i hi => by
          have := HN.out (l0[i]'(by omega)) (List.mem_take_iff_getElem.2 ⟨i, by omega, rfl⟩)
          rw [this]
          decide)⟩
        have hix : ixF p l0 = j := by
          unfold ixF
          rw [hfi]
        exact ⟨by rw [hix]; rfl, HB7.out⟩
      | false =>
        have HI := Aside0.mk hi
        clear hi
        go_wp2_with fail
        go_roundw
        case rel =>
          refine ⟨j + 1, hlt, by go_num, HB7.out, fun r hr => ?_⟩
          rw [List.take_add_one, HE.out] at hr
          rcases List.mem_append.1 hr with hr | hr
          · exact HN.out r hr
          · simp at hr
            rw [hr]
            exact HI.out
        case measure => simp [intOf]; omega
    · have b1 : decide ((j : Int) < (l0.length : Int)) = false := decide_eq_false (by omega)
      have b2 : decide (j < l0.length) = false := decide_eq_false hlt
      go_wp2_with fail
      go_ret
      have : ixF p l0 = -1 := by
        unfold ixF
        rw [List.findIdx?_eq_none_iff.2 fun x hx => HN.out x (by rw [List.take_of_length_le (by omega)]; exact hx)]
      exact ⟨by rw [this]; rfl, HB.out⟩
def longF (l : List (List S38)) : Bool := l.any fun x => decide (400 < x.length)
theorem contains_long (A0 : Option Addr) (c0 : Nat) (l0 : List (List S38)) (w : World) (hr0 : Kd.C (Kd.slice 38 k38) w A0 l0.length l0) (hc0 : l0.length ≤ c0) (b : Bool) (h : longF l0 = b) :
    Calls Tryz.prog 19 #[.slice A0 l0.length c0, .func (.func 18) #[] #[]] w fun e w' => e = .returned (.bool b) ∧ Below w.heap.size w w' := by
  have hi := index_long A0 c0 l0 w hr0 hc0
  have hge : decide (0 ≤ ixF (fun x : List S38 => decide (400 < x.length)) l0) = b := (ixF_ge _ l0).trans h
  generalize ixF (fun x : List S38 => decide (400 < x.length)) l0 = i at hi hge
  rw [← hge]
  have HI := Aside0.mk hi
  clear hi hr0 hc0 hge h
  go_enter Tryz.func19, Tryz.ntmps19
  go_wp2_with fail
  refine HI.out.mono ?_
  rintro e w' ⟨rfl, hb⟩
  have HB := Aside0.mk hb
  clear hb
  go_wp2_with fail
  go_ret
  exact ⟨rfl, HB.out⟩
def classF (l : List (List S38)) (c : Int) : Int := ixF (fun x => hasF x c) l
theorem c38 (A0 : Option Addr) (c0 : Nat) (l0 : List (List S38)) (a1 : Int) (w : World) (hr0 : Kd.C (Kd.slice 38 k38) w A0 l0.length l0) (hc0 : l0.length ≤ c0) (n : Int) (h : classF l0 a1 = n) :
    Calls Tryz.prog 9 #[.slice A0 l0.length c0, .int .i64 a1] w fun e w' => e = .returned (.int .i64 n) ∧ Below w.heap.size w w' := by
  have hs := index_class a1 w.heap.size A0 c0 l0 (w.alloc (.cells #[.int .i64 a1] 3)) (Kd.C_alloc hr0 _) hc0 (blk_new _ _)
  rw [show ixF (fun x_ : List S38 => hasF x_ a1) l0 = n from h] at hs
  have HS := Aside0.mk hs
  clear hs hr0 hc0 h
  go_enter Tryz.func9, Tryz.ntmps9
  go_wp2_with fail
  refine HS.out.mono ?_
  rintro e w' ⟨rfl, hb⟩
  have HB := Aside0.mk ((below_alloc (Below.refl w.heap.size w) (.cells #[.int .i64 a1] 3)).trans (hb.mono (by simp)))
  clear hb
  go_wp2_with fail
  go_ret
  exact ⟨rfl, HB.out⟩
def atom_Class.f (l0 : List (List S38)) (a1 : Int) : Option Int := some (classF l0 a1)
theorem atom_Class.calls (A0 : Option Addr) (c0 : Nat) (l0 : List (List S38)) (a1 : Int) (r : Int) (w : World) (hr0 : Kd.C (Kd.slice 38 k38) w A0 l0.length l0) (hc0 : l0.length ≤ c0) (h : atom_Class.f l0 a1 = some r) :
    Calls Tryz.prog 9 #[.slice A0 l0.length c0, .int .i64 a1] w fun e w' => e = .returned (.int .i64 r) ∧ Below w.heap.size w w' := c38 A0 c0 l0 a1 w hr0 hc0 r (Option.some.inj h)
end Go.Proofs.YtippkbgeeeimjaaGreat.L
/- slices.Chunk over []Range at up to 400 ranges: none or one chunk. -/
namespace Go.Proofs.YtippkbgeeeimjaaGreat.L
open Go.RowKit Go.Shelf Go.Proofs.YtippkbgeeeimjaaGreatW.PrintWords Go.Proofs.YtippkbgeeeimjaaGreatW.PrintLast Go.Proofs.YtippkbgeeeimjaaGreatW.PrintMore Go.Proofs.YtippkbgeeeimjaaGreat.A Go.Proofs.YtippkbgeeeimjaaGreat.P
set_option linter.unusedVariables false
set_option linter.unusedSimpArgs false
attribute [local go_sem] Oper.semAt_some
theorem chunk_calls (A0 : Option Addr) (n c0 : Nat) (w : World) : Calls Tryz.prog 44 #[.slice A0 n c0, .int .i64 400] w fun e w' => e = .returned (.func (.func 62) #[] #[.pointer (some ⟨w.heap.size, 0, none⟩), .pointer (some ⟨w.heap.size + 1, 0, none⟩)]) ∧ w' = (w.alloc (.cells #[.slice A0 n c0] 23)).alloc (.cells #[.int .i64 400] 3) := by
  go_enter Tryz.func44, Tryz.ntmps44
  go_wp2_with fail
  go_ret
  exact ⟨by simp, rfl⟩
/-- What a round keeps: the iterator's two boxes. -/
def KC (ga gb : Nat) (A B : World) : Prop := (∀ v, A.cell? ⟨ga, 0, none⟩ = some v → B.cell? ⟨ga, 0, none⟩ = some v) ∧ ∀ v, A.cell? ⟨gb, 0, none⟩ = some v → B.cell? ⟨gb, 0, none⟩ = some v
theorem KC.trans {ga gb : Nat} {A B C : World} (h : KC ga gb A B) (k : KC ga gb B C) : KC ga gb A C := ⟨fun v q => k.1 v (h.1 v q), fun v q => k.2 v (h.2 v q)⟩
theorem KC.put {ga gb : Nat} (W : World) (l : Nat) (o o' : Obj) (h : W.heap[l]? = some o) (ho : o.isCells = false) : KC ga gb W (W.putObj l o') :=
  ⟨fun v q => cell_kept q (grownBy_putObj' W l o') (fun r e => by cases e; exact ⟨o, h, ho⟩), fun v q => cell_kept q (grownBy_putObj' W l o') (fun r e => by cases e; exact ⟨o, h, ho⟩)⟩
set_option maxRecDepth 100000 in
set_option maxHeartbeats 2000000 in
theorem chunk1_in (n : Nat) (hn : 1 ≤ n) (l ga gb : Nat) (ad : Addr) (len cap : Nat) (h1 : 0 < len) (h4 : len ≤ 400) (hcap : len ≤ cap) (J Jx : List Unit → World → Prop)
    (hY : ∀ pre x W, J pre W → pre.length < 1 → YieldAt Fence.wide (n - 1) Tryz.prog l #[.slice (some ad) len len] W fun e W' =>
      (e = .returned (.bool true) ∧ J (pre ++ [x]) W' ∧ KC ga gb W W') ∨ (e = .returned (.bool false) ∧ Jx (pre ++ [x]) W'))
    (W : World) (hA : W.cell? ⟨ga, 0, none⟩ = some (.slice (some ad) len cap)) (hB : W.cell? ⟨gb, 0, none⟩ = some (.int .i64 400)) (hJ : AbidesFrom W.heap.size J) (h0 : J [] W) :
    CallsIn Fence.wide n Tryz.prog 62 #[.func (.yield l) #[] #[], .pointer (some ⟨ga, 0, none⟩), .pointer (some ⟨gb, 0, none⟩)] W fun e W' => (∃ v, e = .returned v) ∧
      ((∃ ys : List Unit, ys.length = 1 ∧ J ys W') ∨ (∃ pre : List Unit, True ∧ Jx pre W')) := by
  refine callsIn_of_wp Tryz.func62 rfl trivial ?_ rfl
  simp only [Tryz.ntmps62, List.size_toArray, List.length_cons, List.length_nil, Nat.reduceAdd, Nat.reduceSub, Array.replicate_succ, Array.replicate_zero, List.push_toArray, List.append_toArray, List.nil_append, List.cons_append]
  gi_wp2
  gi_loopw [4] (fun i wr => (i = .int .i64 0 ∧ J [] wr ∧ wr.cell? ⟨ga, 0, none⟩ = some (.slice (some ad) len cap) ∧ wr.cell? ⟨gb, 0, none⟩ = some (.int .i64 400)) ∨ (i = .int .i64 400 ∧ J [()] wr ∧ wr.cell? ⟨ga, 0, none⟩ = some (.slice (some ad) len cap) ∧ wr.cell? ⟨gb, 0, none⟩ = some (.int .i64 400))) (fun i _ => (400 - intOf i).toNat)
  case atStart => exact Or.inl ⟨rfl, h0, hA, hB⟩
  case round =>
    rcases hrel with ⟨rfl, hJs, hAx, hBx⟩ | ⟨rfl, hJs, hAx, hBx⟩
    · have b1 : decide ((0 : Int) < (len : Int)) = true := decide_eq_true (by omega)
      have mi : min (400 : Int) (len : Int) = (len : Int) := by omega
      gi_wp2
      gi_quiet (fail)
      have hJd : J [] (wr.drewN nq) := hJ [] wr _ none hJs ⟨rfl, rfl, rfl, Nat.le_refl _, fun _ _ _ => rfl⟩ (fun r e => by cases e)
      have hAd : (wr.drewN nq).cell? ⟨ga, 0, none⟩ = some (.slice (some ad) len cap) := hAx
      have hBd : (wr.drewN nq).cell? ⟨gb, 0, none⟩ = some (.int .i64 400) := hBx
      generalize wr.drewN nq = wd at *
      clear hAx hBx hJs
      obtain ⟨fn, tmps, assign, body, hy, hR⟩ := hY [] () wd hJd (by simp)
      gi_wp2
      refine hR.mono ?_
      rintro e W3 (⟨rfl, hJ3, hk3⟩ | ⟨rfl, hJx3⟩)
      · have hA3 : W3.cell? ⟨ga, 0, none⟩ = some (.slice (some ad) len cap) := hk3.1 _ hAd
        have hB3 : W3.cell? ⟨gb, 0, none⟩ = some (.int .i64 400) := hk3.2 _ hBd
        gi_wp2
        go_roundw
        case rel => exact Or.inr ⟨rfl, hJ3, hA3, hB3⟩
        case measure => simp [intOf]
      · gi_wp2
        refine bodyPost_ret (results_none rfl _ _ _) rfl ?_
        exact ⟨⟨_, rfl⟩, .inr ⟨_, trivial, hJx3⟩⟩
    · have b1 : decide ((400 : Int) < (len : Int)) = false := decide_eq_false (by omega)
      gi_wp2
      go_end0
      exact ⟨⟨_, rfl⟩, .inl ⟨_, rfl, hJs⟩⟩
set_option maxRecDepth 100000 in
set_option maxHeartbeats 2000000 in
theorem chunk0_in (n : Nat) (l ga gb : Nat) (A0 : Option Addr) (cap : Nat) (J : List Unit → World → Prop) (W : World) (hA : W.cell? ⟨ga, 0, none⟩ = some (.slice A0 0 cap)) (h0 : J [] W) :
    CallsIn Fence.wide n Tryz.prog 62 #[.func (.yield l) #[] #[], .pointer (some ⟨ga, 0, none⟩), .pointer (some ⟨gb, 0, none⟩)] W fun e W' => (∃ v, e = .returned v) ∧ J [] W' := by
  refine callsIn_of_wp Tryz.func62 rfl trivial ?_ rfl
  simp only [Tryz.ntmps62, List.size_toArray, List.length_cons, List.length_nil, Nat.reduceAdd, Nat.reduceSub, Array.replicate_succ, Array.replicate_zero, List.push_toArray, List.append_toArray, List.nil_append, List.cons_append]
  gi_wp2
  gi_loopw [4] (fun i wr => i = .int .i64 0 ∧ J [] wr ∧ wr.cell? ⟨ga, 0, none⟩ = some (.slice A0 0 cap)) (fun _ _ => 0)
  case atStart => exact ⟨rfl, h0, hA⟩
  case round =>
    obtain ⟨rfl, hJs, hAx⟩ := hrel
    gi_wp2
    go_end0
    exact ⟨⟨_, rfl⟩, hJs⟩
/-- The iterator's contract: one chunk of all, or none of nothing. -/
theorem chunk_stops (n : Nat) (hn : 1 ≤ n) (ga gb : Nat) (A0 : Option Addr) (l0 : List S38) (cap : Nat) (h4 : l0.length ≤ 400) (hcap : l0.length ≤ cap) (w : World) (hC : Kd.C k38 w A0 l0.length l0) (hga : ga < w.heap.size) (hgb : gb < w.heap.size)
    (hA : w.cell? ⟨ga, 0, none⟩ = some (.slice A0 l0.length cap)) (hB : w.cell? ⟨gb, 0, none⟩ = some (.int .i64 400)) :
    SeqStopsK Fence.wide n Tryz.prog 62 #[.pointer (some ⟨ga, 0, none⟩), .pointer (some ⟨gb, 0, none⟩)] (fun _ : Unit => #[Value.slice A0 l0.length l0.length]) (KC ga gb) (fun ys => ys.length = if l0.length = 0 then 0 else 1) (fun pre => True) 1 w := fun l J Jx W hW hJ _ hY h0 => by
  have hA' := (hW.cell (p := ⟨ga, 0, none⟩) (by show ga < _; omega)).trans hA
  have hB' := (hW.cell (p := ⟨gb, 0, none⟩) (by show gb < _; omega)).trans hB
  by_cases hz : l0.length = 0
  · rw [hz] at hA'
    refine (chunk0_in n l ga gb A0 cap J W hA' h0).mono fun e W' ⟨he, hj⟩ => ⟨he, .inl ⟨[], by rw [if_pos hz]; rfl, hj⟩⟩
  · obtain ⟨ad, rfl⟩ : ∃ ad, A0 = some ad := by
      obtain ⟨ad, _, e, _⟩ := Kd.C_get hC z38 0 (by omega) (by omega)
      exact ⟨ad, e⟩
    refine (chunk1_in n hn l ga gb ad l0.length cap (by omega) h4 hcap J Jx hY W hA' hB' hJ h0).mono fun e W' ⟨he, h⟩ => ⟨he, h.imp (fun ⟨ys, h1, h2⟩ => ⟨ys, by rw [if_neg hz]; exact h1, h2⟩) id⟩
end Go.Proofs.YtippkbgeeeimjaaGreat.L
/- append(v, ys...) in a fenced walk; ranges as owned cells. -/
namespace Go.Proofs.YtippkbgeeeimjaaGreat.L
open Go.RowKit Go.Shelf Go.Proofs.YtippkbgeeeimjaaGreatW.PrintWords Go.Proofs.YtippkbgeeeimjaaGreatW.PrintWords.Kd Go.Proofs.YtippkbgeeeimjaaGreatW.PrintLast Go.Proofs.YtippkbgeeeimjaaGreatW.PrintMore Go.Proofs.YtippkbgeeeimjaaGreat.A Go.Proofs.YtippkbgeeeimjaaGreat.P
set_option linter.unusedVariables false
set_option linter.unusedSimpArgs false
section
variable {P : Program} {ops : Array Oper} {rest : List Oper} {o : Oper} {a : Act} {Q : Exit → Act → World → Prop} {α : Type}
theorem run_append_R (d : Kd α) {Rr : α → List Value → Prop} {W : World} (base : Nat) (t ty e : TypeId) (z : Value) (bytes : Nat)
    (ht : P.underlying t = some (.slice e)) (hinfo : (P.info? e).map (fun i => (i.zero, i.size, i.bytes)) = some (some z, d.sz, bytes)) (hz : z.cells.size = d.sz) (hs0 : 0 < d.sz) (hb0 : 0 < bytes)
    (v : Value) (xs ys : List α) (A : Option Addr) (m c : Nat) (ok okp : Nat → Prop)
    (HO : d.R e W base ok v xs) (HR : ReadsRow Rr d.sz W A m ys) (hKM : ∀ x cs, Rr x cs → d.M W base okp x cs) (hokp : ∀ k, okp k → ok k ∧ some k ≠ v.ownBlock) (hfresh : ∀ k, W.heap.size ≤ k → ok k)
    (hbase : base ≤ W.heap.size) (hl : (xs.length + m) * bytes ≤ 140737488355328) :
    ∃ v1 w1, (Builtin.append_ #[t, t] ty #[v, .slice A m c]).run P W = .ok v1 w1 ∧ d.R e w1 base ok v1 (xs ++ ys) ∧ W.grownBy w1 v.ownBlock ∧ (v1.ownBlock = v.ownBlock ∨ ∃ b, v1.ownBlock = some b ∧ W.heap.size ≤ b) := by
  obtain ⟨i0, hi, hzz⟩ := Option.map_eq_some_iff.1 hinfo
  simp only [Prod.mk.injEq] at hzz
  obtain ⟨hz0, hz1, hz2⟩ := hzz
  have hm : ys.length = m := HR.1
  have hlen : xs.length + m ≤ 140737488355328 := Nat.le_trans (Nat.le_mul_of_pos_right _ hb0) hl
  obtain ⟨hok, inner, hown, hr⟩ := HO
  rcases A with _ | ad
  · have h0 : m = 0 := by
      rcases Nat.eq_zero_or_pos m with h0 | h0
      · exact h0
      · obtain ⟨ad, h, _⟩ := HR.2.2 h0
        cases h
    subst h0
    obtain rfl : ys = [] := List.eq_nil_of_length_eq_zero hm
    refine ⟨v, W, ?_, by rw [List.append_nil]; exact ⟨hok, inner, hown, hr⟩, World.grownBy.refl W _, .inl rfl⟩
    rcases hown.2 with ⟨rfl, hn⟩ | ⟨g, cap, cur, rfl, _, _, hnc, _⟩
    · simp [Builtin.append_, run_underlying ht, sizeOf, typeInfo, hi, Builtin.lenOf, Builtin.firstCells]
    · simp [Builtin.append_, run_underlying ht, sizeOf, typeInfo, hi, Builtin.lenOf, Builtin.firstCells, hnc, storeCells]
  · obtain ⟨news, hnr, hnc⟩ := ReadsRow.inner_ HR
    have hnM : Reps (d.M W base okp) d.sz ys news := hnr.imp_ (fun p c hp => hKM p c hp)
    have hone : ∀ u ∈ news, u.oneCell' = true := by
      intro u hu
      obtain ⟨q, hq, rfl⟩ := List.mem_iff_getElem.1 hu
      have hql : q / d.sz < ys.length := by
        rw [Nat.div_lt_iff_lt_mul hs0]
        rw [← hnM.1]
        exact hq
      have hc := hnM.2 (q / d.sz) _ (List.getElem?_eq_getElem hql)
      refine d.K_one (d.K_of_M hc) _ ?_
      rw [List.mem_iff_getElem?]
      refine ⟨q % d.sz, ?_⟩
      rw [List.getElem?_take, if_pos (Nat.mod_lt _ hs0), List.getElem?_drop, Nat.mul_comm, Nat.div_add_mod, List.getElem?_eq_getElem hq]
    obtain ⟨v1, w1, hrun, h2, hg, _, hat⟩ := run_append_own_at (P := P) W base t ty e i0 z d.sz bytes ht hi hz0 hz1 hz2 hz hs0 v xs.length inner hown ad m c news (by rw [hnM.1, hm]) hnc hone (by simp only [maxLen]; omega) hl hbase
    have hat' : v1.ownBlock = v.ownBlock ∨ ∃ b, v1.ownBlock = some b ∧ W.heap.size ≤ b := by
      rcases hat with hat | hat
      · exact .inl hat
      · exact .inr ⟨_, hat, Nat.le_refl _⟩
    have hne : ∀ k, some k ≠ v.ownBlock → k < W.heap.size → some k ≠ v1.ownBlock := by
      intro k hk hlt
      rcases hat' with hat | ⟨b, hb, hle⟩
      · rw [hat]; exact hk
      · rw [hb]
        intro he
        injection he with he
        omega
    have step : ∀ {q : α} {c : List Value} {o : Nat → Prop}, d.M W base o q c → (∀ k, o k → ok k ∧ some k ≠ v.ownBlock) → d.M w1 base (fun k => ok k ∧ some k ≠ v1.ownBlock) q c := by
      intro q c o hq ho
      have h1 := d.M_move (w1 := w1) (fun k hk => hg.block k hk.2.2.1 (ho k hk.1).2) (d.M_bound hq)
      exact d.M_mono (fun k hk => ⟨(ho k hk.1).1, hne k (ho k hk.1).2 hk.2.2.1⟩) h1
    refine ⟨v1, w1, hrun, ⟨fun k hk => ?_, inner ++ news, by rw [List.length_append, hm]; exact h2, reps_append (hr.imp_ (fun _ _ hq => step hq (fun _ hk => hk))) (hnM.imp_ (fun _ _ hq => step hq hokp))⟩, hg, hat'⟩
    rcases hat' with hat | ⟨b, hb, hle⟩
    · exact hok k (hat ▸ hk)
    · rw [hb] at hk
      injection hk with hk
      exact hfresh k (by omega)
end
def c34 (xs : List S38) : List Value := xs.flatMap fun x => [Value.int .i64 x.f0, Value.int .i64 x.f1]
theorem reps_c34 {w : World} {base : Nat} {ok : Nat → Prop} : ∀ {xs : List S38} {inner : List Value}, Reps (k38.M w base ok) 2 xs inner → inner = c34 xs
  | [], inner, h => List.eq_nil_of_length_eq_zero (by have := h.1; simpa using this)
  | x :: xs, inner, h => by
    have hl := h.1
    have h0 := h.2 0 x rfl
    match inner, hl with
    | [], hl => exact absurd hl (by simp only [List.length_cons, List.length_nil]; omega)
    | [u], hl => exact absurd hl (by simp only [List.length_cons, List.length_nil]; omega)
    | u :: v :: rest, hl =>
      have h0' : k38.M w base ok x [u, v] := by simpa using h0
      have e := k38_openM h0'
      have ht : Reps (k38.M w base ok) 2 xs rest := ⟨by simp only [List.length_cons] at hl ⊢; omega, fun j p hp => by
        have := h.2 (j + 1) p (by simpa using hp)
        rw [show (j + 1) * 2 = j * 2 + 1 + 1 by omega] at this
        simpa using this⟩
      rw [reps_c34 ht]
      injection e with e1 e2
      injection e2 with e2
      rw [e1, e2]
      rfl
theorem c34_reps {w : World} {base : Nat} {ok : Nat → Prop} : ∀ (xs : List S38), Reps (k38.M w base ok) 2 xs (c34 xs)
  | [] => Reps.none _ _
  | x :: xs => Reps.c2 (show k38.M w base ok x [.int .i64 x.f0, .int .i64 x.f1] from k38_mkM _ _ _ x) (c34_reps xs)
theorem own_of_R34 {w : World} {base : Nat} {ok : Nat → Prop} {v : Value} {xs : List S38} (h : Kd.R k38 38 w base ok v xs) : w.ownsRow base 38 2 v xs.length (c34 xs) := by
  obtain ⟨_, inner, hown, hr⟩ := h
  rw [← reps_c34 hr]
  exact hown
theorem R34_of_own {w : World} {base : Nat} {v : Value} {xs : List S38} (h : w.ownsRow base 38 2 v xs.length (c34 xs)) : Kd.R k38 38 w base (fun _ => True) v xs :=
  ⟨fun _ _ => trivial, c34 xs, h, c34_reps xs⟩
end Go.Proofs.YtippkbgeeeimjaaGreat.L
/- atom.parts at up to 400 ranges. -/
namespace Go.Proofs.YtippkbgeeeimjaaGreat.L
open Go.RowKit Go.Shelf Go.Proofs.YtippkbgeeeimjaaGreatW.PrintWords Go.Proofs.YtippkbgeeeimjaaGreatW.PrintLast Go.Proofs.YtippkbgeeeimjaaGreatW.PrintMore Go.Proofs.YtippkbgeeeimjaaGreat.A Go.Proofs.YtippkbgeeeimjaaGreat.P
set_option linter.unusedVariables false
set_option linter.unusedSimpArgs false
attribute [local go_sem] Oper.semAt_some
attribute [-go_sem] Builtin.append_
def partF (a s : List S38) (has : Bool) : List S38 := if has then andF a s else lessF a s
theorem partF_true (a s : List S38) : partF a s true = andF a s := by
  unfold partF
  exact if_pos rfl
theorem partF_false (a s : List S38) : partF a s false = lessF a s := by
  unfold partF
  exact if_neg (by decide)
theorem part_app (h : Nat) (W1 : World) (hb : h ≤ W1.heap.size) (A3 : Option Addr) (a3 base1 : Nat) (xs : List S38) (hs : Kd.R k38 38 W1 base1 (fun _ => True) (.slice A3 xs.length a3) xs) (hlen : xs.length * 16 ≤ 140737488355328) :
    ∃ A4 a4 w2, (Builtin.append_ #[23, 23] 23 #[.slice none 0 0, .slice A3 xs.length a3]).run Tryz.prog W1 = .ok (.slice A4 xs.length a4) w2 ∧ Kd.R k38 38 w2 h (fun _ => True) (.slice A4 xs.length a4) xs ∧ W1.grownBy w2 none := by
  obtain ⟨v2, w2, hrun, hR2, hg2, hat2⟩ := run_append_R k38 (P := Tryz.prog) (W := W1) h 23 23 38 (.agg #[.int .i64 0, .int .i64 0]) 16 Tryz.underlying23 (by kernel_rfl) rfl (by decide) (by decide) (.slice none 0 0) [] xs A3 xs.length a3 (fun _ => True) (fun _ => False) (Kd.R_nil _ _ _ _ _) (Kd.R_reads' hs).2.2 (fun x cs h => by obtain rfl := k38_open h; exact k38_mkM _ _ _ x) (fun _ h => h.elim) (fun _ _ => trivial) hb (by simpa using hlen)
  rw [List.nil_append] at hR2
  obtain ⟨A4, a4, rfl⟩ := Kd.R_slice hR2
  exact ⟨A4, a4, w2, hrun, hR2, hg2⟩
theorem parts_end (B5 ga gb b : Nat) (w W W1 w2 : World) (hB : Below w.heap.size w W) (hWW1 : Below W.heap.size W W1) (hg2 : W1.grownBy w2 none) (hle : w.heap.size ≤ b) (hga : ga ≠ b) (hgb : gb ≠ b) (v2 : Value) (xs : List S38)
    (hv2 : Boxed w2 b 23 (.slice none 0 0)) (hR2 : Kd.R k38 38 w2 w.heap.size (fun _ => True) v2 xs) :
    KeepsFrom B5 W (w2.setCell ⟨b, 0, none⟩ v2) ∧ KC ga gb W (w2.setCell ⟨b, 0, none⟩ v2) ∧ (w2.setCell ⟨b, 0, none⟩ v2).ownsRow w.heap.size 38 2 v2 xs.length (c34 xs) ∧ Below w.heap.size w (w2.setCell ⟨b, 0, none⟩ v2) := by
  have hown := own_of_R34 hR2
  have cell : ∀ g v, g ≠ b → W.cell? ⟨g, 0, none⟩ = some v → (w2.setCell ⟨b, 0, none⟩ v2).cell? ⟨g, 0, none⟩ = some v := by
    intro g v hg q
    obtain ⟨o, ho, _⟩ := cells_of_cell q
    have hlt : g < W.heap.size := (Array.getElem?_eq_some_iff.1 ho).1
    have q1 : W1.cell? ⟨g, 0, none⟩ = some v := (hWW1.cell (p := ⟨g, 0, none⟩) hlt).trans q
    have q2 : w2.cell? ⟨g, 0, none⟩ = some v := cell_kept q1 hg2 (fun r e => by cases e)
    exact (World.cell?_of_block (Below.heap_setCell w2 ⟨b, 0, none⟩ v2 g hg)).trans q2
  refine ⟨?_, ⟨fun v q => cell ga v hga q, fun v q => cell gb v hgb q⟩, hown.kept (grownBy_setCell' w2 b v2) (.inr (hv2.not_row (by decide) hown).symm), ?_⟩
  · have k1 : KeepsOthers W W1 := ⟨hWW1.size, fun k o hk _ => (hWW1.block k (Array.getElem?_eq_some_iff.1 hk).1).trans hk⟩
    exact ((k1.trans (KeepsOthers.of_grownBy hg2 (fun j o e => by cases e))).trans (KeepsOthers.setCell _ _ _)).from _
  · have h1 : Below w.heap.size w W1 := hB.trans (hWW1.mono hB.size)
    have h2 : Below w.heap.size w w2 := h1.grown hg2 h1.size (fun k e => by cases e)
    exact h2.setCell (p := ⟨b, 0, none⟩) hle _
set_option maxRecDepth 100000 in
set_option maxHeartbeats 4000000 in
theorem parts_true (A0 : Option Addr) (c0 : Nat) (l0 : List S38) (A1 : Option Addr) (c1 : Nat) (l1 : List S38) (w : World) (hr0 : Kd.C k38 w A0 l0.length l0) (hc0 : l0.length ≤ c0) (hr1 : Kd.C k38 w A1 l1.length l1) (hc1 : l1.length ≤ c1) (h4 : l0.length ≤ 400) :
    Calls Tryz.prog 21 #[.slice A0 l0.length c0, .slice A1 l1.length c1, .bool true] w fun e w' => ∃ v, e = .returned v ∧ Kd.R k38 38 w' w.heap.size (fun _ => True) v (andF l0 l1) ∧ Below w.heap.size w w' := by
  have HR0 := Aside0.mk hr0
  have HR1 := Aside0.mk hr1
  have HC0 := Aside0.mk hc0
  have HC1 := Aside0.mk hc1
  clear hr0 hr1 hc0 hc1
  refine (callsIn_wide (n := 3)).1 ?_
  refine callsIn_of_wp_marks Tryz.func21 rfl trivial ?_ rfl
  simp only [Tryz.ntmps21, List.size_toArray, List.length_cons, List.length_nil, Nat.reduceAdd, Nat.reduceSub, Array.replicate_succ, Array.replicate_zero, List.push_toArray, List.append_toArray, List.nil_append, List.cons_append]
  gi_wp2_with (refine ⟨trivial, ?_⟩; gi_at_call 44; refine (callsIn_wide.2 (chunk_calls _ _ _ _)).mono ?_; rintro e w' ⟨rfl, rfl⟩)
  have hsz0 : ∀ (W : World) (o : Obj), (W.alloc o).heap.size = W.heap.size + 1 := fun W o => Array.size_push _
  obtain ⟨W5, hW5⟩ : ∃ W_, W_ = (((((w.alloc (Obj.cells #[Value.slice A1 l1.length c1] 23)).alloc (Obj.cells #[Value.bool true] 4)).alloc (Obj.cells #[Value.slice none 0 0] 23)).alloc (Obj.cells #[Value.slice A0 l0.length c0] 23)).alloc (Obj.cells #[Value.int IntKind.i64 400] 3)) := ⟨_, rfl⟩
  have bS : Boxed W5 w.heap.size 23 (.slice A1 l1.length c1) := by rw [hW5]; exact ((((Boxed.new w 23 _).alloc _).alloc _).alloc _).alloc _
  have bH : Boxed W5 (w.heap.size + 1) 4 (.bool true) := by
    rw [hW5]
    have := Boxed.new (w.alloc (Obj.cells #[Value.slice A1 l1.length c1] 23)) 4 (.bool true)
    rw [hsz0] at this
    exact ((this.alloc _).alloc _).alloc _
  have bO : Boxed W5 (w.heap.size + 1 + 1) 23 (.slice none 0 0) := by
    rw [hW5]
    have := Boxed.new ((w.alloc (Obj.cells #[Value.slice A1 l1.length c1] 23)).alloc (Obj.cells #[Value.bool true] 4)) 23 (.slice none 0 0)
    rw [hsz0, hsz0] at this
    exact (this.alloc _).alloc _
  have bA : Boxed W5 (w.heap.size + 1 + 1 + 1) 23 (.slice A0 l0.length c0) := by
    rw [hW5]
    have := Boxed.new (((w.alloc (Obj.cells #[Value.slice A1 l1.length c1] 23)).alloc (Obj.cells #[Value.bool true] 4)).alloc (Obj.cells #[Value.slice none 0 0] 23)) 23 (.slice A0 l0.length c0)
    rw [hsz0, hsz0, hsz0] at this
    exact this.alloc _
  have bN : Boxed W5 (w.heap.size + 1 + 1 + 1 + 1) 3 (.int .i64 400) := by
    rw [hW5]
    have := Boxed.new ((((w.alloc (Obj.cells #[Value.slice A1 l1.length c1] 23)).alloc (Obj.cells #[Value.bool true] 4)).alloc (Obj.cells #[Value.slice none 0 0] 23)).alloc (Obj.cells #[Value.slice A0 l0.length c0] 23)) 3 (.int .i64 400)
    rw [hsz0, hsz0, hsz0, hsz0] at this
    exact this
  have hsz : W5.heap.size = w.heap.size + 1 + 1 + 1 + 1 + 1 := by rw [hW5, hsz0, hsz0, hsz0, hsz0, hsz0]
  have hb5 : Below w.heap.size w W5 := by
    rw [hW5]
    exact (((((Below.refl _ w).alloc (Nat.le_refl _) _).alloc (by simp) _).alloc (by simp; omega) _).alloc (by simp; omega) _).alloc (by simp; omega) _
  rw [← hW5]
  clear hW5 hsz0
  obtain ⟨F, hF⟩ : ∃ F : List Unit → List S38, F = fun pre => if pre.length = 0 then [] else andF l0 l1 := ⟨_, rfl⟩
  refine wpIn_rangeFunc_ownG rfl (by omega) (gf := 62) (lb := #[.pointer (some ⟨w.heap.size + 1 + 1 + 1, 0, none⟩), .pointer (some ⟨w.heap.size + 1 + 1 + 1 + 1, 0, none⟩)]) rfl trivial (enters_of Tryz.func62 (by kernel_rfl) rfl)
    (chunk_stops (3 - 1) (by omega) (w.heap.size + 1 + 1 + 1) (w.heap.size + 1 + 1 + 1 + 1) A0 l0 c0 h4 HC0.out W5 (Kd.C_below HR0.out hb5) (by omega) (by omega) bA.cell bN.cell)
    (fun h k => h.trans k) (fun W l o o' _ h ho _ => KC.put W l o o' h ho) (Below.refl _ _) (fun _ => rfl)
    (fun pre W => (∃ v, Boxed W (w.heap.size + 1 + 1) 23 v ∧ W.ownsRow w.heap.size 38 2 v (F pre).length (c34 (F pre)) ∧ (pre.length = 0 → v = .slice none 0 0)) ∧ (Boxed W w.heap.size 23 (.slice A1 l1.length c1) ∧ Boxed W (w.heap.size + 1) 4 (.bool true)) ∧ Below w.heap.size w W)
    (fun _ _ _ => False)
    (OwnFrom.and (Own.from (holdsRow_own w.heap.size (w.heap.size + 1 + 1) 23 38 2 (fun pre => (F pre).length) (fun pre => c34 (F pre)) (fun pre v => pre.length = 0 → v = .slice none 0 0)) _) (OwnFrom.and (OwnFrom.and (Own.from (boxed_own _ _ _) _) (Own.from (boxed_own _ _ _) _)) (ownFrom_below (Nat.le_refl _) (by omega))))
    (fun _ _ _ _ _ hs _ _ => hs)
    ⟨⟨_, bO, by rw [hF]; exact World.ownsRow_nil _ _ _ _, fun _ => rfl⟩, ⟨bS, bH⟩, hb5⟩
    (fun x => { tmps := #[Value.slice A0 l0.length c0, Value.slice A1 l1.length c1, Value.bool true, undef,
          Value.pointer (some { block := w.heap.size, off := 0 }),
          Value.pointer (some { block := w.heap.size + 1, off := 0 }), Value.slice none 0 0,
          Value.pointer (some { block := w.heap.size + 1 + 1, off := 0 }), Value.slice A0 l0.length l0.length, Value.slice A0 l0.length c0,
          Value.func (Fn.func 62) #[]
            #[Value.pointer (some { block := w.heap.size + 1 + 1 + 1, off := 0 }),
              Value.pointer (some { block := w.heap.size + 1 + 1 + 1 + 1, off := 0 })],
          Value.slice A0 l0.length l0.length, undef, undef, undef, undef, undef, undef, undef, undef, undef, undef, undef, undef], defers := [] }) ?assign ?body ?done ?stop
  case assign =>
    intro l x W K hK
    gi_wp2
    exact hK
  case body =>
    rintro l pre x W ⟨⟨v, hv, hrow, hnil⟩, ⟨hS, hH⟩, hB⟩ hlt
    have hp0 : pre.length = 0 := by omega
    obtain rfl := hnil hp0
    have hcO := hv.cell
    have hcS := hS.cell
    have hcH := hH.cell
    have hd : 1 ≤ 3 - 1 - 1 := by omega
    have hmx : Tryz.prog.follows .mixedOrders = true := by kernel_rfl
    gi_wp2
    have hbase : w.heap.size ≤ W.heap.size := hB.size
    have hlen : (andF l0 l1).length * 16 ≤ 140737488355328 := by have := (canon_good fun c => hasB l0 c && hasB l1 c).n; unfold andF; omega
    have hcall : Calls Tryz.prog 45 #[.slice A0 l0.length l0.length, .slice A1 l1.length c1] W.drew fun e W1 => ∃ A3 a3 A4 a4 w2, e = .returned (.slice A3 (andF l0 l1).length a3) ∧ Below W.heap.size W W1 ∧ (Builtin.append_ #[23, 23] 23 #[.slice none 0 0, .slice A3 (andF l0 l1).length a3]).run Tryz.prog W1 = .ok (.slice A4 (andF l0 l1).length a4) w2 ∧ Kd.R k38 38 w2 w.heap.size (fun _ => True) (.slice A4 (andF l0 l1).length a4) (andF l0 l1) ∧ W1.grownBy w2 none := by
      refine (c16 A0 l0.length l0 W.drew (Kd.C_drew (Kd.C_below HR0.out hB)) (Nat.le_refl _) A1 c1 l1 (Kd.C_drew (Kd.C_below HR1.out hB)) HC1.out (andF l0 l1) rfl).mono ?_
      rintro e W1 ⟨v1, rfl, hs, hb⟩
      obtain ⟨A3, a3, rfl⟩ := Kd.R_slice hs
      have hWW1 : Below W.heap.size W W1 := ⟨hb.os, hb.tape, hb.output, hb.size, hb.block⟩
      obtain ⟨A4, a4, w2, h1, h2, h3⟩ := part_app w.heap.size W1 (Nat.le_trans hbase hWW1.size) A3 a3 _ (andF l0 l1) hs hlen
      exact ⟨A3, a3, A4, a4, w2, rfl, hWW1, h1, h2, h3⟩
    have HCALL := Aside0.mk hcall
    clear hcall
    gi_region_with_o (refine ⟨trivial, ?_⟩; gi_at_call 45; refine (CallsIn.inRound l (callsIn_wide.2 HCALL.out)).mono ?_; rintro e W1 ⟨A3, a3, A4, a4, w2, rfl, hWW1, hrun, hR2, hg2⟩; have hv1 : Boxed W1 (w.heap.size + 1 + 1) 23 (.slice none 0 0) := (hWW1.block _ hv.lt).trans hv; have hS1 : Boxed W1 w.heap.size 23 (.slice A1 l1.length c1) := (hWW1.block _ hS.lt).trans hS; have hH1 : Boxed W1 (w.heap.size + 1) 4 (.bool true) := (hWW1.block _ hH.lt).trans hH; have hcO1 := hv1.cell; have hv2 : Boxed w2 (w.heap.size + 1 + 1) 23 (.slice none 0 0) := hv1.kept hg2 (fun e => by cases e); have hS2 := hS1.kept hg2 (fun e => by cases e); have hH2 := hH1.kept hg2 (fun e => by cases e); have hc2 := hv2.cell; have hf2 := hv2.frozen)
    all_goals
      obtain ⟨e1, e2, e3, e4⟩ := parts_end W5.heap.size (w.heap.size + 1 + 1 + 1) (w.heap.size + 1 + 1 + 1 + 1) (w.heap.size + 1 + 1) w W W1 w2 hB hWW1 hg2 (by omega) (by omega) (by omega) _ _ hv2 hR2
      have hFp : F (pre ++ [x]) = andF l0 l1 := by
        rw [hF]
        exact if_neg (by simp)
      exact ⟨e1, e2, ⟨_, hv2.set _, by rw [hFp]; exact e3, fun h => absurd h (by simp)⟩, ⟨hS2.other (by omega) _, hH2.other (by omega) _⟩, e4⟩
  case done =>
    rintro D xs W hD hxs ⟨⟨v, hv, hrow, hnil⟩, ⟨hS, hH⟩, hB⟩ hK
    have hcO := hv.cell
    have hFx : F xs = andF l0 l1 := by
      rw [hF]
      dsimp only
      by_cases hz : l0.length = 0
      · rw [hxs, if_pos hz, if_pos rfl]
        symm
        unfold andF
        exact canon_nil fun c _ _ => by rw [List.eq_nil_of_length_eq_zero hz]; simp [hasB, Mem]
      · rw [hxs, if_neg hz, if_neg (by omega)]
    rw [hFx] at hrow
    gi_wp2
    refine ⟨by simp, .inl ⟨_, _, rfl, run_takeDeferred hK, ?_⟩⟩
    exact ⟨_, results_tmp rfl _ _ _, v, rfl, R34_of_own (ownsRow_putObj hrow _ hK rfl), hB.trans (belowK_b (w := w) (Nat.le_refl _) W D _ _ (by omega) hK rfl rfl)⟩
  case stop =>
    rintro D c pre W _ _ h _
    exact h.elim
set_option maxRecDepth 100000 in
set_option maxHeartbeats 4000000 in
theorem parts_false (A0 : Option Addr) (c0 : Nat) (l0 : List S38) (A1 : Option Addr) (c1 : Nat) (l1 : List S38) (w : World) (hr0 : Kd.C k38 w A0 l0.length l0) (hc0 : l0.length ≤ c0) (hr1 : Kd.C k38 w A1 l1.length l1) (hc1 : l1.length ≤ c1) (h4 : l0.length ≤ 400) :
    Calls Tryz.prog 21 #[.slice A0 l0.length c0, .slice A1 l1.length c1, .bool false] w fun e w' => ∃ v, e = .returned v ∧ Kd.R k38 38 w' w.heap.size (fun _ => True) v (lessF l0 l1) ∧ Below w.heap.size w w' := by
  have HR0 := Aside0.mk hr0
  have HR1 := Aside0.mk hr1
  have HC0 := Aside0.mk hc0
  have HC1 := Aside0.mk hc1
  clear hr0 hr1 hc0 hc1
  refine (callsIn_wide (n := 3)).1 ?_
  refine callsIn_of_wp_marks Tryz.func21 rfl trivial ?_ rfl
  simp only [Tryz.ntmps21, List.size_toArray, List.length_cons, List.length_nil, Nat.reduceAdd, Nat.reduceSub, Array.replicate_succ, Array.replicate_zero, List.push_toArray, List.append_toArray, List.nil_append, List.cons_append]
  gi_wp2_with (refine ⟨trivial, ?_⟩; gi_at_call 44; refine (callsIn_wide.2 (chunk_calls _ _ _ _)).mono ?_; rintro e w' ⟨rfl, rfl⟩)
  have hsz0 : ∀ (W : World) (o : Obj), (W.alloc o).heap.size = W.heap.size + 1 := fun W o => Array.size_push _
  obtain ⟨W5, hW5⟩ : ∃ W_, W_ = (((((w.alloc (Obj.cells #[Value.slice A1 l1.length c1] 23)).alloc (Obj.cells #[Value.bool false] 4)).alloc (Obj.cells #[Value.slice none 0 0] 23)).alloc (Obj.cells #[Value.slice A0 l0.length c0] 23)).alloc (Obj.cells #[Value.int IntKind.i64 400] 3)) := ⟨_, rfl⟩
  have bS : Boxed W5 w.heap.size 23 (.slice A1 l1.length c1) := by rw [hW5]; exact ((((Boxed.new w 23 _).alloc _).alloc _).alloc _).alloc _
  have bH : Boxed W5 (w.heap.size + 1) 4 (.bool false) := by
    rw [hW5]
    have := Boxed.new (w.alloc (Obj.cells #[Value.slice A1 l1.length c1] 23)) 4 (.bool false)
    rw [hsz0] at this
    exact ((this.alloc _).alloc _).alloc _
  have bO : Boxed W5 (w.heap.size + 1 + 1) 23 (.slice none 0 0) := by
    rw [hW5]
    have := Boxed.new ((w.alloc (Obj.cells #[Value.slice A1 l1.length c1] 23)).alloc (Obj.cells #[Value.bool false] 4)) 23 (.slice none 0 0)
    rw [hsz0, hsz0] at this
    exact (this.alloc _).alloc _
  have bA : Boxed W5 (w.heap.size + 1 + 1 + 1) 23 (.slice A0 l0.length c0) := by
    rw [hW5]
    have := Boxed.new (((w.alloc (Obj.cells #[Value.slice A1 l1.length c1] 23)).alloc (Obj.cells #[Value.bool false] 4)).alloc (Obj.cells #[Value.slice none 0 0] 23)) 23 (.slice A0 l0.length c0)
    rw [hsz0, hsz0, hsz0] at this
    exact this.alloc _
  have bN : Boxed W5 (w.heap.size + 1 + 1 + 1 + 1) 3 (.int .i64 400) := by
    rw [hW5]
    have := Boxed.new ((((w.alloc (Obj.cells #[Value.slice A1 l1.length c1] 23)).alloc (Obj.cells #[Value.bool false] 4)).alloc (Obj.cells #[Value.slice none 0 0] 23)).alloc (Obj.cells #[Value.slice A0 l0.length c0] 23)) 3 (.int .i64 400)
    rw [hsz0, hsz0, hsz0, hsz0] at this
    exact this
  have hsz : W5.heap.size = w.heap.size + 1 + 1 + 1 + 1 + 1 := by rw [hW5, hsz0, hsz0, hsz0, hsz0, hsz0]
  have hb5 : Below w.heap.size w W5 := by
    rw [hW5]
    exact (((((Below.refl _ w).alloc (Nat.le_refl _) _).alloc (by simp) _).alloc (by simp; omega) _).alloc (by simp; omega) _).alloc (by simp; omega) _
  rw [← hW5]
  clear hW5 hsz0
  obtain ⟨F, hF⟩ : ∃ F : List Unit → List S38, F = fun pre => if pre.length = 0 then [] else lessF l0 l1 := ⟨_, rfl⟩
  refine wpIn_rangeFunc_ownG rfl (by omega) (gf := 62) (lb := #[.pointer (some ⟨w.heap.size + 1 + 1 + 1, 0, none⟩), .pointer (some ⟨w.heap.size + 1 + 1 + 1 + 1, 0, none⟩)]) rfl trivial (enters_of Tryz.func62 (by kernel_rfl) rfl)
    (chunk_stops (3 - 1) (by omega) (w.heap.size + 1 + 1 + 1) (w.heap.size + 1 + 1 + 1 + 1) A0 l0 c0 h4 HC0.out W5 (Kd.C_below HR0.out hb5) (by omega) (by omega) bA.cell bN.cell)
    (fun h k => h.trans k) (fun W l o o' _ h ho _ => KC.put W l o o' h ho) (Below.refl _ _) (fun _ => rfl)
    (fun pre W => (∃ v, Boxed W (w.heap.size + 1 + 1) 23 v ∧ W.ownsRow w.heap.size 38 2 v (F pre).length (c34 (F pre)) ∧ (pre.length = 0 → v = .slice none 0 0)) ∧ (Boxed W w.heap.size 23 (.slice A1 l1.length c1) ∧ Boxed W (w.heap.size + 1) 4 (.bool false)) ∧ Below w.heap.size w W)
    (fun _ _ _ => False)
    (OwnFrom.and (Own.from (holdsRow_own w.heap.size (w.heap.size + 1 + 1) 23 38 2 (fun pre => (F pre).length) (fun pre => c34 (F pre)) (fun pre v => pre.length = 0 → v = .slice none 0 0)) _) (OwnFrom.and (OwnFrom.and (Own.from (boxed_own _ _ _) _) (Own.from (boxed_own _ _ _) _)) (ownFrom_below (Nat.le_refl _) (by omega))))
    (fun _ _ _ _ _ hs _ _ => hs)
    ⟨⟨_, bO, by rw [hF]; exact World.ownsRow_nil _ _ _ _, fun _ => rfl⟩, ⟨bS, bH⟩, hb5⟩
    (fun x => { tmps := #[Value.slice A0 l0.length c0, Value.slice A1 l1.length c1, Value.bool false, undef,
          Value.pointer (some { block := w.heap.size, off := 0 }),
          Value.pointer (some { block := w.heap.size + 1, off := 0 }), Value.slice none 0 0,
          Value.pointer (some { block := w.heap.size + 1 + 1, off := 0 }), Value.slice A0 l0.length l0.length, Value.slice A0 l0.length c0,
          Value.func (Fn.func 62) #[]
            #[Value.pointer (some { block := w.heap.size + 1 + 1 + 1, off := 0 }),
              Value.pointer (some { block := w.heap.size + 1 + 1 + 1 + 1, off := 0 })],
          Value.slice A0 l0.length l0.length, undef, undef, undef, undef, undef, undef, undef, undef, undef, undef, undef, undef], defers := [] }) ?assign ?body ?done ?stop
  case assign =>
    intro l x W K hK
    gi_wp2
    exact hK
  case body =>
    rintro l pre x W ⟨⟨v, hv, hrow, hnil⟩, ⟨hS, hH⟩, hB⟩ hlt
    have hp0 : pre.length = 0 := by omega
    obtain rfl := hnil hp0
    have hcO := hv.cell
    have hcS := hS.cell
    have hcH := hH.cell
    have hd : 1 ≤ 3 - 1 - 1 := by omega
    have hmx : Tryz.prog.follows .mixedOrders = true := by kernel_rfl
    gi_wp2
    have hbase : w.heap.size ≤ W.heap.size := hB.size
    have hlen : (lessF l0 l1).length * 16 ≤ 140737488355328 := by have := (canon_good fun c => hasB l0 c && !hasB l1 c).n; unfold lessF; omega
    have hcall : Calls Tryz.prog 46 #[.slice A0 l0.length l0.length, .slice A1 l1.length c1] W.drew fun e W1 => ∃ A3 a3 A4 a4 w2, e = .returned (.slice A3 (lessF l0 l1).length a3) ∧ Below W.heap.size W W1 ∧ (Builtin.append_ #[23, 23] 23 #[.slice none 0 0, .slice A3 (lessF l0 l1).length a3]).run Tryz.prog W1 = .ok (.slice A4 (lessF l0 l1).length a4) w2 ∧ Kd.R k38 38 w2 w.heap.size (fun _ => True) (.slice A4 (lessF l0 l1).length a4) (lessF l0 l1) ∧ W1.grownBy w2 none := by
      refine (c18 A0 l0.length l0 W.drew (Kd.C_drew (Kd.C_below HR0.out hB)) (Nat.le_refl _) A1 c1 l1 (Kd.C_drew (Kd.C_below HR1.out hB)) HC1.out (lessF l0 l1) rfl).mono ?_
      rintro e W1 ⟨v1, rfl, hs, hb⟩
      obtain ⟨A3, a3, rfl⟩ := Kd.R_slice hs
      have hWW1 : Below W.heap.size W W1 := ⟨hb.os, hb.tape, hb.output, hb.size, hb.block⟩
      obtain ⟨A4, a4, w2, h1, h2, h3⟩ := part_app w.heap.size W1 (Nat.le_trans hbase hWW1.size) A3 a3 _ (lessF l0 l1) hs hlen
      exact ⟨A3, a3, A4, a4, w2, rfl, hWW1, h1, h2, h3⟩
    have HCALL := Aside0.mk hcall
    clear hcall
    gi_region_with_o (refine ⟨trivial, ?_⟩; gi_at_call 46; refine (CallsIn.inRound l (callsIn_wide.2 HCALL.out)).mono ?_; rintro e W1 ⟨A3, a3, A4, a4, w2, rfl, hWW1, hrun, hR2, hg2⟩; have hv1 : Boxed W1 (w.heap.size + 1 + 1) 23 (.slice none 0 0) := (hWW1.block _ hv.lt).trans hv; have hS1 : Boxed W1 w.heap.size 23 (.slice A1 l1.length c1) := (hWW1.block _ hS.lt).trans hS; have hH1 : Boxed W1 (w.heap.size + 1) 4 (.bool false) := (hWW1.block _ hH.lt).trans hH; have hcO1 := hv1.cell; have hv2 : Boxed w2 (w.heap.size + 1 + 1) 23 (.slice none 0 0) := hv1.kept hg2 (fun e => by cases e); have hS2 := hS1.kept hg2 (fun e => by cases e); have hH2 := hH1.kept hg2 (fun e => by cases e); have hc2 := hv2.cell; have hf2 := hv2.frozen)
    all_goals
      obtain ⟨e1, e2, e3, e4⟩ := parts_end W5.heap.size (w.heap.size + 1 + 1 + 1) (w.heap.size + 1 + 1 + 1 + 1) (w.heap.size + 1 + 1) w W W1 w2 hB hWW1 hg2 (by omega) (by omega) (by omega) _ _ hv2 hR2
      have hFp : F (pre ++ [x]) = lessF l0 l1 := by
        rw [hF]
        exact if_neg (by simp)
      exact ⟨e1, e2, ⟨_, hv2.set _, by rw [hFp]; exact e3, fun h => absurd h (by simp)⟩, ⟨hS2.other (by omega) _, hH2.other (by omega) _⟩, e4⟩
  case done =>
    rintro D xs W hD hxs ⟨⟨v, hv, hrow, hnil⟩, ⟨hS, hH⟩, hB⟩ hK
    have hcO := hv.cell
    have hFx : F xs = lessF l0 l1 := by
      rw [hF]
      dsimp only
      by_cases hz : l0.length = 0
      · rw [hxs, if_pos hz, if_pos rfl]
        symm
        unfold lessF
        exact canon_nil fun c _ _ => by rw [List.eq_nil_of_length_eq_zero hz]; simp [hasB, Mem]
      · rw [hxs, if_neg hz, if_neg (by omega)]
    rw [hFx] at hrow
    gi_wp2
    refine ⟨by simp, .inl ⟨_, _, rfl, run_takeDeferred hK, ?_⟩⟩
    exact ⟨_, results_tmp rfl _ _ _, v, rfl, R34_of_own (ownsRow_putObj hrow _ hK rfl), hB.trans (belowK_b (w := w) (Nat.le_refl _) W D _ _ (by omega) hK rfl rfl)⟩
  case stop =>
    rintro D c pre W _ _ h _
    exact h.elim
theorem parts_calls (A0 : Option Addr) (c0 : Nat) (l0 : List S38) (A1 : Option Addr) (c1 : Nat) (l1 : List S38) (b : Bool) (w : World) (hr0 : Kd.C k38 w A0 l0.length l0) (hc0 : l0.length ≤ c0) (hr1 : Kd.C k38 w A1 l1.length l1) (hc1 : l1.length ≤ c1) (h4 : l0.length ≤ 400) :
    Calls Tryz.prog 21 #[.slice A0 l0.length c0, .slice A1 l1.length c1, .bool b] w fun e w' => ∃ v, e = .returned v ∧ Kd.R k38 38 w' w.heap.size (fun _ => True) v (partF l0 l1 b) ∧ Below w.heap.size w w' := by
  cases b with
  | true =>
    rw [partF_true]
    exact parts_true A0 c0 l0 A1 c1 l1 w hr0 hc0 hr1 hc1 h4
  | false =>
    rw [partF_false]
    exact parts_false A0 c0 l0 A1 c1 l1 w hr0 hc0 hr1 hc1 h4
end Go.Proofs.YtippkbgeeeimjaaGreat.L
namespace Go.Proofs.YtippkbgeeeimjaaGreat.D
open Go.RowKit Go.Proofs.YtippkbgeeeimjaaGreatW.PrintWords Go.Proofs.YtippkbgeeeimjaaGreatW.PrintLast Go.Proofs.YtippkbgeeeimjaaGreatW.PrintMore Go.Proofs.YtippkbgeeeimjaaGreat.A Go.Proofs.YtippkbgeeeimjaaGreat.L Go.Proofs.YtippkbgeeeimjaaGreat.B
attribute [local go_sem] max2_int min2_int max_two min_two max_three min_three max_four min_four   -- for this text's walks alone
set_option linter.unusedVariables false
set_option linter.unusedSimpArgs false
def errW : Option Int → Value
  | none => .nilIface
  | some c => .iface 0 (.int .i64 c)
theorem errW_none : errW none = .nilIface := rfl
theorem errW_some (c : Int) : errW (some c) = .iface 0 (.int .i64 c) := rfl
theorem info3 : (Tryz.prog.info? 3).map (fun i => (i.zero, i.size, i.bytes)) = some (some (.int .i64 0), 1, 8) := by kernel_rfl
def rd_L2 (xs : List (List S38)) (i : Int) : (List S38) := xs.getD i.toNat ([] : List S38)
theorem at_L2 {w : World} {A : Option Addr} {n : Nat} {xs : List (List S38)} (h : Kd.C (Kd.slice 38 k38) w A n xs) (i : Int) (h0 : 0 ≤ i) (h1 : i < n) : ∃ ad A0 c0, A = some ad ∧ w.cell? (ad.add i.toNat) = some (.slice A0 (rd_L2 xs i).length c0) ∧ (rd_L2 xs i).length ≤ c0 ∧ k38.C w A0 (rd_L2 xs i).length (rd_L2 xs i) := by
  obtain ⟨ad, c, e, _, hK, hc0⟩ := Kd.C_get h ([] : List S38) i h0 h1
  have hc : ∀ j u, c[j]? = some u → w.cell? (ad.add (i.toNat * 1 + j)) = some u := hc0
  obtain ⟨A0, c0, rfl, l0, g0⟩ := hK
  exact ⟨ad, A0, c0, e, by have hq := hc 0 _ rfl; rwa [Nat.mul_one, Nat.add_zero] at hq, l0, g0⟩
end Go.Proofs.YtippkbgeeeimjaaGreat.D
namespace Go.Proofs.YtippkbgeeeimjaaGreat.D
open Go.RowKit Go.Proofs.YtippkbgeeeimjaaGreatW.PrintWords Go.Proofs.YtippkbgeeeimjaaGreatW.PrintLast Go.Proofs.YtippkbgeeeimjaaGreatW.PrintMore Go.Proofs.YtippkbgeeeimjaaGreat.A Go.Proofs.YtippkbgeeeimjaaGreat.L Go.Proofs.YtippkbgeeeimjaaGreat.B
attribute [local go_sem] max2_int min2_int max_two min_two max_three min_three max_four min_four   -- for this text's walks alone
set_option linter.unusedVariables false
set_option linter.unusedSimpArgs false
def atom_Firsts.l0 : Nat → List Int → List (List (S38)) → Int → Int → Option (List Int)
  | 0, _, _, _, _ => none
  | k + 1, x3, x6, x7, x8 => if x8 < x7 then (if 0 ≤ x8 then (if x8 < (x6.length : Int) then ((span_First.f k (rd_L2 x6 x8)).bind fun t102 => (if x3.length < 17592186044416 then (atom_Firsts.l0 k (x3 ++ [t102]) x6 x7 (wrap64 (x8 + 1))) else (none))) else (none)) else (none)) else (some x3)
def atom_Firsts.f (k : Nat) (l0 : List (List (S38))) : Option (List Int) := atom_Firsts.l0 k ([] : List Int) l0 (l0.length : Int) 0
theorem atom_Firsts.mono_l : ∀ k, (∀ y0 y1 y2 y3, LeO (atom_Firsts.l0 k y0 y1 y2 y3) (atom_Firsts.l0 (k + 1) y0 y1 y2 y3))
  | 0 => fun _ _ _ _ r h => by simp [atom_Firsts.l0] at h
  | k + 1 => by
    have ih0 := atom_Firsts.mono_l k
    · intro y0 y1 y2 y3
      unfold atom_Firsts.l0
      repeat' first
      | (with_reducible exact ih0 _ _ _ _)
      | (with_reducible exact span_First.mono _ _)
      | (with_reducible exact LeO.refl _)
      | (with_reducible exact LeO.none _)
      | (with_reducible refine LeO.ite ?_ ?_)
      | (with_reducible refine LeO.bind ?_ (fun _ => ?_))
      | exact ih0 _ _ _ _
      | exact span_First.mono _ _
      | exact LeO.none _
      | refine LeO.ite ?_ ?_
      | refine LeO.bind ?_ (fun _ => ?_)
theorem atom_Firsts.mono : ∀ a0 k, LeO (atom_Firsts.f k a0) (atom_Firsts.f (k + 1) a0) := by
  intro a0 k
  have ih0 := atom_Firsts.mono_l k
  unfold atom_Firsts.f
  repeat' first
      | (with_reducible exact ih0 _ _ _ _)
      | (with_reducible exact span_First.mono _ _)
      | (with_reducible exact LeO.refl _)
      | (with_reducible exact LeO.none _)
      | (with_reducible refine LeO.ite ?_ ?_)
      | (with_reducible refine LeO.bind ?_ (fun _ => ?_))
      | exact ih0 _ _ _ _
      | exact span_First.mono _ _
      | exact LeO.none _
      | refine LeO.ite ?_ ?_
      | refine LeO.bind ?_ (fun _ => ?_)
set_option maxHeartbeats 8000000 in
set_option maxRecDepth 100000 in
theorem atom_Firsts.calls (k : Nat) (A0 : Option Addr) (c0 : Nat) (l0 : List (List (S38))) (r : List Int) (w : World) (hr0 : Kd.C (Kd.slice 38 k38) w A0 l0.length l0) (hc0 : l0.length ≤ c0) (h : atom_Firsts.f k l0 = some r) :
    Calls Tryz.prog 14 #[.slice A0 l0.length c0] w fun e w' => ∃ v0_ : Value, e = .returned (v0_) ∧ Kd.R (Kd.int .i64) 3 w' w.heap.size (fun _ => True) v0_ r ∧ Below w.heap.size w w' := by
  have HR0 := Aside0.mk hr0
  have HC0 := Aside0.mk hc0
  clear hr0 hc0
  have HB := Aside0.mk (Below.refl w.heap.size w)
  have H : (atom_Firsts.l0 k ([] : List Int) l0 (l0.length : Int) 0) = some r := h
  clear h
  have H' := Aside0.mk H
  clear H
  go_enter Tryz.func14, Tryz.ntmps14
  go_wp2
  go_loopg [3, 8] k (fun kq v3 v8 w' => ∃ (x3_1 : List Int) (x8_1 : Int), v8 = .int .i64 x8_1 ∧ Aside0 (atom_Firsts.l0 kq x3_1 l0 (l0.length : Int) x8_1 = some r) ∧ Aside0 (kq ≤ k) ∧ Aside0 (Kd.R (Kd.int .i64) 3 w' w.heap.size (fun _ => True) v3 x3_1) ∧ Aside0 (Below w.heap.size w w'))
  case atStart => exact ⟨(([] : List Int)), (0), (by first | rfl | (simp; done) | (simp [*]; done)), H', ⟨Nat.le_refl _⟩, ⟨by first | exact Kd.R_nil _ _ _ _ _ | exact Kd.N_nil _ _ _ _ _ | exact Kd.V_nil _ _ _ _ _ | exact Kd.Q_nil _ _ _ _ _ | exact Kd.S_nil _ _ _ _ _⟩, ⟨by repeat (first | (with_reducible first | exact HB.out | apply below_alloc | apply pw_below_drewN | apply below_drew1) | exact HB.out)⟩⟩
  case round =>
    clear H'
    try clear c1
    obtain ⟨x3_1, x8_1, rfl, HA, HK1, HO_3, HB⟩ := hrel
    cases gk with
    | zero => exact absurd HA.out (by simp [atom_Firsts.l0])
    | succ k1 =>
      have H := HA.out
      clear HA
      simp only [atom_Firsts.l0] at H
      by_cases c2 : x8_1 < (l0.length : Int)
      · rw [if_pos c2] at H
        have c2b0 : decide (x8_1 < (l0.length : Int)) = true := decide_eq_true c2
        clear c2
        by_cases c3 : 0 ≤ x8_1
        · rw [if_pos c3] at H
          have c3b0 : decide (0 ≤ x8_1) = true := decide_eq_true c3
          clear c3
          by_cases c4 : x8_1 < (l0.length : Int)
          · rw [if_pos c4] at H
            have c4b0 : decide (x8_1 < (l0.length : Int)) = true := decide_eq_true c4
            clear c4
            replace H := Option.bind_eq_some_iff.mp H
            obtain ⟨t102, A50, H⟩ := H
            replace H : (if x3_1.length < 17592186044416 then (atom_Firsts.l0 k1 (x3_1 ++ [t102]) l0 (l0.length : Int) (wrap64 (x8_1 + 1))) else (none)) = some r := H
            have A5 := Aside0.mk A50
            clear A50
            by_cases c6 : x3_1.length < 17592186044416
            · rw [if_pos c6] at H
              have LMc6 := Aside0.mk c6
              clear c6
              obtain ⟨y103, hy103⟩ : ∃ y_ : List Int, y_ = (x3_1 ++ [t102]) := ⟨_, rfl⟩
              replace H : (atom_Firsts.l0 k1 y103 l0 (l0.length : Int) (wrap64 (x8_1 + 1))) = some r := by first | (rw [hy103]; with_reducible exact H) | (have H2_ := (Option.bind_some _ _).symm.trans H; rw [hy103]; with_reducible exact H2_) | (have H2_ := (Option.bind_some _ _).symm.trans H; with_reducible exact H2_) | with_reducible exact H | (rw [hy103]; exact H) | exact H
              have Ny103 := Aside0.mk hy103
              clear hy103
              have H' := Aside0.mk H
              clear H
              have p101 : 0 ≤ (x8_1 : Int) := of_decide_eq_true (by first | (with_reducible assumption) | assumption)
              have q101 : x8_1 < (l0.length : Int) := of_decide_eq_true (by first | (with_reducible assumption) | assumption)
              obtain ⟨ad101, A101_0, c101_0, e101, hx101_0, hl101_0, hi101_0⟩ := at_L2 HR0.out x8_1 p101 q101
              cases e101
              replace hx101_0 := (HB.out.cell (World.block_lt_of_cell? w _ hx101_0)).trans hx101_0
              have HR101_0 := Aside0.mk hi101_0
              have HC101_0 := Aside0.mk hl101_0
              clear hi101_0 hl101_0
              replace p101 := eq_true p101
              replace q101 := eq_true q101
              go_wp2_with (first | ((with_reducible refine gate_callee (f := 33) rfl ?_); refine goesL_ (some 14) rfl rfl Tryz.func33 (by kernel_rfl) rfl #[.slice A101_0 (rd_L2 l0 x8_1).length c101_0] rfl (by (try simp only [List.map_toArray, List.map_cons, List.map_nil]); first | done | rfl | (simp only [List.length_drop, List.length_take]; rfl)) ?_; (with_reducible refine (span_First.calls k1 _ _ (rd_L2 l0 x8_1) t102 _ ?side1 ?side2 A5.out).mono ?_); (case side1 => repeat (first | exact (Kd.C_below HR101_0.out HB.out) | (with_reducible refine Kd.C_alloc ?_ _) | (with_reducible refine Kd.C_drewN ?_ _) | (with_reducible refine Kd.C_drew ?_))); (case side2 => exact HC101_0.out); rintro e w7 ⟨rfl, hb⟩; refine ⟨_, rfl, ?_⟩; have n0_ := Aside0.mk (Kd.R_below (by (with_reducible repeat (first | apply Kd.R_alloc | apply Kd.R_drewN | apply Kd.R_drew)); exact HO_3.out) hb); have n1_ := Aside0.mk (below_step (by repeat (first | (with_reducible first | exact HB.out | apply below_alloc | apply pw_below_drewN | apply below_drew1) | exact HB.out)) hb); clear HO_3; clear HB; have HO_3 := n0_; have HB := n1_; clear n0_ n1_; (try clear hb); (try clear hb2); (try clear hk); (try clear hi)) | ((with_reducible refine gate_builtin (b := .append) (xs := #[.tmp 12, .tmp 15]) rfl ?_); at_builtin; refine Kd.R_append (Kd.int .i64) (w0 := w) w.heap.size rfl (.tmp 12) (.tmp 15) 32 3 (.int .i64 0) 8 rfl Tryz.underlying32 info3 rfl (by decide) (by omega) u3 x3_1 t102 [.int .i64 t102] (fun _ => True) (fun _ => False) rfl rfl ?aP (fun _ hk => hk.elim) ?aF ?aO ?aB ?aS ?aL ?_; (case aP => exact rfl); (case aB => exact (by repeat (first | (with_reducible first | exact HB.out | apply below_alloc | apply pw_below_drewN | apply below_drew1) | exact HB.out))); (case aF => exact (fun _ _ => trivial)); (case aO => exact (by (with_reducible repeat (first | apply Kd.R_alloc | apply Kd.R_drewN | apply Kd.R_drew)); exact HO_3.out)); (case aS => exact (below_size (by repeat (first | (with_reducible first | exact HB.out | apply below_alloc | apply pw_below_drewN | apply below_drew1) | exact HB.out)))); (case aL => have := LMc6.out; omega); intro v104 w8 ho hb hg hat; rw [← Ny103.out] at ho; have n0_ := Aside0.mk (hb); have n1_ := Aside0.mk (ho); clear HB; clear HO_3; have HB := n0_; have HO105 := n1_; clear n0_ n1_; clear ho hb hg hat))
              go_roundg k1
              case measure => have := HK1.out; omega
              case rel => exact ⟨(y103), (wrap64 (x8_1 + 1)), (by first | rfl | (simp; done) | (simp [*]; done)), H', ⟨by have := HK1.out; omega⟩, ⟨by (with_reducible repeat (first | apply Kd.R_alloc | apply Kd.R_drewN | apply Kd.R_drew)); exact HO105.out⟩, ⟨by repeat (first | (with_reducible first | exact HB.out | apply below_alloc | apply pw_below_drewN | apply below_drew1) | exact HB.out)⟩⟩
            · rw [if_neg c6] at H
              exact absurd H (by simp)
          · rw [if_neg c4] at H
            exact absurd H (by simp)
        · rw [if_neg c3] at H
          exact absurd H (by simp)
      · rw [if_neg c2] at H
        have c2b0 : decide (x8_1 < (l0.length : Int)) = false := decide_eq_false c2
        clear c2
        obtain rfl := Option.some.inj H
        go_wp2
        go_ret
        exact ⟨_, by first | rfl | (simp [errW_none, errW_some] <;> rfl) | (simp [*, errW_none, errW_some] <;> rfl), by (with_reducible repeat (first | apply Kd.R_alloc | apply Kd.R_drewN | apply Kd.R_drew)); exact HO_3.out, by repeat (first | (with_reducible first | exact HB.out | apply below_alloc | apply pw_below_drewN | apply below_drew1) | exact HB.out)⟩
def atom_Within.l0 : Nat → List (S38) → List Int → List Int → Int → Int → Option (List Int)
  | 0, _, _, _, _, _ => none
  | k + 1, x1, x5, x9, x10, x11 => if x11 < x10 then (if 0 ≤ x11 then (if x11 < (x9.length : Int) then ((span_Has.f x1 (rd x9 x11)).bind fun t110 => (if t110 = true then (if x5.length < 17592186044416 then (atom_Within.l0 k x1 (x5 ++ [x11]) x9 x10 (wrap64 (x11 + 1))) else (none)) else (atom_Within.l0 k x1 x5 x9 x10 (wrap64 (x11 + 1))))) else (none)) else (none)) else (some x5)
def atom_Within.f (k : Nat) (l0 : List (List (S38))) (l1 : List (S38)) : Option (List Int) := (atom_Firsts.f k l0).bind fun t106 => (atom_Within.l0 k l1 ([] : List Int) t106 (t106.length : Int) 0)
theorem atom_Within.mono_l : ∀ k, (∀ y0 y1 y2 y3 y4, LeO (atom_Within.l0 k y0 y1 y2 y3 y4) (atom_Within.l0 (k + 1) y0 y1 y2 y3 y4))
  | 0 => fun _ _ _ _ _ r h => by simp [atom_Within.l0] at h
  | k + 1 => by
    have ih0 := atom_Within.mono_l k
    · intro y0 y1 y2 y3 y4
      unfold atom_Within.l0
      repeat' first
      | (with_reducible exact ih0 _ _ _ _ _)
      | (with_reducible exact atom_Firsts.mono _ _)
      | (with_reducible exact LeO.refl _)
      | (with_reducible exact LeO.none _)
      | (with_reducible refine LeO.ite ?_ ?_)
      | (with_reducible refine LeO.bind ?_ (fun _ => ?_))
      | exact ih0 _ _ _ _ _
      | exact atom_Firsts.mono _ _
      | exact LeO.none _
      | refine LeO.ite ?_ ?_
      | refine LeO.bind ?_ (fun _ => ?_)
theorem atom_Within.mono : ∀ a0 a1 k, LeO (atom_Within.f k a0 a1) (atom_Within.f (k + 1) a0 a1) := by
  intro a0 a1 k
  have ih0 := atom_Within.mono_l k
  unfold atom_Within.f
  repeat' first
      | (with_reducible exact ih0 _ _ _ _ _)
      | (with_reducible exact atom_Firsts.mono _ _)
      | (with_reducible exact LeO.refl _)
      | (with_reducible exact LeO.none _)
      | (with_reducible refine LeO.ite ?_ ?_)
      | (with_reducible refine LeO.bind ?_ (fun _ => ?_))
      | exact ih0 _ _ _ _ _
      | exact atom_Firsts.mono _ _
      | exact LeO.none _
      | refine LeO.ite ?_ ?_
      | refine LeO.bind ?_ (fun _ => ?_)
set_option maxHeartbeats 8000000 in
set_option maxRecDepth 100000 in
theorem atom_Within.calls (k : Nat) (A0 : Option Addr) (c0 : Nat) (l0 : List (List (S38))) (A1 : Option Addr) (c1 : Nat) (l1 : List (S38)) (r : List Int) (w : World) (hr0 : Kd.C (Kd.slice 38 k38) w A0 l0.length l0) (hc0 : l0.length ≤ c0) (hr1 : Kd.C k38 w A1 l1.length l1) (hc1 : l1.length ≤ c1) (h : atom_Within.f k l0 l1 = some r) :
    Calls Tryz.prog 12 #[.slice A0 l0.length c0, .slice A1 l1.length c1] w fun e w' => ∃ v0_ : Value, e = .returned (v0_) ∧ Kd.R (Kd.int .i64) 3 w' w.heap.size (fun _ => True) v0_ r ∧ Below w.heap.size w w' := by
  have HR0 := Aside0.mk hr0
  have HC0 := Aside0.mk hc0
  clear hr0 hc0
  have HR1 := Aside0.mk hr1
  have HC1 := Aside0.mk hc1
  clear hr1 hc1
  have HB := Aside0.mk (Below.refl w.heap.size w)
  have H : ((atom_Firsts.f k l0).bind fun t106 => (atom_Within.l0 k l1 ([] : List Int) t106 (t106.length : Int) 0)) = some r := h
  clear h
  replace H := Option.bind_eq_some_iff.mp H
  obtain ⟨t106, A30, H⟩ := H
  replace H : (atom_Within.l0 k l1 ([] : List Int) t106 (t106.length : Int) 0) = some r := H
  have A3 := Aside0.mk A30
  clear A30
  have H' := Aside0.mk H
  clear H
  go_enter Tryz.func12, Tryz.ntmps12
  go_wp2_with (first | ((with_reducible refine gate_callee (f := 14) rfl ?_); refine goesL_ (some 9) rfl rfl Tryz.func14 (by kernel_rfl) rfl #[.slice A0 l0.length c0] rfl (by (try simp only [List.map_toArray, List.map_cons, List.map_nil]); first | done | rfl | (simp only [List.length_drop, List.length_take]; rfl)) ?_; (with_reducible refine (atom_Firsts.calls k _ _ l0 t106 _ ?side1 ?side2 A3.out).mono ?_); (case side1 => repeat (first | exact HR0.out | (with_reducible refine Kd.C_alloc ?_ _) | (with_reducible refine Kd.C_drewN ?_ _) | (with_reducible refine Kd.C_drew ?_))); (case side2 => exact HC0.out); rintro e w4 ⟨v107, rfl, ho0, hb⟩; refine ⟨_, rfl, ?_⟩; have n0_ := Aside0.mk (Kd.R_lower ho0 (below_size (by repeat (first | (with_reducible first | exact HB.out | apply below_alloc | apply pw_below_drewN | apply below_drew1) | exact HB.out)))); have n1_ := Aside0.mk (below_step (by repeat (first | (with_reducible first | exact HB.out | apply below_alloc | apply pw_below_drewN | apply below_drew1) | exact HB.out)) hb); clear HB; have HO108 := n0_; have HB := n1_; clear n0_ n1_; (try clear hb); (try clear hb2); (try clear hk); (try clear hi); (try clear ho0); obtain ⟨Ao5, co5, eo5⟩ := Kd.R_slice HO108.out; subst eo5))
  go_loopg [5, 11] k (fun kq v5 v11 w' => ∃ (x5_1 : List Int) (x11_1 : Int), v11 = .int .i64 x11_1 ∧ Aside0 (atom_Within.l0 kq l1 x5_1 t106 (t106.length : Int) x11_1 = some r) ∧ Aside0 (kq ≤ k) ∧ Aside0 (Kd.R (Kd.int .i64) 3 w' w.heap.size (fun k_ => some k_ ≠ ((.slice Ao5 t106.length co5) : Value).ownBlock) v5 x5_1) ∧ Aside0 (Kd.R (Kd.int .i64) 3 w' w.heap.size (fun k_ => some k_ ≠ (v5 : Value).ownBlock) (.slice Ao5 t106.length co5) t106) ∧ Aside0 (Below w.heap.size w w'))
  case atStart => exact ⟨(([] : List Int)), (0), (by first | rfl | (simp; done) | (simp [*]; done)), H', ⟨Nat.le_refl _⟩, ⟨by first | exact Kd.R_nil _ _ _ _ _ | exact Kd.N_nil _ _ _ _ _ | exact Kd.V_nil _ _ _ _ _ | exact Kd.Q_nil _ _ _ _ _ | exact Kd.S_nil _ _ _ _ _⟩, ⟨by (with_reducible repeat (first | apply Kd.R_alloc | apply Kd.R_drewN | apply Kd.R_drew)); exact Kd.R_mono HO108.out (fun _ hk => (by simp [Value.ownBlock]))⟩, ⟨by repeat (first | (with_reducible first | exact HB.out | apply below_alloc | apply pw_below_drewN | apply below_drew1) | exact HB.out)⟩⟩
  case round =>
    clear H'
    try clear c1
    try clear p2
    obtain ⟨x5_1, x11_1, rfl, HA, HK1, HO_5, HO_9, HB⟩ := hrel
    cases gk with
    | zero => exact absurd HA.out (by simp [atom_Within.l0])
    | succ k1 =>
      have H := HA.out
      clear HA
      simp only [atom_Within.l0] at H
      by_cases c6 : x11_1 < (t106.length : Int)
      · rw [if_pos c6] at H
        have c6b0 : decide (x11_1 < (t106.length : Int)) = true := decide_eq_true c6
        clear c6
        by_cases c7 : 0 ≤ x11_1
        · rw [if_pos c7] at H
          have c7b0 : decide (0 ≤ x11_1) = true := decide_eq_true c7
          clear c7
          by_cases c8 : x11_1 < (t106.length : Int)
          · rw [if_pos c8] at H
            have c8b0 : decide (x11_1 < (t106.length : Int)) = true := decide_eq_true c8
            clear c8
            replace H := Option.bind_eq_some_iff.mp H
            obtain ⟨t110, A90, H⟩ := H
            replace H : (if t110 = true then (if x5_1.length < 17592186044416 then (atom_Within.l0 k1 l1 (x5_1 ++ [x11_1]) t106 (t106.length : Int) (wrap64 (x11_1 + 1))) else (none)) else (atom_Within.l0 k1 l1 x5_1 t106 (t106.length : Int) (wrap64 (x11_1 + 1)))) = some r := H
            have A9 := Aside0.mk A90
            clear A90
            by_cases c10 : t110 = true
            · subst c10
              have H1 : (if x5_1.length < 17592186044416 then (atom_Within.l0 k1 l1 (x5_1 ++ [x11_1]) t106 (t106.length : Int) (wrap64 (x11_1 + 1))) else (none)) = some r := by rw [if_pos rfl] at H; exact H
              clear H
              have H := H1
              clear H1
              by_cases c11 : x5_1.length < 17592186044416
              · rw [if_pos c11] at H
                have LMc11 := Aside0.mk c11
                clear c11
                obtain ⟨y111, hy111⟩ : ∃ y_ : List Int, y_ = (x5_1 ++ [x11_1]) := ⟨_, rfl⟩
                replace H : (atom_Within.l0 k1 l1 y111 t106 (t106.length : Int) (wrap64 (x11_1 + 1))) = some r := by first | (rw [hy111]; with_reducible exact H) | (have H2_ := (Option.bind_some _ _).symm.trans H; rw [hy111]; with_reducible exact H2_) | (have H2_ := (Option.bind_some _ _).symm.trans H; with_reducible exact H2_) | with_reducible exact H | (rw [hy111]; exact H) | exact H
                have Ny111 := Aside0.mk hy111
                clear hy111
                have H' := Aside0.mk H
                clear H
                have p109 : 0 ≤ (x11_1 : Int) := of_decide_eq_true (by first | (with_reducible assumption) | assumption)
                have q109 : x11_1 < (t106.length : Int) := of_decide_eq_true (by first | (with_reducible assumption) | assumption)
                obtain ⟨ad109, e109, hx109_0⟩ := Kd.at_int (Kd.R_reads' HO_9.out).2.2 x11_1 p109 q109
                cases e109
                replace p109 := eq_true p109
                replace q109 := eq_true q109
                go_wp2_with (first | ((with_reducible refine gate_callee (f := 31) rfl ?_); refine goesL_ (some 18) rfl rfl Tryz.func31 (by kernel_rfl) rfl #[.slice A1 l1.length c1, .int .i64 (rd t106 x11_1)] rfl (by (try simp only [List.map_toArray, List.map_cons, List.map_nil]); first | done | rfl | (simp only [List.length_drop, List.length_take]; rfl)) ?_; (with_reducible refine (span_Has.calls _ _ l1 (rd t106 x11_1) true _ ?side1 ?side2 A9.out).mono ?_); (case side1 => repeat (first | exact (Kd.C_below HR1.out HB.out) | (with_reducible refine Kd.C_alloc ?_ _) | (with_reducible refine Kd.C_drewN ?_ _) | (with_reducible refine Kd.C_drew ?_))); (case side2 => exact HC1.out); rintro e w12 ⟨rfl, hb⟩; refine ⟨_, rfl, ?_⟩; have n0_ := Aside0.mk (Kd.R_below (by (with_reducible repeat (first | apply Kd.R_alloc | apply Kd.R_drewN | apply Kd.R_drew)); exact HO_5.out) hb); have n1_ := Aside0.mk (Kd.R_below (by (with_reducible repeat (first | apply Kd.R_alloc | apply Kd.R_drewN | apply Kd.R_drew)); exact HO_9.out) hb); have n2_ := Aside0.mk (below_step (by repeat (first | (with_reducible first | exact HB.out | apply below_alloc | apply pw_below_drewN | apply below_drew1) | exact HB.out)) hb); clear HO_5; clear HO_9; clear HB; have HO_5 := n0_; have HO_9 := n1_; have HB := n2_; clear n0_ n1_ n2_; (try clear hb); (try clear hb2); (try clear hk); (try clear hi)) | ((with_reducible refine gate_builtin (b := .append) (xs := #[.tmp 19, .tmp 21]) rfl ?_); at_builtin; refine Kd.R_append (Kd.int .i64) (w0 := w) w.heap.size rfl (.tmp 19) (.tmp 21) 32 3 (.int .i64 0) 8 rfl Tryz.underlying32 info3 rfl (by decide) (by omega) u5 x5_1 x11_1 [.int .i64 x11_1] (fun k_ => some k_ ≠ (.slice (some ad109) t106.length co5 : Value).ownBlock) (fun _ => False) rfl rfl ?aP (fun _ hk => hk.elim) ?aF ?aO ?aB ?aS ?aL ?_; (case aP => exact rfl); (case aB => exact (by repeat (first | (with_reducible first | exact HB.out | apply below_alloc | apply pw_below_drewN | apply below_drew1) | exact HB.out))); (case aF => exact (fun k_ hk => Kd.fresh' (Kd.R_lt (by (with_reducible repeat (first | apply Kd.R_alloc | apply Kd.R_drewN | apply Kd.R_drew)); exact HO_9.out)) k_ hk)); (case aO => exact (by (with_reducible repeat (first | apply Kd.R_alloc | apply Kd.R_drewN | apply Kd.R_drew)); exact HO_5.out)); (case aS => exact (below_size (by repeat (first | (with_reducible first | exact HB.out | apply below_alloc | apply pw_below_drewN | apply below_drew1) | exact HB.out)))); (case aL => have := LMc11.out; omega); intro v112 w13 ho hb hg hat; rw [← Ny111.out] at ho; have n0_ := Aside0.mk (Kd.R_after (ok := (fun _ => True)) (by (with_reducible repeat (first | apply Kd.R_alloc | apply Kd.R_drewN | apply Kd.R_drew)); exact Kd.R_mono HO_9.out (fun _ hk => ⟨trivial, hk⟩)) hg hat); have n1_ := Aside0.mk (hb); have n2_ := Aside0.mk (ho); clear HO_9; clear HB; clear HO_5; have HO_9 := n0_; have HB := n1_; have HO113 := n2_; clear n0_ n1_ n2_; clear ho hb hg hat))
                go_roundg k1
                case measure => have := HK1.out; omega
                case rel => exact ⟨(y111), (wrap64 (x11_1 + 1)), (by first | rfl | (simp; done) | (simp [*]; done)), H', ⟨by have := HK1.out; omega⟩, ⟨by (with_reducible repeat (first | apply Kd.R_alloc | apply Kd.R_drewN | apply Kd.R_drew)); exact HO113.out⟩, ⟨by (with_reducible repeat (first | apply Kd.R_alloc | apply Kd.R_drewN | apply Kd.R_drew)); exact Kd.R_mono HO_9.out (fun _ hk => hk.2)⟩, ⟨by repeat (first | (with_reducible first | exact HB.out | apply below_alloc | apply pw_below_drewN | apply below_drew1) | exact HB.out)⟩⟩
              · rw [if_neg c11] at H
                exact absurd H (by simp)
            · replace c10 := Bool.eq_false_iff.mpr c10
              subst c10
              have H1 : (atom_Within.l0 k1 l1 x5_1 t106 (t106.length : Int) (wrap64 (x11_1 + 1))) = some r := by rw [if_neg (show ¬ (false = true) by decide)] at H; exact H
              clear H
              have H := H1
              clear H1
              have H' := Aside0.mk H
              clear H
              have p109 : 0 ≤ (x11_1 : Int) := of_decide_eq_true (by first | (with_reducible assumption) | assumption)
              have q109 : x11_1 < (t106.length : Int) := of_decide_eq_true (by first | (with_reducible assumption) | assumption)
              obtain ⟨ad109, e109, hx109_0⟩ := Kd.at_int (Kd.R_reads' HO_9.out).2.2 x11_1 p109 q109
              cases e109
              replace p109 := eq_true p109
              replace q109 := eq_true q109
              go_wp2_with (first | ((with_reducible refine gate_callee (f := 31) rfl ?_); refine goesL_ (some 18) rfl rfl Tryz.func31 (by kernel_rfl) rfl #[.slice A1 l1.length c1, .int .i64 (rd t106 x11_1)] rfl (by (try simp only [List.map_toArray, List.map_cons, List.map_nil]); first | done | rfl | (simp only [List.length_drop, List.length_take]; rfl)) ?_; (with_reducible refine (span_Has.calls _ _ l1 (rd t106 x11_1) false _ ?side1 ?side2 A9.out).mono ?_); (case side1 => repeat (first | exact (Kd.C_below HR1.out HB.out) | (with_reducible refine Kd.C_alloc ?_ _) | (with_reducible refine Kd.C_drewN ?_ _) | (with_reducible refine Kd.C_drew ?_))); (case side2 => exact HC1.out); rintro e w14 ⟨rfl, hb⟩; refine ⟨_, rfl, ?_⟩; have n0_ := Aside0.mk (Kd.R_below (by (with_reducible repeat (first | apply Kd.R_alloc | apply Kd.R_drewN | apply Kd.R_drew)); exact HO_5.out) hb); have n1_ := Aside0.mk (Kd.R_below (by (with_reducible repeat (first | apply Kd.R_alloc | apply Kd.R_drewN | apply Kd.R_drew)); exact HO_9.out) hb); have n2_ := Aside0.mk (below_step (by repeat (first | (with_reducible first | exact HB.out | apply below_alloc | apply pw_below_drewN | apply below_drew1) | exact HB.out)) hb); clear HO_5; clear HO_9; clear HB; have HO_5 := n0_; have HO_9 := n1_; have HB := n2_; clear n0_ n1_ n2_; (try clear hb); (try clear hb2); (try clear hk); (try clear hi)))
              go_roundg k1
              case measure => have := HK1.out; omega
              case rel => exact ⟨(x5_1), (wrap64 (x11_1 + 1)), (by first | rfl | (simp; done) | (simp [*]; done)), H', ⟨by have := HK1.out; omega⟩, ⟨by (with_reducible repeat (first | apply Kd.R_alloc | apply Kd.R_drewN | apply Kd.R_drew)); exact HO_5.out⟩, ⟨by (with_reducible repeat (first | apply Kd.R_alloc | apply Kd.R_drewN | apply Kd.R_drew)); exact HO_9.out⟩, ⟨by repeat (first | (with_reducible first | exact HB.out | apply below_alloc | apply pw_below_drewN | apply below_drew1) | exact HB.out)⟩⟩
          · rw [if_neg c8] at H
            exact absurd H (by simp)
        · rw [if_neg c7] at H
          exact absurd H (by simp)
      · rw [if_neg c6] at H
        have c6b0 : decide (x11_1 < (t106.length : Int)) = false := decide_eq_false c6
        clear c6
        obtain rfl := Option.some.inj H
        go_wp2
        go_ret
        exact ⟨_, by first | rfl | (simp [errW_none, errW_some] <;> rfl) | (simp [*, errW_none, errW_some] <;> rfl), by (with_reducible repeat (first | apply Kd.R_alloc | apply Kd.R_drewN | apply Kd.R_drew)); exact Kd.R_mono HO_5.out (fun _ hk => trivial), by repeat (first | (with_reducible first | exact HB.out | apply below_alloc | apply pw_below_drewN | apply below_drew1) | exact HB.out)⟩
end Go.Proofs.YtippkbgeeeimjaaGreat.D
/- slices.SortFunc of ranges (atom.Right). By substitution out of XSortS. -/
namespace Go.Proofs.YtippkbgeeeimjaaGreat.L
open Go.RowKit Go.Shelf Go.Sort Go.Lib Go.Proofs.YtippkbgeeeimjaaGreatW.PrintWords Go.Proofs.YtippkbgeeeimjaaGreatW.PrintLast Go.Proofs.YtippkbgeeeimjaaGreatW.PrintMore Go.Proofs.YtippkbgeeeimjaaGreat.A
set_option linter.unusedVariables false
set_option linter.unusedSimpArgs false
instance : Inhabited S38 := ⟨z38⟩
def enc38 (x : S38) : List Value := [.int .i64 x.f0, .int .i64 x.f1]
theorem lt34 (x y : S38) : ltOf (fun x y : S38 => cmpI x.f0 y.f0) x y = decide (x.f0 < y.f0) := by
  unfold ltOf cmpI
  by_cases h1 : x.f0 < y.f0
  · simp [h1]
  · by_cases h2 : y.f0 < x.f0 <;> simp [h1, h2]
theorem swo34 : SWO (ltOf fun x y : S38 => cmpI x.f0 y.f0) where
  irrefl x := by rw [lt34]; simp
  trans x y z h1 h2 := by rw [lt34] at *; simp at *; omega
  ntrans x y z h1 h2 := by rw [lt34] at *; simp at *; omega
theorem cmp_range (x y : S38) (W : World) : Calls Tryz.prog 38 #[.agg #[.int .i64 x.f0, .int .i64 x.f1], .agg #[.int .i64 y.f0, .int .i64 y.f1]] W fun e w' => e = .returned (.int .i64 (cmpI x.f0 y.f0)) ∧ w' = (W.alloc (.cells #[.int .i64 x.f0, .int .i64 x.f1] 38)).alloc (.cells #[.int .i64 y.f0, .int .i64 y.f1] 38) := by
  have hc := fun W' => cmp_int x.f0 y.f0 W'
  generalize cmpI x.f0 y.f0 = r at hc ⊢
  have HC := Aside0.mk hc
  clear hc
  go_enter Tryz.func38, Tryz.ntmps38
  go_wp2_with fail
  refine (HC.out _).mono ?_
  rintro e w' ⟨rfl, rfl⟩
  go_wp2_with fail
  go_ret
  exact ⟨rfl, rfl⟩
theorem cmpLays34 (blk off size : Nat) (w : World) : CmpLays Tryz.prog 38 #[] enc38 2 (fun x y => cmpI x.f0 y.f0) blk off size w :=
  fun _ _ _ _ x y => (cmp_range x y _).mono fun e w' ⟨he, hw⟩ => ⟨he, 0, #[.cells #[.int .i64 x.f0, .int .i64 x.f1] 38] ++ #[.cells #[.int .i64 y.f0, .int .i64 y.f1] 38], by subst hw; rw [alloc_eq_grow, alloc_eq_grow, grow_grow]; rfl⟩
/-- Risen by where it changes. -/
def RisesG (l : List S38) : Prop := l.Pairwise fun x y => x.f0 ≤ y.f0
theorem sort_ranges {w0 w : World} {base : Nat} {ok : Nat → Prop} {v : Value} {xs : List S38} (h : Kd.R k38 38 w base ok v xs) (hb : Below base w0 w) (hz : xs.length < 4611686018427387904) :
    Calls Tryz.prog 37 #[v, .func (.func 38) #[] #[]] w fun e w' => e = .returned (.tuple #[]) ∧ ∃ ys, ys.Perm xs ∧ RisesG ys ∧ Kd.R k38 38 w' base ok v ys ∧ Below base w0 w' ∧ w.heap.size ≤ w'.heap.size ∧ ∀ q, q < w.heap.size → some q ≠ v.ownBlock → w'.heap[q]? = w.heap[q]? := by
  by_cases hn : 0 < xs.length
  · obtain ⟨g, c, rfl, hg⟩ := R_place h hn
    have hopen : ∀ {w x cs}, k38.K w x cs → cs = enc38 x := fun h => k38_open h
    have hH := holds_R enc38 2 (by decide) (fun _ => rfl) (d := k38) rfl hopen h
    have hlt : g < w.heap.size := Kd.R_lt h g (by simp [Value.ownBlock])
    have eg : ∀ args w, (callFunc 38 args).run Tryz.prog w = .ok (.enter 38 args) w := enters_of Tryz.func38 (by kernel_rfl) rfl
    have hc := AnyQ.slices_SortFunc Tryz.sortRange 2 Tryz.isAgg38 Tryz.sizeOf38 enc38 (fun _ => rfl) (fun x v hv => by simp [enc38] at hv; rcases hv with rfl | rfl <;> rfl) (fun x y : S38 => cmpI x.f0 y.f0) swo34 38 #[] g 0 c xs.toArray w eg (cmpLays34 g 0 _ w) hH hlt (by simpa using hz)
    have hc' : Calls Tryz.prog 37 #[.slice (some ⟨g, 0, none⟩) xs.length c, .func (.func 38) #[] #[]] w _ := hc
    refine hc'.mono ?_
    rintro e w' ⟨rfl, d', n, os, ⟨hs1, hs2, hs3⟩, hso, rfl⟩
    have hsz : d'.size = xs.length := by simpa using hs1
    refine ⟨rfl, d'.toList, ?_, ?_, sorted_R enc38 2 (by decide) (fun _ => rfl) rfl (fun w base ok x => k38_mkM w base ok x) h hsz, sorted_below enc38 2 hb hg hlt, ?_, ?_⟩
    · have e1 : d'.extract 0 xs.toArray.size = d' := by rw [← hs1]; exact Array.extract_size
      have e2 : xs.toArray.extract 0 xs.toArray.size = xs.toArray := Array.extract_size
      rw [e1, e2] at hs3
      simpa using hs3
    · rw [RisesG, List.pairwise_iff_getElem]
      intro i j hi hj hij
      have hi' : i < d'.size := by simpa using hi
      have hj' : j < d'.size := by simpa using hj
      have := hso i j (Nat.zero_le _) hij (by rw [List.size_toArray]; omega)
      rw [lt34, getElem!_pos d' j hj', getElem!_pos d' i hi'] at this
      have := of_decide_eq_false this
      simp only [Array.getElem_toList]
      omega
    · show _ ≤ ((Sort.ahead w n).heap.modify g _ ++ os).size
      simp [Sort.ahead]
    · intro q hq hne
      have hqg : g ≠ q := fun he => hne (by rw [he]; simp [Value.ownBlock])
      show ((Sort.ahead w n).heap.modify g _ ++ os)[q]? = _
      rw [Array.getElem?_append_left (by simp [Sort.ahead]; omega)]
      simp [Sort.ahead, Array.getElem?_modify, hqg]
  · obtain rfl : xs = [] := List.eq_nil_of_length_eq_zero (by omega)
    obtain ⟨A, c, rfl⟩ := Kd.R_slice h
    have hc := AnyF.slices_SortFunc_none Tryz.sortRange A c (.func (.func 38) #[] #[]) w
    have hc' : Calls Tryz.prog 37 #[.slice A (List.length ([] : List S38)) c, .func (.func 38) #[] #[]] w _ := hc
    refine hc'.mono ?_
    rintro e w' ⟨rfl, rfl⟩
    exact ⟨rfl, [], List.Perm.refl _, List.Pairwise.nil, h, hb, Nat.le_refl _, fun _ _ _ => rfl⟩
end Go.Proofs.YtippkbgeeeimjaaGreat.L
/- slices.SortFunc of rows (atom.Of): by each row's least character. -/
namespace Go.Proofs.YtippkbgeeeimjaaGreat.L
open Go.RowKit Go.Shelf Go.Sort Go.Lib Go.Proofs.YtippkbgeeeimjaaGreatW.PrintWords Go.Proofs.YtippkbgeeeimjaaGreatW.PrintLast Go.Proofs.YtippkbgeeeimjaaGreatW.PrintMore Go.Proofs.YtippkbgeeeimjaaGreat.A Go.Proofs.YtippkbgeeeimjaaGreat.P
set_option linter.unusedVariables false
set_option linter.unusedSimpArgs false
/-- The least character of a row that is not empty. -/
def lowR (l : List S38) : Int := (rd_T38 l 0).f0
theorem cmp_rows (A0 : Option Addr) (c0 : Nat) (l0 : List S38) (A1 : Option Addr) (c1 : Nat) (l1 : List S38) (w : World) (hr0 : Kd.C k38 w A0 l0.length l0) (hr1 : Kd.C k38 w A1 l1.length l1) (h0 : 0 < l0.length) (h1 : 0 < l1.length) :
    Calls Tryz.prog 23 #[.slice A0 l0.length c0, .slice A1 l1.length c1] w fun e w' => e = .returned (.int .i64 (cmpI (lowR l0) (lowR l1))) ∧ ∃ q, w' = w.drewN q := by
  obtain ⟨ad0, rfl, k0, _⟩ := at_T38 hr0 0 (by omega) (by omega)
  obtain ⟨ad1, rfl, k1, _⟩ := at_T38 hr1 0 (by omega) (by omega)
  have z0 : w.cell? ad0 = some (.int .i64 (lowR l0)) := by simpa [Addr.add, lowR] using k0
  have z1 : w.cell? ad1 = some (.int .i64 (lowR l1)) := by simpa [Addr.add, lowR] using k1
  have hc : ∀ W' : World, Calls Tryz.prog 24 #[.int .i64 (lowR l0), .int .i64 (lowR l1)] W' fun e w' => e = .returned (.int .i64 (cmpI (lowR l0) (lowR l1))) ∧ ∃ n, w' = W'.drewN n := fun W' => (cmp_int (lowR l0) (lowR l1) W').mono fun e w' ⟨h1, h2⟩ => ⟨h1, 0, h2⟩
  generalize cmpI (lowR l0) (lowR l1) = r at hc ⊢
  have HC := Aside0.mk hc
  have b0 : (0 : Int) < (l0.length : Int) := by omega
  have b1 : (0 : Int) < (l1.length : Int) := by omega
  clear hc hr0 hr1 k0 k1
  go_enter Tryz.func23, Tryz.ntmps23
  go_wp2_with fail
  go_quiet ((go_at_call 24; refine Calls.quiet_of (HC.out _)))
  go_wp2_with fail
  go_ret
  exact ⟨rfl, _, rfl⟩
/-- Rows of ranges, each its own; kept where blocks of ranges are. -/
def RowsAt (W : World) (h : Nat) (hdrs : List Value) (xs : List (List S38)) : Prop := hdrs.length = xs.length ∧ ∀ (j : Nat) u x, hdrs[j]? = some u → xs[j]? = some x → Kd.R k38 38 W h (fun _ => True) u x
theorem R34_kept {W W1 : World} {base : Nat} {v : Value} {xs : List S38} (h : Kd.R k38 38 W base (fun _ => True) v xs) (hm : ∀ (k : Nat) (cells : Array Value), W.heap[k]? = some (Obj.cells cells 38 (0, 0)) → W1.heap[k]? = W.heap[k]?) : Kd.R k38 38 W1 base (fun _ => True) v xs := by
  refine Kd.R_mono (Kd.R_move (Kd.R_bound h) (fun k hk => ?_)) (fun _ _ => trivial)
  obtain ⟨_, _, _, q, hq, cells, hc⟩ := hk
  have hE : k38.E = [] := rfl
  rw [hE, List.mem_singleton] at hq
  subst hq
  exact hm k cells hc
theorem RowsAt.kept {W W1 : World} {h : Nat} {hdrs : List Value} {xs : List (List S38)} (r : RowsAt W h hdrs xs) (hm : ∀ (k : Nat) (cells : Array Value), W.heap[k]? = some (Obj.cells cells 38 (0, 0)) → W1.heap[k]? = W.heap[k]?) : RowsAt W1 h hdrs xs :=
  ⟨r.1, fun j u x hu hx => R34_kept (r.2 j u x hu hx) hm⟩
def OwnRows (W : World) (h : Nat) (v : Value) (xs : List (List S38)) : Prop := ∃ hdrs, W.ownsRow h 23 1 v xs.length hdrs ∧ RowsAt W h hdrs xs
theorem sw_other {α : Type} [Inhabited α] (enc : α → Value) {w : World} {g m q : Nat} {d : Array α} {os : Array Obj} (hq : q < w.heap.size) (hne : q ≠ g) : (sortWorld enc w g 0 m d os).heap[q]? = w.heap[q]? := by
  show ((Sort.ahead w m).heap.modify g (onCells (putCells enc 0 d)) ++ os)[q]? = _
  rw [Array.getElem?_append_left (by simp [Sort.ahead]; omega)]
  simp [Sort.ahead, Array.getElem?_modify, Ne.symm hne]
theorem ltF {α : Type} (f : α → Int) (x y : α) : ltOf (fun x y => cmpI (f x) (f y)) x y = decide (f x < f y) := by
  unfold ltOf cmpI
  by_cases h1 : f x < f y
  · simp [h1]
  · by_cases h2 : f y < f x <;> simp [h1, h2]
theorem swoF {α : Type} (f : α → Int) : SWO (ltOf fun x y => cmpI (f x) (f y)) where
  irrefl x := by rw [ltF]; simp
  trans x y z h1 h2 := by rw [ltF] at *; simp at *; omega
  ntrans x y z h1 h2 := by rw [ltF] at *; simp at *; omega
theorem extract_all {α : Type} (a : Array α) {n : Nat} (h : a.size = n) : a.extract 0 n = a := by
  subst h
  exact Array.extract_size
theorem ofFn_map {α : Type} (xs : List α) : (Array.ofFn (fun i : Fin xs.length => i)).toList.map (fun i => xs[i.1]) = xs := by
  apply List.ext_getElem
  · simp
  · intro i h1 h2
    simp
theorem sort_rows {w0 W : World} {h : Nat} {v : Value} {xs : List (List S38)} (hO : OwnRows W h v xs) (hb : Below h w0 W) (hn : 0 < xs.length) (hne : ∀ x ∈ xs, 0 < x.length) (hz : xs.length < 4611686018427387904) :
    Calls Tryz.prog 22 #[v, .func (.func 23) #[] #[]] W fun e w' => e = .returned (.tuple #[]) ∧ ∃ ys, ys.Perm xs ∧ (ys.Pairwise fun x y => lowR x ≤ lowR y) ∧ OwnRows w' h v ys ∧ Below h w0 w' := by
  obtain ⟨hdrs, ⟨ho1, ho2⟩, hl, hr⟩ := hO
  rcases ho2 with ⟨_, hn0⟩ | ⟨g, cap, cur, rfl, hbg, hh, hnc, hcm, hcs, ht⟩
  · omega
  haveI : Inhabited (Fin xs.length) := ⟨⟨0, hn⟩⟩
  obtain ⟨enc, henc⟩ : ∃ enc : Fin xs.length → Value, enc = fun i => hdrs[i.1]'(by rw [hl]; exact i.2) := ⟨_, rfl⟩
  obtain ⟨low, hlow⟩ : ∃ low : Fin xs.length → Int, low = fun i => lowR xs[i.1] := ⟨_, rfl⟩
  have row : ∀ i : Fin xs.length, ∃ A c, enc i = .slice A (xs[i.1]).length c ∧ Kd.R k38 38 W h (fun _ => True) (.slice A (xs[i.1]).length c) xs[i.1] := by
    intro i
    have hR := hr i.1 (enc i) xs[i.1] (by rw [henc]; exact List.getElem?_eq_getElem _) (List.getElem?_eq_getElem _)
    obtain ⟨A, c, e⟩ := Kd.R_slice hR
    exact ⟨A, c, e, e ▸ hR⟩
  have hglt : g < W.heap.size := (Array.getElem?_eq_some_iff.1 hh).1
  have far : ∀ {m : Nat} {dk : Array (Fin xs.length)} {os : Array Obj} (k : Nat) (cells : Array Value), W.heap[k]? = some (Obj.cells cells 38 (0, 0)) → (sortWorld enc W g 0 m dk os).heap[k]? = W.heap[k]? := by
    intro m dk os k cells hk
    exact sw_other enc (Array.getElem?_eq_some_iff.1 hk).1 (blk_ne hk hh (by decide))
  have hd : (Array.ofFn (fun i : Fin xs.length => i)).size = xs.length := Array.size_ofFn
  have eg : ∀ args w, (callFunc 23 args).run Tryz.prog w = .ok (.enter 23 args) w := enters_of Tryz.func23 (by kernel_rfl) rfl
  have hH : Holds enc W g 0 (Array.ofFn (fun i : Fin xs.length => i)) := by
    intro j hj
    rw [hd] at hj
    refine ⟨?_, blk_frozen hh _⟩
    rw [Nat.zero_add]
    refine (blk_cell hh j).trans ?_
    have e1 : (Array.ofFn (fun i : Fin xs.length => i))[j]! = ⟨j, hj⟩ := by
      rw [getElem!_pos _ j (by rw [hd]; exact hj)]
      simp
    rw [e1, henc]
    have e2 : hdrs[j]? = cur.toList[j]? := by
      rw [← ht, List.getElem?_take, if_pos (by omega)]
    rw [← Array.getElem?_toList, ← e2]
    exact List.getElem?_eq_getElem _
  have hcmp : CmpLays1 Tryz.prog 23 #[] enc (fun i j => cmpI (low i) (low j)) g 0 (Array.ofFn (fun i : Fin xs.length => i)).size W := by
    intro m os dk hs i j
    obtain ⟨A, c, e1, hR1⟩ := row i
    obtain ⟨B, b, e2, hR2⟩ := row j
    rw [e1, e2, hlow]
    exact (cmp_rows A c xs[i.1] B b xs[j.1] _ (Kd.R_reads' (R34_kept hR1 far)).2.2 (Kd.R_reads' (R34_kept hR2 far)).2.2 (hne _ (List.getElem_mem _)) (hne _ (List.getElem_mem _))).mono fun e w' ⟨he, q, hq⟩ => ⟨he, q, #[], by rw [hq, grow_empty]⟩
  have hone : OneCell enc := fun i => by obtain ⟨A, c, e, _⟩ := row i; rw [e]; rfl
  have hc := Any.slices_SortFunc Tryz.sortRows enc hone (fun i j => cmpI (low i) (low j)) (swoF low) 23 #[] g 0 cap (Array.ofFn (fun i : Fin xs.length => i)) W eg hcmp hH hglt (by rw [hd]; exact hz)
  rw [hd] at hc
  have hc' : Calls Tryz.prog 22 #[.slice (some ⟨g, 0, none⟩) xs.length cap, .func (.func 23) #[] #[]] W _ := hc
  refine hc'.mono ?_
  rintro e w' ⟨rfl, d', n, os, ⟨hs1, hs2, hs3⟩, hso, rfl⟩
  have hsz : d'.size = xs.length := by rw [hs1, hd]
  have hp : d'.toList.Perm (Array.ofFn (fun i : Fin xs.length => i)).toList := by
    rw [extract_all _ hsz, extract_all _ hd] at hs3
    exact hs3
  have hlen : (d'.toList.map fun i => xs[i.1]).length = xs.length := by rw [List.length_map, Array.length_toList, hsz]
  refine ⟨rfl, d'.toList.map fun i => xs[i.1], ?_, ?_, ⟨d'.toList.map enc, ⟨?_, .inr ⟨g, cap, putCells enc 0 d' cur, ?_, hbg, ?_, ?_, hcm, ?_, ?_⟩⟩, ?_, ?_⟩, ?_⟩
  · have := hp.map fun i : Fin xs.length => xs[i.1]
    rwa [ofFn_map] at this
  · rw [List.pairwise_map, List.pairwise_iff_getElem]
    intro i j hi hj hij
    have hi' : i < d'.size := by simpa using hi
    have hj' : j < d'.size := by simpa using hj
    have := hso i j (Nat.zero_le _) hij (by omega)
    rw [ltF, getElem!_pos d' j hj', getElem!_pos d' i hi'] at this
    have := of_decide_eq_false this
    rw [hlow] at this
    dsimp only at this
    simp only [Array.getElem_toList]
    omega
  · rw [hlen, List.length_map, Array.length_toList, hsz, Nat.mul_one]
  · rw [hlen]
  · have : ((Sort.ahead W n).heap.modify g (onCells (putCells enc 0 d')))[g]? = some (.cells (putCells enc 0 d' cur) 23 (0, 0)) := by
      simp [Sort.ahead, Array.getElem?_modify, hh, onCells]
    show ((Sort.ahead W n).heap.modify g (onCells (putCells enc 0 d')) ++ os)[g]? = _
    rw [Array.getElem?_append_left (by simpa [Sort.ahead] using hglt)]
    exact this
  · rw [hlen]; exact hnc
  · simpa [putCells] using hcs
  · rw [hlen]
    apply List.ext_getElem?
    intro j
    rw [List.getElem?_take, Nat.mul_one]
    by_cases hj : j < xs.length
    · have hjc : j < cur.size := by rw [hcs]; omega
      rw [if_pos hj, Array.getElem?_toList]
      simp only [putCells, Array.getElem?_mapIdx, Array.getElem?_eq_getElem hjc, Option.map_some]
      rw [if_pos ⟨Nat.zero_le _, by omega⟩, List.getElem?_map, Array.getElem?_toList, Array.getElem?_eq_getElem (by omega)]
      simp [getElem!_pos, show j < d'.size by omega]
    · rw [if_neg hj, List.getElem?_eq_none (by rw [List.length_map, Array.length_toList]; omega)]
  · rw [List.length_map, List.length_map]
  · intro j u x hu hx
    rw [List.getElem?_map] at hu hx
    obtain ⟨i, hi, rfl⟩ := Option.map_eq_some_iff.1 hu
    rw [hi] at hx
    obtain rfl : xs[i.1] = x := Option.some.inj hx
    obtain ⟨A, c, e, hR⟩ := row i
    rw [e]
    exact R34_kept hR far
  · refine ⟨hb.os, hb.tape, hb.output, ?_, fun q hq => ?_⟩
    · have := hb.size
      show _ ≤ ((Sort.ahead W n).heap.modify g (onCells (putCells enc 0 d')) ++ os).size
      simp [Sort.ahead]
      omega
    · rw [← hb.block q hq]
      exact sw_other enc (by omega) (by omega)
end Go.Proofs.YtippkbgeeeimjaaGreat.L
/- Lists of rows of one's own: headers in one block, each row in its own. -/
namespace Go.Proofs.YtippkbgeeeimjaaGreat.L
open Go.RowKit Go.Shelf Go.Proofs.YtippkbgeeeimjaaGreatW.PrintWords Go.Proofs.YtippkbgeeeimjaaGreatW.PrintLast Go.Proofs.YtippkbgeeeimjaaGreatW.PrintMore Go.Proofs.YtippkbgeeeimjaaGreat.A Go.Proofs.YtippkbgeeeimjaaGreat.P
set_option linter.unusedVariables false
set_option linter.unusedSimpArgs false
theorem OwnRows.nil (W : World) (h : Nat) : OwnRows W h (.slice none 0 0) [] := ⟨[], World.ownsRow_nil _ _ _ _, rfl, fun j u x hu _ => by simp at hu⟩
theorem OwnRows.lower {W : World} {h h' : Nat} {v : Value} {xs : List (List S38)} (o : OwnRows W h v xs) (hb : h' ≤ h) : OwnRows W h' v xs := by
  obtain ⟨hdrs, ho, hl, hr⟩ := o
  refine ⟨hdrs, ⟨ho.1, ?_⟩, hl, fun j u x hu hx => Kd.R_lower (hr j u x hu hx) hb⟩
  rcases ho.2 with hn | ⟨g, cap, cur, e, hg, rest⟩
  · exact .inl hn
  · exact .inr ⟨g, cap, cur, e, by omega, rest⟩
theorem OwnRows.below {W W1 : World} {h : Nat} {v : Value} {xs : List (List S38)} (o : OwnRows W h v xs) (hb : Below W.heap.size W W1) : OwnRows W1 h v xs := by
  obtain ⟨hdrs, ho, hr⟩ := o
  refine ⟨hdrs, ⟨ho.1, ?_⟩, hr.kept fun k cells hk => hb.block k (Array.getElem?_eq_some_iff.1 hk).1⟩
  rcases ho.2 with hn | ⟨g, cap, cur, e, hg, hh, rest⟩
  · exact .inl hn
  · exact .inr ⟨g, cap, cur, e, hg, (hb.block g (Array.getElem?_eq_some_iff.1 hh).1).trans hh, rest⟩
theorem OwnRows.slice {W : World} {h : Nat} {v : Value} {xs : List (List S38)} (o : OwnRows W h v xs) : ∃ A c, v = .slice A xs.length c := by
  obtain ⟨hdrs, ho, _⟩ := o
  rcases ho.2 with ⟨e, hn⟩ | ⟨g, cap, cur, e, _⟩
  · exact ⟨none, 0, by rw [e, hn]⟩
  · exact ⟨_, cap, e⟩
theorem OwnRows.reads {W : World} {h n c : Nat} {A : Option Addr} {xs : List (List S38)} (o : OwnRows W h (.slice A n c) xs) : n = xs.length ∧ xs.length ≤ c ∧ Kd.C (Kd.slice 38 k38) W A xs.length xs := by
  obtain ⟨hdrs, ho, hl, hr⟩ := o
  rcases ho.2 with ⟨e, hn⟩ | ⟨g, cap, cur, e, hg, hh, hnc, hcm, hcs, ht⟩
  · injection e with e1 e2 e3
    subst e1 e2 e3
    obtain rfl := List.eq_nil_of_length_eq_zero hn
    exact ⟨rfl, Nat.le_refl _, Kd.C_nil _ _⟩
  · injection e with e1 e2 e3
    subst e1 e2 e3
    refine ⟨rfl, hnc, rfl, by unfold maxLen at hcm; omega, fun _ => ⟨_, rfl, fun j x hx => ?_⟩⟩
    have hj : j < xs.length := (List.getElem?_eq_some_iff.1 hx).1
    obtain ⟨u, hu⟩ : ∃ u, hdrs[j]? = some u := ⟨_, List.getElem?_eq_getElem (by omega)⟩
    have hR := hr j u x hu hx
    obtain ⟨A', c', rfl⟩ := Kd.R_slice hR
    obtain ⟨k1, k2, k3⟩ := Kd.R_reads' hR
    refine ⟨[.slice A' x.length c'], rfl, (show Kd.K (Kd.slice 38 k38) W x [.slice A' x.length c'] from ⟨A', c', rfl, k2, k3⟩), fun i v hv => ?_⟩
    have hi : i = 0 := by
      have := (List.getElem?_eq_some_iff.1 hv).1
      simp at this
      exact this
    subst hi
    simp at hv
    subst hv
    show W.cell? (Addr.add ⟨g, 0, none⟩ (j * 1 + 0)) = _
    rw [Nat.mul_one, Nat.add_zero, add_plain]
    refine (blk_cell hh j).trans ?_
    rw [← hu, ← ht, List.getElem?_take, if_pos (by omega), Array.getElem?_toList]
/-- One row more, behind an append. -/
theorem OwnRows.add {W w1 : World} {h : Nat} {v v' u : Value} {xs : List (List S38)} {x : List S38} {hdrs : List Value} {tmp : Obj} (ho : W.ownsRow h 23 1 v xs.length hdrs) (hr : RowsAt W h hdrs xs) (hu : Kd.R k38 38 W h (fun _ => True) u x)
    (hown' : w1.ownsRow h 23 1 v' (xs.length + 1) (hdrs ++ [u])) (hg : (W.alloc tmp).grownBy w1 v.ownBlock) : OwnRows w1 h v' (xs ++ [x]) := by
  have hm : ∀ (k : Nat) (cells : Array Value), W.heap[k]? = some (Obj.cells cells 38 (0, 0)) → w1.heap[k]? = W.heap[k]? := by
    intro k cells hk
    have hlt := (Array.getElem?_eq_some_iff.1 hk).1
    have e1 : (W.alloc tmp).heap[k]? = W.heap[k]? := Below.heap_alloc W tmp k hlt
    have hlt2 : k < (W.alloc tmp).heap.size := by simp; omega
    refine (hg.block k hlt2 fun e => ?_).trans e1
    rcases ho.2 with ⟨e', _⟩ | ⟨g, cap, cur, e', _, hh, _⟩
    · rw [e'] at e; cases e
    · rw [e'] at e
      have : k = g := by simpa [Value.ownBlock] using e
      subst this
      exact blk_ne hk hh (by decide) rfl
  refine ⟨hdrs ++ [u], by rw [List.length_append]; exact hown', by rw [List.length_append, List.length_append, hr.1]; rfl, fun j a b ha hb => ?_⟩
  by_cases hj : j < xs.length
  · rw [List.getElem?_append_left (by rw [hr.1]; exact hj)] at ha
    rw [List.getElem?_append_left hj] at hb
    exact R34_kept (hr.2 j a b ha hb) hm
  · have hjl := (List.getElem?_eq_some_iff.1 hb).1
    rw [List.length_append, List.length_singleton] at hjl
    have e : j = xs.length := by omega
    subst e
    rw [List.getElem?_append_right (by rw [hr.1]; exact Nat.le_refl _), hr.1, Nat.sub_self] at ha
    rw [List.getElem?_append_right (Nat.le_refl _), Nat.sub_self] at hb
    simp at ha hb
    subst ha hb
    exact R34_kept hu hm
/-- A literal of one row. -/
theorem OwnRows.one {W : World} {h g : Nat} {u : Value} {x : List S38} (hh : W.heap[g]? = some (Obj.cells #[u] 23 (0, 0))) (hg : h ≤ g) (hu : Kd.R k38 38 W h (fun _ => True) u x) : OwnRows W h (.slice (some ⟨g, 0, none⟩) 1 1) [x] := by
  refine ⟨[u], ⟨rfl, .inr ⟨g, 1, #[u], rfl, hg, hh, Nat.le_refl _, by decide, rfl, rfl⟩⟩, rfl, fun j a b ha hb => ?_⟩
  cases j with
  | zero =>
    simp at ha hb
    subst ha hb
    exact hu
  | succ j => simp at ha
end Go.Proofs.YtippkbgeeeimjaaGreat.L
/- Atoms, in plain Lean: classes of characters by which sets have them; how long they are; what atom.Of's rounds make. -/
namespace Go.Proofs.YtippkbgeeeimjaaGreat.P
open Go.RowKit Go.Proofs.YtippkbgeeeimjaaGreatW.PrintWords Go.Proofs.YtippkbgeeeimjaaGreat.A Go.Proofs.YtippkbgeeeimjaaGreat.L
set_option linter.unusedVariables false
set_option linter.unusedSimpArgs false
def bordF (xs : List S38) : List Int := xs.flatMap fun r => [r.f0, r.f1 + 1]
theorem bord_len : ∀ xs : List S38, (bordF xs).length = 2 * xs.length
  | [] => rfl
  | r :: xs => by
    have := bord_len xs
    simp only [bordF, List.flatMap_cons, List.length_append, List.length_cons, List.length_nil] at this ⊢
    omega
theorem bord_mem {xs : List S38} {x : Int} (h : x ∈ bordF xs) : ∃ r ∈ xs, x = r.f0 ∨ x = r.f1 + 1 := by
  obtain ⟨r, hr, h⟩ := List.mem_flatMap.1 h
  simp at h
  exact ⟨r, hr, h⟩
theorem bord_up : ∀ {xs : List S38}, (∀ r ∈ xs, r.f0 ≤ r.f1) → xs.Pairwise (fun r s => r.f1 + 1 < s.f0) → (bordF xs).Pairwise (· < ·)
  | [], _, _ => List.Pairwise.nil
  | r :: xs, h, hp => by
    obtain ⟨h1, h2⟩ := List.pairwise_cons.1 hp
    have ih := bord_up (xs := xs) (fun s hs => h s (List.mem_cons_of_mem _ hs)) h2
    have hr := h r (List.mem_cons_self ..)
    have far : ∀ x ∈ bordF xs, r.f1 + 1 < x := by
      intro x hx
      obtain ⟨s, hs, e | e⟩ := bord_mem hx
      · rw [e]; exact h1 s hs
      · have := h1 s hs
        have := h s (List.mem_cons_of_mem _ hs)
        omega
    show (r.f0 :: (r.f1 + 1) :: bordF xs).Pairwise (· < ·)
    refine List.pairwise_cons.2 ⟨fun x hx => ?_, List.pairwise_cons.2 ⟨far, ih⟩⟩
    rcases List.mem_cons.1 hx with rfl | hx
    · omega
    · have := far x hx
      omega
theorem mem_two {xs : List S38} (hp : xs.Pairwise fun r s => r.f1 + 1 < s.f0) {r s : S38} (hr : r ∈ xs) (hs : s ∈ xs) : r = s ∨ r.f1 + 1 < s.f0 ∨ s.f1 + 1 < r.f0 := by
  induction xs with
  | nil => cases hr
  | cons t ts ih =>
    obtain ⟨p1, p2⟩ := List.pairwise_cons.1 hp
    rcases List.mem_cons.1 hr with e1 | e1
    · rcases List.mem_cons.1 hs with e2 | e2
      · exact Or.inl (e1.trans e2.symm)
      · exact Or.inr (Or.inl (e1 ▸ p1 s e2))
    · rcases List.mem_cons.1 hs with e2 | e2
      · exact Or.inr (Or.inr (e2 ▸ p1 r e1))
      · exact ih p2 e1 e2
theorem canon_runs (P : Int → Bool) (E : List Int) (h : ∀ c, 0 < c → c ≤ 1114111 → P c ≠ P (c - 1) → c ∈ E) : 2 * (canonF P).length ≤ E.length + 2 := by
  have hs := canon_spec P
  have hr := hs.1.1
  have hp := hs.1.2
  have hm : ∀ c, 0 ≤ c → c < 1114112 → Mem (canonF P) c = P c := hs.2
  have up := bord_up (fun r q => (hr r q).2.1) hp
  have nd : (bordF (canonF P)).Nodup := up.imp fun q e => by omega
  have nd1 := nd.erase 0
  have nd2 := nd1.erase 1114112
  have hl : 2 * (canonF P).length ≤ (((bordF (canonF P)).erase 0).erase 1114112).length + 2 := by
    have e1 := bord_len (canonF P)
    have e2 := List.length_erase (a := (0 : Int)) (l := bordF (canonF P))
    have e3 := List.length_erase (a := (1114112 : Int)) (l := (bordF (canonF P)).erase 0)
    split at e2 <;> split at e3 <;> omega
  have := nodup_len (((bordF (canonF P)).erase 0).erase 1114112) E nd2 ?_
  · omega
  · intro x hx
    rw [nd1.mem_erase_iff, nd.mem_erase_iff] at hx
    obtain ⟨hx2, hx1, hx0⟩ := hx
    obtain ⟨r, hq, e | e⟩ := bord_mem hx0
    · have hb := hr r hq
      refine h x (by omega) (by omega) ?_
      have t1 : P x = true := by
        rw [← hm x (by omega) (by omega)]
        exact mem_iff.2 ⟨r, hq, by omega, by omega⟩
      have t2 : P (x - 1) = false := by
        rw [← hm (x - 1) (by omega) (by omega)]
        cases hz : Mem (canonF P) (x - 1) with
        | false => rfl
        | true =>
          obtain ⟨s, hs', k1, k2⟩ := mem_iff.1 hz
          have := hr s hs'
          rcases mem_two hp hq hs' with e' | e' | e'
          · rw [← e'] at k1; omega
          · omega
          · omega
      rw [t1, t2]
      decide
    · have hb := hr r hq
      refine h x (by omega) (by omega) ?_
      have t1 : P (x - 1) = true := by
        rw [← hm (x - 1) (by omega) (by omega)]
        exact mem_iff.2 ⟨r, hq, by omega, by omega⟩
      have t2 : P x = false := by
        rw [← hm x (by omega) (by omega)]
        cases hz : Mem (canonF P) x with
        | false => rfl
        | true =>
          obtain ⟨s, hs', k1, k2⟩ := mem_iff.1 hz
          have := hr s hs'
          rcases mem_two hp hq hs' with e' | e' | e'
          · rw [← e'] at k2; omega
          · omega
          · omega
      rw [t1, t2]
      decide
def sigF (sets : List (List S38)) (c : Int) : List Bool := sets.map fun s => hasB s c
/-- The characters that just those sets have. -/
def atF (sets : List (List S38)) (σ : List Bool) : List S38 := canonF fun c => decide (sigF sets c = σ)
def edgesOf (sets : List (List S38)) : List Int := sets.flatMap fun s => lowsF s ++ endsF s
theorem hasB_edge {l : List S38} {c : Int} (h0 : 0 ≤ c) (h : hasB l c ≠ hasB l (c - 1)) : c ∈ lowsF l ++ endsF l := by
  rw [List.mem_append]
  cases h1 : hasB l c with
  | true =>
    cases h2 : hasB l (c - 1) with
    | true => rw [h1, h2] at h; exact absurd rfl h
    | false => exact Or.inl (starts h0 h1 (Or.inr h2))
  | false =>
    cases h2 : hasB l (c - 1) with
    | true => exact Or.inr (ends h1 h2)
    | false => rw [h1, h2] at h; exact absurd rfl h
theorem sig_edge {sets : List (List S38)} {c : Int} (h0 : 0 ≤ c) (h : sigF sets c ≠ sigF sets (c - 1)) : c ∈ edgesOf sets := by
  induction sets with
  | nil => exact absurd rfl h
  | cons s sets ih =>
    show c ∈ (lowsF s ++ endsF s) ++ edgesOf sets
    rw [List.mem_append]
    by_cases e : hasB s c = hasB s (c - 1)
    · refine Or.inr (ih fun e2 => h ?_)
      show hasB s c :: sigF sets c = hasB s (c - 1) :: sigF sets (c - 1)
      rw [e, e2]
    · exact Or.inl (hasB_edge h0 e)
/-- At most as many ranges, and one, as half the edges there are (E: all of them, and no matter which list). -/
theorem at_len {sets : List (List S38)} (E : List Int) (hE : ∀ c, 0 < c → c ≤ 1114111 → sigF sets c ≠ sigF sets (c - 1) → c ∈ E) (σ : List Bool) : 2 * (atF sets σ).length ≤ E.length + 2 :=
  canon_runs _ E fun c h0 h1 h => hE c h0 h1 fun e => h (by rw [e])
theorem edges_len : ∀ sets : List (List S38), (edgesOf sets).length = 2 * (sets.map List.length).sum
  | [] => rfl
  | s :: sets => by
    have := edges_len sets
    show ((lowsF s ++ endsF s) ++ edgesOf sets).length = _
    rw [List.length_append, List.length_append, lows_len, ends_len, this, List.map_cons, List.sum_cons]
    omega
def ofStep (s : List S38) (atoms : List (List S38)) : List (List S38) := atoms.flatMap fun a => [partF a s true, partF a s false].filter fun p => decide (0 < p.length)
def AtomsOf (sets : List (List S38)) (L : List (List S38)) : Prop :=
  ∃ T : List (List Bool), T.Nodup ∧ L = T.map (atF sets) ∧ (∀ c, 0 ≤ c → c ≤ 1114111 → sigF sets c ∈ T) ∧ ∀ t ∈ T, 0 < (atF sets t).length
theorem snoc_iff {a b : List Bool} {x y : Bool} : a ++ [x] = b ++ [y] ↔ a = b ∧ x = y := by
  constructor
  · intro h
    obtain ⟨h1, h2⟩ := List.append_inj' h rfl
    exact ⟨h1, (List.cons.inj h2).1⟩
  · rintro ⟨rfl, rfl⟩
    rfl
theorem sig_snoc (pre : List (List S38)) (s : List S38) (c : Int) : sigF (pre ++ [s]) c = sigF pre c ++ [hasB s c] := by simp [sigF]
theorem part_at {pre : List (List S38)} {t : List Bool} (h : (atF pre t).length ≤ 400) (s : List S38) (b : Bool) : partF (atF pre t) s b = atF (pre ++ [s]) (t ++ [b]) := by
  have key : ∀ c, 0 ≤ c → c ≤ 1114111 → hasB (atF pre t) c = decide (sigF pre c = t) := fun c h0 h1 => has_canon h h0 h1
  have two : ∀ c, decide (sigF (pre ++ [s]) c = t ++ [b]) = (decide (sigF pre c = t) && decide (hasB s c = b)) := by
    intro c
    rw [sig_snoc, Bool.eq_iff_iff]
    simp [snoc_iff]
  cases b with
  | true =>
    rw [partF_true]
    unfold andF
    refine (canon_congr fun c h0 h1 => ?_).trans rfl
    rw [key c h0 h1, two c]
    cases hasB s c <;> simp
  | false =>
    rw [partF_false]
    unfold lessF
    refine (canon_congr fun c h0 h1 => ?_).trans rfl
    rw [key c h0 h1, two c]
    cases hasB s c <;> simp
theorem at_pos {sets : List (List S38)} {c : Int} (h0 : 0 ≤ c) (h1 : c ≤ 1114111) : 0 < (atF sets (sigF sets c)).length := by
  have h := canon_mem (fun d => decide (sigF sets d = sigF sets c)) h0 h1
  rw [decide_eq_true rfl] at h
  obtain ⟨r, hr, _⟩ := mem_iff.1 h
  exact List.length_pos_of_mem hr
theorem not_nil : notF [] = atF [] [] := canon_congr fun c h0 h1 => by simp [hasB, Mem, sigF]
theorem atoms_start : AtomsOf [] [notF []] :=
  ⟨[[]], List.nodup_cons.2 ⟨by simp, List.nodup_nil⟩, by rw [not_nil]; rfl, fun c _ _ => List.mem_singleton.2 rfl, fun t ht => by
    rw [List.mem_singleton.1 ht]
    exact at_pos (sets := []) (c := 0) (by decide) (by decide)⟩
def splitT (sets : List (List S38)) (t : List Bool) : List (List Bool) := [t ++ [true], t ++ [false]].filter fun u => decide (0 < (atF sets u).length)
theorem split_mem {sets : List (List S38)} {t u : List Bool} : u ∈ splitT sets t ↔ (u = t ++ [true] ∨ u = t ++ [false]) ∧ 0 < (atF sets u).length := by
  unfold splitT
  rw [List.mem_filter]
  simp
theorem split_nodup (sets : List (List S38)) : ∀ {T : List (List Bool)}, T.Nodup → (T.flatMap (splitT sets)).Nodup
  | [], _ => List.nodup_nil
  | t :: T, h => by
    obtain ⟨h1, h2⟩ := List.nodup_cons.1 h
    rw [List.flatMap_cons, List.nodup_append]
    refine ⟨?_, split_nodup sets h2, fun u hu v hv e => ?_⟩
    · refine List.Pairwise.filter _ (List.nodup_cons.2 ⟨?_, List.nodup_cons.2 ⟨by simp, List.nodup_nil⟩⟩)
      rw [List.mem_singleton, snoc_iff]
      simp
    · obtain ⟨t', ht', hv'⟩ := List.mem_flatMap.1 hv
      have a1 := (split_mem.1 hu).1
      have a2 := (split_mem.1 hv').1
      rw [e] at a1
      have : t = t' := by
        rcases a1 with a1 | a1 <;> rcases a2 with a2 | a2 <;> exact (snoc_iff.1 (a1.symm.trans a2)).1
      exact h1 (this ▸ ht')
theorem atoms_step {pre L : List (List S38)} (h : AtomsOf pre L) (hl : ∀ a ∈ L, a.length ≤ 400) (s : List S38) : AtomsOf (pre ++ [s]) (ofStep s L) := by
  obtain ⟨T, hn, rfl, hc, hp⟩ := h
  refine ⟨T.flatMap (splitT (pre ++ [s])), split_nodup _ hn, ?_, ?_, ?_⟩
  · unfold ofStep
    clear hn hc hp
    induction T with
    | nil => rfl
    | cons t T ih =>
      rw [List.map_cons, List.flatMap_cons, List.flatMap_cons, List.map_append, ih fun a ha => hl a (List.mem_cons_of_mem _ ha)]
      congr 1
      have h1 := hl (atF pre t) (List.mem_cons_self ..)
      rw [part_at h1 s true, part_at h1 s false]
      unfold splitT
      by_cases q1 : 0 < (atF (pre ++ [s]) (t ++ [true])).length <;> by_cases q2 : 0 < (atF (pre ++ [s]) (t ++ [false])).length <;> simp [List.filter_cons, q1, q2]
  · intro c h0 h1
    refine List.mem_flatMap.2 ⟨_, hc c h0 h1, split_mem.2 ⟨?_, at_pos h0 h1⟩⟩
    rw [sig_snoc]
    cases hasB s c
    · exact Or.inr rfl
    · exact Or.inl rfl
  · intro u hu
    obtain ⟨t, _, ht⟩ := List.mem_flatMap.1 hu
    exact (split_mem.1 ht).2
/-- What the rounds have made of the first sets. -/
def ofAt (sets : List (List S38)) (i : Nat) : List (List S38) := (sets.take i).foldl (fun L s => ofStep s L) [notF []]
theorem ofAt_succ {sets : List (List S38)} {i : Nat} {s : List S38} (h : sets[i]? = some s) : ofAt sets (i + 1) = ofStep s (ofAt sets i) := by
  unfold ofAt
  rw [List.take_add_one, h, List.foldl_append]
  rfl
theorem sig_take {sets : List (List S38)} {i : Nat} {c d : Int} (h : sigF sets c = sigF sets d) : sigF (sets.take i) c = sigF (sets.take i) d := by
  unfold sigF at *
  rw [List.map_take, List.map_take, h]
theorem atoms_at {sets : List (List S38)} (E : List Int) (hE : ∀ c, 0 < c → c ≤ 1114111 → sigF sets c ≠ sigF sets (c - 1) → c ∈ E) (hl : E.length ≤ 798) : ∀ i, i ≤ sets.length → AtomsOf (sets.take i) (ofAt sets i) ∧ ∀ a ∈ ofAt sets i, a.length ≤ 400 := by
  have len : ∀ i (L : List (List S38)), AtomsOf (sets.take i) L → ∀ a ∈ L, a.length ≤ 400 := by
    rintro i L ⟨T, _, rfl, _, _⟩ a ha
    obtain ⟨t, _, rfl⟩ := List.mem_map.1 ha
    have := at_len (sets := sets.take i) E (fun c h0 h1 h => hE c h0 h1 fun e => h (sig_take e)) t
    omega
  intro i
  induction i with
  | zero => exact fun _ => ⟨atoms_start, len 0 _ atoms_start⟩
  | succ i ih =>
    intro hi
    obtain ⟨h1, h2⟩ := ih (by omega)
    have hs : sets[i]? = some sets[i] := List.getElem?_eq_getElem (by omega)
    have h3 := atoms_step h1 h2 sets[i]
    rw [← ofAt_succ hs] at h3
    have e : sets.take (i + 1) = sets.take i ++ [sets[i]] := by rw [List.take_add_one, hs]; rfl
    rw [← e] at h3
    exact ⟨h3, len (i + 1) _ h3⟩
end Go.Proofs.YtippkbgeeeimjaaGreat.P
/- atom.Of: the walk: too many, or the classes sorted. -/
namespace Go.Proofs.YtippkbgeeeimjaaGreat.L
open Go.RowKit Go.Shelf Go.Proofs.YtippkbgeeeimjaaGreatW.PrintWords Go.Proofs.YtippkbgeeeimjaaGreatW.PrintLast Go.Proofs.YtippkbgeeeimjaaGreatW.PrintMore Go.Proofs.YtippkbgeeeimjaaGreat.A Go.Proofs.YtippkbgeeeimjaaGreat.P
set_option linter.unusedVariables false
set_option linter.unusedSimpArgs false
theorem of_many (A0 : Option Addr) (c0 : Nat) (l0 : List (List S38)) (w : World) (h : 60 < l0.length) :
    Calls Tryz.prog 6 #[.slice A0 l0.length c0] w fun e w' => e = .returned (.tuple #[.slice none 0 0, .int .i64 9]) ∧ Below w.heap.size w w' := by
  have b1 : decide (60 < (l0.length : Int)) = true := decide_eq_true (by omega)
  have b2 : decide (60 < l0.length) = true := decide_eq_true h
  have h1 : (60 : Int) < (l0.length : Int) := by omega
  go_enter Tryz.func6, Tryz.ntmps6
  go_wp2_with fail
  go_ret2
  exact ⟨rfl, Below.refl _ _⟩
theorem of_long (A0 : Option Addr) (c0 : Nat) (l0 : List (List S38)) (w : World) (hr0 : Kd.C (Kd.slice 38 k38) w A0 l0.length l0) (hc0 : l0.length ≤ c0) (h : ¬ 60 < l0.length) (hl : longF l0 = true) :
    Calls Tryz.prog 6 #[.slice A0 l0.length c0] w fun e w' => e = .returned (.tuple #[.slice none 0 0, .int .i64 9]) ∧ Below w.heap.size w w' := by
  have hs := Aside0.mk (contains_long A0 c0 l0 w hr0 hc0 true hl)
  have b1 : decide (60 < (l0.length : Int)) = false := decide_eq_false (by omega)
  have b2 : decide (60 < l0.length) = false := decide_eq_false h
  have h1 : ¬ (60 : Int) < (l0.length : Int) := by omega
  clear hr0 hc0 hl
  go_enter Tryz.func6, Tryz.ntmps6
  go_wp2_with fail
  refine hs.out.mono ?_
  rintro e W1 ⟨rfl, hb⟩
  have HB := Aside0.mk hb
  clear hb hs
  go_wp2_with fail
  go_ret2
  exact ⟨rfl, HB.out⟩
def OfO (w : World) (l0 : List (List S38)) (va ui : Value) (W : World) : Prop := ∃ i : Nat, i ≤ l0.length ∧ ui = .int .i64 i ∧ OwnRows W w.heap.size va (ofAt l0 i) ∧ Below w.heap.size w W ∧ ∀ j, 0 < j → j ≤ i → (ofAt l0 j).length ≤ 200
def OfM (Wr : World) (s : List S38) (L : List (List S38)) (vp uk : Value) (W : World) : Prop := ∃ k : Nat, k ≤ L.length ∧ uk = .int .i64 k ∧ OwnRows W Wr.heap.size vp (ofStep s (L.take k)) ∧ Below Wr.heap.size Wr W
def OfI (Wr : World) (gb : Nat) (v1 v2 : Value) (p1 p2 : List S38) (acc : List (List S38)) (vp ut : Value) (W : World) : Prop := ∃ t : Nat, t ≤ 2 ∧ ut = .int .i64 t ∧ OwnRows W Wr.heap.size vp (acc ++ ([p1, p2].take t).filter fun p => decide (0 < p.length)) ∧ Below Wr.heap.size Wr W ∧ vp.ownBlock ≠ some gb ∧ W.heap[gb]? = some (Obj.cells #[v1, v2] 23 (0, 0)) ∧ Kd.R k38 38 W Wr.heap.size (fun _ => True) v1 p1 ∧ Kd.R k38 38 W Wr.heap.size (fun _ => True) v2 p2
theorem kept34 {W w1 : World} {h n : Nat} {v : Value} {hdrs : List Value} {tmp : Obj} (ho : W.ownsRow h 23 1 v n hdrs) (hg : (W.alloc tmp).grownBy w1 v.ownBlock) : ∀ (k : Nat) (cells : Array Value), W.heap[k]? = some (Obj.cells cells 38 (0, 0)) → w1.heap[k]? = W.heap[k]? := by
  intro k cells hk
  have hlt := (Array.getElem?_eq_some_iff.1 hk).1
  have e1 : (W.alloc tmp).heap[k]? = W.heap[k]? := Below.heap_alloc W tmp k hlt
  have hlt2 : k < (W.alloc tmp).heap.size := by simp; omega
  refine (hg.block k hlt2 fun e => ?_).trans e1
  rcases ho.2 with ⟨e', _⟩ | ⟨g, cap, cur, e', _, hh, _⟩
  · rw [e'] at e; cases e
  · rw [e'] at e
    have : k = g := by simpa [Value.ownBlock] using e
    subst this
    exact blk_ne hk hh (by decide) rfl
theorem OwnRows.lt {W : World} {h : Nat} {v : Value} {xs : List (List S38)} (o : OwnRows W h v xs) : ∀ k, v.ownBlock = some k → h ≤ k ∧ k < W.heap.size := by
  obtain ⟨hdrs, ho, _⟩ := o
  intro k hk
  rcases ho.2 with ⟨e', _⟩ | ⟨g, cap, cur, e', hg, hh, _⟩
  · rw [e'] at hk; cases hk
  · rw [e'] at hk
    have : k = g := (by simpa [Value.ownBlock] using hk.symm)
    subst this
    exact ⟨hg, (Array.getElem?_eq_some_iff.1 hh).1⟩
theorem inner_app {Wr W w1 : World} {gb : Nat} {v1 v2 vp v' u : Value} {p1 p2 x : List S38} {xs : List (List S38)} {hdrs : List Value} {tmp : Obj} (ho : W.ownsRow Wr.heap.size 23 1 vp xs.length hdrs) (hr : RowsAt W Wr.heap.size hdrs xs) (hb : Below Wr.heap.size Wr W) (hne : vp.ownBlock ≠ some gb) (hgb : W.heap[gb]? = some (Obj.cells #[v1, v2] 23 (0, 0)))
    (h1 : Kd.R k38 38 W Wr.heap.size (fun _ => True) v1 p1) (h2 : Kd.R k38 38 W Wr.heap.size (fun _ => True) v2 p2) (hu : Kd.R k38 38 W Wr.heap.size (fun _ => True) u x)
    (hown' : w1.ownsRow Wr.heap.size 23 1 v' (xs.length + 1) (hdrs ++ [u])) (hg : (W.alloc tmp).grownBy w1 vp.ownBlock) (hat : v'.ownBlock = vp.ownBlock ∨ v'.ownBlock = some (W.alloc tmp).heap.size) :
    OwnRows w1 Wr.heap.size v' (xs ++ [x]) ∧ Below Wr.heap.size Wr w1 ∧ v'.ownBlock ≠ some gb ∧ w1.heap[gb]? = some (Obj.cells #[v1, v2] 23 (0, 0)) ∧ Kd.R k38 38 w1 Wr.heap.size (fun _ => True) v1 p1 ∧ Kd.R k38 38 w1 Wr.heap.size (fun _ => True) v2 p2 := by
  have k := kept34 ho hg
  have hlt := (Array.getElem?_eq_some_iff.1 hgb).1
  have hsz : (W.alloc tmp).heap.size = W.heap.size + 1 := Array.size_push _
  refine ⟨OwnRows.add ho hr hu hown' hg, ?_, ?_, ?_, R34_kept h1 k, R34_kept h2 k⟩
  · refine (hb.alloc hb.size tmp).grown hg (by have := hb.size; omega) fun q hq => ?_
    exact (OwnRows.lt ⟨hdrs, ho, hr⟩ q hq).1
  · rcases hat with e | e
    · rw [e]; exact hne
    · rw [e, hsz]
      intro e2
      injection e2 with e2
      omega
  · refine (hg.block gb (by omega) fun e => hne e.symm).trans ?_
    exact (Below.heap_alloc W tmp gb hlt).trans hgb
theorem ne_add {acc xs ps : List (List S38)} {t : Nat} {p : List S38} (h : ps[t]? = some p) (e0 : xs = acc ++ (ps.take t).filter fun p => decide (0 < p.length)) : (acc ++ (ps.take (t + 1)).filter (fun p => decide (0 < p.length))) = xs ++ (if 0 < p.length then [p] else []) := by
  rw [List.take_add_one, h, List.filter_append, ← List.append_assoc, ← e0]
  by_cases q : 0 < p.length <;> simp [q]
theorem info23' : (Tryz.prog.info? 23).map (fun i => (i.zero, i.size, i.bytes)) = some (some (.slice none 0 0), 1, 24) := by kernel_rfl
theorem step_len (s : List S38) : ∀ L : List (List S38), (ofStep s L).length ≤ 2 * L.length
  | [] => Nat.le_refl _
  | a :: L => by
    have := step_len s L
    have h1 := List.length_filter_le (fun p : List S38 => decide (0 < p.length)) [partF a s true, partF a s false]
    show (([partF a s true, partF a s false].filter fun p => decide (0 < p.length)) ++ ofStep s L).length ≤ _
    rw [List.length_append, List.length_cons]
    simp only [List.length_cons, List.length_nil] at h1
    omega
set_option maxRecDepth 100000 in
set_option maxHeartbeats 4000000 in
theorem of_main (A0 : Option Addr) (c0 : Nat) (l0 : List (List S38)) (w : World) (hr0 : Kd.C (Kd.slice 38 k38) w A0 l0.length l0) (hc0 : l0.length ≤ c0) (h : ¬ 60 < l0.length) (hl : longF l0 = false) (hA : ∀ i, i ≤ l0.length → ∀ a ∈ ofAt l0 i, a.length ≤ 400) (hP0 : ∀ a ∈ ofAt l0 l0.length, 0 < a.length) (hN0 : 0 < (ofAt l0 l0.length).length) :
    Calls Tryz.prog 6 #[.slice A0 l0.length c0] w fun e w' => (((∃ j, 0 < j ∧ j ≤ l0.length ∧ 200 < (ofAt l0 j).length) ∧ e = .returned (.tuple #[.slice none 0 0, .int .i64 9])) ∨ ((∀ j, 0 < j → j ≤ l0.length → (ofAt l0 j).length ≤ 200) ∧ ∃ v ys, e = .returned (.tuple #[v, .int .i64 0]) ∧ OwnRows w' w.heap.size v ys ∧ ys.Perm (ofAt l0 l0.length) ∧ ys.Pairwise (fun x y => lowR x ≤ lowR y))) ∧ Below w.heap.size w w' := by
  have hs := Aside0.mk (contains_long A0 c0 l0 w hr0 hc0 false hl)
  have b1 : decide (60 < (l0.length : Int)) = false := decide_eq_false (by omega)
  have b2 : decide (60 < l0.length) = false := decide_eq_false h
  have h1 : ¬ (60 : Int) < (l0.length : Int) := by omega
  have HR := Aside0.mk hr0
  have HC := Aside0.mk hc0
  have HA := Aside0.mk hA
  have HP0 := Aside0.mk hP0
  have HN0 := Aside0.mk hN0
  clear hr0 hc0 hl hA hP0 hN0
  go_enter Tryz.func6, Tryz.ntmps6
  go_wp2_with fail
  refine hs.out.mono ?_
  rintro e W1 ⟨rfl, hb⟩
  have HB := Aside0.mk hb
  clear hb hs
  go_wp2_with fail
  refine (c20 none 0 [] W1 (Kd.C_nil _ _) (Nat.le_refl _) (notF []) rfl).mono ?_
  rintro e W2 ⟨v1, rfl, hR, hb⟩
  obtain ⟨A1, a1, rfl⟩ := Kd.R_slice hR
  have HR1 := Aside0.mk (Kd.R_lower hR HB.out.size)
  have HB2 := Aside0.mk (HB.out.trans (hb.mono HB.out.size))
  clear hR hb HB
  go_wp2_with fail
  have hbox : OwnRows (W2.alloc (Obj.cells #[Value.slice A1 (notF []).length a1] 23)) w.heap.size (.slice (some ⟨W2.heap.size, 0, none⟩) 1 1) [notF []] := OwnRows.one (blk_new _ _) HB2.out.size (Kd.R_alloc HR1.out _)
  have HBX := Aside0.mk hbox
  clear hbox
  go_loopw [5, 25] (fun va ui W => OfO w l0 va ui W) (fun va ui W => l0.length - (intOf ui).toNat)
  case atStart => exact ⟨0, Nat.zero_le _, rfl, HBX.out, HB2.out.trans ((below_alloc (Below.refl _ _) _).mono HB2.out.size), fun j h1 h2 => by omega⟩
  case round =>
    obtain ⟨i, hi, rfl, hO, hb, hlen⟩ := hrel
    have HB := Aside0.mk hb
    have HLN := Aside0.mk hlen
    obtain ⟨Aa, ca, rfl⟩ := hO.slice
    have HO := Aside0.mk hO
    clear hb hlen hO HB2 HBX HR1
    by_cases hlt : i < l0.length
    · have b3 : decide ((i : Int) < (l0.length : Int)) = true := decide_eq_true (by omega)
      have b4 : decide (i < l0.length) = true := decide_eq_true hlt
      obtain ⟨ad, As, cs, rfl, k0, k1, k2⟩ := at_L3 (Kd.C_below HR.out HB.out) (i : Int) (by omega) (by omega)
      rw [Int.toNat_natCast] at k0
      have hq0 : 0 ≤ (i : Int) := by omega
      have hq1 : (i : Int) < (l0.length : Int) := by omega
      obtain ⟨s, hs⟩ : ∃ s, s = rd_L3 l0 i := ⟨_, rfl⟩
      rw [← hs] at k0 k1 k2
      have hel : l0[i]? = some s := by
        rw [hs]
        unfold rd_L3
        rw [Int.toNat_natCast, List.getD_eq_getElem?_getD, List.getElem?_eq_getElem hlt]
        rfl
      have HE := Aside0.mk hel
      have HK1 := Aside0.mk k1
      have HK2 := Aside0.mk k2
      clear hel hs k1 k2
      go_wp2_with fail
      generalize wr = Wo at *
      have HL4 := Aside0.mk (HA.out i hi)
      obtain ⟨L, hL⟩ : ∃ L, L = ofAt l0 i := ⟨_, rfl⟩
      rw [← hL] at HO HL4 ⊢
      clear k0
      have hL2 : L.length ≤ 200 := by
        rw [hL]
        rcases Nat.eq_zero_or_pos i with e | e
        · rw [e]; exact Nat.le_of_lt (show 1 < 200 by decide)
        · exact HLN.out i e (Nat.le_refl _)
      have HL2 := Aside0.mk hL2
      have HEL := Aside0.mk hL
      clear hL hL2
      go_loopw [8, 31] (fun vp uk W => OfM Wo s L vp uk W) (fun vp uk W => L.length - (intOf uk).toNat)
      case atStart => exact ⟨0, Nat.zero_le _, rfl, OwnRows.nil _ _, Below.refl _ _⟩
      case round =>
        obtain ⟨k, hk, rfl, hP, hbk⟩ := hrel
        have HBK := Aside0.mk hbk
        obtain ⟨Ap, cp, rfl⟩ := hP.slice
        have HP := Aside0.mk hP
        clear hbk hP
        by_cases hlk : k < L.length
        · have b5 : decide ((k : Int) < (L.length : Int)) = true := decide_eq_true (by omega)
          have b6 : decide (k < L.length) = true := decide_eq_true hlk
          obtain ⟨ad2, Ax, cx, rfl, m0, m1, m2⟩ := at_L3 (Kd.C_below (OwnRows.reads HO.out).2.2 HBK.out) (k : Int) (by omega) (by omega)
          rw [Int.toNat_natCast] at m0
          have hq2 : 0 ≤ (k : Int) := by omega
          have hq3 : (k : Int) < (L.length : Int) := by omega
          obtain ⟨x, hx⟩ : ∃ x, x = rd_L3 L k := ⟨_, rfl⟩
          rw [← hx] at m0 m1 m2
          have hel : L[k]? = some x := by
            rw [hx]
            unfold rd_L3
            rw [Int.toNat_natCast, List.getD_eq_getElem?_getD, List.getElem?_eq_getElem hlk]
            rfl
          have HX := Aside0.mk hel
          have HX4 : Aside0 (x.length ≤ 400) := ⟨HL4.out x (List.mem_of_getElem? hel)⟩
          have HM1 := Aside0.mk m1
          have HM2 := Aside0.mk m2
          clear hel hx m1 m2
          go_wp2_with fail
          generalize wr = Wk at *
          refine (parts_calls Ax cx x As cs s true Wk HM2.out HM1.out (Kd.C_below HK2.out HBK.out) HK1.out HX4.out).mono ?_
          rintro e W3 ⟨v3, rfl, hR, hb⟩
          obtain ⟨A3, a3, rfl⟩ := Kd.R_slice hR
          have HM2' := Aside0.mk (Kd.C_below HM2.out hb)
          have HB3 := Aside0.mk (HBK.out.trans (hb.mono HBK.out.size))
          have HR3 := Aside0.mk (Kd.R_lower hR HBK.out.size)
          have HP3 := Aside0.mk (HP.out.below hb)
          clear hR hb HM2 HP HBK m0
          go_wp2_with fail
          refine (parts_calls Ax cx x As cs s false W3 HM2'.out HM1.out (Kd.C_below HK2.out HB3.out) HK1.out HX4.out).mono ?_
          rintro e W4 ⟨v4, rfl, hR, hb⟩
          obtain ⟨A4, a4, rfl⟩ := Kd.R_slice hR
          have HB4 := Aside0.mk (HB3.out.trans (hb.mono HB3.out.size))
          have HR4 := Aside0.mk (Kd.R_lower hR HB3.out.size)
          have HR3' := Aside0.mk (Kd.R_below HR3.out hb)
          have HP4 := Aside0.mk (HP3.out.below hb)
          clear hR hb HM2' HP3 HB3 HR3
          go_wp2_with fail
          have hbox : (W4.alloc (Obj.cells #[Value.slice A3 (partF x s true).length a3, Value.slice A4 (partF x s false).length a4] 23)).heap[W4.heap.size]? = some (Obj.cells #[Value.slice A3 (partF x s true).length a3, Value.slice A4 (partF x s false).length a4] 23 (0, 0)) := blk_new _ _
          have hb5 : Below W4.heap.size W4 (W4.alloc (Obj.cells #[Value.slice A3 (partF x s true).length a3, Value.slice A4 (partF x s false).length a4] 23)) := below_alloc (Below.refl _ _) _
          generalize W4.alloc (Obj.cells #[Value.slice A3 (partF x s true).length a3, Value.slice A4 (partF x s false).length a4] 23) = W5 at hbox hb5 ⊢
          have hne5 : (Value.slice Ap (ofStep s (L.take k)).length cp).ownBlock ≠ some W4.heap.size := fun e => by have := (OwnRows.lt HP4.out _ e).2; omega
          obtain ⟨p1, hp1⟩ : ∃ p, p = partF x s true := ⟨_, rfl⟩
          obtain ⟨p2, hp2⟩ : ∃ p, p = partF x s false := ⟨_, rfl⟩
          obtain ⟨acc, hacc⟩ : ∃ p, p = ofStep s (L.take k) := ⟨_, rfl⟩
          obtain ⟨gb, hgb⟩ : ∃ p, p = W4.heap.size := ⟨_, rfl⟩
          have B1 := Aside0.mk (OwnRows.below HP4.out hb5)
          have B2 := Aside0.mk (HB4.out.trans (hb5.mono HB4.out.size))
          have B3 := Aside0.mk (Kd.R_below HR3'.out hb5)
          have B4 := Aside0.mk (Kd.R_below HR4.out hb5)
          rw [← hp1] at hbox B3 ⊢
          rw [← hp2] at hbox B4 ⊢
          rw [← hacc] at B1 hne5 ⊢
          rw [← hgb] at hbox hne5 ⊢
          have B5 := Aside0.mk hbox
          have B6 := Aside0.mk hne5
          have P1 := Aside0.mk hp1
          have P2 := Aside0.mk hp2
          have ACC := Aside0.mk hacc
          have hal : acc.length ≤ 2 * L.length := by rw [hacc]; exact Nat.le_trans (step_len _ _) (by rw [List.length_take]; omega)
          have HAL := Aside0.mk hal
          clear hbox hne5 hp1 hp2 hacc hgb hb5 HP4 HB4 HR4 HR3' hal
          go_loopw [8, 43] (fun vp ut W => OfI Wo gb (.slice A3 p1.length a3) (.slice A4 p2.length a4) p1 p2 acc vp ut W) (fun vp ut W => 2 - (intOf ut).toNat)
          case atStart => exact ⟨0, by omega, rfl, (by rw [List.take_zero, List.filter_nil, List.append_nil]; exact B1.out), B2.out, B6.out, B5.out, B3.out, B4.out⟩
          case round =>
            obtain ⟨t, ht, rfl, hP, hbi, hnei, hgbi, hv1, hv2⟩ := hrel
            obtain ⟨xs, hxs⟩ : ∃ xs, xs = acc ++ ([p1, p2].take t).filter fun p => decide (0 < p.length) := ⟨_, rfl⟩
            rw [← hxs] at hP
            have hbnd : xs.length ≤ 402 := by
              rw [hxs, List.length_append]
              have := List.length_filter_le (fun p : List S38 => decide (0 < p.length)) ([p1, p2].take t)
              rw [List.length_take] at this
              have := HAL.out
              have := HL2.out
              simp only [List.length_cons, List.length_nil] at *
              omega
            have HBND := Aside0.mk hbnd
            have HXS := Aside0.mk hxs
            obtain ⟨Aq, cq, rfl⟩ := hP.slice
            obtain ⟨hdrs, how, hrw⟩ := hP
            have HOW := Aside0.mk how
            have HRW := Aside0.mk hrw
            have HBI := Aside0.mk hbi
            have HNE := Aside0.mk hnei
            have HGB := Aside0.mk hgbi
            have HV1 := Aside0.mk hv1
            have HV2 := Aside0.mk hv2
            clear hbnd hxs how hrw hbi hnei hgbi hv1 hv2 B1 B2 B3 B4 B5 B6
            obtain ⟨i0, hi0, hz0, hz1, hz2⟩ := info_parts info23'
            rcases (show t = 0 ∨ t = 1 ∨ t = 2 by omega) with rfl | rfl | rfl
            · have c0 : wr.cell? ⟨gb, 0, none⟩ = some (.slice A3 p1.length a3) := (blk_cell HGB.out 0).trans rfl
              by_cases hpz : 0 < p1.length
              · have d1 : decide (0 < (p1.length : Int)) = true := decide_eq_true (by omega)
                have d2 : decide (0 < p1.length) = true := decide_eq_true hpz
                have d3 : 0 < (p1.length : Int) := by omega
                go_wp2_with ((with_reducible refine gate_builtin (b := .append) (xs := #[.tmp 50, .tmp 52]) rfl ?_); at_builtin; refine wpList_append_own_at _ rfl (.tmp 50) (.tmp 52) 22 rfl Wo.heap.size 23 i0 (.slice none 0 0) 1 24 Tryz.underlying22 hi0 hz0 hz1 hz2 rfl (by decide) _ _ _ rfl (HOW.out.alloc _) ⟨wr.heap.size, 0, none⟩ 1 1 [.slice A3 p1.length a3] rfl rfl (cell_one_new _ _ _) (by simp [Value.oneCell']) (by have := HBND.out; unfold maxLen; omega) (by have := HBND.out; omega) (by have := HBI.out.size; simp; omega) ?_; intro v' w1 hown' hgrow _ hat; obtain ⟨e1, e2, e3, e4, e5, e6⟩ := inner_app HOW.out HRW.out HBI.out HNE.out HGB.out HV1.out HV2.out HV1.out hown' hgrow hat; obtain ⟨g', cap', rfl⟩ := ownsRow_succ hown'; have E1 := Aside0.mk e1; have E2 := Aside0.mk e2; have E3 := Aside0.mk e3; have E4 := Aside0.mk e4; have E5 := Aside0.mk e5; have E6 := Aside0.mk e6; clear e1 e2 e3 e4 e5 e6 hown' hgrow hat)
                go_roundw
                case rel =>
                  have e : (acc ++ ([p1, p2].take 1).filter (fun p => decide (0 < p.length))) = xs ++ [p1] := by
                    refine (ne_add (t := 0) (p := p1) rfl HXS.out).trans ?_
                    rw [if_pos hpz]
                  exact ⟨1, by omega, by go_num, by rw [e]; exact E1.out, E2.out, E3.out, E4.out, E5.out, E6.out⟩
                case measure => simp [intOf]
              · have d1 : decide (0 < (p1.length : Int)) = false := decide_eq_false (by omega)
                have d2 : decide (0 < p1.length) = false := decide_eq_false hpz
                have d3 : ¬ 0 < (p1.length : Int) := by omega
                go_wp2_with fail
                go_roundw
                case rel =>
                  have e : (acc ++ ([p1, p2].take 1).filter (fun p => decide (0 < p.length))) = xs := by
                    refine (ne_add (t := 0) (p := p1) rfl HXS.out).trans ?_
                    rw [if_neg hpz, List.append_nil]
                  exact ⟨1, by omega, by go_num, by rw [e]; exact ⟨hdrs, HOW.out, HRW.out⟩, HBI.out, HNE.out, HGB.out, HV1.out, HV2.out⟩
                case measure => simp [intOf]
            · have c0 : wr.cell? ⟨gb, 1, none⟩ = some (.slice A4 p2.length a4) := (blk_cell HGB.out 1).trans rfl
              by_cases hpz : 0 < p2.length
              · have d1 : decide (0 < (p2.length : Int)) = true := decide_eq_true (by omega)
                have d2 : decide (0 < p2.length) = true := decide_eq_true hpz
                have d3 : 0 < (p2.length : Int) := by omega
                go_wp2_with ((with_reducible refine gate_builtin (b := .append) (xs := #[.tmp 50, .tmp 52]) rfl ?_); at_builtin; refine wpList_append_own_at _ rfl (.tmp 50) (.tmp 52) 22 rfl Wo.heap.size 23 i0 (.slice none 0 0) 1 24 Tryz.underlying22 hi0 hz0 hz1 hz2 rfl (by decide) _ _ _ rfl (HOW.out.alloc _) ⟨wr.heap.size, 0, none⟩ 1 1 [.slice A4 p2.length a4] rfl rfl (cell_one_new _ _ _) (by simp [Value.oneCell']) (by have := HBND.out; unfold maxLen; omega) (by have := HBND.out; omega) (by have := HBI.out.size; simp; omega) ?_; intro v' w1 hown' hgrow _ hat; obtain ⟨e1, e2, e3, e4, e5, e6⟩ := inner_app HOW.out HRW.out HBI.out HNE.out HGB.out HV1.out HV2.out HV2.out hown' hgrow hat; obtain ⟨g', cap', rfl⟩ := ownsRow_succ hown'; have E1 := Aside0.mk e1; have E2 := Aside0.mk e2; have E3 := Aside0.mk e3; have E4 := Aside0.mk e4; have E5 := Aside0.mk e5; have E6 := Aside0.mk e6; clear e1 e2 e3 e4 e5 e6 hown' hgrow hat)
                go_roundw
                case rel =>
                  have e : (acc ++ ([p1, p2].take 2).filter (fun p => decide (0 < p.length))) = xs ++ [p2] := by
                    refine (ne_add (t := 1) (p := p2) rfl HXS.out).trans ?_
                    rw [if_pos hpz]
                  exact ⟨2, by omega, by go_num, by rw [e]; exact E1.out, E2.out, E3.out, E4.out, E5.out, E6.out⟩
                case measure => simp [intOf]
              · have d1 : decide (0 < (p2.length : Int)) = false := decide_eq_false (by omega)
                have d2 : decide (0 < p2.length) = false := decide_eq_false hpz
                have d3 : ¬ 0 < (p2.length : Int) := by omega
                go_wp2_with fail
                go_roundw
                case rel =>
                  have e : (acc ++ ([p1, p2].take 2).filter (fun p => decide (0 < p.length))) = xs := by
                    refine (ne_add (t := 1) (p := p2) rfl HXS.out).trans ?_
                    rw [if_neg hpz, List.append_nil]
                  exact ⟨2, by omega, by go_num, by rw [e]; exact ⟨hdrs, HOW.out, HRW.out⟩, HBI.out, HNE.out, HGB.out, HV1.out, HV2.out⟩
                case measure => simp [intOf]
            · have HOWf : Aside0 (OwnRows wr Wo.heap.size (.slice Aq xs.length cq) xs) := ⟨⟨hdrs, HOW.out, HRW.out⟩⟩
              have hk200 := HL2.out
              have w2 : IntKind.i64.wrap ((k : Int) + 1) = (k : Int) + 1 := IntWalk.i64_in _ (by omega)
              have w3 : wrap64 ((k : Int) + 1) = (k : Int) + 1 := w64 (by omega) (by omega)
              go_wp2_with fail
              go_roundw
              case rel =>
                have e : ofStep s (L.take (k + 1)) = xs := by
                  rw [List.take_add_one, HX.out, HXS.out, ACC.out, P1.out, P2.out]
                  unfold ofStep
                  rw [List.flatMap_append]
                  simp
                exact ⟨k + 1, hlk, by go_num, by rw [e]; exact HOWf.out, HBI.out⟩
              case measure => simp [intOf]; omega
        · have b5 : decide ((k : Int) < (L.length : Int)) = false := decide_eq_false (by omega)
          have b6 : decide (k < L.length) = false := decide_eq_false hlk
          have hk200 := HL2.out
          have hi60 : i < 61 := by omega
          have w2 : IntKind.i64.wrap ((i : Int) + 1) = (i : Int) + 1 := IntWalk.i64_in _ (by omega)
          have w3 : wrap64 ((i : Int) + 1) = (i : Int) + 1 := w64 (by omega) (by omega)
          have hPe : ofStep s (L.take k) = ofAt l0 (i + 1) := by
            rw [List.take_of_length_le (by omega), ofAt_succ HE.out, HEL.out]
          have HP2 := Aside0.mk (HP.out.lower HB.out.size)
          have HB9 := Aside0.mk (HB.out.trans (HBK.out.mono HB.out.size))
          rw [hPe] at HP2 ⊢
          have HPE := Aside0.mk hPe
          clear HP hPe
          by_cases hbig : 200 < (ofAt l0 (i + 1)).length
          · have d1 : decide (200 < ((ofAt l0 (i + 1)).length : Int)) = true := decide_eq_true (by omega)
            have d2 : decide (200 < (ofAt l0 (i + 1)).length) = true := decide_eq_true hbig
            have d3 : (200 : Int) < ((ofAt l0 (i + 1)).length : Int) := by omega
            go_wp2_with fail
            go_ret2
            exact ⟨Or.inl ⟨⟨i + 1, by omega, by omega, hbig⟩, rfl⟩, HB9.out⟩
          · have d1 : decide (200 < ((ofAt l0 (i + 1)).length : Int)) = false := decide_eq_false (by omega)
            have d2 : decide (200 < (ofAt l0 (i + 1)).length) = false := decide_eq_false hbig
            have d3 : ¬ (200 : Int) < ((ofAt l0 (i + 1)).length : Int) := by omega
            go_wp2_with fail
            go_roundw
            case rel =>
              refine ⟨i + 1, hlt, by go_num, HP2.out, HB9.out, fun j h1 h2 => ?_⟩
              rcases Nat.lt_or_ge i j with q | q
              · obtain rfl : j = i + 1 := by omega
                omega
              · exact HLN.out j h1 q
            case measure => simp [intOf]; omega
    · have b3 : decide ((i : Int) < (l0.length : Int)) = false := decide_eq_false (by omega)
      have b4 : decide (i < l0.length) = false := decide_eq_false hlt
      obtain rfl : i = l0.length := by omega
      obtain ⟨L, hL⟩ : ∃ L, L = ofAt l0 l0.length := ⟨_, rfl⟩
      rw [← hL] at HO HP0 HN0 ⊢
      have hlong : longF L = false := by
        unfold longF
        rw [List.any_eq_false]
        intro a ha
        have := HA.out l0.length (Nat.le_refl _) a (hL ▸ ha)
        simp
        omega
      have HLG := Aside0.mk hlong
      have hlz : L.length < 4611686018427387904 := by
        have := (OwnRows.reads HO.out).2.2.2.1
        have h0 := HLN.out l0.length
        rw [← hL] at h0
        rcases Nat.eq_zero_or_pos l0.length with q | q
        · rw [hL, q]; exact Nat.lt_of_le_of_lt (show (ofAt l0 0).length ≤ 1 from Nat.le_refl _) (by decide)
        · have := h0 q (Nat.le_refl _); omega
      have HLZ := Aside0.mk hlz
      have HEL := Aside0.mk hL
      clear hlong hL hlz
      go_wp2_with fail
      generalize wr = Wo at *
      refine (contains_long Aa ca L Wo (OwnRows.reads HO.out).2.2 (OwnRows.reads HO.out).2.1 false HLG.out).mono ?_
      rintro e W3 ⟨rfl, hb⟩
      have HO3 := Aside0.mk (HO.out.below hb)
      have HB3 := Aside0.mk (HB.out.trans (hb.mono HB.out.size))
      clear hb
      go_wp2_with fail
      refine (sort_rows HO3.out HB3.out HN0.out HP0.out HLZ.out).mono ?_
      rintro e W4 ⟨rfl, ys, hp, hsrt, hoy, hb⟩
      have Y1 := Aside0.mk hp
      have Y2 := Aside0.mk hsrt
      have Y3 := Aside0.mk hoy
      have Y4 := Aside0.mk hb
      clear hp hsrt hoy hb
      go_wp2_with fail
      go_ret2
      exact ⟨Or.inr ⟨HLN.out, _, ys, rfl, Y3.out, HEL.out ▸ Y1.out, Y2.out⟩, Y4.out⟩
end Go.Proofs.YtippkbgeeeimjaaGreat.L
/- atom.Of: one contract. -/
namespace Go.Proofs.YtippkbgeeeimjaaGreat.L
open Go.RowKit Go.Shelf Go.Proofs.YtippkbgeeeimjaaGreatW.PrintWords Go.Proofs.YtippkbgeeeimjaaGreat.A Go.Proofs.YtippkbgeeeimjaaGreat.P
set_option linter.unusedVariables false
set_option linter.unusedSimpArgs false
def OfBad (sets : List (List S38)) : Prop := 60 < sets.length ∨ longF sets = true ∨ ∃ j, 0 < j ∧ j ≤ sets.length ∧ 200 < (ofAt sets j).length
theorem perm_map {α β : Type} {f : α → β} : ∀ {T : List α} {ys : List β}, ys.Perm (T.map f) → ∃ U : List α, U.Perm T ∧ ys = U.map f := by
  have go : ∀ {zs ys : List β}, ys.Perm zs → ∀ T : List α, zs = T.map f → ∃ U : List α, U.Perm T ∧ ys = U.map f := by
    intro zs ys h
    induction h with
    | nil =>
      intro T e
      have hT : T = [] := List.map_eq_nil_iff.1 e.symm
      subst hT
      exact ⟨[], List.Perm.refl _, rfl⟩
    | cons x h ih =>
      intro T e
      cases T with
      | nil => cases e
      | cons t T =>
        injection e with e1 e2
        obtain ⟨U, hU, eU⟩ := ih T e2
        exact ⟨t :: U, hU.cons t, by rw [e1, eU]; rfl⟩
    | swap x y l =>
      intro T e
      match T, e with
      | t :: u :: T, e =>
        injection e with e1 e2
        injection e2 with e2 e3
        exact ⟨u :: t :: T, List.Perm.swap _ _ _, by rw [e1, e2, e3]; rfl⟩
    | trans h1 h2 ih1 ih2 =>
      intro T e
      obtain ⟨U, hU, eU⟩ := ih2 T e
      obtain ⟨V, hV, eV⟩ := ih1 U eU
      exact ⟨V, hV.trans hU, eV⟩
  intro T ys h
  exact go h T rfl
/-- The classes, by their least characters. -/
def Sorted (ys : List (List S38)) : Prop := ys.Pairwise fun x y => lowR x ≤ lowR y
theorem of_calls (A0 : Option Addr) (c0 : Nat) (l0 : List (List S38)) (w : World) (hr0 : Kd.C (Kd.slice 38 k38) w A0 l0.length l0) (hc0 : l0.length ≤ c0) (E : List Int) (hE : ∀ c, 0 < c → c ≤ 1114111 → sigF l0 c ≠ sigF l0 (c - 1) → c ∈ E) (hl : E.length ≤ 798) :
    Calls Tryz.prog 6 #[.slice A0 l0.length c0] w fun e w' => ((OfBad l0 ∧ e = .returned (.tuple #[.slice none 0 0, .int .i64 9])) ∨ (¬ OfBad l0 ∧ ∃ v ys, e = .returned (.tuple #[v, .int .i64 0]) ∧ OwnRows w' w.heap.size v ys ∧ AtomsOf l0 ys ∧ Sorted ys)) ∧ Below w.heap.size w w' := by
  by_cases h60 : 60 < l0.length
  · exact (of_many A0 c0 l0 w h60).mono fun e w' ⟨he, hb⟩ => ⟨Or.inl ⟨Or.inl h60, he⟩, hb⟩
  cases hlong : longF l0 with
  | true => exact (of_long A0 c0 l0 w hr0 hc0 h60 hlong).mono fun e w' ⟨he, hb⟩ => ⟨Or.inl ⟨Or.inr (Or.inl hlong), he⟩, hb⟩
  | false =>
    have at_ := atoms_at E hE hl
    have hn := (at_ l0.length (Nat.le_refl _)).1
    rw [List.take_length] at hn
    have hn' := hn
    obtain ⟨T, hT, e, hc, hp⟩ := hn'
    have hP0 : ∀ a ∈ ofAt l0 l0.length, 0 < a.length := by
      intro a ha
      rw [e] at ha
      obtain ⟨t, ht, rfl⟩ := List.mem_map.1 ha
      exact hp t ht
    have hN0 : 0 < (ofAt l0 l0.length).length := by
      rw [e, List.length_map]
      exact List.length_pos_of_mem (hc 0 (Int.le_refl _) (by decide))
    refine (of_main A0 c0 l0 w hr0 hc0 h60 hlong (fun i hi => (at_ i hi).2) hP0 hN0).mono ?_
    rintro e' w' ⟨h, hb⟩
    refine ⟨?_, hb⟩
    rcases h with ⟨⟨j, h1, h2, h3⟩, he⟩ | ⟨hj, v, ys, he, ho, hpm, hs⟩
    · exact Or.inl ⟨Or.inr (Or.inr ⟨j, h1, h2, h3⟩), he⟩
    · refine Or.inr ⟨fun hb => ?_, v, ys, he, ho, ?_, hs⟩
      · rcases hb with h | h | ⟨j, h1, h2, h3⟩
        · exact h60 h
        · rw [hlong] at h; cases h
        · have := hj j h1 h2
          omega
      · rw [e] at hpm
        obtain ⟨U, hU, eU⟩ : ∃ U : List (List Bool), U.Perm T ∧ ys = U.map (atF l0) := perm_map hpm
        refine ⟨U, hU.nodup_iff.2 hT, eU, fun c h0 h1 => hU.mem_iff.2 (hc c h0 h1), fun t ht => hp t (hU.mem_iff.1 ht)⟩
end Go.Proofs.YtippkbgeeeimjaaGreat.L
/- What atom.Firsts and atom.Within answer. -/
namespace Go.Proofs.YtippkbgeeeimjaaGreat.P
open Go.RowKit Go.Proofs.YtippkbgeeeimjaaGreatW.PrintWords Go.Proofs.YtippkbgeeeimjaaGreat.A Go.Proofs.YtippkbgeeeimjaaGreat.L Go.Proofs.YtippkbgeeeimjaaGreat.B Go.Proofs.YtippkbgeeeimjaaGreat.D
set_option linter.unusedVariables false
set_option linter.unusedSimpArgs false
theorem firsts_go (L : List (List S38)) (hL : L.length ≤ 100000) : ∀ d i : Nat, i + d = L.length → ∀ acc : List Int, acc.length ≤ i → Ev (fun k => atom_Firsts.l0 k acc L (L.length : Int) (i : Int)) (acc ++ (L.drop i).map firstF) := by
  intro d
  induction d with
  | zero =>
    intro i h acc ha
    rw [List.drop_eq_nil_iff.2 (by omega), List.map_nil, List.append_nil]
    exact Ev.step (f := fun _ => some acc) (fun k => by rw [atom_Firsts.l0, if_neg (by omega)]) (Ev.now _)
  | succ d ih =>
    intro i h acc ha
    have hi : i < L.length := by omega
    have hd : L.drop i = L[i] :: L.drop (i + 1) := List.drop_eq_getElem_cons hi
    have hr : rd_L2 L (i : Int) = L[i] := by
      unfold rd_L2
      rw [Int.toNat_natCast, List.getD_eq_getElem?_getD, List.getElem?_eq_getElem hi]
      rfl
    have := ih (i + 1) (by omega) (acc ++ [firstF L[i]]) (by rw [List.length_append, List.length_singleton]; omega)
    rw [show ((i + 1 : Nat) : Int) = (i : Int) + 1 from by omega, List.append_assoc] at this
    rw [hd, List.map_cons]
    refine Ev.step (f := fun k => (span_First.f k L[i]).bind fun t => if acc.length < 17592186044416 then atom_Firsts.l0 k (acc ++ [t]) L (L.length : Int) ((i : Int) + 1) else none) (fun k => by rw [atom_Firsts.l0, if_pos (by omega), if_pos (by omega), if_pos (by omega), hr, w64 (n := (i : Int) + 1) (by omega) (by omega)]) ?_
    refine Ev.bind (span_first _) ?_
    exact ev_if (by omega) this
theorem firsts_f (L : List (List S38)) (hL : L.length ≤ 100000) : Ev (fun k => atom_Firsts.f k L) (L.map firstF) := by
  have := firsts_go L hL L.length 0 (by omega) [] (Nat.le_refl _)
  rw [List.drop_zero, List.nil_append] at this
  exact this
def wiF (s : List S38) : List Int → Nat → List Int
  | [], _ => []
  | f :: fs, i => if hasF s f = true then (i : Int) :: wiF s fs (i + 1) else wiF s fs (i + 1)
def withinF (L : List (List S38)) (s : List S38) : List Int := wiF s (L.map firstF) 0
theorem within_go (s : List S38) (fs : List Int) (hL : fs.length ≤ 100000) : ∀ d i : Nat, i + d = fs.length → ∀ acc : List Int, acc.length ≤ i → Ev (fun k => atom_Within.l0 k s acc fs (fs.length : Int) (i : Int)) (acc ++ wiF s (fs.drop i) i) := by
  intro d
  induction d with
  | zero =>
    intro i h acc ha
    rw [List.drop_eq_nil_iff.2 (by omega)]
    show Ev _ (acc ++ [])
    rw [List.append_nil]
    exact Ev.step (f := fun _ => some acc) (fun k => by rw [atom_Within.l0, if_neg (by omega)]) (Ev.now _)
  | succ d ih =>
    intro i h acc ha
    have hi : i < fs.length := by omega
    have hd : fs.drop i = fs[i] :: fs.drop (i + 1) := List.drop_eq_getElem_cons hi
    have hr : rd fs (i : Int) = fs[i] := by
      unfold rd
      rw [Int.toNat_natCast, List.getD_eq_getElem?_getD, List.getElem?_eq_getElem hi]
      rfl
    rw [hd, wiF]
    refine Ev.step (f := fun k => if hasF s fs[i] = true then (if acc.length < 17592186044416 then atom_Within.l0 k s (acc ++ [(i : Int)]) fs (fs.length : Int) ((i : Int) + 1) else none) else atom_Within.l0 k s acc fs (fs.length : Int) ((i : Int) + 1)) (fun k => by rw [atom_Within.l0, if_pos (by omega), if_pos (by omega), if_pos (by omega), hr, w64 (n := (i : Int) + 1) (by omega) (by omega)]; rfl) ?_
    have e1 : (i : Int) + 1 = ((i + 1 : Nat) : Int) := by omega
    by_cases q : hasF s fs[i] = true
    · rw [if_pos q]
      refine ev_if q (ev_if (by omega) ?_)
      have := ih (i + 1) (by omega) (acc ++ [(i : Int)]) (by rw [List.length_append, List.length_singleton]; omega)
      rw [List.append_assoc, ← e1] at this
      exact this
    · rw [if_neg q]
      refine ev_else q ?_
      have := ih (i + 1) (by omega) acc (by omega)
      rw [← e1] at this
      exact this
theorem within_f (L : List (List S38)) (s : List S38) (hL : L.length ≤ 100000) : Ev (fun k => atom_Within.f k L s) (withinF L s) := by
  refine Ev.bind (firsts_f L hL) ?_
  have := within_go s (L.map firstF) (by rw [List.length_map]; exact hL) (L.map firstF).length 0 (by omega) [] (Nat.le_refl _)
  rw [List.drop_zero, List.nil_append] at this
  exact this
end Go.Proofs.YtippkbgeeeimjaaGreat.P
