/- The calc claims' ground: automata that come in, what is returned, the reference's Right, Same, Great. -/
import Derived.Test.YtpedenbcfbflbaaYA
import Derived.Test.YtpedenbcfbflbaaPCa
import Derived.BigQuiet
import Derived.Deep.RegionLaw
import Derived.Deep.DrawnRows
import Derived.Deep.DeepMust
import Derived.WideShapes
import Derived.Lib.SmallJoins
import Derived.Deep.Slices
import Derived.ChangeArms
namespace Go.Proofs.Ytpedenbcfbflbaa.X
open Go.RowKit Go.Proofs.YtpedenbcfbflbaaW.PrintWords Go.Proofs.YtpedenbcfbflbaaW.PrintLast Go.Proofs.YtpedenbcfbflbaaW.PrintMore Go.Maps Num Go.Proofs.Ytpedenbcfbflbaa.PMarkMakes
set_option linter.unusedVariables false
set_option linter.unusedSimpArgs false

theorem wrap64_of {n : Int} (h0 : -9223372036854775808 ≤ n) (h1 : n ≤ 9223372036854775807) : wrap64 n = n := by unfold wrap64; omega
def badX (n : Int) (x : Int) : Bool := decide (x < 0) || decide (n ≤ x)

theorem right_l1 (s : Int) (n : List (List Int)) (e : List Bool) (i : Nat) (hi : i < n.length) (hn : n.length ≤ 3000) (hs : s ≤ 400) (hrow : ((n.getD i []).length : Int) = s) (k : Nat) :
    ∀ (m j : Nat), (j : Int) + m = s → caesuraref15_Right.l1 (m + 1 + k) n.length i j s n e = if ((n.getD i []).drop j).any (badX n.length) then some false else caesuraref15_Right.l0 k n.length (i + 1) s n e := by
  intro m
  induction m with
  | zero =>
    intro j hj
    have e1 : (n.getD i []).drop j = [] := List.drop_eq_nil_of_le (by omega)
    rw [e1, show 0 + 1 + k = k + 1 by omega]
    unfold caesuraref15_Right.l1
    rw [if_neg (by omega), wrap64_of (by omega) (by omega)]
    rfl
  | succ m ih =>
    intro j hj
    have hjl : j < (n.getD i []).length := by omega
    rw [List.drop_eq_getElem_cons hjl, List.any_cons, show m + 1 + 1 + k = (m + 1 + k) + 1 by omega]
    unfold caesuraref15_Right.l1
    have er : rd_L1 n (i : Int) = n.getD i [] := by simp [rd_L1]
    have ex : rd (n.getD i []) (j : Int) = (n.getD i [])[j] := by
      simp only [rd, Int.toNat_natCast]
      rw [List.getD_eq_getElem?_getD, List.getElem?_eq_getElem hjl]
      rfl
    rw [if_pos (by omega), if_pos (by omega), if_pos (by omega), if_pos (by omega), er, if_pos (by omega), ex]
    generalize (n.getD i [])[j] = v
    by_cases h1 : v < 0
    · rw [if_pos h1]
      simp [badX, h1]
    · rw [if_neg h1]
      by_cases h2 : v ≥ n.length
      · rw [if_pos h2]
        have : badX n.length v = true := by unfold badX; rw [decide_eq_true (show (n.length : Int) ≤ v from h2)]; simp
        rw [this]
        rfl
      · rw [if_neg h2]
        have : badX n.length v = false := by unfold badX; rw [decide_eq_false h1, decide_eq_false (by omega)]; rfl
        rw [this, Bool.false_or, wrap64_of (by omega) (by omega)]
        have := ih (j + 1) (by omega)
        rw [show ((j + 1 : Nat) : Int) = (j : Int) + 1 by omega] at this
        exact this

def badRow (s n : Int) (l : List Int) : Bool := decide ((l.length : Int) ≠ s) || l.any (badX n)

theorem right_l0 (s : Int) (n : List (List Int)) (e : List Bool) (hn : n.length ≤ 3000) (hs : s ≤ 400) (hs0 : 0 ≤ s) (k : Nat) :
    ∀ (m i : Nat), i + m = n.length → caesuraref15_Right.l0 (m * (s.toNat + 2) + 1 + k) n.length i s n e = some (!((n.drop i).any (badRow s n.length))) := by
  intro m
  induction m with
  | zero =>
    intro i hi
    have e1 : n.drop i = [] := List.drop_eq_nil_of_le (by omega)
    rw [e1, show 0 * (s.toNat + 2) + 1 + k = k + 1 by omega]
    unfold caesuraref15_Right.l0
    rw [if_neg (by omega)]
    rfl
  | succ m ih =>
    intro i hi
    have hil : i < n.length := by omega
    rw [List.drop_eq_getElem_cons hil, List.any_cons, show (m + 1) * (s.toNat + 2) + 1 + k = (s.toNat + 1 + (m * (s.toNat + 2) + 1 + k)) + 1 by rw [Nat.add_mul]; omega]
    unfold caesuraref15_Right.l0
    have er : rd_L1 n (i : Int) = n[i] := by
      simp only [rd_L1, Int.toNat_natCast]
      rw [List.getD_eq_getElem?_getD, List.getElem?_eq_getElem hil]
      rfl
    have er' : n.getD i [] = n[i] := by rw [List.getD_eq_getElem?_getD, List.getElem?_eq_getElem hil]; rfl
    rw [if_pos (by omega), if_pos (by omega), if_pos (by omega), er]
    by_cases hl : ((n[i].length : Nat) : Int) = s
    · rw [if_pos hl]
      have h1 := right_l1 s n e i hil hn hs (by rw [er']; exact hl) (m * (s.toNat + 2) + 1 + k) s.toNat 0 (by omega)
      rw [er', List.drop_zero] at h1
      have h2 := ih (i + 1) (by omega)
      rw [show ((i + 1 : Nat) : Int) = (i : Int) + 1 by omega] at h2
      rw [h2] at h1
      refine Eq.trans h1 ?_
      have hb : badRow s n.length n[i] = n[i].any (badX n.length) := by unfold badRow; rw [decide_eq_false (by simpa using hl)]; rfl
      rw [hb]
      cases n[i].any (badX n.length) <;> simp
    · rw [if_neg hl]
      have hb : badRow s n.length n[i] = true := by unfold badRow; rw [decide_eq_true (by simpa using hl)]; rfl
      rw [hb]
      rfl

/-- The reference's Right: the same. -/
theorem right_f (s : Int) (n : List (List Int)) (e : List Bool) : ∃ k, caesuraref15_Right.f k s n e = some (rightB s n e) := by
  by_cases h1 : s < 1
  · refine ⟨1, ?_⟩
    unfold caesuraref15_Right.f
    rw [if_pos h1]
    simp [caesuraref15_Right.j0, rightB, h1]
  by_cases h2 : s > 400
  · refine ⟨1, ?_⟩
    unfold caesuraref15_Right.f
    rw [if_neg h1, if_pos h2]
    have : 400 < s := h2
    simp [caesuraref15_Right.j0, rightB, this]
  by_cases h3 : (n.length : Int) < 1
  · refine ⟨1, ?_⟩
    unfold caesuraref15_Right.f
    rw [if_neg h1, if_neg h2, if_pos h3]
    have : n.length = 0 := by omega
    simp [caesuraref15_Right.j0, rightB, this]
  by_cases h4 : (n.length : Int) > 3000
  · refine ⟨1, ?_⟩
    unfold caesuraref15_Right.f
    rw [if_neg h1, if_neg h2, if_neg h3, if_pos h4]
    have : 3000 < n.length := by omega
    simp [caesuraref15_Right.j0, rightB, this]
  refine ⟨n.length * (s.toNat + 2) + 1 + 1, ?_⟩
  unfold caesuraref15_Right.f
  rw [if_neg h1, if_neg h2, if_neg h3, if_neg h4]
  have ej : ∀ (k : Nat) (b : Bool), caesuraref15_Right.j0 (k + 1) (n.length : Int) b s n e = if b = true then some false else caesuraref15_Right.l0 k n.length 0 s n e := fun k b => by simp only [caesuraref15_Right.j0]
  rw [ej]
  by_cases h5 : e.length = n.length
  · have e5 : ((e.length : Int) != (n.length : Int)) = false := bne_eq_false_iff_eq.2 (by omega)
    rw [e5, if_neg (by simp)]
    have := right_l0 s n e (by omega) (by omega) (by omega) 0 n.length 0 (by omega)
    rw [List.drop_zero, Nat.add_zero] at this
    refine Eq.trans this ?_
    have hr : rightB s n e = !(n.any (badRow s n.length)) := by
      unfold rightB
      rw [decide_eq_false h1, decide_eq_false (show ¬ 400 < s by omega), decide_eq_false (show ¬ n.length = 0 by omega), decide_eq_false (show ¬ 3000 < n.length by omega), decide_eq_false (show ¬ e.length ≠ n.length by omega)]
      rfl
    rw [hr]
  · have e5 : ((e.length : Int) != (n.length : Int)) = true := bne_iff_ne.2 (by omega)
    rw [e5, if_pos rfl]
    simp [rightB, h5]
/-- A box of the call's own: what a struct is returned in. -/
theorem put3_blk {W : World} {g : Nat} {c0 c1 c2 : Value} (hb : W.heap[g]? = some (.cells #[c0, c1, c2] 25 (0, 0))) (u0 u1 u2 : Value) : (((W.setCell ⟨g, 0, none⟩ u0).setCell ⟨g, 1, none⟩ u1).setCell ⟨g, 2, none⟩ u2).heap[g]? = some (.cells #[u0, u1, u2] 25 (0, 0)) :=
  blk_put (blk_put (blk_put hb 0 u0 rfl) 1 u1 rfl) 2 u2 rfl
theorem C_box {α : Type} {d : Kd α} {W : World} {g t : Nat} {inner : List Value} {xs : List α} (hb : W.heap[g]? = some (.cells inner.toArray t (0, 0))) (hr : Reps (d.K W) d.sz xs inner) (hm : xs.length ≤ 9223372036854775807) : d.C W (some ⟨g, 0, none⟩) xs.length xs := by
  refine ⟨rfl, hm, fun _ => ⟨_, rfl, fun j p hp => ⟨(inner.drop (j * d.sz)).take d.sz, d.K_len (hr.2 j p hp), hr.2 j p hp, fun i u hu => ?_⟩⟩⟩
  rw [add_plain, blk_cell hb]
  rw [List.getElem?_take] at hu
  split at hu
  · rw [List.getElem?_drop] at hu
    simpa using hu
  · cases hu
theorem C_ints {W : World} {g t : Nat} {xs : List Int} (hb : W.heap[g]? = some (.cells (xs.map (Value.int .i64)).toArray t (0, 0))) (hm : xs.length ≤ 9223372036854775807) : Kd.C (Kd.int .i64) W (some ⟨g, 0, none⟩) xs.length xs :=
  C_box hb (Kd.reps_scalar xs) hm
theorem C_bools {W : World} {g t : Nat} {xs : List Bool} (hb : W.heap[g]? = some (.cells (xs.map Value.bool).toArray t (0, 0))) (hm : xs.length ≤ 9223372036854775807) : Kd.C Kd.bool W (some ⟨g, 0, none⟩) xs.length xs :=
  C_box hb (Kd.reps_scalar xs) hm

def allocs (w : World) : List Obj → World
  | [] => w
  | o :: r => allocs (w.alloc o) r
theorem allocs_below (os : List Obj) : ∀ w : World, Below w.heap.size w (allocs w os) := by
  induction os with
  | nil => exact fun w => Below.refl _ _
  | cons o r ih => exact fun w => (below_alloc (Below.refl _ _) o).trans ((ih (w.alloc o)).mono (by simp))
theorem allocs_get (os : List Obj) : ∀ (w : World) (i : Nat) (o : Obj), os[i]? = some o → (allocs w os).heap[w.heap.size + i]? = some o := by
  induction os with
  | nil => intro w i o h; simp at h
  | cons p r ih =>
    intro w i o h
    cases i with
    | zero =>
      simp at h; subst h
      exact blk_below (blk_new w p) (allocs_below r (w.alloc p))
    | succ i =>
      have := ih (w.alloc p) i o (by simpa using h)
      rw [show (w.alloc p).heap.size = w.heap.size + 1 by simp] at this
      rw [show w.heap.size + (i + 1) = w.heap.size + 1 + i by omega]
      exact this
/-- What a call has returned, to be read from then on. -/
structure Got (base : Nat) (A : Option Addr) (c : Nat) (n : List (List Int)) (B : Option Addr) (d : Nat) (e : List Bool) (W : World) : Prop where
  n1 : n.length ≤ c
  n2 : Kd.C (Kd.slice 3 (Kd.int .i64)) W A n.length n
  e1 : e.length ≤ d
  e2 : Kd.C Kd.bool W B e.length e
theorem Got.below {base : Nat} {A : Option Addr} {c : Nat} {n : List (List Int)} {B : Option Addr} {d : Nat} {e : List Bool} {W W' : World} (h : Got base A c n B d e W) (hb : Below W.heap.size W W') : Got base A c n B d e W' := ⟨h.n1, Kd.C_below h.n2 hb, h.e1, Kd.C_below h.e2 hb⟩
theorem drop_eq_cons {α : Type} [DecidableEq α] {l m : List α} {i : Nat} (hl : i < l.length) (hm : i < m.length) : decide (l.drop i = m.drop i) = (decide (l[i] = m[i]) && decide (l.drop (i + 1) = m.drop (i + 1))) := by
  rw [List.drop_eq_getElem_cons hl, List.drop_eq_getElem_cons hm]
  generalize l[i] = a
  generalize m[i] = b
  generalize l.drop (i + 1) = x
  generalize m.drop (i + 1) = y
  by_cases h1 : a = b <;> by_cases h2 : x = y <;> simp [h1, h2]
theorem ints_l0 (l m : List Int) (hlm : l.length = m.length) (hmax : l.length ≤ 9223372036854775807) : ∀ (d i k : Nat), i + d = l.length → caesuraref01_Ints.l0 (d + 1 + k) l m i = some (decide (l.drop i = m.drop i)) := by
  intro d
  induction d with
  | zero =>
    intro i k hi
    rw [show 0 + 1 + k = k + 1 by omega, List.drop_eq_nil_of_le (by omega), List.drop_eq_nil_of_le (by omega)]
    unfold caesuraref01_Ints.l0
    rw [if_neg (by omega)]
    simp
  | succ d ih =>
    intro i k hi
    have h1 : i < l.length := by omega
    have h2 : i < m.length := by omega
    rw [show d + 1 + 1 + k = (d + 1 + k) + 1 by omega, drop_eq_cons h1 h2]
    unfold caesuraref01_Ints.l0
    have e1 : rd l (i : Int) = l[i] := by simp only [rd, Int.toNat_natCast]; rw [List.getD_eq_getElem?_getD, List.getElem?_eq_getElem h1]; rfl
    have e2 : rd m (i : Int) = m[i] := by simp only [rd, Int.toNat_natCast]; rw [List.getD_eq_getElem?_getD, List.getElem?_eq_getElem h2]; rfl
    rw [if_pos (by omega), if_pos (by omega), if_pos (by omega), e1, e2]
    by_cases he : l[i] = m[i]
    · rw [if_pos he, decide_eq_true he, Bool.true_and, wrap64_of (by omega) (by omega)]
      have := ih (i + 1) k (by omega)
      rw [show ((i + 1 : Nat) : Int) = (i : Int) + 1 by omega] at this
      exact this
    · rw [if_neg he, decide_eq_false he]
      rfl
theorem ints_f (l m : List Int) (k : Nat) (hk : l.length ≤ k) (hmax : l.length ≤ 9223372036854775807) : caesuraref01_Ints.f (k + 1) l m = some (decide (l = m)) := by
  unfold caesuraref01_Ints.f
  by_cases h : l.length = m.length
  · rw [if_pos (by omega)]
    have := ints_l0 l m h hmax l.length 0 (k - l.length) (by omega)
    rw [show l.length + 1 + (k - l.length) = k + 1 by omega] at this
    simpa using this
  · rw [if_neg (by omega), decide_eq_false (fun e => h (by rw [e]))]
theorem bools_l0 (l m : List Bool) (hlm : l.length = m.length) (hmax : l.length ≤ 9223372036854775807) : ∀ (d i k : Nat), i + d = l.length → caesuraref15_Bools.l0 (d + 1 + k) l m i = some (decide (l.drop i = m.drop i)) := by
  intro d
  induction d with
  | zero =>
    intro i k hi
    rw [show 0 + 1 + k = k + 1 by omega, List.drop_eq_nil_of_le (by omega), List.drop_eq_nil_of_le (by omega)]
    unfold caesuraref15_Bools.l0
    rw [if_neg (by omega)]
    simp
  | succ d ih =>
    intro i k hi
    have h1 : i < l.length := by omega
    have h2 : i < m.length := by omega
    rw [show d + 1 + 1 + k = (d + 1 + k) + 1 by omega, drop_eq_cons h1 h2]
    unfold caesuraref15_Bools.l0
    have e1 : rdOf false l (i : Int) = l[i] := by simp only [rdOf, Int.toNat_natCast]; rw [List.getD_eq_getElem?_getD, List.getElem?_eq_getElem h1]; rfl
    have e2 : rdOf false m (i : Int) = m[i] := by simp only [rdOf, Int.toNat_natCast]; rw [List.getD_eq_getElem?_getD, List.getElem?_eq_getElem h2]; rfl
    rw [if_pos (by omega), if_pos (by omega), if_pos (by omega), e1, e2]
    by_cases he : l[i] = m[i]
    · rw [if_neg (by rw [he]; simp), decide_eq_true he, Bool.true_and, wrap64_of (by omega) (by omega)]
      have := ih (i + 1) k (by omega)
      rw [show ((i + 1 : Nat) : Int) = (i : Int) + 1 by omega] at this
      exact this
    · rw [if_pos (by simpa using he), decide_eq_false he]
      rfl
theorem bools_f (l m : List Bool) (k : Nat) (hk : l.length ≤ k) (hmax : l.length ≤ 9223372036854775807) : caesuraref15_Bools.f (k + 1) l m = some (decide (l = m)) := by
  unfold caesuraref15_Bools.f
  by_cases h : l.length = m.length
  · rw [if_pos (by omega)]
    have := bools_l0 l m h hmax l.length 0 (k - l.length) (by omega)
    rw [show l.length + 1 + (k - l.length) = k + 1 by omega] at this
    simpa using this
  · rw [if_neg (by omega), decide_eq_false (fun e => h (by rw [e]))]
theorem lists_l0 (l m : List (List Int)) (k : Nat) (hlm : l.length = m.length) (hmax : l.length ≤ 9223372036854775807) (hr : ∀ r ∈ l, r.length ≤ k ∧ r.length ≤ 9223372036854775807) : ∀ (d i : Nat), i + d = l.length → caesuraref13_Lists.l0 (d + 1 + k + 1) l m i = some (decide (l.drop i = m.drop i)) := by
  intro d
  induction d with
  | zero =>
    intro i hi
    rw [show 0 + 1 + k + 1 = (k + 1) + 1 by omega, List.drop_eq_nil_of_le (by omega), List.drop_eq_nil_of_le (by omega)]
    unfold caesuraref13_Lists.l0
    rw [if_neg (by omega)]
    simp
  | succ d ih =>
    intro i hi
    have h1 : i < l.length := by omega
    have h2 : i < m.length := by omega
    rw [show d + 1 + 1 + k + 1 = (d + 1 + k + 1) + 1 by omega, drop_eq_cons h1 h2]
    unfold caesuraref13_Lists.l0
    have e1 : rd_L1 l (i : Int) = l[i] := by simp only [rd_L1, Int.toNat_natCast]; rw [List.getD_eq_getElem?_getD, List.getElem?_eq_getElem h1]; rfl
    have e2 : rd_L1 m (i : Int) = m[i] := by simp only [rd_L1, Int.toNat_natCast]; rw [List.getD_eq_getElem?_getD, List.getElem?_eq_getElem h2]; rfl
    obtain ⟨r1, r2⟩ := hr l[i] (List.getElem_mem h1)
    rw [if_pos (by omega), if_pos (by omega), if_pos (by omega), e1, e2, ints_f l[i] m[i] (d + 1 + k) (by omega) r2, Option.bind_some]
    by_cases he : l[i] = m[i]
    · rw [if_pos (by simpa using he), decide_eq_true he, Bool.true_and, wrap64_of (by omega) (by omega)]
      have := ih (i + 1) (by omega)
      rw [show ((i + 1 : Nat) : Int) = (i : Int) + 1 by omega] at this
      exact this
    · rw [if_neg (by simpa using he), decide_eq_false he]
      rfl
theorem lists_f (l m : List (List Int)) (k : Nat) (hmax : l.length ≤ 9223372036854775807) (hr : ∀ r ∈ l, r.length ≤ k ∧ r.length ≤ 9223372036854775807) : caesuraref13_Lists.f (l.length + 1 + k + 1) l m = some (decide (l = m)) := by
  unfold caesuraref13_Lists.f
  by_cases h : l.length = m.length
  · rw [if_pos (by omega)]
    have := lists_l0 l m k h hmax hr l.length 0 (by omega)
    simpa using this
  · rw [if_neg (by omega), decide_eq_false (fun e => h (by rw [e]))]
theorem row_le (l : List (List Int)) : ∃ k, ∀ r ∈ l, r.length ≤ k := by
  induction l with
  | nil => exact ⟨0, fun r h => by simp at h⟩
  | cons x l ih =>
    obtain ⟨k, hk⟩ := ih
    exact ⟨x.length + k, fun r h => by
      rcases List.mem_cons.1 h with h | h
      · rw [h]; omega
      · have := hk r h; omega⟩
/-- Are two automata the same. -/
theorem same_f (s1 : Int) (n1 : List (List Int)) (e1 : List Bool) (s2 : Int) (n2 : List (List Int)) (e2 : List Bool) (h1 : n1.length ≤ 9223372036854775807) (h2 : ∀ r ∈ n1, r.length ≤ 9223372036854775807) (h3 : e1.length ≤ 9223372036854775807) :
    ∃ k, caesuraref15_Same.f k s1 n1 e1 s2 n2 e2 = some (decide (s1 = s2) && (decide (n1 = n2) && decide (e1 = e2))) := by
  obtain ⟨k, hk⟩ := row_le n1
  refine ⟨n1.length + 1 + (k + e1.length) + 1, ?_⟩
  unfold caesuraref15_Same.f
  rw [lists_f n1 n2 (k + e1.length) h1 (fun r hr => ⟨by have := hk r hr; omega, h2 r hr⟩), bools_f e1 e2 (n1.length + 1 + (k + e1.length)) (by omega) h3]
  by_cases hs : s1 = s2
  · rw [if_pos hs, decide_eq_true hs]
    by_cases hn : n1 = n2 <;> simp [hn]
  · rw [if_neg hs, decide_eq_false hs]
    rfl
theorem great_l0 (s : Int) (n : List (List Int)) (e : List Bool) (a : Int) (hmax : n.length ≤ 9223372036854775807) : ∀ (d i : Nat) (x : Int), i + d = n.length → ∃ r, caesuraref15_Great.l0 (d + 1) a x i s n e = some r := by
  intro d
  induction d with
  | zero =>
    intro i x hi
    unfold caesuraref15_Great.l0
    rw [if_neg (by omega)]
    exact ⟨_, rfl⟩
  | succ d ih =>
    intro i x hi
    unfold caesuraref15_Great.l0
    rw [if_pos (by omega)]
    by_cases hx : x ≤ a
    · rw [if_pos hx, if_pos (by omega), wrap64_of (n := (i : Int) + 1) (by omega) (by omega)]
      have := ih (i + 1) (wrap64 (x + ((rd_L1 n (i : Int)).length : Int))) (by omega)
      rw [show ((i + 1 : Nat) : Int) = (i : Int) + 1 by omega] at this
      exact this
    · rw [if_neg hx]
      exact ⟨_, rfl⟩
theorem great_f (s : Int) (n : List (List Int)) (e : List Bool) (a : Int) (hmax : n.length ≤ 9223372036854775807) : ∃ k r, caesuraref15_Great.f k s n e a = some r := by
  obtain ⟨r, h⟩ := great_l0 s n e a hmax n.length 0 (wrap64 ((n.length : Int) + (e.length : Int))) (by omega)
  exact ⟨_, r, h⟩
theorem Got.rows_max {A : Option Addr} {c : Nat} {n : List (List Int)} {B : Option Addr} {d : Nat} {e : List Bool} {W : World} (h : Got 0 A c n B d e W) : n.length ≤ 9223372036854775807 ∧ (∀ r ∈ n, r.length ≤ 9223372036854775807) ∧ e.length ≤ 9223372036854775807 := by
  refine ⟨Kd.C_max h.n2, fun r hr => ?_, Kd.C_max h.e2⟩
  obtain ⟨i, hi, rfl⟩ := List.getElem_of_mem hr
  obtain ⟨ad, A0, c0, e, h2, h3, h4⟩ := at_row h.n2 i hi
  have := Kd.C_max h4
  rw [List.getD_eq_getElem?_getD, List.getElem?_eq_getElem hi] at this
  exact this
end Go.Proofs.Ytpedenbcfbflbaa.X
namespace Go.Proofs.Ytpedenbcfbflbaa.X
open Go.RowKit Go.Proofs.YtpedenbcfbflbaaW.PrintWords Go.Proofs.YtpedenbcfbflbaaW.PrintLast Go.Proofs.YtpedenbcfbflbaaW.PrintMore Go.Joins Go.ChangeShapes Go.WideShapes Go.Deep
set_option linter.unusedVariables false
set_option linter.unusedSimpArgs false

theorem C_of_cells {α : Type} {d : Kd α} (hsz : d.sz = 1) {W : World} {a : Addr} {len : Nat} (hm : len ≤ 9223372036854775807) (h : ∀ i, i < len → ∃ v x, W.cell? (a.add i) = some v ∧ d.K W x [v]) : ∃ xs : List α, xs.length = len ∧ d.C W (some a) xs.length xs := by
  have h1 : ∀ m, m ≤ len → ∃ xs : List α, xs.length = m ∧ ∀ i x, xs[i]? = some x → ∃ v, W.cell? (a.add i) = some v ∧ d.K W x [v] := by
    intro m
    induction m with
    | zero => exact fun _ => ⟨[], rfl, fun i x hx => by simp at hx⟩
    | succ m ih =>
      intro hm
      obtain ⟨xs, hl, hx⟩ := ih (by omega)
      obtain ⟨v, x, h2, h3⟩ := h m (by omega)
      refine ⟨xs ++ [x], by simp [hl], fun i y hy => ?_⟩
      by_cases hi : i < xs.length
      · rw [List.getElem?_append_left hi] at hy; exact hx i y hy
      · have : i = m := by
          have := (List.getElem?_eq_some_iff.1 hy).1
          simp at this; omega
        subst this
        rw [List.getElem?_append_right (by omega), hl, Nat.sub_self] at hy
        simp at hy
        subst hy
        exact ⟨v, h2, h3⟩
  obtain ⟨xs, hl, hx⟩ := h1 len (Nat.le_refl _)
  refine ⟨xs, hl, rfl, by omega, fun _ => ⟨a, rfl, fun j p hp => ?_⟩⟩
  obtain ⟨v, h2, h3⟩ := hx j p hp
  refine ⟨[v], by rw [hsz]; rfl, h3, fun i u hu => ?_⟩
  cases i with
  | zero =>
    simp at hu
    subst hu
    rw [hsz]
    simpa using h2
  | succ i => simp at hu

theorem C_of_cellsQ {α : Type} {d : Kd α} (Q : α → Prop) (hsz : d.sz = 1) {W : World} {a : Addr} {len : Nat} (hm : len ≤ 9223372036854775807) (h : ∀ i, i < len → ∃ v x, W.cell? (a.add i) = some v ∧ d.K W x [v] ∧ Q x) : ∃ xs : List α, xs.length = len ∧ d.C W (some a) xs.length xs ∧ ∀ x ∈ xs, Q x := by
  have h1 : ∀ m, m ≤ len → ∃ xs : List α, xs.length = m ∧ (∀ i x, xs[i]? = some x → ∃ v, W.cell? (a.add i) = some v ∧ d.K W x [v]) ∧ ∀ x ∈ xs, Q x := by
    intro m
    induction m with
    | zero => exact fun _ => ⟨[], rfl, fun i x hx => by simp at hx, fun x hx => by simp at hx⟩
    | succ m ih =>
      intro hm
      obtain ⟨xs, hl, hx, hq⟩ := ih (by omega)
      obtain ⟨v, x, h2, h3, h4⟩ := h m (by omega)
      refine ⟨xs ++ [x], by simp [hl], fun i y hy => ?_, fun y hy => ?_⟩
      · by_cases hi : i < xs.length
        · rw [List.getElem?_append_left hi] at hy; exact hx i y hy
        · have : i = m := by
            have := (List.getElem?_eq_some_iff.1 hy).1
            simp at this; omega
          subst this
          rw [List.getElem?_append_right (by omega), hl, Nat.sub_self] at hy
          simp at hy
          subst hy
          exact ⟨v, h2, h3⟩
      · rcases List.mem_append.1 hy with hy | hy
        · exact hq y hy
        · rw [List.mem_singleton] at hy
          rw [hy]; exact h4
  obtain ⟨xs, hl, hx, hq⟩ := h1 len (Nat.le_refl _)
  refine ⟨xs, hl, ⟨rfl, by omega, fun _ => ⟨a, rfl, fun j p hp => ?_⟩⟩, hq⟩
  obtain ⟨v, h2, h3⟩ := hx j p hp
  refine ⟨[v], by rw [hsz]; rfl, h3, fun i u hu => ?_⟩
  cases i with
  | zero =>
    simp at hu
    subst hu
    rw [hsz]
    simpa using h2
  | succ i => simp at hu
variable {H : Type} {enc : TypeId × Value → H} {W : World} {base : Nat} {spare : Nat → Bool} {held : Bool}
theorem slice_ints {fuel : Nat} {v : Value} {x : DataW H × List MemPlace} (h : DataW.trod enc Try.prog W base spare held fuel 33 [v] = some x) : ∃ A c l, v = .slice A l.length c ∧ l.length ≤ c ∧ Kd.C (Kd.int .i64) W A l.length l := by
  rcases open_slice1 Try.underlying33 (by kernel_rfl) h with ⟨hcs, _⟩ | ⟨a, len, cap, m, n, V, D, Pl, hcs, hb, hl, hm, hmm, hx, hi⟩
  · injection hcs with hcs
    exact ⟨none, 0, [], hcs, Nat.le_refl _, Kd.C_nil _ _⟩
  · injection hcs with hcs
    have hlm : len ≤ m := by rw [hmm]; split <;> omega
    obtain ⟨xs, hx1, hx2⟩ := C_of_cells (d := Kd.int .i64) (W := W) (a := a) (len := len) rfl (by unfold maxLen at hm; omega) (fun i hil => by
      obtain ⟨h1, h2⟩ := hi i (by omega)
      obtain ⟨z, hz, _, _⟩ := DataW.trod_int Try.underlying3 h2
      injection hz with hz
      exact ⟨V i, z, h1, by rw [hz]; rfl⟩)
    exact ⟨some a, cap, xs, by rw [hx1]; exact hcs, by omega, hx2⟩
theorem slice_bools {fuel : Nat} {v : Value} {x : DataW H × List MemPlace} (h : DataW.trod enc Try.prog W base spare held fuel 23 [v] = some x) : ∃ A c l, v = .slice A l.length c ∧ l.length ≤ c ∧ Kd.C Kd.bool W A l.length l := by
  rcases open_slice1 Try.underlying23 (by kernel_rfl) h with ⟨hcs, _⟩ | ⟨a, len, cap, m, n, V, D, Pl, hcs, hb, hl, hm, hmm, hx, hi⟩
  · injection hcs with hcs
    exact ⟨none, 0, [], hcs, Nat.le_refl _, Kd.C_nil _ _⟩
  · injection hcs with hcs
    have hlm : len ≤ m := by rw [hmm]; split <;> omega
    obtain ⟨xs, hx1, hx2⟩ := C_of_cells (d := Kd.bool) (W := W) (a := a) (len := len) rfl (by unfold maxLen at hm; omega) (fun i hil => by
      obtain ⟨h1, h2⟩ := hi i (by omega)
      obtain ⟨z, hz, _⟩ := DataW.trod_bool Try.underlying4 h2
      injection hz with hz
      exact ⟨V i, z, h1, by rw [hz]; rfl⟩)
    exact ⟨some a, cap, xs, by rw [hx1]; exact hcs, by omega, hx2⟩
theorem slice_rows {fuel : Nat} {v : Value} {x : DataW H × List MemPlace} (h : DataW.trod enc Try.prog W base spare held fuel 22 [v] = some x) : ∃ A c l, v = .slice A l.length c ∧ l.length ≤ c ∧ Kd.C (Kd.slice 3 (Kd.int .i64)) W A l.length l := by
  rcases open_slice1 Try.underlying22 (by kernel_rfl) h with ⟨hcs, _⟩ | ⟨a, len, cap, m, n, V, D, Pl, hcs, hb, hl, hm, hmm, hx, hi⟩
  · injection hcs with hcs
    exact ⟨none, 0, [], hcs, Nat.le_refl _, Kd.C_nil _ _⟩
  · injection hcs with hcs
    have hlm : len ≤ m := by rw [hmm]; split <;> omega
    obtain ⟨xs, hx1, hx2⟩ := C_of_cells (d := Kd.slice 3 (Kd.int .i64)) (W := W) (a := a) (len := len) rfl (by unfold maxLen at hm; omega) (fun i hil => by
      obtain ⟨h1, h2⟩ := hi i (by omega)
      obtain ⟨A, c, l, hz, hc, hC⟩ := slice_ints h2
      exact ⟨V i, l, h1, A, c, by rw [hz], hc, hC⟩)
    exact ⟨some a, cap, xs, by rw [hx1]; exact hcs, by omega, hx2⟩
theorem list_ints {fuel : Nat} {v : Value} {x : DataW H × List MemPlace} (h : DataW.trod enc Try.prog W base spare held fuel 33 [v] = some x) : ∃ A c l, v = .slice A l.length c ∧ (∀ z ∈ l, (Lit.int .i64 z).wf = true) ∧ l.length ≤ c ∧ Kd.C (Kd.int .i64) W A l.length l := by
  rcases open_slice1 Try.underlying33 (by kernel_rfl) h with ⟨hcs, _⟩ | ⟨a, len, cap, m, n, V, D, Pl, hcs, hb, hl, hm, hmm, hx, hi⟩
  · injection hcs with hcs
    exact ⟨none, 0, [], hcs, fun z hz => by simp at hz, Nat.le_refl _, Kd.C_nil _ _⟩
  · injection hcs with hcs
    have hlm : len ≤ m := by rw [hmm]; split <;> omega
    obtain ⟨xs, hx1, hx2, hx3⟩ := C_of_cellsQ (d := Kd.int .i64) (fun z => (Lit.int .i64 z).wf = true) (W := W) (a := a) (len := len) rfl (by unfold maxLen at hm; omega) (fun i hil => by
      obtain ⟨h1, h2⟩ := hi i (by omega)
      obtain ⟨z, hz, _, hw⟩ := DataW.trod_int Try.underlying3 h2
      injection hz with hz
      exact ⟨V i, z, h1, by rw [hz]; rfl, hw⟩)
    exact ⟨some a, cap, xs, by rw [hx1]; exact hcs, hx3, by omega, hx2⟩
/-- A list of whole numbers that came in. -/
theorem open_list {r : Reach} {b0 : Nat} {v : Value} {d : DataW H} {p : List MemPlace} (hv : Value.okWide Try.prog W r b0 33 v) (h : DataW.Trod enc Try.prog W base spare held 33 v d p) :
    ∃ A c l, v = .slice A l.length c ∧ (∀ z ∈ l, (Lit.int .i64 z).wf = true) ∧ (l.length ≤ c ∧ Kd.C (Kd.int .i64) W A l.length l) := by
  obtain ⟨a, len, cap, rfl⟩ := okWide_slice Try.underlying33 hv
  obtain ⟨fuel, hf⟩ := h
  obtain ⟨A, c, l, h1, h2, h3, h4⟩ := list_ints (v := .slice a len cap) (by simpa [Value.cells] using hf)
  exact ⟨A, c, l, h1, h2, h3, h4⟩
theorem wf_le {z : Int} (h : (Lit.int .i64 z).wf = true) : -9223372036854775808 ≤ z ∧ z ≤ 9223372036854775807 := by
  simpa [Lit.wf, IntKind.min, IntKind.max, IntKind.signed, IntKind.bits] using h
/-- An automaton that came in. -/
theorem open_det {r : Reach} {b0 : Nat} {v : Value} {d : DataW H} {p : List MemPlace} (hv : Value.okWide Try.prog W r b0 25 v) (h : DataW.Trod enc Try.prog W base spare held 25 v d p) :
    ∃ s A c n B b e, v = .agg #[.int .i64 s, .slice A n.length c, .slice B e.length b] ∧ (Lit.int .i64 s).wf = true ∧ Got 0 A c n B b e W := by
  obtain ⟨v0, v1, v2, y0, y1, y2, n, rfl, _, _, h0, h1, h2⟩ := open_agg3 Try.underlying25 (by kernel_rfl) (by kernel_rfl) hv h
  obtain ⟨s, hs, _, hw⟩ := DataW.trod_int Try.underlying3 h0
  obtain ⟨A, c, l, rfl, hc, hC⟩ := slice_rows h1
  obtain ⟨B, b, e, rfl, hb, hB⟩ := slice_bools h2
  injection hs with hs
  subst hs
  exact ⟨s, A, c, l, B, b, e, rfl, hw, hc, hC, hb, hB⟩
end Go.Proofs.Ytpedenbcfbflbaa.X
namespace Go.Proofs.Ytpedenbcfbflbaa.L
set_option linter.unusedVariables false
open Go.RowKit Go.Proofs.YtpedenbcfbflbaaW.PrintWords Go.Proofs.Ytpedenbcfbflbaa.X
def rightx.f (a0_0 : Int) (l0_1 : List (List Int)) (l0_2 : List Bool) : Option (Bool) := some (rightB a0_0 l0_1 l0_2)
theorem rightx.calls (a0_0 : Int) (A0_1 : Option Addr) (c0_1 : Nat) (l0_1 : List (List Int)) (A0_2 : Option Addr) (c0_2 : Nat) (l0_2 : List Bool) (r : Bool) (w : World) (hr0_1 : Kd.C (Kd.slice 3 (Kd.int .i64)) w A0_1 l0_1.length l0_1) (hc0_1 : l0_1.length ≤ c0_1) (hr0_2 : Kd.C Kd.bool w A0_2 l0_2.length l0_2) (hc0_2 : l0_2.length ≤ c0_2) (h : rightx.f a0_0 l0_1 l0_2 = some r) :
    Calls Try.prog 24 #[.agg #[.int .i64 a0_0, .slice A0_1 l0_1.length c0_1, .slice A0_2 l0_2.length c0_2]] w fun e w' => e = .returned (.bool r) ∧ Below w.heap.size w w' := by
  obtain ⟨k, hk⟩ := right_f a0_0 l0_1 l0_2
  exact PMarkMakes.caesuraref15_Right.calls k a0_0 A0_1 c0_1 l0_1 A0_2 c0_2 l0_2 r w hr0_1 hc0_1 hr0_2 hc0_2 (hk.trans h)

end Go.Proofs.Ytpedenbcfbflbaa.L
