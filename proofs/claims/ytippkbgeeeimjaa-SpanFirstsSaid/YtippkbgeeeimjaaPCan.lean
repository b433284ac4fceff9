/- Plain lists, no program: least lists of ranges; what span.sweep makes is the least list of the set that its rule says. -/
import Derived.Test.YtippkbgeeeimjaaXSweep
namespace Go.Proofs.Ytippkbgeeeimjaa.P
open Go.RowKit Go.Proofs.YtippkbgeeeimjaaW.PrintWords Go.Proofs.Ytippkbgeeeimjaa.A Go.Proofs.Ytippkbgeeeimjaa.L
set_option linter.unusedVariables false
set_option linter.unusedSimpArgs false

theorem w64 {n : Int} (h : -9223372036854775808 ≤ n) (h' : n ≤ 9223372036854775807) : wrap64 n = n := by
  unfold wrap64
  omega
theorem ev_if {α : Type} {c : Prop} [Decidable c] {g f : Nat → Option α} {r : α} (hc : c) (h : Ev g r) : Ev (fun k => if c then g k else f k) r := by
  obtain ⟨K, h⟩ := h
  exact ⟨K, fun k hk => by show (if c then g k else f k) = some r; rw [if_pos hc]; exact h k hk⟩
theorem ev_else {α : Type} {c : Prop} [Decidable c] {g f : Nat → Option α} {r : α} (hc : ¬ c) (h : Ev f r) : Ev (fun k => if c then g k else f k) r := by
  obtain ⟨K, h⟩ := h
  exact ⟨K, fun k hk => by show (if c then g k else f k) = some r; rw [if_neg hc]; exact h k hk⟩
theorem ev_some {α : Type} {g : Nat → Option α} {r : α} (h : ∀ k, g k = some r) : Ev g r := ⟨0, fun k _ => h k⟩

def inR (r : S34) (c : Int) : Bool := decide (r.f0 ≤ c) && decide (c ≤ r.f1)
theorem inR_iff {r : S34} {c : Int} : inR r c = true ↔ r.f0 ≤ c ∧ c ≤ r.f1 := by simp [inR]
/-- Is a character in one of the ranges? -/
def Mem (l : List S34) (c : Int) : Bool := l.any fun r => inR r c
theorem mem_iff {l : List S34} {c : Int} : Mem l c = true ↔ ∃ r ∈ l, r.f0 ≤ c ∧ c ≤ r.f1 := by
  simp [Mem, inR_iff]
theorem mem_app (l m : List S34) (c : Int) : Mem (l ++ m) c = (Mem l c || Mem m c) := by simp [Mem]
theorem mem_one (r : S34) (c : Int) : Mem [r] c = inR r c := by simp [Mem]
/-- A least list below a bound. -/
def Can (a : Int) (xs : List S34) : Prop := (∀ r ∈ xs, 0 ≤ r.f0 ∧ r.f0 ≤ r.f1 ∧ r.f1 < a) ∧ xs.Pairwise fun r s => r.f1 + 1 < s.f0
def Spec (P : Int → Bool) (xs : List S34) (a : Int) : Prop := Can a xs ∧ ∀ c, 0 ≤ c → c < a → Mem xs c = P c
theorem Can.mem_range {a : Int} {xs : List S34} (h : Can a xs) {c : Int} (hm : Mem xs c = true) : 0 ≤ c ∧ c < a := by
  obtain ⟨r, hr, h1, h2⟩ := mem_iff.1 hm
  have := h.1 r hr
  omega
theorem Can.one : ∀ {xs ys : List S34} {a : Int}, Can a xs → Can a ys → (∀ c, Mem xs c = Mem ys c) → xs = ys
  | [], [], _, _, _, _ => rfl
  | [], s :: u, a, _, hy, h => by
    have := h s.f0
    have h2 := hy.1 s List.mem_cons_self
    have : Mem (s :: u) s.f0 = true := mem_iff.2 ⟨s, List.mem_cons_self, by omega, by omega⟩
    rw [← h] at this
    simp [Mem] at this
  | r :: t, [], a, hx, _, h => by
    have h2 := hx.1 r List.mem_cons_self
    have : Mem (r :: t) r.f0 = true := mem_iff.2 ⟨r, List.mem_cons_self, by omega, by omega⟩
    rw [h] at this
    simp [Mem] at this
  | r :: t, s :: u, a, hx, hy, h => by
    have hr := hx.1 r List.mem_cons_self
    have hs := hy.1 s List.mem_cons_self
    obtain ⟨hx1, hx2⟩ := List.pairwise_cons.1 hx.2
    obtain ⟨hy1, hy2⟩ := List.pairwise_cons.1 hy.2
    have A : ∀ (r s : S34) (t u : List S34), r.f0 ≤ r.f1 → (s.f0 ≤ s.f1) → (∀ b ∈ u, s.f1 + 1 < b.f0) → Mem (s :: u) r.f0 = Mem (r :: t) r.f0 → s.f0 ≤ r.f0 := by
      intro r s t u h1 h2 h3 h4
      have : Mem (r :: t) r.f0 = true := mem_iff.2 ⟨r, List.mem_cons_self, by omega, by omega⟩
      rw [this] at h4
      obtain ⟨b, hb, h5, h6⟩ := mem_iff.1 h4
      rcases List.mem_cons.1 hb with rfl | hb
      · exact h5
      · have := h3 b hb; omega
    have e0 : r.f0 = s.f0 := by
      have := A r s t u hr.2.1 hs.2.1 hy1 (h _).symm
      have := A s r u t hs.2.1 hr.2.1 hx1 (h _)
      omega
    have B : ∀ (r s : S34) (t u : List S34), r.f0 = s.f0 → r.f0 ≤ r.f1 → (∀ b ∈ t, r.f1 + 1 < b.f0) → Mem (s :: u) (r.f1 + 1) = Mem (r :: t) (r.f1 + 1) → s.f1 ≤ r.f1 := by
      intro r s t u h1 h2 h3 h4
      by_cases hq : s.f1 ≤ r.f1
      · exact hq
      · have : Mem (s :: u) (r.f1 + 1) = true := mem_iff.2 ⟨s, List.mem_cons_self, by omega, by omega⟩
        rw [this] at h4
        obtain ⟨b, hb, h5, h6⟩ := mem_iff.1 h4.symm
        rcases List.mem_cons.1 hb with rfl | hb
        · omega
        · have := h3 b hb; omega
    have e1 : r.f1 = s.f1 := by
      have := B r s t u e0 hr.2.1 hx1 (h _).symm
      have := B s r u t e0.symm hs.2.1 hy1 (h _)
      omega
    have er : r = s := by
      cases r; cases s; simp at e0 e1; simp [e0, e1]
    subst er
    have : t = u := Can.one (a := a) ⟨fun b hb => hx.1 b (List.mem_cons_of_mem _ hb), hx2⟩ ⟨fun b hb => hy.1 b (List.mem_cons_of_mem _ hb), hy2⟩ (fun c => by
      have hc := h c
      have D : ∀ v : List S34, (∀ b ∈ v, r.f1 + 1 < b.f0) → c ≤ r.f1 → Mem v c = false := by
        intro v hv hcr
        cases hm : Mem v c with
        | false => rfl
        | true =>
          obtain ⟨b, hb, h5, h6⟩ := mem_iff.1 hm
          have := hv b hb
          omega
      by_cases hcr : c ≤ r.f1
      · rw [D t hx1 hcr, D u hy1 hcr]
      · have : inR r c = false := by simp [inR]; omega
        simp only [Mem, List.any_cons, this, Bool.false_or] at hc
        exact hc)
    rw [this]
theorem Spec.one {P : Int → Bool} {xs ys : List S34} {a : Int} (h : Spec P xs a) (k : Spec P ys a) : xs = ys := by
  refine Can.one h.1 k.1 fun c => ?_
  by_cases hc : 0 ≤ c ∧ c < a
  · rw [h.2 c hc.1 hc.2, k.2 c hc.1 hc.2]
  · have F : ∀ {zs : List S34}, Can a zs → Mem zs c = false := fun hz => by
      cases hm : Mem _ c with
      | false => rfl
      | true => exact absurd (hz.mem_range hm) hc
    rw [F h.1, F k.1]
theorem last_of {xs : List S34} (hn : 0 < xs.length) : ∃ pre r, xs = pre ++ [r] ∧ rd_T34 xs ((xs.length : Int) - 1) = r ∧ ∀ r', xs.set (xs.length - 1) r' = pre ++ [r'] := by
  have hne : xs ≠ [] := List.length_pos_iff.1 hn
  refine ⟨xs.dropLast, xs.getLast hne, (List.dropLast_concat_getLast hne).symm, ?_, fun r' => ?_⟩
  · unfold rd_T34
    have : ((xs.length : Int) - 1).toNat = xs.length - 1 := by omega
    rw [this, List.getD_eq_getElem?_getD, List.getElem?_eq_getElem (by omega), List.getLast_eq_getElem]
    rfl
  · conv => lhs; rw [← List.dropLast_concat_getLast hne]
    rw [List.set_append_right _ _ (by simp)]
    simp
theorem tell_spec {P : Int → Bool} {b : Bool} {a tt : Int} {xs : List S34} (h : Spec P xs a) (h0 : 0 ≤ a) (hle : a ≤ tt) (hP : ∀ c, a ≤ c → c < tt → P c = b) : Spec P (tellF b a tt xs) tt := by
  obtain ⟨⟨hc, hp⟩, hm⟩ := h
  unfold tellF
  by_cases hlt : a < tt
  · cases b with
    | false =>
      rw [if_neg (by simp)]
      refine ⟨⟨fun r hr => by have := hc r hr; omega, hp⟩, fun c h1 h2 => ?_⟩
      by_cases hca : c < a
      · exact hm c h1 hca
      · rw [hP c (by omega) h2]
        cases hq : Mem xs c with
        | false => rfl
        | true =>
          obtain ⟨r, hr, h3, h4⟩ := mem_iff.1 hq
          have := hc r hr
          omega
    | true =>
      rw [if_pos ⟨hlt, rfl⟩]
      by_cases hj : 0 < xs.length ∧ (rd_T34 xs ((xs.length : Int) - 1)).f1 = a - 1
      · rw [if_pos hj]
        obtain ⟨pre, r, hx, hrd, hset⟩ := last_of hj.1
        rw [hset, hrd]
        have hr1 : r.f1 = a - 1 := by rw [← hrd]; exact hj.2
        subst hx
        rw [List.pairwise_append] at hp
        have hrr := hc r (by simp)
        refine ⟨⟨fun s hs => ?_, ?_⟩, fun c h1 h2 => ?_⟩
        · rcases List.mem_append.1 hs with hs | hs
          · have := hc s (by simp [hs]); omega
          · rw [List.mem_singleton] at hs
            subst hs
            simp only
            omega
        · rw [List.pairwise_append]
          refine ⟨hp.1, List.pairwise_singleton _ _, fun s hs q hq => ?_⟩
          rw [List.mem_singleton] at hq
          subst hq
          exact hp.2.2 s hs r (by simp)
        · rw [mem_app, mem_one]
          by_cases hca : c < a
          · have := hm c h1 hca
            rw [mem_app, mem_one] at this
            rw [← this]
            congr 1
            unfold inR
            simp only
            rw [decide_eq_true (show c ≤ tt - 1 by omega), decide_eq_true (show c ≤ r.f1 by omega)]
          · rw [hP c (by omega) h2]
            have : inR ⟨r.f0, tt - 1⟩ c = true := inR_iff.2 ⟨by simp only; omega, by simp only; omega⟩
            rw [this, Bool.or_true]
      · rw [if_neg hj]
        have hgap : ∀ r ∈ xs, r.f1 + 1 < a := by
          intro r hr
          have hn : 0 < xs.length := List.length_pos_of_mem hr
          obtain ⟨pre, s, hx, hrd, _⟩ := last_of hn
          have hs1 : s.f1 ≠ a - 1 := fun e => hj ⟨hn, by rw [hrd]; exact e⟩
          have hs := hc s (by rw [hx]; simp)
          rw [hx] at hr hp
          rcases List.mem_append.1 hr with hr | hr
          · have := (List.pairwise_append.1 hp).2.2 r hr s (by simp)
            omega
          · rw [List.mem_singleton] at hr
            subst hr
            omega
        refine ⟨⟨fun s hs => ?_, ?_⟩, fun c h1 h2 => ?_⟩
        · rcases List.mem_append.1 hs with hs | hs
          · have := hc s hs; omega
          · rw [List.mem_singleton] at hs
            subst hs
            simp only
            omega
        · rw [List.pairwise_append]
          refine ⟨hp, List.pairwise_singleton _ _, fun s hs q hq => ?_⟩
          rw [List.mem_singleton] at hq
          subst hq
          exact hgap s hs
        · rw [mem_app, mem_one]
          by_cases hca : c < a
          · have : inR ⟨a, tt - 1⟩ c = false := by simp [inR]; omega
            rw [this, Bool.or_false]
            exact hm c h1 hca
          · rw [hP c (by omega) h2]
            have : inR ⟨a, tt - 1⟩ c = true := inR_iff.2 ⟨by simp only; omega, by simp only; omega⟩
            rw [this, Bool.or_true]
  · rw [if_neg (fun q => hlt q.1)]
    obtain rfl : a = tt := by omega
    exact ⟨⟨hc, hp⟩, hm⟩
/-- The least list of a set, from its least character on. -/
def ups (P : Int → Bool) : Nat → List S34
  | 0 => []
  | n + 1 => tellF (P n) n ((n : Int) + 1) (ups P n)
theorem ups_spec (P : Int → Bool) : ∀ n : Nat, Spec P (ups P n) n
  | 0 => ⟨⟨(fun r hr => nomatch hr), List.Pairwise.nil⟩, fun c h1 h2 => by simp at h2; omega⟩
  | n + 1 => by
    have := tell_spec (b := P n) (ups_spec P n) (by omega) (show (n : Int) ≤ (n : Int) + 1 by omega) (fun c h1 h2 => by rw [show c = (n : Int) from by omega])
    exact this
def canonF (P : Int → Bool) : List S34 := ups P 1114112
theorem canon_spec (P : Int → Bool) : Spec P (canonF P) 1114112 := ups_spec P 1114112
theorem canon_of {P : Int → Bool} {xs : List S34} (h : Spec P xs 1114112) : xs = canonF P := h.one (canon_spec P)
theorem canon_congr {P Q : Int → Bool} (h : ∀ c, 0 ≤ c → c ≤ 1114111 → P c = Q c) : canonF P = canonF Q := by
  refine canon_of ?_
  have := canon_spec P
  exact ⟨this.1, fun c h1 h2 => by rw [this.2 c h1 h2, h c h1 (by omega)]⟩
theorem canon_mem (P : Int → Bool) {c : Int} (h0 : 0 ≤ c) (h1 : c ≤ 1114111) : Mem (canonF P) c = P c := (canon_spec P).2 c h0 (by omega)

/-! counting steps -/
def cntS (set : Int) (l : List S68) (c : Int) : Int := (l.map fun s => if s.f1 = set ∧ s.f0 ≤ c then s.f2 else 0).sum
theorem cntS_cons (set : Int) (s : S68) (l : List S68) (c : Int) : cntS set (s :: l) c = (if s.f1 = set ∧ s.f0 ≤ c then s.f2 else 0) + cntS set l c := by simp [cntS]
theorem cntS_app (set : Int) (l m : List S68) (c : Int) : cntS set (l ++ m) c = cntS set l c + cntS set m c := by simp [cntS]
theorem cntS_perm {set : Int} {l m : List S68} (h : l.Perm m) (c : Int) : cntS set l c = cntS set m c := by
  induction h with
  | nil => rfl
  | cons x _ ih => rw [cntS_cons, cntS_cons, ih]
  | swap x y l => rw [cntS_cons, cntS_cons, cntS_cons, cntS_cons]; omega
  | trans _ _ h1 h2 => rw [h1, h2]
theorem cntS_none {set : Int} {l : List S68} {c : Int} (h : ∀ s ∈ l, c < s.f0) : cntS set l c = 0 := by
  induction l with
  | nil => rfl
  | cons s l ih =>
    rw [cntS_cons, if_neg (by have := h s List.mem_cons_self; omega), ih (fun t ht => h t (List.mem_cons_of_mem _ ht))]
    rfl
theorem run_spec {P : Int → Bool} {rb : Bool → Bool → Bool} : ∀ (l : List S68) (a i0 i1 : Int) (xs : List S34), Spec P xs a → 0 ≤ a → a ≤ 1114112 → Rises l → (∀ s ∈ l, a ≤ s.f0 ∧ s.f0 ≤ 1114112 ∧ (s.f1 = 0 ∨ s.f1 = 1)) →
    (∀ c, a ≤ c → c ≤ 1114111 → P c = rb (decide (0 < i0 + cntS 0 l c)) (decide (0 < i1 + cntS 1 l c))) → Spec P (runF rb l a i0 i1 xs) 1114112
  | [], a, i0, i1, xs, hs, h0, h1, _, _, hP => tell_spec hs h0 h1 (fun c h2 h3 => by
      have := hP c h2 (by omega)
      simpa [cntS] using this)
  | s :: r, a, i0, i1, xs, hs, h0, h1, hr, hb, hP => by
    have hs0 := hb s List.mem_cons_self
    obtain ⟨hr1, hr2⟩ := List.pairwise_cons.1 hr
    refine run_spec r s.f0 _ _ _ (tell_spec hs h0 hs0.1 (fun c h2 h3 => ?_)) (by omega) hs0.2.1 hr2 (fun t ht => ⟨hr1 t ht, (hb t (List.mem_cons_of_mem _ ht)).2⟩) (fun c h2 h3 => ?_)
    · have hn : ∀ t ∈ s :: r, c < t.f0 := fun t ht => by
        rcases List.mem_cons.1 ht with rfl | ht
        · exact h3
        · have := hr1 t ht; omega
      have := hP c h2 (by omega)
      rw [cntS_none hn, cntS_none hn, Int.add_zero, Int.add_zero] at this
      exact this
    · have := hP c (by omega) h3
      rw [cntS_cons, cntS_cons] at this
      rw [this]
      rcases hs0.2.2 with e | e
      · rw [e, if_pos ⟨rfl, h2⟩, if_neg (by simp), if_pos rfl, if_pos rfl, Int.zero_add, Int.add_assoc]
      · rw [e, if_neg (by simp), if_pos ⟨rfl, h2⟩, if_neg (by decide), if_neg (by decide), Int.zero_add, Int.add_assoc]

/-! the steps of a set's ranges -/
def stepF (set : Int) (r : S34) : List S68 := if mx 0 r.f0 ≤ mn 1114111 r.f1 then [⟨mx 0 r.f0, set, 1⟩, ⟨mn 1114111 r.f1 + 1, set, -1⟩] else []
def stepsF (l : List S34) (set : Int) : List S68 := if (l.length : Int) > 400 then [] else l.flatMap (stepF set)
theorem mm (r : S34) : 0 ≤ mx 0 r.f0 ∧ r.f0 ≤ mx 0 r.f0 ∧ (mx 0 r.f0 = 0 ∨ mx 0 r.f0 = r.f0) ∧ mn 1114111 r.f1 ≤ 1114111 ∧ mn 1114111 r.f1 ≤ r.f1 ∧ (mn 1114111 r.f1 = 1114111 ∨ mn 1114111 r.f1 = r.f1) := by
  unfold mx mn
  omega
theorem step_at {l : List S34} {i : Int} (h0 : 0 ≤ i) (h : i < (l.length : Int)) : l.drop i.toNat = rd_T34 l i :: l.drop (i + 1).toNat := by
  have hi : i.toNat < l.length := by omega
  rw [List.drop_eq_getElem_cons hi, show (i + 1).toNat = i.toNat + 1 from by omega]
  unfold rd_T34
  rw [List.getD_eq_getElem?_getD, List.getElem?_eq_getElem hi]
  rfl
theorem steps_ev (l : List S34) (set : Int) : Ev (fun k => span_steps.f k l set) (stepsF l set) := by
  unfold span_steps.f stepsF
  by_cases hz : (l.length : Int) > 400
  · rw [if_pos hz]
    exact ev_if hz (Ev.now _)
  rw [if_neg hz]
  refine ev_else hz ?_
  have main : ∀ (d : Nat) (i : Int) (x : List S68), 0 ≤ i → (l.length : Int) - i = d → (x.length : Int) ≤ 2 * i → Ev (fun k => span_steps.l0 k set x l (l.length : Int) i) (x ++ (l.drop i.toNat).flatMap (stepF set)) := by
    intro d
    induction d with
    | zero =>
      intro i x h0 hd hx
      rw [List.drop_eq_nil_iff.2 (by omega), List.flatMap_nil, List.append_nil]
      exact Ev.step (f := fun _ => some x) (fun k => by rw [span_steps.l0, if_neg (by omega)]) (Ev.now _)
    | succ d ih =>
      intro i x h0 hd hx
      have hi : i < (l.length : Int) := by omega
      rw [step_at h0 hi, List.flatMap_cons]
      have hm := mm (rd_T34 l i)
      refine Ev.step (fun k => by rw [span_steps.l0, if_pos hi, if_pos h0, if_pos hi, w64 (n := i + 1) (by omega) (by omega)]) ?_
      by_cases hr : mx 0 (rd_T34 l i).f0 ≤ mn 1114111 (rd_T34 l i).f1
      · refine ev_if hr ?_
        rw [w64 (n := mn 1114111 (rd_T34 l i).f1 + 1) (by omega) (by omega)]
        refine Ev.congr (fun k => by rw [Option.bind_some]) ?_
        refine ev_if (by simp; omega) ?_
        have := ih (i + 1) (x ++ stepF set (rd_T34 l i)) (by omega) (by omega) (by unfold stepF; rw [if_pos hr]; simp; omega)
        rw [List.append_assoc] at this
        unfold stepF at this ⊢
        rw [if_pos hr] at this ⊢
        exact this
      · refine ev_else hr ?_
        have := ih (i + 1) x (by omega) (by omega) (by omega)
        unfold stepF at this ⊢
        rw [if_neg hr, List.nil_append]
        exact this
  exact main l.length 0 [] (by omega) (by omega) (by simp)
theorem stepF_cnt (set t : Int) (r : S34) {c : Int} (h0 : 0 ≤ c) (h1 : c ≤ 1114111) : cntS t (stepF set r) c = if t = set ∧ inR r c = true then 1 else 0 := by
  have hm := mm r
  unfold stepF
  by_cases ht : t = set
  · subst ht
    by_cases hr : mx 0 r.f0 ≤ mn 1114111 r.f1
    · rw [if_pos hr]
      simp only [cntS, List.map_cons, List.map_nil, List.sum_cons, List.sum_nil, true_and, Int.add_zero]
      by_cases hi : inR r c = true
      · rw [if_pos hi]
        have := inR_iff.1 hi
        rw [if_pos (by omega), if_neg (by omega)]
        rfl
      · rw [if_neg hi]
        have : ¬ (r.f0 ≤ c ∧ c ≤ r.f1) := fun q => hi (inR_iff.2 q)
        by_cases h2 : mx 0 r.f0 ≤ c
        · rw [if_pos h2, if_pos (by omega)]
          rfl
        · rw [if_neg h2, if_neg (by omega)]
          rfl
    · rw [if_neg hr, if_neg]
      · rfl
      · rintro ⟨_, q⟩
        have := inR_iff.1 q
        omega
  · have e : (if t = set ∧ inR r c = true then (1 : Int) else 0) = 0 := if_neg (fun q => ht q.1)
    rw [e]
    have hne : ¬ set = t := fun q => ht q.symm
    by_cases hr : mx 0 r.f0 ≤ mn 1114111 r.f1
    · rw [if_pos hr]
      simp [cntS, hne]
    · rw [if_neg hr]
      rfl
theorem flat_cnt (set t : Int) {c : Int} (h0 : 0 ≤ c) (h1 : c ≤ 1114111) : ∀ l : List S34, 0 ≤ cntS t (l.flatMap (stepF set)) c ∧ (0 < cntS t (l.flatMap (stepF set)) c ↔ t = set ∧ Mem l c = true) ∧ (t ≠ set → cntS t (l.flatMap (stepF set)) c = 0)
  | [] => by simp [cntS, Mem]
  | r :: l => by
    obtain ⟨a, b, d⟩ := flat_cnt set t h0 h1 l
    rw [List.flatMap_cons, cntS_app, stepF_cnt set t r h0 h1]
    have e : Mem (r :: l) c = (inR r c || Mem l c) := by simp [Mem]
    rw [e]
    refine ⟨by split <;> omega, ?_, fun hne => by rw [if_neg (fun q => hne q.1), d hne]; rfl⟩
    by_cases hi : t = set ∧ inR r c = true
    · rw [if_pos hi]
      rw [hi.2, Bool.true_or]
      constructor
      · intro _; exact ⟨hi.1, rfl⟩
      · intro _; omega
    · rw [if_neg hi, Int.zero_add, b]
      constructor
      · rintro ⟨q1, q2⟩
        exact ⟨q1, by rw [q2, Bool.or_true]⟩
      · rintro ⟨q1, q2⟩
        refine ⟨q1, ?_⟩
        cases hr : inR r c with
        | true => exact absurd ⟨q1, hr⟩ hi
        | false => rw [hr, Bool.false_or] at q2; exact q2
/-- Is a character there, as span.Has says? -/
def hasB (l : List S34) (c : Int) : Bool := decide (l.length ≤ 400) && Mem l c
theorem steps_cnt (l : List S34) (set t : Int) {c : Int} (h0 : 0 ≤ c) (h1 : c ≤ 1114111) : decide (0 < cntS t (stepsF l set) c) = (decide (t = set) && hasB l c) ∧ (t ≠ set → cntS t (stepsF l set) c = 0) := by
  obtain ⟨a, b, d⟩ := flat_cnt set t h0 h1 l
  unfold stepsF hasB
  by_cases hz : (l.length : Int) > 400
  · rw [if_pos hz, decide_eq_false (show ¬ l.length ≤ 400 by omega)]
    simp [cntS]
  · rw [if_neg hz, decide_eq_true (show l.length ≤ 400 by omega), Bool.true_and]
    refine ⟨?_, d⟩
    rw [Bool.eq_iff_iff]
    simp [b]
theorem steps_ok (l : List S34) {set : Int} (hs : set = 0 ∨ set = 1) : (∀ s ∈ stepsF l set, StepOk s) ∧ (stepsF l set).length ≤ 800 := by
  unfold stepsF
  split
  · simp
  · rename_i hz
    have one : ∀ r : S34, (∀ s ∈ stepF set r, StepOk s) ∧ (stepF set r).length ≤ 2 := fun r => by
      have hm := mm r
      unfold stepF
      split
      · refine ⟨fun s hq => ?_, by simp⟩
        simp only [List.mem_cons, List.not_mem_nil, or_false] at hq
        unfold StepOk
        rcases hq with rfl | rfl <;> simp only <;> omega
      · simp
    refine ⟨fun s hq => ?_, ?_⟩
    · obtain ⟨r, hr, hq⟩ := List.mem_flatMap.1 hq
      exact (one r).1 s hq
    · have : ∀ l : List S34, (l.flatMap (stepF set)).length ≤ 2 * l.length := fun l => by
        induction l with
        | nil => simp
        | cons r l ih =>
          have := (one r).2
          rw [List.flatMap_cons, List.length_append, List.length_cons]
          omega
      have := this l
      omega
/-- WHAT span.sweep MAKES. -/
theorem sweep_spec (rb : Bool → Bool → Bool) (l0 l1 : List S34) {ys : List S68} (hp : ys.Perm (stepsF l0 0 ++ stepsF l1 1)) (hr : Rises ys) : runF rb ys 0 0 0 [] = canonF fun c => rb (hasB l0 c) (hasB l1 c) := by
  refine canon_of (run_spec ys 0 0 0 [] ⟨⟨(fun r hr => nomatch hr), List.Pairwise.nil⟩, fun c h1 h2 => by omega⟩ (by omega) (by omega) hr (fun s hs => ?_) (fun c h0 h1 => ?_))
  · have hs' := hp.mem_iff.1 hs
    rcases List.mem_append.1 hs' with h | h
    · have := (steps_ok l0 (Or.inl rfl)).1 s h
      unfold StepOk at this
      omega
    · have := (steps_ok l1 (Or.inr rfl)).1 s h
      unfold StepOk at this
      omega
  · obtain ⟨a1, a2⟩ := steps_cnt l0 0 0 h0 h1
    obtain ⟨b1, b2⟩ := steps_cnt l1 1 0 h0 h1
    obtain ⟨c1, c2⟩ := steps_cnt l0 0 1 h0 h1
    obtain ⟨d1, d2⟩ := steps_cnt l1 1 1 h0 h1
    rw [cntS_perm hp, cntS_perm hp, cntS_app, cntS_app, b2 (by decide), c2 (by decide), Int.add_zero, Int.zero_add, Int.zero_add, Int.zero_add, a1, d1]
    rfl
end Go.Proofs.Ytippkbgeeeimjaa.P
