/- Plain lists: the document's made is the least list of the set that its kind says; its Or, And, Less in the print's shape. -/
import Derived.Test.YtippkbgeeeimjaaXMade
namespace Go.Proofs.Ytippkbgeeeimjaa.P
open Go.RowKit Go.Proofs.YtippkbgeeeimjaaW.PrintWords Go.Proofs.YtippkbgeeeimjaaW.PrintLast Go.Proofs.YtippkbgeeeimjaaW.PrintMore Go.Proofs.Ytippkbgeeeimjaa.A Go.Proofs.Ytippkbgeeeimjaa.L
set_option linter.unusedVariables false
set_option linter.unusedSimpArgs false
theorem putF_mem : ∀ (l : List Int) (n x : Int), x ∈ putF l n ↔ x ∈ l ∨ x = n
  | [], n, x => by simp [putF]
  | y :: t, n, x => by
    unfold putF
    split
    · rw [List.mem_cons, putF_mem t n x, List.mem_cons, or_assoc]
    · split
      · rename_i h
        rw [List.mem_cons]
        constructor
        · intro q; exact .inl q
        · rintro (q | q)
          · exact q
          · exact .inl (q.trans h.symm)
      · rw [List.mem_cons]
        constructor
        · rintro (q | q)
          · exact .inr q
          · exact .inl q
        · rintro (q | q)
          · exact .inr q
          · exact .inl q
def Up (l : List Int) : Prop := l.Pairwise (· < ·)
theorem putF_up : ∀ (l : List Int) (n : Int), Up l → Up (putF l n)
  | [], n, _ => List.pairwise_singleton _ _
  | y :: t, n, h => by
    obtain ⟨h1, h2⟩ := List.pairwise_cons.1 h
    unfold putF
    split
    · rename_i hy
      refine List.pairwise_cons.2 ⟨fun x hx => ?_, putF_up t n h2⟩
      rcases (putF_mem t n x).1 hx with hx | rfl
      · exact h1 x hx
      · exact hy
    · split
      · exact h
      · rename_i hy hne
        refine List.pairwise_cons.2 ⟨fun x hx => ?_, h⟩
        rcases List.mem_cons.1 hx with rfl | hx
        · omega
        · have := h1 x hx
          omega
/-- What is known of edges. -/
structure Eg (o : List Int) : Prop where
  up : Up o
  zero : (0 : Int) ∈ o
  rng : ∀ x ∈ o, 0 ≤ x ∧ x ≤ 1114111
theorem Eg.put {o : List Int} (h : Eg o) {n : Int} (h0 : 0 ≤ n) (h1 : n ≤ 1114111) : Eg (putF o n) :=
  ⟨putF_up o n h.up, (putF_mem o n 0).2 (.inl h.zero), fun x hx => ((putF_mem o n x).1 hx).elim (h.rng x) (fun e => by omega)⟩
theorem Eg.one {o : List Int} (h : Eg o) (r : S34) : Eg (edge2 (edge1 o r) r) ∧ (∀ x ∈ o, x ∈ edge2 (edge1 o r) r) ∧ (0 ≤ r.f0 → r.f0 ≤ 1114111 → r.f0 ∈ edge2 (edge1 o r) r) ∧ (-1 ≤ r.f1 → r.f1 < 1114111 → r.f1 + 1 ∈ edge2 (edge1 o r) r) := by
  have a : Eg (edge1 o r) ∧ (∀ x ∈ o, x ∈ edge1 o r) ∧ (0 ≤ r.f0 → r.f0 ≤ 1114111 → r.f0 ∈ edge1 o r) := by
    unfold edge1
    split
    · rename_i q
      exact ⟨h.put q.1 q.2, fun x hx => (putF_mem _ _ _).2 (.inl hx), fun _ _ => (putF_mem _ _ _).2 (.inr rfl)⟩
    · rename_i q
      exact ⟨h, fun x hx => hx, fun q1 q2 => absurd ⟨q1, q2⟩ q⟩
  obtain ⟨a1, a2, a3⟩ := a
  unfold edge2
  split
  · rename_i q
    exact ⟨a1.put (by omega) (by omega), fun x hx => (putF_mem _ _ _).2 (.inl (a2 x hx)), fun q1 q2 => (putF_mem _ _ _).2 (.inl (a3 q1 q2)), fun _ _ => (putF_mem _ _ _).2 (.inr rfl)⟩
  · rename_i q
    exact ⟨a1, a2, a3, fun q1 q2 => absurd ⟨q1, q2⟩ q⟩
def Has (o : List Int) (l : List S34) : Prop := ∀ r ∈ l, (0 ≤ r.f0 → r.f0 ≤ 1114111 → r.f0 ∈ o) ∧ (-1 ≤ r.f1 → r.f1 < 1114111 → r.f1 + 1 ∈ o)
theorem Eg.row : ∀ (l : List S34) {o : List Int}, Eg o → Eg (l.foldl (fun o r => edge2 (edge1 o r) r) o) ∧ (∀ x ∈ o, x ∈ l.foldl (fun o r => edge2 (edge1 o r) r) o) ∧ Has (l.foldl (fun o r => edge2 (edge1 o r) r) o) l
  | [], o, h => ⟨h, fun x hx => hx, fun r hr => by cases hr⟩
  | r :: t, o, h => by
    obtain ⟨a1, a2, a3, a4⟩ := h.one r
    obtain ⟨b1, b2, b3⟩ := Eg.row t a1
    refine ⟨b1, fun x hx => b2 x (a2 x hx), fun s hs => ?_⟩
    rcases List.mem_cons.1 hs with rfl | hs
    · exact ⟨fun q1 q2 => b2 _ (a3 q1 q2), fun q1 q2 => b2 _ (a4 q1 q2)⟩
    · exact b3 s hs
theorem Eg.set {o : List Int} (h : Eg o) (l : List S34) : Eg (edgeS o l) ∧ (∀ x ∈ o, x ∈ edgeS o l) ∧ (l.length ≤ 400 → Has (edgeS o l) l) := by
  unfold edgeS
  split
  · have := Eg.row l h
    exact ⟨this.1, this.2.1, fun _ => this.2.2⟩
  · rename_i q
    exact ⟨h, fun x hx => hx, fun q' => absurd q' q⟩
theorem Eg.sets : ∀ (s : List (List S34)) {o : List Int}, Eg o → Eg (s.foldl edgeS o) ∧ (∀ x ∈ o, x ∈ s.foldl edgeS o) ∧ (∀ l ∈ s, l.length ≤ 400 → Has (s.foldl edgeS o) l)
  | [], o, h => ⟨h, fun x hx => hx, fun l hl => by cases hl⟩
  | l :: t, o, h => by
    obtain ⟨a1, a2, a3⟩ := h.set l
    obtain ⟨b1, b2, b3⟩ := Eg.sets t a1
    refine ⟨b1, fun x hx => b2 x (a2 x hx), fun m hm hz => ?_⟩
    rcases List.mem_cons.1 hm with rfl | hm
    · exact fun r hr => ⟨fun q1 q2 => b2 _ ((a3 hz r hr).1 q1 q2), fun q1 q2 => b2 _ ((a3 hz r hr).2 q1 q2)⟩
    · exact b3 m hm hz
theorem edges_eg (s : List (List S34)) : Eg (edgesF s) ∧ (∀ l ∈ s, l.length ≤ 400 → Has (edgesF s) l) := by
  have h : Eg [0] := ⟨List.pairwise_singleton _ _, by simp, fun x hx => by simp at hx; omega⟩
  have := Eg.sets s h
  exact ⟨this.1, this.2.2⟩
/-- Between two edges nothing changes. -/
theorem has_const {es : List Int} {l : List S34} (hh : l.length ≤ 400 → Has es l) {x y : Int} (h0 : 0 ≤ x) (hxy : x ≤ y) (h1 : y ≤ 1114111) (hno : ∀ e ∈ es, ¬ (x < e ∧ e ≤ y)) : hasB l x = hasB l y := by
  unfold hasB
  by_cases hz : l.length ≤ 400
  · rw [decide_eq_true hz, Bool.true_and, Bool.true_and, Bool.eq_iff_iff, mem_iff, mem_iff]
    constructor
    · rintro ⟨r, hr, q1, q2⟩
      refine ⟨r, hr, by omega, ?_⟩
      by_cases q3 : y ≤ r.f1
      · exact q3
      · exact absurd ⟨by omega, by omega⟩ (hno _ ((hh hz r hr).2 (by omega) (by omega)))
    · rintro ⟨r, hr, q1, q2⟩
      refine ⟨r, hr, ?_, by omega⟩
      by_cases q3 : r.f0 ≤ x
      · exact q3
      · exact absurd ⟨by omega, by omega⟩ (hno _ ((hh hz r hr).1 (by omega) (by omega)))
  · rw [decide_eq_false hz]
    rfl
theorem hasF_in {l : List S34} {c : Int} (h0 : 0 ≤ c) (h1 : c ≤ 1114111) : hasF l c = hasB l c := by
  unfold hasF
  rw [decide_eq_true h0, decide_eq_true h1]
  rfl
theorem mk_tell {k : Bool} {c tt : Int} {xs : List S34} (h : c ≤ tt) : mkF k c tt xs = tellF k c (tt + 1) xs := by
  unfold mkF tellF
  cases k with
  | false => rw [if_neg (by decide), if_neg (by simp)]
  | true =>
    rw [if_pos rfl, if_pos (show c < tt + 1 ∧ true = true from ⟨by omega, rfl⟩), show tt + 1 - 1 = tt from by omega]
    by_cases hn : 0 < xs.length ∧ (rd_T34 xs ((xs.length : Int) - 1)).f1 + 1 = c
    · rw [if_pos hn, if_pos ⟨hn.1, by omega⟩]
    · rw [if_neg hn, if_neg (fun q => hn ⟨q.1, by omega⟩)]
theorem run_made {P : Int → Bool} {rb : Bool → Bool → Bool} {a b : List S34} {ES : List Int} (hP : ∀ c, 0 ≤ c → c ≤ 1114111 → P c = rb (hasF a c) (hasF b c)) (hc : ∀ x y, 0 ≤ x → x ≤ y → y ≤ 1114111 → (∀ e ∈ ES, ¬ (x < e ∧ e ≤ y)) → P x = P y) :
    ∀ (rest : List Int) (c : Int) (out : List S34), Up (c :: rest) → (∀ e ∈ c :: rest, 0 ≤ e ∧ e ≤ 1114111) → (∀ e ∈ ES, e ≤ c ∨ e ∈ rest) → Spec P out c → Spec P (madeRun rb a b (c :: rest) out) 1114112
  | [], c, out, hu, hr, hes, hs => by
    have hcr := hr c List.mem_cons_self
    rw [madeRun, madeRun, ← hP c hcr.1 hcr.2, mk_tell (show c ≤ nextE [] by show c ≤ 1114111; omega)]
    refine tell_spec hs hcr.1 (by show c ≤ 1114111 + 1; omega) (fun x h1 h2 => ?_)
    have h2' : x < 1114111 + 1 := h2
    exact (hc c x hcr.1 h1 (by omega) (fun e he q => by rcases hes e he with h | h; omega; cases h)).symm
  | d :: rest, c, out, hu, hr, hes, hs => by
    have hcr := hr c List.mem_cons_self
    obtain ⟨u1, u2⟩ := List.pairwise_cons.1 hu
    obtain ⟨v1, _⟩ := List.pairwise_cons.1 u2
    have hcd := u1 d List.mem_cons_self
    rw [madeRun, ← hP c hcr.1 hcr.2, mk_tell (show c ≤ nextE (d :: rest) by show c ≤ d - 1; omega)]
    refine run_made hP hc rest d _ u2 (fun e he => hr e (List.mem_cons_of_mem _ he)) (fun e he => ?_) ?_
    · rcases hes e he with h | h
      · left; omega
      · rcases List.mem_cons.1 h with rfl | h
        · left; omega
        · exact .inr h
    · have hdr := hr d (List.mem_cons_of_mem _ List.mem_cons_self)
      have : nextE (d :: rest) + 1 = d := by show d - 1 + 1 = d; omega
      rw [this]
      refine tell_spec hs hcr.1 (by omega) (fun x h1 h2 => ?_)
      refine (hc c x hcr.1 h1 (by omega) (fun e he q => ?_)).symm
      rcases hes e he with h | h
      · omega
      · rcases List.mem_cons.1 h with rfl | h
        · omega
        · have := v1 e h
          omega
theorem made_canon (rb : Bool → Bool → Bool) (a b : List S34) : madeRun rb a b (edgesF [a, b]) [] = canonF fun c => rb (hasB a c) (hasB b c) := by
  obtain ⟨h1, h2⟩ := edges_eg [a, b]
  generalize edgesF [a, b] = es at h1 h2
  refine canon_of ?_
  cases es with
  | nil => exact absurd h1.zero (by simp)
  | cons c rest =>
    have hc0 : c = 0 := by
      have := h1.rng c List.mem_cons_self
      rcases List.mem_cons.1 h1.zero with h | h
      · exact h.symm
      · have := (List.pairwise_cons.1 h1.up).1 0 h
        omega
    refine run_made (P := fun c => rb (hasB a c) (hasB b c)) (ES := c :: rest) (fun c q0 q1 => by rw [hasF_in q0 q1, hasF_in q0 q1]) (fun x y q0 q1 q2 q3 => ?_) rest c [] h1.up h1.rng (fun e he => ?_) ?_
    · show rb (hasB a x) (hasB b x) = rb (hasB a y) (hasB b y)
      rw [has_const (h2 a (by simp)) q0 q1 q2 q3, has_const (h2 b (by simp)) q0 q1 q2 q3]
    · rcases List.mem_cons.1 he with rfl | he
      · exact .inl (Int.le_refl _)
      · exact .inr he
    · subst hc0
      exact ⟨⟨(fun r hr => by cases hr), List.Pairwise.nil⟩, fun c q1 q2 => by omega⟩
theorem edges_rng (a b : List S34) : ∀ i, 0 ≤ i → i < ((edgesF [a, b]).length : Int) → 0 ≤ rd (edgesF [a, b]) i ∧ rd (edgesF [a, b]) i ≤ 1114111 := by
  intro i h0 h1
  refine (edges_eg [a, b]).1.rng _ ?_
  unfold rd
  rw [List.getD_eq_getElem?_getD, List.getElem?_eq_getElem (by omega)]
  exact List.getElem_mem _
end Go.Proofs.Ytippkbgeeeimjaa.P
namespace Go.Proofs.Ytippkbgeeeimjaa.L
open Go.RowKit Go.Proofs.YtippkbgeeeimjaaW.PrintWords Go.Proofs.YtippkbgeeeimjaaW.PrintLast Go.Proofs.YtippkbgeeeimjaaW.PrintMore Go.Proofs.Ytippkbgeeeimjaa.A Go.Proofs.Ytippkbgeeeimjaa.P
set_option linter.unusedVariables false
set_option linter.unusedSimpArgs false
def caesuraref01_Or.f (l0 l1 : List S34) : Option (List S34) := some (orF l0 l1)
theorem caesuraref01_Or.calls (A0 : Option Addr) (c0 : Nat) (l0 : List S34) (A1 : Option Addr) (c1 : Nat) (l1 : List S34) (r : List S34) (w : World) (hr0 : Kd.C k34 w A0 l0.length l0) (hc0 : l0.length ≤ c0) (hr1 : Kd.C k34 w A1 l1.length l1) (hc1 : l1.length ≤ c1) (h : caesuraref01_Or.f l0 l1 = some r) :
    Calls Try.prog 15 #[.slice A0 l0.length c0, .slice A1 l1.length c1] w fun e w' => ∃ v0_ : Value, e = .returned v0_ ∧ Kd.R k34 34 w' w.heap.size (fun _ => True) v0_ r ∧ Below w.heap.size w w' := by
  obtain rfl : orF l0 l1 = r := Option.some.inj h
  clear h
  have hs := made_or A0 c0 l0 A1 c1 l1 w hr0 hc0 hr1 hc1 (edges_rng l0 l1)
  rw [made_canon] at hs
  change Calls Try.prog 44 _ w (fun e w' => ∃ v, e = .returned v ∧ Kd.R k34 34 w' w.heap.size (fun _ => True) v (orF l0 l1) ∧ Below w.heap.size w w') at hs
  generalize orF l0 l1 = r at hs ⊢
  have HS := Aside0.mk hs
  clear hs hr0 hc0 hr1 hc1
  go_enter Try.func15, Try.ntmps15
  go_wp2_with fail
  refine HS.out.mono ?_
  rintro e w' ⟨v, rfl, hR, hb⟩
  obtain ⟨A, c, rfl⟩ := Kd.R_slice hR
  have HR := Aside0.mk hR
  have HB := Aside0.mk hb
  clear hR hb
  go_wp2_with fail
  go_ret
  exact ⟨_, rfl, HR.out, HB.out⟩
def caesuraref01_And.f (l0 l1 : List S34) : Option (List S34) := some (andF l0 l1)
theorem caesuraref01_And.calls (A0 : Option Addr) (c0 : Nat) (l0 : List S34) (A1 : Option Addr) (c1 : Nat) (l1 : List S34) (r : List S34) (w : World) (hr0 : Kd.C k34 w A0 l0.length l0) (hc0 : l0.length ≤ c0) (hr1 : Kd.C k34 w A1 l1.length l1) (hc1 : l1.length ≤ c1) (h : caesuraref01_And.f l0 l1 = some r) :
    Calls Try.prog 17 #[.slice A0 l0.length c0, .slice A1 l1.length c1] w fun e w' => ∃ v0_ : Value, e = .returned v0_ ∧ Kd.R k34 34 w' w.heap.size (fun _ => True) v0_ r ∧ Below w.heap.size w w' := by
  obtain rfl : andF l0 l1 = r := Option.some.inj h
  clear h
  have hs := made_and A0 c0 l0 A1 c1 l1 w hr0 hc0 hr1 hc1 (edges_rng l0 l1)
  rw [made_canon] at hs
  change Calls Try.prog 44 _ w (fun e w' => ∃ v, e = .returned v ∧ Kd.R k34 34 w' w.heap.size (fun _ => True) v (andF l0 l1) ∧ Below w.heap.size w w') at hs
  generalize andF l0 l1 = r at hs ⊢
  have HS := Aside0.mk hs
  clear hs hr0 hc0 hr1 hc1
  go_enter Try.func17, Try.ntmps17
  go_wp2_with fail
  refine HS.out.mono ?_
  rintro e w' ⟨v, rfl, hR, hb⟩
  obtain ⟨A, c, rfl⟩ := Kd.R_slice hR
  have HR := Aside0.mk hR
  have HB := Aside0.mk hb
  clear hR hb
  go_wp2_with fail
  go_ret
  exact ⟨_, rfl, HR.out, HB.out⟩
def caesuraref01_Less.f (l0 l1 : List S34) : Option (List S34) := some (lessF l0 l1)
theorem caesuraref01_Less.calls (A0 : Option Addr) (c0 : Nat) (l0 : List S34) (A1 : Option Addr) (c1 : Nat) (l1 : List S34) (r : List S34) (w : World) (hr0 : Kd.C k34 w A0 l0.length l0) (hc0 : l0.length ≤ c0) (hr1 : Kd.C k34 w A1 l1.length l1) (hc1 : l1.length ≤ c1) (h : caesuraref01_Less.f l0 l1 = some r) :
    Calls Try.prog 19 #[.slice A0 l0.length c0, .slice A1 l1.length c1] w fun e w' => ∃ v0_ : Value, e = .returned v0_ ∧ Kd.R k34 34 w' w.heap.size (fun _ => True) v0_ r ∧ Below w.heap.size w w' := by
  obtain rfl : lessF l0 l1 = r := Option.some.inj h
  clear h
  have hs := made_less A0 c0 l0 A1 c1 l1 w hr0 hc0 hr1 hc1 (edges_rng l0 l1)
  rw [made_canon] at hs
  change Calls Try.prog 44 _ w (fun e w' => ∃ v, e = .returned v ∧ Kd.R k34 34 w' w.heap.size (fun _ => True) v (lessF l0 l1) ∧ Below w.heap.size w w') at hs
  generalize lessF l0 l1 = r at hs ⊢
  have HS := Aside0.mk hs
  clear hs hr0 hc0 hr1 hc1
  go_enter Try.func19, Try.ntmps19
  go_wp2_with fail
  refine HS.out.mono ?_
  rintro e w' ⟨v, rfl, hR, hb⟩
  obtain ⟨A, c, rfl⟩ := Kd.R_slice hR
  have HR := Aside0.mk hR
  have HB := Aside0.mk hb
  clear hR hb
  go_wp2_with fail
  go_ret
  exact ⟨_, rfl, HR.out, HB.out⟩
end Go.Proofs.Ytippkbgeeeimjaa.L
