/- Plain lists, no program: what automata accept, and what a numbered one accepts. -/
import Derived.Test.YtpedenbcfbflbaaZA
namespace Go.Proofs.Ytpedenbcfbflbaa.X
open Go.RowKit Go.Proofs.YtpedenbcfbflbaaW.PrintWords Go.Proofs.YtpedenbcfbflbaaW.PrintLast Go.Proofs.YtpedenbcfbflbaaW.PrintMore Num Go.Proofs.Ytpedenbcfbflbaa.PMarkMakes
set_option linter.unusedVariables false
set_option linter.unusedSimpArgs false

/-- Where a list ends, from a state on. -/
def runF (n : List (List Int)) (q : Int) (l : List Int) : Int := l.foldl (fun a v => (n.getD a.toNat []).getD v.toNat 0) q
/-- Are all of a list signs? -/
def inB (s : Int) (l : List Int) : Bool := l.all fun v => decide (0 ≤ v) && decide (v < s)
/-- Does it accept a list? -/
def accF (s : Int) (n : List (List Int)) (e : List Bool) (l : List Int) : Bool := rightB s n e && inB s l && e.getD (runF n 0 l).toNat false

theorem rd_at' {l : List Int} {i : Nat} (h : i < l.length) : rd l (i : Int) = l[i] := by
  simp only [rd, Int.toNat_natCast]; rw [List.getD_eq_getElem?_getD, List.getElem?_eq_getElem h]; rfl

theorem inB_cons (s v : Int) (r : List Int) : inB s (v :: r) = (decide (0 ≤ v) && decide (v < s) && inB s r) := by simp [inB]
theorem inB_iff {s : Int} {l : List Int} : inB s l = true ↔ ∀ v ∈ l, 0 ≤ v ∧ v < s := by simp [inB]

theorem run_bound {s : Int} {n : List (List Int)} {e : List Bool} (h : rightB s n e = true) : ∀ (l : List Int) (q : Int), inB s l = true → 0 ≤ q → q < n.length → 0 ≤ runF n q l ∧ runF n q l < n.length
  | [], q, _, h0, h1 => ⟨h0, h1⟩
  | v :: r, q, hl, h0, h1 => by
    obtain ⟨a1, a2, a3, a4, a5, a6⟩ := rightB_spec h
    rw [inB_cons, Bool.and_eq_true, Bool.and_eq_true, decide_eq_true_eq, decide_eq_true_eq] at hl
    obtain ⟨t1, t2⟩ := getD_row a6 q h0 h1
    have := t2 v.toNat (by omega)
    exact run_bound h r _ hl.2 this.1 this.2

theorem run_l0 {s : Int} {n : List (List Int)} {e : List Bool} (h : rightB s n e = true) (l : List Int) (hmax : l.length ≤ 9223372036854775807) : ∀ (d i k : Nat) (q : Int), i + d = l.length → 0 ≤ q → q < n.length →
    caesuraref15_Run.l0 (d + 1 + k) l q i s n e = some (if inB s (l.drop i) then runF n q (l.drop i) else -1) := by
  obtain ⟨a1, a2, a3, a4, a5, a6⟩ := rightB_spec h
  intro d
  induction d with
  | zero =>
    intro i k q hi h0 h1
    rw [show 0 + 1 + k = k + 1 by omega, List.drop_eq_nil_of_le (by omega)]
    unfold caesuraref15_Run.l0
    rw [if_neg (by omega)]
    rfl
  | succ d ih =>
    intro i k q hi h0 h1
    have hl : i < l.length := by omega
    rw [show d + 1 + 1 + k = (d + 1 + k) + 1 by omega, List.drop_eq_getElem_cons hl, inB_cons]
    unfold caesuraref15_Run.l0
    rw [if_pos (by omega), if_pos (by omega), rd_at' hl]
    generalize l[i] = v
    by_cases hv : v < 0
    · rw [if_pos hv, decide_eq_false (by omega : ¬ 0 ≤ v)]
      rfl
    · rw [if_neg hv, decide_eq_true (by omega : 0 ≤ v)]
      by_cases hs : v ≥ s
      · rw [if_pos hs, decide_eq_false (by omega : ¬ v < s)]
        rfl
      · have er : rd_L1 n q = n.getD q.toNat [] := rfl
        obtain ⟨t1, t2⟩ := getD_row a6 q h0 h1
        have ht := t2 v.toNat (by omega)
        rw [if_neg hs, if_pos h0, if_pos h1, if_pos (by omega), er, if_pos (by omega), decide_eq_true (by omega : v < s), wrap64_of (n := (i : Int) + 1) (by omega) (by omega)]
        have := ih (i + 1) k ((n.getD q.toNat []).getD v.toNat 0) (by omega) ht.1 ht.2
        rw [show ((i + 1 : Nat) : Int) = (i : Int) + 1 by omega] at this
        rw [show rd (n.getD q.toNat []) v = (n.getD q.toNat []).getD v.toNat 0 from rfl, this]
        rfl
theorem accepts_ev (s : Int) (n : List (List Int)) (e : List Bool) (l : List Int) (hmax : l.length ≤ 9223372036854775807) : Ev (fun k => caesuraref15_Accepts.f k s n e l) (accF s n e l) := by
  obtain ⟨k0, hk⟩ := right_f s n e
  have hR : Ev (fun k => caesuraref15_Right.f k s n e) (rightB s n e) := Ev.of (fun k => caesuraref15_Right.mono _ _ _ k) hk
  have hrun : Ev (fun k => caesuraref15_Run.f k s n e l) (if rightB s n e && inB s l then runF n 0 l else -1) := by
    unfold caesuraref15_Run.f
    refine Ev.bind hR ?_
    by_cases hr : rightB s n e = true
    · simp only [hr, if_true, Bool.true_and]
      have hs := rightB_spec hr
      have := run_l0 hr l hmax l.length 0 0 0 (by omega) (by omega) (by omega)
      rw [List.drop_zero] at this
      exact Ev.of (fun k => (caesuraref15_Run.mono_l k) _ _ _ _ _ _) this
    · have hr' : rightB s n e = false := by simpa using hr
      simp only [hr', Bool.false_and, if_false, Bool.false_eq_true]
      exact Ev.now _
  unfold caesuraref15_Accepts.f
  refine Ev.bind hrun ?_
  unfold accF
  by_cases hc : rightB s n e = true ∧ inB s l = true
  · obtain ⟨hr, hi⟩ := hc
    have hs := rightB_spec hr
    obtain ⟨b1, b2⟩ := run_bound hr l 0 hi (by omega) (by omega)
    simp only [hr, hi, Bool.and_self, if_true, Bool.true_and]
    rw [if_pos (show runF n 0 l ≥ 0 by omega), if_pos b1, if_pos (by rw [hs.2.2.2.2.1]; exact b2)]
    exact Ev.now _
  · have hc' : (rightB s n e && inB s l) = false := by
      rw [Bool.and_eq_false_iff]
      cases hr : rightB s n e
      · exact .inl rfl
      · right; cases hi : inB s l
        · rfl
        · exact absurd ⟨hr, hi⟩ hc
    simp only [hc', Bool.false_and, if_false, Bool.false_eq_true]
    rw [if_neg (by decide)]
    exact Ev.now _

theorem right_ev (s : Int) (n : List (List Int)) (e : List Bool) : Ev (fun k => caesuraref15_Right.f k s n e) (rightB s n e) := by
  obtain ⟨k0, hk⟩ := right_f s n e
  exact Ev.of (fun k => caesuraref15_Right.mono _ _ _ k) hk

/-- Great tells something. -/
theorem great_ev (s : Int) (n : List (List Int)) (e : List Bool) (a : Int) (hmax : n.length ≤ 9223372036854775807) : ∃ r, Ev (fun k => caesuraref15_Great.f k s n e a) r := by
  obtain ⟨k, r, h⟩ := great_f s n e a hmax
  exact ⟨r, Ev.of (fun k => caesuraref15_Great.mono _ _ _ _ k) h⟩
theorem great_small_l0 (s : Int) (n : List (List Int)) (e : List Bool) (a : Int) (h1 : n.length ≤ 3000) (h2 : ∀ r ∈ n, (r.length : Int) ≤ 400) : ∀ (d i : Nat) (x : Int), i + d = n.length → 0 ≤ x → x + d * 400 ≤ 1000000000 → ∃ r, caesuraref15_Great.l0 (d + 1) a x i s n e = some r ∧ (r = false → x ≤ a) := by
  intro d
  induction d with
  | zero =>
    intro i x hi h0 hx
    unfold caesuraref15_Great.l0
    rw [if_neg (by omega)]
    exact ⟨_, rfl, fun h => by simpa using h⟩
  | succ d ih =>
    intro i x hi h0 hx
    unfold caesuraref15_Great.l0
    rw [if_pos (by omega)]
    by_cases hxa : x ≤ a
    · have hl : ((rd_L1 n (i : Int)).length : Int) ≤ 400 := by
        unfold rd_L1
        rw [Int.toNat_natCast, List.getD_eq_getElem?_getD, List.getElem?_eq_getElem (by omega)]
        exact h2 _ (List.getElem_mem _)
      rw [if_pos hxa, if_pos (by omega), wrap64_of (n := (i : Int) + 1) (by omega) (by omega), wrap64_of (n := x + ((rd_L1 n (i : Int)).length : Int)) (by omega) (by omega)]
      obtain ⟨r, hr, hr2⟩ := ih (i + 1) (x + ((rd_L1 n (i : Int)).length : Int)) (by omega) (by omega) (by omega)
      rw [show ((i + 1 : Nat) : Int) = (i : Int) + 1 by omega] at hr
      exact ⟨r, hr, fun h => by have := hr2 h; omega⟩
    · rw [if_neg hxa]
      exact ⟨_, rfl, fun h => by simp at h; omega⟩
theorem great_small {s : Int} {n : List (List Int)} {e : List Bool} {a : Int} (hr : rightB s n e = true) (h : Ev (fun k => caesuraref15_Great.f k s n e a) false) : (n.length : Int) + e.length ≤ a := by
  obtain ⟨a1, a2, a3, a4, a5, a6⟩ := rightB_spec hr
  obtain ⟨r, hr, hr2⟩ := great_small_l0 s n e a a4 (fun r hr => by have := a6 r hr; omega) n.length 0 ((n.length : Int) + e.length) (by omega) (by omega) (by omega)
  have h' : Ev (fun k => caesuraref15_Great.f k s n e a) r := by
    refine Ev.of (k := n.length + 1) (fun k => caesuraref15_Great.mono _ _ _ _ k) ?_
    unfold caesuraref15_Great.f
    rw [wrap64_of (n := (n.length : Int) + (e.length : Int)) (by omega) (by omega)]
    exact hr
  obtain ⟨K, hK⟩ := h
  obtain ⟨K', hK'⟩ := h'
  have e1 := hK (max K K') (Nat.le_max_left _ _)
  have e2 := hK' (max K K') (Nat.le_max_right _ _)
  rw [e1] at e2
  exact hr2 (Option.some.inj e2).symm

/-- A whole table. -/
theorem table_full {σ : Type} [DecidableEq σ] {f : σ → Nat → σ} {sg mo : Nat} {x0 : σ} {l : List σ} {rows : List (List Int)} (hm : 1 ≤ mo) (h : table f sg mo (mo + 1) 0 [x0] = some (l, rows)) :
    rows.length = l.length ∧ l.length ≤ mo ∧ l[0]? = some x0 ∧ ∀ (j : Nat) x, l[j]? = some x → rows[j]? = some ((List.range sg).map (fun s => (idx l (f x s) : Int))) ∧ ∀ s, s < sg → f x s ∈ l := by
  rw [table_eq f sg mo (mo + 1) 0 [x0] (by simpa using hm)] at h
  split at h
  · cases h
  · rename_i hle
    have he := Option.some.inj h
    obtain ⟨t1, t2, t3, t4⟩ := tableT_spec f sg (mo + 1) 0 [x0] (by simp)
    have tp := tableT_prefix f sg (mo + 1) 0 [x0]
    rw [he] at t1 t2 t3 t4 tp hle
    simp only at t1 t2 t3 t4 tp hle
    have hlen : rows.length = l.length := by omega
    refine ⟨hlen, by omega, ?_, fun j x hx => ?_⟩
    · obtain ⟨t, rfl⟩ := tp
      rfl
    · have hj := (List.getElem?_eq_some_iff.1 hx).1
      obtain ⟨y, y1, y2, y3⟩ := t1 j (by omega)
      rw [Nat.zero_add, hx] at y1
      obtain rfl := Option.some.inj y1
      exact ⟨y2, y3⟩
theorem run_table {σ : Type} [DecidableEq σ] {f : σ → Nat → σ} {sg : Nat} {l : List σ} {rows : List (List Int)} (h : ∀ (j : Nat) x, l[j]? = some x → rows[j]? = some ((List.range sg).map (fun s => (idx l (f x s) : Int))) ∧ ∀ s, s < sg → f x s ∈ l) :
    ∀ (w : List Int) (j : Nat) (x : σ), inB sg w = true → l[j]? = some x → ∃ j' : Nat, runF rows j w = (j' : Int) ∧ l[j']? = some (w.foldl (fun x v => f x v.toNat) x)
  | [], j, x, _, hx => ⟨j, rfl, hx⟩
  | v :: r, j, x, hw, hx => by
    rw [inB_cons, Bool.and_eq_true, Bool.and_eq_true, decide_eq_true_eq, decide_eq_true_eq] at hw
    obtain ⟨h1, h2⟩ := h j x hx
    have hv : v.toNat < sg := by omega
    have e : (rows.getD (j : Int).toNat []).getD v.toNat 0 = (idx l (f x v.toNat) : Int) := by
      rw [Int.toNat_natCast, show rows.getD j [] = (List.range sg).map (fun s => (idx l (f x s) : Int)) by rw [List.getD_eq_getElem?_getD, h1]; rfl, List.getD_eq_getElem?_getD, List.getElem?_map, List.getElem?_range hv]
      rfl
    have := run_table h r (idx l (f x v.toNat)) (f x v.toNat) hw.2 (idx_get (h2 _ hv))
    rw [show runF rows j (v :: r) = runF rows ((rows.getD (j : Int).toNat []).getD v.toNat 0) r from rfl, e]
    exact this
theorem right_table {σ : Type} [DecidableEq σ] {f : σ → Nat → σ} {sg : Nat} {l : List σ} {rows : List (List Int)} (ends : σ → Bool) (h : ∀ (j : Nat) x, l[j]? = some x → rows[j]? = some ((List.range sg).map (fun s => (idx l (f x s) : Int))) ∧ ∀ s, s < sg → f x s ∈ l)
    (h1 : 1 ≤ sg) (h2 : sg ≤ 400) (hl : rows.length = l.length) (hl0 : 0 < l.length) (hl1 : l.length ≤ 3000) : rightB sg rows (l.map ends) = true := by
  unfold rightB
  rw [decide_eq_false (by omega : ¬ (sg : Int) < 1), decide_eq_false (by omega : ¬ 400 < (sg : Int)), decide_eq_false (by omega : ¬ rows.length = 0), decide_eq_false (by omega : ¬ 3000 < rows.length), decide_eq_false (by simp [hl])]
  simp only [Bool.or_self, Bool.not_false, Bool.true_and, Bool.not_eq_true', List.any_eq_false]
  intro r hr
  obtain ⟨j, hj, rfl⟩ := List.getElem_of_mem hr
  obtain ⟨e1, e2⟩ := h j (l[j]'(by omega)) (List.getElem?_eq_getElem (by omega))
  rw [List.getElem?_eq_getElem hj] at e1
  rw [Option.some.inj e1]
  simp only [Bool.not_eq_true, Bool.or_eq_false_iff, decide_eq_false_iff_not, List.any_eq_false]
  refine ⟨by simp, fun x hx => ?_⟩
  obtain ⟨s, hs, rfl⟩ := List.mem_map.1 hx
  have := idx_lt.2 (e2 s (List.mem_range.1 hs))
  omega
/-- WHAT A NUMBERED ONE ACCEPTS. -/
theorem acc_table {σ : Type} [DecidableEq σ] {f : σ → Nat → σ} {sg mo : Nat} {x0 : σ} {l : List σ} {rows : List (List Int)} (ends : σ → Bool) (hm : 1 ≤ mo) (hm2 : mo ≤ 3000) (h1 : 1 ≤ sg) (h2 : sg ≤ 400) (h : table f sg mo (mo + 1) 0 [x0] = some (l, rows)) :
    rightB sg rows (l.map ends) = true ∧ ∀ w, accF sg rows (l.map ends) w = (inB sg w && ends (w.foldl (fun x v => f x v.toNat) x0)) := by
  obtain ⟨t1, t2, t3, t4⟩ := table_full hm h
  have h0 : 0 < l.length := (List.getElem?_eq_some_iff.1 t3).1
  have hr := right_table ends t4 h1 h2 t1 h0 (by omega)
  refine ⟨hr, fun w => ?_⟩
  unfold accF
  rw [hr, Bool.true_and]
  cases hw : inB sg w with
  | false => rfl
  | true =>
    obtain ⟨j', e1, e2⟩ := run_table t4 w 0 x0 hw t3
    rw [show runF rows 0 w = (j' : Int) from e1, Int.toNat_natCast, List.getD_eq_getElem?_getD, List.getElem?_map, e2]
    rfl

theorem nodup_le' {α : Type} [DecidableEq α] : ∀ (l m : List α), l.Nodup → (∀ x ∈ l, x ∈ m) → l.length ≤ m.length
  | [], m, _, _ => Nat.zero_le _
  | x :: r, m, hn, hs => by
    have hx := hs x List.mem_cons_self
    obtain ⟨h1, h2⟩ := List.nodup_cons.1 hn
    have := nodup_le' r (m.erase x) h2 (fun y hy => (List.mem_erase_of_ne (fun e => h1 (by rw [← e]; exact hy))).2 (hs y (List.mem_cons_of_mem _ hy)))
    rw [List.length_erase_of_mem hx] at this
    have hp := List.length_pos_of_mem hx
    simp only [List.length_cons]
    omega
end Go.Proofs.Ytpedenbcfbflbaa.X
