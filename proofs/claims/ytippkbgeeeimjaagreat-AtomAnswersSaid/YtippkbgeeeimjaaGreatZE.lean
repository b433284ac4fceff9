/- Atoms in order; what the law shares. -/
import Derived.Test.YtippkbgeeeimjaaGreatRows
import Derived.Test.YtippkbgeeeimjaaGreatZA
import Derived.Deep.Slices
import Derived.ChangeSame
import Derived.WalkKit
import Derived.ProofKit
import Derived.OpenShut
import Derived.SizedLaws
import Derived.Test.YtippkbgeeeimjaaGreatZD
import Derived.Test.YtippkbgeeeimjaaGreatProg
import Derived.Below
import Derived.Deep.Draws
import Derived.Deep.AppendLies
import Derived.Maps.AppendAt
import Derived.OwnWalk
import Derived.Laws.BytesArg
import Derived.Laws.MakeOwn
import Derived.Laws.OwnMore
import Derived.Deep.OwnRows
import Derived.Tactics
import Derived.Lib.ConvBytes
import Derived.Laws.Slices
import Derived.KernelRfl
import Derived.RowKit3
import Derived.Deep.LoopGhost
import Derived.Deep.QuietTactic
import Derived.BigQuiet
import Derived.WideLaws
import Derived.Deep.DeepCutAuto
import Derived.Deep.CutBlock
import Derived.Deep.RegionHeld3
import Derived.Laws.Rows
import Derived.Lib.AppendStr
import Derived.ArgAppend
import Derived.Laws.IdiomCopy
import Derived.OrdersHeld
import Derived.Laws.BitsLemmas
import Derived.RowKit
import Derived.Test.YtippkbgeeeimjaaGreatZW
/- What comes in: lists of ranges, and lists of those. -/
namespace Go.Proofs.YtippkbgeeeimjaaGreat.X
open Go.RowKit Go.ChangeShapes Go.WideShapes Go.Deep Go.Proofs.YtippkbgeeeimjaaGreatW.PrintWords Go.Proofs.YtippkbgeeeimjaaGreatW.PrintLast Go.Proofs.YtippkbgeeeimjaaGreatW.PrintMore Go.Proofs.YtippkbgeeeimjaaGreat.A
set_option linter.unusedVariables false
set_option linter.unusedSimpArgs false
theorem C_of_cellsN {α : Type} {d : Kd α} {W : World} {a : Addr} {len : Nat} (hm : len ≤ 9223372036854775807) (h : ∀ i, i < len → ∃ cs x, cs.length = d.sz ∧ d.K W x cs ∧ ∀ j u, cs[j]? = some u → W.cell? (a.add (i * d.sz + j)) = some u) : ∃ xs : List α, xs.length = len ∧ d.C W (some a) xs.length xs := by
  have h1 : ∀ m, m ≤ len → ∃ xs : List α, xs.length = m ∧ (∀ i x, xs[i]? = some x → ∃ cs, cs.length = d.sz ∧ d.K W x cs ∧ ∀ j u, cs[j]? = some u → W.cell? (a.add (i * d.sz + j)) = some u) := by
    intro m
    induction m with
    | zero => exact fun _ => ⟨[], rfl, fun i x hx => by simp at hx⟩
    | succ m ih =>
      intro hm
      obtain ⟨xs, hl, hx⟩ := ih (by omega)
      obtain ⟨cs, x, h2, h3, h4⟩ := h m (by omega)
      refine ⟨xs ++ [x], by simp [hl], fun i y hy => ?_⟩
      by_cases hi : i < xs.length
      · rw [List.getElem?_append_left hi] at hy; exact hx i y hy
      · have : i = m := by
          have := (List.getElem?_eq_some_iff.1 hy).1
          simp at this; omega
        subst this
        rw [List.getElem?_append_right (by omega), hl, Nat.sub_self] at hy
        simp at hy
        subst hy
        exact ⟨cs, h2, h3, h4⟩
  obtain ⟨xs, hl, hx⟩ := h1 len (Nat.le_refl _)
  refine ⟨xs, hl, ⟨rfl, by omega, fun _ => ⟨a, rfl, fun j p hp => ?_⟩⟩⟩
  obtain ⟨cs, h2, h3, h4⟩ := hx j p hp
  exact ⟨cs, h2, h3, h4⟩
variable {H : Type} {enc : TypeId × Value → H} {W : World} {base : Nat} {spare : Nat → Bool} {held : Bool}
theorem rng_cells {fuel : Nat} {cs : List Value} {x : DataW H × List MemPlace} (h : DataW.trod enc Tryz.prog W base spare held fuel 38 cs = some x) : ∃ r : S38, cs = [.int .i64 r.f0, .int .i64 r.f1] := by
  have c3 : Tryz.prog.cellsOf 3 = 1 := by kernel_rfl
  have c34 : Tryz.prog.cellsOf 38 = 2 := by kernel_rfl
  have hu34 := Tryz.underlying38
  have hu3 := Tryz.underlying3
  generalize Tryz.prog = P at *
  obtain ⟨y0, y1, n, _, hl, h0, h1⟩ := trod_struct2 hu34 h
  have hl : cs.length = 2 := hl.trans c34
  match cs, hl with
  | [u, v], _ =>
    dsimp only at h0 h1
    rw [c3] at h0 h1
    obtain ⟨z0, e0, _, _⟩ := DataW.trod_int hu3 (show DataW.trod enc P W base spare held n 3 [u] = some y0 from h0)
    obtain ⟨z1, e1, _, _⟩ := DataW.trod_int hu3 (show DataW.trod enc P W base spare held n 3 [v] = some y1 from h1)
    injection e0 with e0
    injection e1 with e1
    exact ⟨⟨z0, z1⟩, by rw [e0, e1]⟩
theorem add_add (a : Addr) (i j : Nat) : (a.add i).add j = a.add (i + j) := by
  by_cases hi : i = 0 <;> by_cases hj : j = 0 <;> simp [Addr.add, hi, hj, Nat.add_assoc]
theorem rng_of {fuel : Nat} {a : Option Addr} {len cap : Nat} {d : DataW H × List MemPlace} (hf : DataW.trod enc Tryz.prog W base spare held fuel 23 [.slice a len cap] = some d) :
    ∃ l : List S38, len = l.length ∧ l.length ≤ cap ∧ Kd.C k38 W a l.length l := by
  rcases open_slice Tryz.underlying23 hf with ⟨hcs, _⟩ | ⟨a', len', cap', m, n, D, Pl, hcs, hb, hl, hm, hmm, hx, hi⟩
  · injection hcs with hcs
    injection hcs with e1 e2 e3
    subst e1 e2 e3
    exact ⟨[], rfl, Nat.le_refl _, Kd.C_nil _ _⟩
  · injection hcs with hcs
    injection hcs with e1 e2 e3
    subst e1 e2 e3
    have hlm : len ≤ m := by rw [hmm]; split <;> omega
    obtain ⟨xs, hx1, hx2⟩ := C_of_cellsN (d := k38) (W := W) (a := a') (len := len) (by unfold maxLen at hm; omega) (fun i hil => by
      obtain ⟨cs', h1, h2⟩ := hi i (by omega)
      rw [show Tryz.prog.cellsOf 38 = 2 by kernel_rfl] at h1
      obtain ⟨_, h3, h4⟩ := World.cells?_some h1
      obtain ⟨r, rfl⟩ := rng_cells h2
      refine ⟨_, r, rfl, k38_mk W r, fun j u hu => ?_⟩
      have hj : j < 2 := (List.getElem?_eq_some_iff.1 hu).1
      have := h4 j hj
      rw [add_add] at this
      exact this.trans hu)
    exact ⟨xs, hx1.symm, by omega, hx2⟩
set_option maxRecDepth 1000000 in
theorem open_rng {r : Reach} {b0 : Nat} {v : Value} {d : DataW H} {p : List MemPlace} (hv : Value.okWide Tryz.prog W r b0 23 v) (h : DataW.Trod enc Tryz.prog W base spare held 23 v d p) :
    ∃ (A : Option Addr) (c : Nat) (l : List S38), v = .slice A l.length c ∧ l.length ≤ c ∧ Kd.C k38 W A l.length l := by
  obtain ⟨a, len, cap, rfl⟩ := okWide_slice Tryz.underlying23 hv
  obtain ⟨fuel, hf⟩ := h
  have hf : DataW.trod enc Tryz.prog W base spare held fuel 23 [.slice a len cap] = some (d, p) := by simpa [Value.cells] using hf
  obtain ⟨l, rfl, h1, h2⟩ := rng_of hf
  exact ⟨a, cap, l, rfl, h1, h2⟩
end Go.Proofs.YtippkbgeeeimjaaGreat.X
/- What came in is no longer than its weight allows. -/
namespace Go.Proofs.YtippkbgeeeimjaaGreat.X
open Go.RowKit Go.ChangeShapes Go.WideShapes Go.Deep Go.Proofs.YtippkbgeeeimjaaGreatW.PrintWords Go.Proofs.YtippkbgeeeimjaaGreatW.PrintLast Go.Proofs.YtippkbgeeeimjaaGreatW.PrintMore Go.Proofs.YtippkbgeeeimjaaGreat.A
set_option linter.unusedVariables false
set_option linter.unusedSimpArgs false
theorem C_of_cellsNQ {α : Type} {d : Kd α} (Q : α → Prop) {W : World} {a : Addr} {len : Nat} (hm : len ≤ 9223372036854775807) (h : ∀ i, i < len → ∃ cs x, cs.length = d.sz ∧ d.K W x cs ∧ (∀ j u, cs[j]? = some u → W.cell? (a.add (i * d.sz + j)) = some u) ∧ Q x) : ∃ xs : List α, xs.length = len ∧ d.C W (some a) xs.length xs ∧ ∀ x ∈ xs, Q x := by
  have h1 : ∀ m, m ≤ len → ∃ xs : List α, xs.length = m ∧ (∀ i x, xs[i]? = some x → ∃ cs, cs.length = d.sz ∧ d.K W x cs ∧ ∀ j u, cs[j]? = some u → W.cell? (a.add (i * d.sz + j)) = some u) ∧ ∀ x ∈ xs, Q x := by
    intro m
    induction m with
    | zero => exact fun _ => ⟨[], rfl, fun i x hx => by simp at hx, fun x hx => by cases hx⟩
    | succ m ih =>
      intro hm
      obtain ⟨xs, hl, hx, hq⟩ := ih (by omega)
      obtain ⟨cs, x, h2, h3, h4, h5⟩ := h m (by omega)
      refine ⟨xs ++ [x], by simp [hl], fun i y hy => ?_, fun y hy => ?_⟩
      · by_cases hi : i < xs.length
        · rw [List.getElem?_append_left hi] at hy; exact hx i y hy
        · have : i = m := by
            have := (List.getElem?_eq_some_iff.1 hy).1
            simp at this; omega
          subst this
          rw [List.getElem?_append_right (by omega), hl, Nat.sub_self] at hy
          simp at hy
          subst hy
          exact ⟨cs, h2, h3, h4⟩
      · rcases List.mem_append.1 hy with hy | hy
        · exact hq y hy
        · rw [List.mem_singleton.1 hy]; exact h5
  obtain ⟨xs, hl, hx, hq⟩ := h1 len (Nat.le_refl _)
  refine ⟨xs, hl, ⟨rfl, by omega, fun _ => ⟨a, rfl, fun j p hp => ?_⟩⟩, hq⟩
  obtain ⟨cs, h2, h3, h4⟩ := hx j p hp
  exact ⟨cs, h2, h3, h4⟩
variable {H : Type} {enc : TypeId × Value → H} {W : World} {base : Nat} {spare : Nat → Bool} {held : Bool}
theorem weightsAll_mem {P : Program} {e : TypeId} : ∀ {l : List (DataW H)} {d : DataW H} {k : Nat}, d ∈ l → k ∈ d.weights P e → k ∈ DataW.weightsAll P e l
  | [], _, _, h, _ => by cases h
  | x :: r, d, k, h, hk => by
    simp only [DataW.weightsAll, List.mem_append]
    rcases List.mem_cons.1 h with rfl | h
    · exact .inl hk
    · exact .inr (weightsAll_mem h hk)
theorem bytes34 : Tryz.prog.bytesOf 38 = 16 := by kernel_rfl
theorem bytes22 : Tryz.prog.bytesOf 23 = 24 := by kernel_rfl
set_option maxRecDepth 1000000 in
theorem rng_sized {fuel : Nat} {v : Value} {d : DataW H × List MemPlace} (hf : DataW.trod enc Tryz.prog W base spare held fuel 23 [v] = some d) (hw : ∀ k ∈ d.1.weights Tryz.prog 23, k ≤ reachBytes) :
    ∃ A c, ∃ l : List S38, v = .slice A l.length c ∧ l.length ≤ c ∧ Kd.C k38 W A l.length l ∧ l.length * 16 ≤ reachBytes := by
  rcases open_slice Tryz.underlying23 hf with ⟨hcs, _⟩ | ⟨a, len, cap, m, n, D, Pl, hcs, hb, hl, hm, hmm, hx, hi⟩
  · injection hcs with hcs
    exact ⟨none, 0, [], hcs, Nat.le_refl _, Kd.C_nil _ _, by simp⟩
  · injection hcs with hcs
    obtain ⟨l, e1, e2, e3⟩ := rng_of (by rw [hcs] at hf; exact hf)
    have hwt := hw (((List.range len).map D).length + ((List.range (m - len)).map fun j => D (len + j)).length |> (· * Tryz.prog.bytesOf 38)) (by rw [hx]; simp [DataW.weights, Tryz.underlying23])
    simp only [List.length_map, List.length_range, bytes34] at hwt
    have hlm : len ≤ m := by rw [hmm]; split <;> omega
    exact ⟨some a, cap, l, by rw [hcs, e1], e2, e3, by omega⟩
set_option maxRecDepth 1000000 in
theorem rngs_sized {fuel : Nat} {v : Value} {x : DataW H × List MemPlace} (h : DataW.trod enc Tryz.prog W base spare held fuel 22 [v] = some x) (hw : ∀ k ∈ x.1.weights Tryz.prog 22, k ≤ reachBytes) :
    ∃ A c, ∃ l : List (List S38), v = .slice A l.length c ∧ l.length ≤ c ∧ Kd.C (Kd.slice 38 k38) W A l.length l ∧ l.length * 24 ≤ reachBytes ∧ ∀ r ∈ l, r.length * 16 ≤ reachBytes := by
  rcases open_slice1 Tryz.underlying22 (by kernel_rfl) h with ⟨hcs, _⟩ | ⟨a, len, cap, m, n, V, D, Pl, hcs, hb, hl, hm, hmm, hx, hi⟩
  · injection hcs with hcs
    exact ⟨none, 0, [], hcs, Nat.le_refl _, Kd.C_nil _ _, by simp, by simp⟩
  · injection hcs with hcs
    have hlm : len ≤ m := by rw [hmm]; split <;> omega
    obtain ⟨xs, hx1, hx2, hx3⟩ := C_of_cellsNQ (d := Kd.slice 38 k38) (fun r => r.length * 16 ≤ reachBytes) (W := W) (a := a) (len := len) (by unfold maxLen at hm; omega) (fun i hil => by
      obtain ⟨h1, h2⟩ := hi i (by omega)
      obtain ⟨A, c, l, hz, hc, hC, hs⟩ := rng_sized h2 (fun k hk => hw k (by
        rw [hx]
        simp only [DataW.weights, Tryz.underlying22, List.mem_cons, List.mem_append]
        exact .inr (.inl (weightsAll_mem (List.mem_map.2 ⟨i, List.mem_range.2 hil, rfl⟩) hk))))
      refine ⟨[V i], l, rfl, (show Kd.K (Kd.slice 38 k38) W l [V i] from ⟨A, c, by rw [hz], hc, hC⟩), fun j u hu => ?_, hs⟩
      cases j with
      | zero => simp at hu; subst hu; exact (show W.cell? (a.add (i * 1 + 0)) = _ by simpa using h1)
      | succ j => simp at hu)
    have hwt := hw (((List.range len).map D).length + ((List.range (m - len)).map fun j => D (len + j)).length |> (· * Tryz.prog.bytesOf 23)) (by rw [hx]; simp [DataW.weights, Tryz.underlying22])
    simp only [List.length_map, List.length_range, bytes22] at hwt
    exact ⟨some a, cap, xs, by rw [hx1]; exact hcs, by omega, hx2, by omega, hx3⟩
/-- No longer than memory is. -/
def SmallL (l : List (List S38)) : Prop := l.length ≤ 140737488355328 ∧ ∀ r ∈ l, r.length ≤ 140737488355328
set_option maxRecDepth 1000000 in
theorem open_rngs_sized {r : Reach} {b0 : Nat} {v : Value} {d : DataW H} {p : List MemPlace} {ts : List TypeId} {ds : List (DataW H)} {j : Nat} (hsz : (DataW.weightsEach Tryz.prog ts ds).all (· ≤ reachBytes) = true) (ht : ts[j]? = some 22) (hd : ds[j]? = some d) (hv : Value.okWide Tryz.prog W r b0 22 v) (h : DataW.Trod enc Tryz.prog W base spare held 22 v d p) :
    ∃ (A : Option Addr) (c : Nat) (l : List (List S38)), v = .slice A l.length c ∧ SmallL l ∧ l.length ≤ c ∧ Kd.C (Kd.slice 38 k38) W A l.length l := by
  obtain ⟨a, len, cap, rfl⟩ := okWide_slice Tryz.underlying22 hv
  obtain ⟨fuel, hf⟩ := h
  have hf : DataW.trod enc Tryz.prog W base spare held fuel 22 [.slice a len cap] = some (d, p) := by simpa [Value.cells] using hf
  have hall : ∀ k ∈ d.weights Tryz.prog 22, k ≤ reachBytes := fun k hk => by
    have := List.all_eq_true.1 hsz _ (DataW.weights_mem_each ht hd k hk)
    simpa using this
  obtain ⟨A, c, l, e, h1, h2, h3, h4⟩ := rngs_sized hf hall
  have hr : reachBytes = 140737488351232 := by decide
  rw [hr] at h3 h4
  exact ⟨A, c, l, e, ⟨by omega, fun r hr => by have := h4 r hr; omega⟩, h1, h2⟩
end Go.Proofs.YtippkbgeeeimjaaGreat.X
/- Classes in order: what there is of them; one list for sets that part alike. -/
namespace Go.Proofs.YtippkbgeeeimjaaGreat.P
open Go.RowKit Go.Proofs.YtippkbgeeeimjaaGreatW.PrintWords Go.Proofs.YtippkbgeeeimjaaGreat.A Go.Proofs.YtippkbgeeeimjaaGreat.L
set_option linter.unusedVariables false
set_option linter.unusedSimpArgs false
theorem low_spec {P : Int → Bool} (h : 0 < (canonF P).length) : 0 ≤ lowR (canonF P) ∧ lowR (canonF P) ≤ 1114111 ∧ P (lowR (canonF P)) = true ∧ ∀ c, 0 ≤ c → c ≤ 1114111 → P c = true → lowR (canonF P) ≤ c := by
  have hs := canon_spec P
  revert hs h
  generalize canonF P = l
  intro h hs
  match l, h, hs with
  | r :: rs, _, hs =>
    have hr := hs.1.1 r (List.mem_cons_self ..)
    have e : lowR (r :: rs) = r.f0 := rfl
    rw [e]
    refine ⟨hr.1, by omega, ?_, fun c h0 h1 hP => ?_⟩
    · rw [← hs.2 r.f0 hr.1 (by omega)]
      exact mem_iff.2 ⟨r, List.mem_cons_self .., Int.le_refl _, hr.2.1⟩
    · rw [← hs.2 c h0 (by omega)] at hP
      obtain ⟨s, hsm, k0, k1⟩ := mem_iff.1 hP
      rcases List.mem_cons.1 hsm with e | hsm
      · rw [e] at k0; exact k0
      · have := (List.pairwise_cons.1 hs.1.2).1 s hsm
        omega
theorem first_canon {P : Int → Bool} (hl : (canonF P).length ≤ 400) (h : 0 < (canonF P).length) : firstF (canonF P) = lowR (canonF P) := by
  unfold firstF
  rw [pl_canon hl]
  revert h
  generalize canonF P = l
  intro h
  match l, h with
  | r :: rs, _ => rfl
/-- The class of a character. -/
def clsF (sets : List (List S38)) (c : Int) : List S38 := atF sets (sigF sets c)
theorem cls_mem {sets : List (List S38)} {m c : Int} (h0 : 0 ≤ c) (h1 : c ≤ 1114111) : Mem (clsF sets m) c = decide (sigF sets c = sigF sets m) := canon_mem (fun d => decide (sigF sets d = sigF sets m)) h0 h1
/-- Classes, by their least characters: all there are, each once. -/
structure Cls (sets : List (List S38)) (L : List (List S38)) : Prop where
  all : ∀ c, 0 ≤ c → c ≤ 1114111 → clsF sets c ∈ L
  of : ∀ x ∈ L, ∃ m, 0 ≤ m ∧ m ≤ 1114111 ∧ x = clsF sets m ∧ lowR x = m ∧ 0 < x.length ∧ ∀ c, 0 ≤ c → c ≤ 1114111 → sigF sets c = sigF sets m → m ≤ c
  up : L.Pairwise fun x y => lowR x < lowR y
theorem cls_of {sets L : List (List S38)} (h : AtomsOf sets L) (hs : Sorted L) : Cls sets L := by
  obtain ⟨T, hT, rfl, hc, hp⟩ := h
  have key : ∀ t ∈ T, 0 ≤ lowR (atF sets t) ∧ lowR (atF sets t) ≤ 1114111 ∧ sigF sets (lowR (atF sets t)) = t ∧ ∀ c, 0 ≤ c → c ≤ 1114111 → sigF sets c = t → lowR (atF sets t) ≤ c := by
    intro t ht
    obtain ⟨h0, h1, h2, h3⟩ := low_spec (hp t ht)
    exact ⟨h0, h1, of_decide_eq_true h2, fun c k0 k1 k2 => h3 c k0 k1 (decide_eq_true k2)⟩
  refine ⟨fun c h0 h1 => List.mem_map.2 ⟨_, hc c h0 h1, rfl⟩, fun x hx => ?_, ?_⟩
  · obtain ⟨t, ht, rfl⟩ := List.mem_map.1 hx
    obtain ⟨h0, h1, h2, h3⟩ := key t ht
    refine ⟨_, h0, h1, ?_, rfl, hp t ht, fun c k0 k1 k2 => h3 c k0 k1 (k2.trans h2)⟩
    unfold clsF
    rw [h2]
  · unfold Sorted at hs
    rw [List.pairwise_map] at hs ⊢
    have hboth : T.Pairwise fun a b => a ≠ b ∧ lowR (atF sets a) ≤ lowR (atF sets b) := hT.and hs
    refine hboth.imp_of_mem fun {a b} ha hb hab => ?_
    have ha' := (key a ha).2.2.1
    have hb' := (key b hb).2.2.1
    rcases Int.lt_or_eq_of_le hab.2 with k | k
    · exact k
    · exact absurd (ha'.symm.trans (by rw [k]; exact hb')) hab.1
theorem cls_congr {sets sets' : List (List S38)} (hR : ∀ c d, 0 ≤ c → c ≤ 1114111 → 0 ≤ d → d ≤ 1114111 → (sigF sets c = sigF sets d ↔ sigF sets' c = sigF sets' d)) {m : Int} (h0 : 0 ≤ m) (h1 : m ≤ 1114111) : clsF sets m = clsF sets' m := by
  refine canon_congr (P := fun d => decide (sigF sets d = sigF sets m)) (Q := fun d => decide (sigF sets' d = sigF sets' m)) fun c k0 k1 => ?_
  show decide _ = decide _
  rw [decide_eq_decide]
  exact hR c m k0 k1 h0 h1
theorem cls_one {sets sets' L L' : List (List S38)} (hR : ∀ c d, 0 ≤ c → c ≤ 1114111 → 0 ≤ d → d ≤ 1114111 → (sigF sets c = sigF sets d ↔ sigF sets' c = sigF sets' d)) (h : Cls sets L) (h' : Cls sets' L') : L = L' := by
  have mem : ∀ x, x ∈ L ↔ x ∈ L' := by
    intro x
    constructor
    · intro hx
      obtain ⟨m, h0, h1, e, _⟩ := h.of x hx
      rw [e, cls_congr hR h0 h1]
      exact h'.all m h0 h1
    · intro hx
      obtain ⟨m, h0, h1, e, _⟩ := h'.of x hx
      rw [e, ← cls_congr hR h0 h1]
      exact h.all m h0 h1
  have nd : ∀ {l : List (List S38)}, l.Pairwise (fun x y => lowR x < lowR y) → l.Nodup := fun hp => hp.imp fun {a b} hab e => by rw [e] at hab; omega
  have hperm : L.Perm L' := (List.perm_ext_iff_of_nodup (nd h.up) (nd h'.up)).2 mem
  refine hperm.eq_of_pairwise (le := fun x y => lowR x < lowR y) (fun a b _ _ h1 h2 => by omega) h.up h'.up
theorem cls_same {sets L L' : List (List S38)} (h : Cls sets L) (h' : Cls sets L') : L = L' := cls_one (fun _ _ _ _ _ _ => Iff.rfl) h h'
theorem Cls.mem_iff {sets L : List (List S38)} (h : Cls sets L) {x : List S38} (hx : x ∈ L) {c : Int} (h0 : 0 ≤ c) (h1 : c ≤ 1114111) : Mem x c = true ↔ x = clsF sets c := by
  obtain ⟨m, m0, m1, e, el, hp, hle⟩ := h.of x hx
  have k : Mem (clsF sets m) c = decide (sigF sets c = sigF sets m) := cls_mem h0 h1
  constructor
  · intro hm
    rw [e, k] at hm
    rw [e]
    unfold clsF
    rw [of_decide_eq_true hm]
  · intro e2
    have k2 : Mem (clsF sets c) c = decide (sigF sets c = sigF sets c) := cls_mem h0 h1
    rw [e2, k2]
    exact decide_eq_true rfl
theorem Cls.nodup {sets L : List (List S38)} (h : Cls sets L) : L.Nodup := h.up.imp fun {a b} hab e => by rw [e] at hab; omega
theorem Cls.pos {sets L : List (List S38)} (h : Cls sets L) : 0 < L.length := List.length_pos_of_mem (h.all 0 (Int.le_refl _) (by decide))
theorem Cls.canon {sets L : List (List S38)} (h : Cls sets L) {x : List S38} (hx : x ∈ L) : ∃ P, x = canonF P := by
  obtain ⟨m, _, _, e, _⟩ := h.of x hx
  rw [e]
  exact ⟨fun c => decide (sigF sets c = sigF sets m), rfl⟩
/-- Of at most 400 ranges each. -/
def Short (L : List (List S38)) : Prop := ∀ x ∈ L, x.length ≤ 400
theorem Cls.short {sets L : List (List S38)} (h : Cls sets L) (E : List Int) (hE : ∀ c, 0 < c → c ≤ 1114111 → sigF sets c ≠ sigF sets (c - 1) → c ∈ E) (hl : E.length ≤ 798) : Short L := by
  intro x hx
  obtain ⟨m, _, _, e, _⟩ := h.of x hx
  have := at_len (sets := sets) E hE (sigF sets m)
  rw [e]
  unfold clsF
  omega
theorem Cls.has {sets L : List (List S38)} (h : Cls sets L) (hs : Short L) {x : List S38} (hx : x ∈ L) (c : Int) : hasF x c = true ↔ 0 ≤ c ∧ c ≤ 1114111 ∧ x = clsF sets c := by
  unfold hasF hasB
  have := hs x hx
  simp only [Bool.and_eq_true, decide_eq_true_eq]
  constructor
  · rintro ⟨⟨h0, h1⟩, _, hm⟩
    exact ⟨h0, h1, (h.mem_iff hx h0 h1).1 hm⟩
  · rintro ⟨h0, h1, e⟩
    exact ⟨⟨h0, h1⟩, this, (h.mem_iff hx h0 h1).2 e⟩
theorem Cls.first {sets L : List (List S38)} (h : Cls sets L) (hs : Short L) {x : List S38} (hx : x ∈ L) : firstF x = lowR x ∧ 0 ≤ firstF x ∧ firstF x ≤ 1114111 ∧ x = clsF sets (firstF x) := by
  obtain ⟨m, m0, m1, e, el, hp, _⟩ := h.of x hx
  have h4 := hs x hx
  have e1 : firstF x = lowR x := by
    obtain ⟨P, eP⟩ := h.canon hx
    rw [eP] at h4 hp ⊢
    exact first_canon h4 hp
  rw [e1, el]
  exact ⟨rfl, m0, m1, e⟩
/-- How many characters there are in all of them. -/
theorem cnt_sig (sets : List (List S38)) (T : List (List Bool)) (hT : T.Nodup) : ∀ n : Nat, n ≤ 1114112 → (∀ c, 0 ≤ c → c < (n : Int) → sigF sets c ∈ T) → (T.map fun t => cnt (fun c => decide (sigF sets c = t)) n).sum = n
  | 0, _, _ => by
    have z : ∀ T : List (List Bool), (T.map fun t => cnt (fun c => decide (sigF sets c = t)) 0).sum = 0 := by
      intro T
      induction T with
      | nil => rfl
      | cons t T ih => rw [List.map_cons, List.sum_cons, ih]; rfl
    exact z T
  | n + 1, hn, hc => by
    have ih := cnt_sig sets T hT n (by omega) fun c h0 h1 => hc c h0 (by omega)
    have hm := hc n (by omega) (by omega)
    have split : ∀ T : List (List Bool), (T.map fun t => cnt (fun c => decide (sigF sets c = t)) (n + 1)).sum = (T.map fun t => cnt (fun c => decide (sigF sets c = t)) n).sum + ((T.map fun t => if sigF sets n = t then (1 : Int) else 0).sum) := by
      intro T
      induction T with
      | nil => rfl
      | cons t T ih =>
        simp only [List.map_cons, List.sum_cons, ih]
        rw [cnt]
        by_cases q : sigF sets n = t
        · simp [q]; omega
        · simp [q]; omega
    have one : ∀ T : List (List Bool), T.Nodup → (T.map fun t => if sigF sets n = t then (1 : Int) else 0).sum = if sigF sets n ∈ T then 1 else 0 := by
      intro T hT
      induction T with
      | nil => rfl
      | cons t T ih =>
        obtain ⟨h1, h2⟩ := List.nodup_cons.1 hT
        rw [List.map_cons, List.sum_cons, ih h2]
        by_cases q : sigF sets n = t
        · have : ¬ sigF sets n ∈ T := by rw [q]; exact h1
          simp [q, this, h1]
        · by_cases q2 : sigF sets n ∈ T <;> simp [q, q2]
    rw [split, one T hT, if_pos hm, ih]
    omega
end Go.Proofs.YtippkbgeeeimjaaGreat.P
/- What atom.Of answers, as a function; more sets, more classes. -/
namespace Go.Proofs.YtippkbgeeeimjaaGreat.P
open Go.RowKit Go.Proofs.YtippkbgeeeimjaaGreatW.PrintWords Go.Proofs.YtippkbgeeeimjaaGreat.A Go.Proofs.YtippkbgeeeimjaaGreat.L
set_option linter.unusedVariables false
set_option linter.unusedSimpArgs false
theorem nodup_sub : ∀ (xs L : List (List Bool)), xs.Nodup → (∀ x ∈ xs, x ∈ L) → xs.length ≤ L.length
  | [], _, _, _ => Nat.zero_le _
  | x :: xs, L, hn, h => by
    obtain ⟨h1, h2⟩ := List.nodup_cons.1 hn
    have hx := h x (List.mem_cons_self ..)
    have := nodup_sub xs (L.erase x) h2 fun y hy => (List.mem_erase_of_ne (fun e : y = x => h1 (by rw [← e]; exact hy))).2 (h y (List.mem_cons_of_mem _ hy))
    rw [List.length_erase, if_pos hx] at this
    have := List.length_pos_of_mem hx
    rw [List.length_cons]
    omega
structure Sigs (sets : List (List S38)) (T : List (List Bool)) : Prop where
  nd : T.Nodup
  mem : ∀ t, t ∈ T ↔ ∃ c, 0 ≤ c ∧ c ≤ 1114111 ∧ sigF sets c = t
theorem sigs_of {sets L : List (List S38)} (h : AtomsOf sets L) : ∃ T, Sigs sets T ∧ L = T.map (atF sets) ∧ ∀ t ∈ T, 0 < (atF sets t).length := by
  obtain ⟨T, hT, e, hc, hp⟩ := h
  refine ⟨T, ⟨hT, fun t => ⟨fun ht => ?_, ?_⟩⟩, e, hp⟩
  · obtain ⟨h0, h1, h2, _⟩ := low_spec (hp t ht)
    exact ⟨_, h0, h1, of_decide_eq_true h2⟩
  · rintro ⟨c, h0, h1, rfl⟩
    exact hc c h0 h1
theorem Sigs.len {sets : List (List S38)} {T U : List (List Bool)} (h : Sigs sets T) (k : Sigs sets U) : T.length = U.length :=
  Nat.le_antisymm (nodup_sub T U h.nd fun x hx => (k.mem x).2 ((h.mem x).1 hx)) (nodup_sub U T k.nd fun x hx => (h.mem x).2 ((k.mem x).1 hx))
theorem Sigs.more {sets : List (List S38)} {s : List S38} {T U : List (List Bool)} (h : Sigs sets T) (k : Sigs (sets ++ [s]) U) : T.length ≤ U.length ∧ U.length ≤ 2 * T.length := by
  constructor
  · have := nodup_sub T (U.map List.dropLast) h.nd fun t ht => by
      obtain ⟨c, h0, h1, rfl⟩ := (h.mem t).1 ht
      refine List.mem_map.2 ⟨sigF (sets ++ [s]) c, (k.mem _).2 ⟨c, h0, h1, rfl⟩, ?_⟩
      rw [sig_snoc, List.dropLast_concat]
    rwa [List.length_map] at this
  · have := nodup_sub U (T.flatMap fun t => [t ++ [true], t ++ [false]]) k.nd fun u hu => by
      obtain ⟨c, h0, h1, rfl⟩ := (k.mem u).1 hu
      refine List.mem_flatMap.2 ⟨sigF sets c, (h.mem _).2 ⟨c, h0, h1, rfl⟩, ?_⟩
      rw [sig_snoc]
      cases hasB s c <;> simp
    have e : ∀ T : List (List Bool), (T.flatMap fun t => [t ++ [true], t ++ [false]]).length = 2 * T.length := by
      intro T
      induction T with
      | nil => rfl
      | cons t T ih =>
        rw [List.flatMap_cons, List.length_append, ih]
        simp only [List.length_cons, List.length_nil]
        omega
    rwa [e] at this
/-- The classes in order. -/
def clsL (sets : List (List S38)) : List (List S38) := (ofAt sets sets.length).mergeSort fun x y => decide (lowR x ≤ lowR y)
theorem atoms_perm {sets L L' : List (List S38)} (h : AtomsOf sets L) (hp : L'.Perm L) : AtomsOf sets L' := by
  obtain ⟨T, hT, rfl, hc, hpos⟩ := h
  obtain ⟨U, hU, e⟩ := perm_map hp
  exact ⟨U, hU.nodup_iff.2 hT, e, fun c h0 h1 => hU.mem_iff.2 (hc c h0 h1), fun t ht => hpos t (hU.mem_iff.1 ht)⟩
theorem clsL_sorted (sets : List (List S38)) : Sorted (clsL sets) := by
  have := List.pairwise_mergeSort (le := fun x y : List S38 => decide (lowR x ≤ lowR y)) (fun a b c h1 h2 => by simp only [decide_eq_true_eq] at *; omega) (fun a b => by simp only [Bool.or_eq_true, decide_eq_true_eq]; omega) (ofAt sets sets.length)
  exact this.imp fun {a b} h => of_decide_eq_true h
theorem clsL_perm (sets : List (List S38)) : (clsL sets).Perm (ofAt sets sets.length) := List.mergeSort_perm _ _
/-- Edges enough. -/
structure Few (sets : List (List S38)) (E : List Int) : Prop where
  at_ : ∀ c, 0 < c → c ≤ 1114111 → sigF sets c ≠ sigF sets (c - 1) → c ∈ E
  le : E.length ≤ 798
theorem few_edges {sets : List (List S38)} (h : (sets.map List.length).sum ≤ 399) : Few sets (edgesOf sets) :=
  ⟨fun c h0 _ h1 => sig_edge (by omega) h1, by rw [edges_len]; omega⟩
theorem clsL_atoms {sets : List (List S38)} {E : List Int} (f : Few sets E) : AtomsOf sets (clsL sets) := by
  have h := (atoms_at E f.at_ f.le sets.length (Nat.le_refl _)).1
  rw [List.take_length] at h
  exact atoms_perm h (clsL_perm sets)
theorem clsL_cls {sets : List (List S38)} {E : List Int} (f : Few sets E) : Cls sets (clsL sets) := cls_of (clsL_atoms f) (clsL_sorted sets)
theorem clsL_short {sets : List (List S38)} {E : List Int} (f : Few sets E) : Short (clsL sets) := (clsL_cls f).short E f.at_ f.le
theorem clsL_one {sets ys : List (List S38)} {E : List Int} (f : Few sets E) (h : AtomsOf sets ys) (hs : Sorted ys) : ys = clsL sets := cls_same (cls_of h hs) (clsL_cls f)
theorem clsL_len {sets : List (List S38)} : (clsL sets).length = (ofAt sets sets.length).length := (clsL_perm sets).length_eq
/-- From set to set there are no fewer. -/
theorem at_up {sets : List (List S38)} {E : List Int} (f : Few sets E) : ∀ d j, j + d = sets.length → (ofAt sets j).length ≤ (ofAt sets sets.length).length := by
  intro d
  induction d with
  | zero =>
    intro j h
    have : j = sets.length := by omega
    rw [this]
    exact Nat.le_refl _
  | succ d ih =>
    intro j h
    refine Nat.le_trans ?_ (ih (j + 1) (by omega))
    have h1 := (atoms_at E f.at_ f.le j (by omega)).1
    have h2 := (atoms_at E f.at_ f.le (j + 1) (by omega)).1
    have hs : sets[j]? = some sets[j] := List.getElem?_eq_getElem (by omega)
    have e : sets.take (j + 1) = sets.take j ++ [sets[j]] := by rw [List.take_add_one, hs]; rfl
    rw [e] at h2
    obtain ⟨T, hT, e1, _⟩ := sigs_of h1
    obtain ⟨U, hU, e2, _⟩ := sigs_of h2
    rw [e1, e2, List.length_map, List.length_map]
    exact (hT.more hU).1
theorem bad_iff {sets : List (List S38)} {E : List Int} (f : Few sets E) : OfBad sets ↔ 60 < sets.length ∨ longF sets = true ∨ 200 < (clsL sets).length := by
  unfold OfBad
  rw [clsL_len]
  constructor
  · rintro (h | h | ⟨j, h1, h2, h3⟩)
    · exact Or.inl h
    · exact Or.inr (Or.inl h)
    · have := at_up f (sets.length - j) j (by omega)
      exact Or.inr (Or.inr (by omega))
  · rintro (h | h | h)
    · exact Or.inl h
    · exact Or.inr (Or.inl h)
    · refine Or.inr (Or.inr ⟨sets.length, ?_, Nat.le_refl _, h⟩)
      cases sets with
      | nil => exact absurd h (by decide)
      | cons => simp
def badB (sets : List (List S38)) : Bool := decide (60 < sets.length) || longF sets || decide (200 < (clsL sets).length)
theorem badB_iff {sets : List (List S38)} {E : List Int} (f : Few sets E) : badB sets = true ↔ OfBad sets := by
  rw [bad_iff f]
  unfold badB
  simp only [Bool.or_eq_true, decide_eq_true_eq, or_assoc]
theorem good_len {sets : List (List S38)} (h : badB sets = false) : (clsL sets).length ≤ 200 := by
  unfold badB at h
  simp only [Bool.or_eq_false_iff, decide_eq_false_iff_not] at h
  omega
/-- One contract. -/
theorem of_one (A0 : Option Addr) (c0 : Nat) (l0 : List (List S38)) (w : World) (hr0 : Kd.C (Kd.slice 38 k38) w A0 l0.length l0) (hc0 : l0.length ≤ c0) {E : List Int} (f : Few l0 E) :
    Calls Tryz.prog 6 #[.slice A0 l0.length c0] w fun e w' => ∃ v, e = .returned (.tuple #[v, .int .i64 (if badB l0 then 9 else 0)]) ∧ OwnRows w' w.heap.size v (if badB l0 then [] else clsL l0) ∧ Below w.heap.size w w' := by
  refine (of_calls A0 c0 l0 w hr0 hc0 E f.at_ f.le).mono ?_
  rintro e w' ⟨h | ⟨hb, v, ys, he, ho, ha, hs⟩, bel⟩
  · have q := (badB_iff f).2 h.1
    rw [if_pos q, if_pos q]
    exact ⟨_, h.2, OwnRows.nil _ _, bel⟩
  · have q : ¬ badB l0 = true := fun q => hb ((badB_iff f).1 q)
    rw [if_neg q, if_neg q]
    exact ⟨v, he, clsL_one f ha hs ▸ ho, bel⟩
end Go.Proofs.YtippkbgeeeimjaaGreat.P
/- What atom.Right answers; that classes are right. -/
namespace Go.Proofs.YtippkbgeeeimjaaGreat.P
open Go.RowKit Go.Proofs.YtippkbgeeeimjaaGreatW.PrintWords Go.Proofs.YtippkbgeeeimjaaGreat.A Go.Proofs.YtippkbgeeeimjaaGreat.L
set_option linter.unusedVariables false
set_option linter.unusedSimpArgs false
def Apart2 (r s : S38) : Prop := r.f1 < s.f0 ∨ s.f1 < r.f0
noncomputable def disjB (xs : List S38) : Bool := @decide (xs.Pairwise Apart2) (Classical.propDecidable _)
theorem disjB_iff {xs : List S38} : disjB xs = true ↔ xs.Pairwise Apart2 := by unfold disjB; exact @decide_eq_true_iff _ (Classical.propDecidable _)
noncomputable def okF : Int → List (List S38) → Bool
  | _, [] => true
  | last, a :: L => rightF a && decide (last < firstF a) && okF (firstF a) L
noncomputable def rightAF (L : List (List S38)) : Bool := decide (0 < L.length) && decide (L.length ≤ 200) && okF (-1) L && disjB L.flatten && decide ((L.map sizeF).sum = 1114112)
/-- Risen, each behind the last one's end. -/
def chainB (ys : List S38) : Prop := ∀ i, i + 1 < ys.length → (rd_T38 ys (i : Int)).f1 < (rd_T38 ys ((i : Int) + 1)).f0
theorem rd_get {ys : List S38} {i : Nat} (h : i < ys.length) : rd_T38 ys (i : Int) = ys[i] := by
  unfold rd_T38
  rw [Int.toNat_natCast, List.getD_eq_getElem?_getD, List.getElem?_eq_getElem h]
  rfl
theorem chain_iff {ys : List S38} (hv : ∀ r ∈ ys, r.f0 ≤ r.f1) (hr : RisesG ys) : chainB ys ↔ ys.Pairwise Apart2 := by
  unfold RisesG at hr
  constructor
  · intro hc
    have step : ∀ d i j : Nat, (hi : i < ys.length) → (hj : j < ys.length) → i + d + 1 = j → ys[i].f1 < ys[j].f0 := by
      intro d
      induction d with
      | zero =>
        intro i j hi hj e
        have h := hc i (by omega)
        have e2 : (i : Int) + 1 = ((i + 1 : Nat) : Int) := by omega
        rw [e2, rd_get hi, rd_get (i := i + 1) (by omega)] at h
        have : j = i + 1 := by omega
        subst this
        exact h
      | succ d ih =>
        intro i j hi hj e
        have h1 := ih i (j - 1) hi (by omega) (by omega)
        have h := hc (j - 1) (by omega)
        have e2 : ((j - 1 : Nat) : Int) + 1 = (j : Int) := by omega
        rw [e2, rd_get (i := j - 1) (by omega), rd_get hj] at h
        have := hv _ (List.getElem_mem (l := ys) (n := j - 1) (by omega))
        omega
    rw [List.pairwise_iff_getElem]
    intro i j hi hj hij
    exact Or.inl (step (j - i - 1) i j hi hj (by omega))
  · intro hp i hi
    rw [List.pairwise_iff_getElem] at hp hr
    have h1 := hp i (i + 1) (by omega) hi (by omega)
    have h2 := hr i (i + 1) (by omega) hi (by omega)
    have h3 := hv _ (List.getElem_mem (l := ys) (n := i + 1) hi)
    have e2 : (i : Int) + 1 = ((i + 1 : Nat) : Int) := by omega
    rw [e2, rd_get (by omega), rd_get hi]
    rcases h1 with h1 | h1 <;> omega
theorem apart_perm {xs ys : List S38} (h : ys.Perm xs) : ys.Pairwise Apart2 ↔ xs.Pairwise Apart2 := h.pairwise_iff fun {a b} h => h.symm
theorem cls_disj {sets L : List (List S38)} (h : Cls sets L) : L.flatten.Pairwise Apart2 := by
  rw [List.pairwise_flatten]
  have valid : ∀ x ∈ L, ∀ r ∈ x, 0 ≤ r.f0 ∧ r.f0 ≤ r.f1 ∧ r.f1 < 1114112 := by
    intro x hx r hr
    obtain ⟨P, e⟩ := h.canon hx
    rw [e] at hr
    exact (canon_spec P).1.1 r hr
  constructor
  · intro x hx
    obtain ⟨P, e⟩ := h.canon hx
    rw [e]
    exact (canon_spec P).1.2.imp fun {a b} hab => Or.inl (by omega)
  · refine h.nodup.imp_of_mem fun {x y} hx hy hne r hr s hs => ?_
    by_cases q : Apart2 r s
    · exact q
    · exfalso
      unfold Apart2 at q
      have v1 := valid x hx r hr
      have v2 := valid y hy s hs
      rcases Int.le_total r.f0 s.f0 with le | le
      · have m1 := (h.mem_iff hx (c := s.f0) (by omega) (by omega)).1 (mem_iff.2 ⟨r, hr, le, by omega⟩)
        have m2 := (h.mem_iff hy (c := s.f0) (by omega) (by omega)).1 (mem_iff.2 ⟨s, hs, Int.le_refl _, v2.2.1⟩)
        exact hne (m1.trans m2.symm)
      · have m1 := (h.mem_iff hx (c := r.f0) (by omega) (by omega)).1 (mem_iff.2 ⟨r, hr, Int.le_refl _, v1.2.1⟩)
        have m2 := (h.mem_iff hy (c := r.f0) (by omega) (by omega)).1 (mem_iff.2 ⟨s, hs, le, by omega⟩)
        exact hne (m1.trans m2.symm)
theorem cls_sizes {sets L : List (List S38)} (h : AtomsOf sets L) (hs : Short L) : (L.map sizeF).sum = 1114112 := by
  obtain ⟨T, hT, rfl, hc, hp⟩ := h
  have key : ∀ n : Nat, n = 1114112 → (T.map fun t => cnt (hasB (atF sets t)) n).sum = (n : Int) := by
    intro n hn
    rw [← cnt_sig sets T hT n (by omega) (fun c h0 h1 => hc c h0 (by omega))]
    congr 1
    refine List.map_congr_left fun t ht => ?_
    have h4 := hs _ (List.mem_map.2 ⟨t, ht, rfl⟩)
    exact cnt_congr n (by omega) fun c h0 h1 => has_canon h4 h0 h1
  have k := key 1114112 rfl
  have e : (sizeF ∘ atF sets) = fun t => cnt (hasB (atF sets t)) 1114112 := rfl
  rw [List.map_map, e, k]
  rfl
theorem cls_ok {sets : List (List S38)} : ∀ {L : List (List S38)} {last : Int}, (∀ x ∈ L, rightF x = true ∧ firstF x = lowR x) → L.Pairwise (fun x y => lowR x < lowR y) → (∀ x ∈ L, last < lowR x) → okF last L = true
  | [], _, _, _, _ => rfl
  | x :: L, last, h, hp, hl => by
    obtain ⟨h1, h2⟩ := List.pairwise_cons.1 hp
    have hx := h x (List.mem_cons_self ..)
    have hlx := hl x (List.mem_cons_self ..)
    rw [okF, hx.1, hx.2, decide_eq_true hlx, cls_ok (sets := sets) (fun y hy => h y (List.mem_cons_of_mem _ hy)) h2 h1]
    rfl
theorem cls_right {sets L : List (List S38)} (ha : AtomsOf sets L) (h : Cls sets L) (hs : Short L) (hl : L.length ≤ 200) : rightAF L = true := by
  unfold rightAF
  rw [decide_eq_true h.pos, decide_eq_true hl, disjB_iff.2 (cls_disj h), decide_eq_true (cls_sizes ha hs)]
  have hok : okF (-1) L = true := by
    refine cls_ok (sets := sets) (fun x hx => ⟨?_, (h.first hs hx).1⟩) h.up fun x hx => ?_
    · obtain ⟨P, e⟩ := h.canon hx
      have h4 := hs x hx
      rw [e] at h4 ⊢
      exact right_canon h4
    · have := (h.first hs hx)
      omega
  rw [hok]
  rfl
end Go.Proofs.YtippkbgeeeimjaaGreat.P
/- atom.Of as a function, in the print's shape. -/
namespace Go.Proofs.YtippkbgeeeimjaaGreat.L
open Go.RowKit Go.Shelf Go.Proofs.YtippkbgeeeimjaaGreatW.PrintWords Go.Proofs.YtippkbgeeeimjaaGreatW.PrintLast Go.Proofs.YtippkbgeeeimjaaGreatW.PrintMore Go.Proofs.YtippkbgeeeimjaaGreat.A Go.Proofs.YtippkbgeeeimjaaGreat.P
set_option linter.unusedVariables false
set_option linter.unusedSimpArgs false
theorem R34_foot {W W' : World} {base : Nat} {u : Value} {x : List S38} (h : Kd.R k38 38 W base (fun _ => True) u x) {v : Value} (hv : ∀ k, v.ownBlock = some k → ∃ cells, W.heap[k]? = some (.cells cells 23 (0, 0))) (hm : ∀ k, base ≤ k ∧ some k ≠ v.ownBlock → k < W.heap.size → W'.heap[k]? = W.heap[k]?) : Kd.R k38 38 W' base (fun _ => True) u x := by
  refine Kd.R_mono (Kd.R_move (Kd.R_bound h) (fun k hk => ?_)) (fun _ _ => trivial)
  obtain ⟨_, hb, hlt, q, hq, cells, hc⟩ := hk
  have hE : k38.E = [] := rfl
  rw [hE, List.mem_singleton] at hq
  subst hq
  refine hm k ⟨hb, fun e => ?_⟩ hlt
  obtain ⟨c2, hc2⟩ := hv k e.symm
  rw [hc] at hc2
  injection hc2 with hc2
  injection hc2 with _ h2
  exact absurd h2 (by decide)
theorem OwnRows.N {w : World} {base : Nat} {v : Value} {xs : List (List S38)} (o : OwnRows w base v xs) : Kd.N (Kd.slice 38 k38) 23 w base (fun k => base ≤ k) v xs := by
  obtain ⟨hdrs, ho, hl, hr⟩ := o
  have hone : ∀ u ∈ hdrs, u.oneCell' = true := by
    intro u hu
    obtain ⟨j, hj, e⟩ := List.getElem_of_mem hu
    have h1 : hdrs[j]? = some u := by rw [List.getElem?_eq_getElem hj, e]
    have h2 : xs[j]? = some xs[j] := List.getElem?_eq_getElem (by omega)
    obtain ⟨A, c, e2⟩ := Kd.R_slice (hr j u _ h1 h2)
    rw [e2]
    rfl
  have hty : ∀ k, v.ownBlock = some k → ∃ cells, w.heap[k]? = some (.cells cells 23 (0, 0)) := by
    intro k hk
    rcases ho.2 with ⟨e', _⟩ | ⟨g, cap, cur, e', _, hh, _⟩
    · rw [e'] at hk; cases hk
    · rw [e'] at hk
      have : k = g := by simpa [Value.ownBlock] using hk.symm
      subst this
      exact ⟨_, hh⟩
  have hbase : ∀ k, v.ownBlock = some k → base ≤ k := by
    intro k hk
    rcases ho.2 with ⟨e', _⟩ | ⟨g, cap, cur, e', hg, hh, _⟩
    · rw [e'] at hk; cases hk
    · rw [e'] at hk
      have : k = g := by simpa [Value.ownBlock] using hk.symm
      subst this
      exact hg
  refine ⟨hbase, hdrs.map fun u => [u], by rw [List.length_map, hl], ⟨fun k hk => hk.symm, hdrs, ?_, ?_⟩, ?_⟩
  · rw [List.length_map, hl]
    exact ho
  · refine ⟨by rw [List.length_map, Nat.mul_comm]; exact (Nat.one_mul _).symm, fun j p hp => ?_⟩
    rw [List.getElem?_map] at hp
    obtain ⟨u, hu, rfl⟩ := Option.map_eq_some_iff.1 hp
    have hj := (List.getElem?_eq_some_iff.1 hu).1
    have e : (hdrs.drop (j * 1)).take 1 = [u] := by
      rw [Nat.mul_one, List.drop_eq_getElem_cons hj]
      have := (List.getElem?_eq_some_iff.1 hu).2
      simp [this]
    show (hdrs.drop (j * 1)).take 1 = [u] ∧ ((hdrs.drop (j * 1)).take 1).length = 1 ∧ ∀ z ∈ (hdrs.drop (j * 1)).take 1, z.oneCell' = true
    rw [e]
    exact ⟨rfl, rfl, fun z hz => by rw [List.mem_singleton.1 hz]; exact hone u (List.mem_of_getElem? hu)⟩
  · intro j x c hx hc
    rw [List.getElem?_map] at hc
    obtain ⟨u, hu, rfl⟩ := Option.map_eq_some_iff.1 hc
    have hR := hr j u x hu hx
    obtain ⟨A, c', rfl⟩ := Kd.R_slice hR
    intro W' hW
    have hR' := R34_foot hR hty hW
    obtain ⟨k1, k2, k3⟩ := Kd.R_reads' hR'
    exact ⟨A, c', rfl, k2, k3⟩
noncomputable def atom_Of.f (l0 : List (List S38)) : Option (List (List S38) × Int) := @ite _ (∃ E, Few l0 E) (Classical.propDecidable _) (some (if badB l0 then [] else clsL l0, if badB l0 then 9 else 0)) none
theorem of_f {l0 : List (List S38)} {E : List Int} (f : Few l0 E) : atom_Of.f l0 = some (if badB l0 then [] else clsL l0, if badB l0 then 9 else 0) := by
  unfold atom_Of.f
  exact if_pos ⟨E, f⟩
theorem atom_Of.calls (A0 : Option Addr) (c0 : Nat) (l0 : List (List S38)) (r0 : List (List S38)) (r1 : Int) (w : World) (hr0 : Kd.C (Kd.slice 38 k38) w A0 l0.length l0) (hc0 : l0.length ≤ c0) (h : atom_Of.f l0 = some (r0, r1)) :
    Calls Tryz.prog 6 #[.slice A0 l0.length c0] w fun e w' => ∃ v0_ : Value, e = .returned (.tuple #[v0_, .int .i64 r1]) ∧ Kd.N (Kd.slice 38 k38) 23 w' w.heap.size (fun k_ => w.heap.size ≤ k_) v0_ r0 ∧ Below w.heap.size w w' := by
  unfold atom_Of.f at h
  by_cases q : ∃ E, Few l0 E
  · rw [if_pos q] at h
    obtain ⟨E, f⟩ := q
    have h := Option.some.inj h
    injection h with h1 h2
    refine (of_one A0 c0 l0 w hr0 hc0 f).mono ?_
    rintro e w' ⟨v, he, ho, hb⟩
    rw [h1] at ho
    rw [h2] at he
    exact ⟨v, he, ho.N, hb⟩
  · rw [if_neg q] at h
    cases h
end Go.Proofs.YtippkbgeeeimjaaGreat.L
/- atom.Right: the walk. -/
namespace Go.Proofs.YtippkbgeeeimjaaGreat.L
open Go.RowKit Go.Shelf Go.Proofs.YtippkbgeeeimjaaGreatW.PrintWords Go.Proofs.YtippkbgeeeimjaaGreatW.PrintLast Go.Proofs.YtippkbgeeeimjaaGreatW.PrintMore Go.Proofs.YtippkbgeeeimjaaGreat.A Go.Proofs.YtippkbgeeeimjaaGreat.P
set_option linter.unusedVariables false
set_option linter.unusedSimpArgs false
def lastF (L : List (List S38)) : Int := (L.map firstF).getLastD (-1)
theorem last_cons (z : Int) (M : List Int) (last : Int) : (z :: M).getLastD last = M.getLastD z := by
  cases M with
  | nil => rfl
  | cons b L => simp [List.getLastD]
theorem ok_app (L : List (List S38)) (x : List S38) : ∀ last : Int, okF last (L ++ [x]) = (okF last L && (rightF x && decide ((L.map firstF).getLastD last < firstF x))) := by
  induction L with
  | nil => intro last; simp [okF]
  | cons a L ih =>
    intro last
    rw [List.cons_append, okF, okF, ih, List.map_cons, last_cons, Bool.and_assoc, Bool.and_assoc, Bool.and_assoc]
theorem ok_pre : ∀ (L M : List (List S38)) (last : Int), okF last L = false → okF last (L ++ M) = false
  | [], _, _, h => by cases h
  | a :: L, M, last, h => by
    rw [List.cons_append, okF]
    rw [okF] at h
    cases h1 : (rightF a && decide (last < firstF a)) with
    | false => rfl
    | true =>
      rw [h1, Bool.true_and] at h
      rw [ok_pre L M _ h, Bool.and_false]
theorem ok_right : ∀ {L : List (List S38)} {last : Int}, okF last L = true → ∀ x ∈ L, rightF x = true
  | [], _, _, x, hx => by cases hx
  | a :: L, last, h, x, hx => by
    rw [okF] at h
    simp only [Bool.and_eq_true] at h
    rcases List.mem_cons.1 hx with e | hx
    · rw [e]; exact h.1.1
    · exact ok_right h.2 x hx
theorem right_len {x : List S38} (h : rightF x = true) : x.length ≤ 400 ∧ plF x = x := by
  unfold rightF at h
  simp only [Bool.and_eq_true, decide_eq_true_eq] at h
  exact ⟨h.1, eqF_iff.1 h.2⟩
theorem right_valid {x : List S38} (h : rightF x = true) : ∀ r ∈ x, r.f0 ≤ r.f1 := by
  intro r hr
  rw [← (right_len h).2, plF_eq] at hr
  exact ((canon_spec _).1.1 r hr).2.1
theorem size_rng (x : List S38) : 0 ≤ sizeF x ∧ sizeF x ≤ 1114112 := by
  have := cnt_rng (hasB x) 1114112
  exact ⟨this.1, by have := this.2; unfold sizeF; omega⟩
theorem sizes_rng : ∀ L : List (List S38), 0 ≤ (L.map sizeF).sum ∧ (L.map sizeF).sum ≤ 1114112 * L.length
  | [] => ⟨Int.le_refl _, by simp⟩
  | x :: L => by
    have := sizes_rng L
    have := size_rng x
    rw [List.map_cons, List.sum_cons, List.length_cons]
    omega
theorem flat_len {L : List (List S38)} (h : ∀ x ∈ L, rightF x = true) : L.flatten.length ≤ 400 * L.length := by
  induction L with
  | nil => exact Nat.le_refl _
  | cons x L ih =>
    have h1 := (right_len (h x (List.mem_cons_self ..))).1
    have h2 := ih fun y hy => h y (List.mem_cons_of_mem _ hy)
    rw [List.flatten_cons, List.length_append, List.length_cons]
    omega
def ChUp (ys : List S38) (j : Nat) : Prop := ∀ i, i + 1 < j → i + 1 < ys.length → (rd_T38 ys (i : Int)).f1 < (rd_T38 ys ((i : Int) + 1)).f0
theorem chain_not {ys : List S38} {j j1 : Nat} {x y : Int} (e : j = j1 + 1) (h : j < ys.length) (hx : x = (rd_T38 ys (j : Int)).f0) (hy : y = (rd_T38 ys (j1 : Int)).f1) (hxy : x ≤ y) : ¬ chainB ys := fun hc => by
  have h1 : j1 + 1 < ys.length := by omega
  have := hc j1 h1
  have e2 : ((j1 : Int) + 1) = (j : Int) := by omega
  rw [e2, ← hx, ← hy] at this
  exact absurd hxy (Int.not_le.2 this)
theorem chain_next {ys : List S38} {j j1 : Nat} {x y : Int} (e : j = j1 + 1) (hx : x = (rd_T38 ys (j : Int)).f0) (hy : y = (rd_T38 ys (j1 : Int)).f1) (hxy : ¬ x ≤ y) (hc : ChUp ys j) : ChUp ys (j + 1) := fun i h h' => by
  rcases Nat.lt_or_ge (i + 1) j with q | q
  · exact hc i q h'
  · have e3 : i = j1 := by omega
    have e2 : ((j1 : Int) + 1) = (j : Int) := by omega
    rw [e3, e2, ← hx, ← hy]
    exact Int.not_le.1 hxy
theorem chain_all {ys : List S38} {j : Nat} (h : ¬ j < ys.length) (hc : ChUp ys j) : chainB ys := fun i hi => hc i (by omega) hi
theorem meas_lt {n j : Nat} (h : j < n) : n + 1 - (intOf (Value.int .i64 ((j : Int) + 1))).toNat < n + 1 - (intOf (Value.int .i64 (j : Int))).toNat := by
  simp only [intOf]
  omega
def RiO (w : World) (l0 : List (List S38)) (v3 v4 v5 ui : Value) (W : World) : Prop := ∃ i : Nat, i ≤ l0.length ∧ ui = .int .i64 i ∧ v3 = .int .i64 ((l0.take i).map sizeF).sum ∧ v4 = .int .i64 (lastF (l0.take i)) ∧ okF (-1) (l0.take i) = true ∧ Kd.R k38 38 W w.heap.size (fun _ => True) v5 (l0.take i).flatten ∧ Below w.heap.size w W
theorem right_no {l0 : List (List S38)} (h : 0 < l0.length ∧ l0.length ≤ 200 → okF (-1) l0 = false) : rightAF l0 = false := by
  unfold rightAF
  by_cases h1 : 0 < l0.length
  · by_cases h2 : l0.length ≤ 200
    · rw [h ⟨h1, h2⟩]
      simp
    · simp [h2]
  · simp [h1]
theorem right_fin {l0 : List (List S38)} (h1 : 0 < l0.length) (h2 : l0.length ≤ 200) (hok : okF (-1) l0 = true) {ys : List S38} (hp : ys.Perm l0.flatten) (hr : RisesG ys) :
    (chainB ys → rightAF l0 = decide ((l0.map sizeF).sum = 1114112)) ∧ (¬ chainB ys → rightAF l0 = false) := by
  have hv : ∀ r ∈ ys, r.f0 ≤ r.f1 := by
    intro r hr'
    obtain ⟨x, hx, hrx⟩ := List.mem_flatten.1 (hp.mem_iff.1 hr')
    exact right_valid (ok_right hok x hx) r hrx
  have hc := chain_iff hv hr
  rw [apart_perm hp] at hc
  unfold rightAF
  rw [decide_eq_true h1, decide_eq_true h2, hok]
  constructor
  · intro h
    rw [disjB_iff.2 (hc.1 h)]
    simp
  · intro h
    cases hd : disjB l0.flatten with
    | false => simp
    | true => exact absurd (hc.2 (disjB_iff.1 hd)) h
set_option maxRecDepth 100000 in
set_option maxHeartbeats 4000000 in
theorem right_bad (A0 : Option Addr) (c0 : Nat) (l0 : List (List S38)) (w : World) (h : l0.length = 0 ∨ 200 < l0.length) :
    Calls Tryz.prog 16 #[.slice A0 l0.length c0] w fun e w' => e = .returned (.bool false) ∧ Below w.heap.size w w' := by
  rcases h with h | h
  · have b1 : ((l0.length : Int) == 0) = true := beq_iff_eq.2 (by omega)
    have b2 : (l0.length : Int) = 0 := by omega
    go_enter Tryz.func16, Tryz.ntmps16
    go_wp2_with fail
    go_ret
    exact ⟨rfl, Below.refl _ _⟩
  · have b1 : ((l0.length : Int) == 0) = false := beq_eq_false_iff_ne.2 (by omega)
    have b3 : decide ((200 : Int) < (l0.length : Int)) = true := decide_eq_true (by omega)
    have b4 : decide (200 < l0.length) = true := decide_eq_true (by omega)
    have b5 : (200 : Int) < (l0.length : Int) := by omega
    have b6 : l0.length ≠ 0 := by omega
    go_enter Tryz.func16, Tryz.ntmps16
    go_wp2_with fail
    go_ret
    exact ⟨rfl, Below.refl _ _⟩
set_option maxRecDepth 100000 in
set_option maxHeartbeats 4000000 in
theorem right_main (A0 : Option Addr) (c0 : Nat) (l0 : List (List S38)) (w : World) (hr0 : Kd.C (Kd.slice 38 k38) w A0 l0.length l0) (hc0 : l0.length ≤ c0) (h1 : 0 < l0.length) (h2 : l0.length ≤ 200) :
    Calls Tryz.prog 16 #[.slice A0 l0.length c0] w fun e w' => e = .returned (.bool (rightAF l0)) ∧ Below w.heap.size w w' := by
  have b1 : ((l0.length : Int) == 0) = false := beq_eq_false_iff_ne.2 (by omega)
  have b3 : decide ((200 : Int) < (l0.length : Int)) = false := decide_eq_false (by omega)
  have b4 : decide (200 < l0.length) = false := decide_eq_false (by omega)
  have b5 : ¬ (200 : Int) < (l0.length : Int) := by omega
  have b6 : l0.length ≠ 0 := by omega
  have HR := Aside0.mk hr0
  have HC := Aside0.mk hc0
  have H1 := Aside0.mk h1
  have H2 := Aside0.mk h2
  clear hr0 hc0 h1 h2
  go_enter Tryz.func16, Tryz.ntmps16
  go_wp2_with fail
  clear b1 b3 b4 b5 b6
  go_loopw [3, 4, 5, 20] (fun v3 v4 v5 ui W => RiO w l0 v3 v4 v5 ui W) (fun v3 v4 v5 ui W => l0.length - (intOf ui).toNat)
  case atStart => exact ⟨0, Nat.zero_le _, rfl, rfl, rfl, rfl, Kd.R_nil _ _ _ _ _, Below.refl _ _⟩
  case round =>
    obtain ⟨i, hi, rfl, rfl, rfl, hok, hR, hb⟩ := hrel
    have HB := Aside0.mk hb
    have HO := Aside0.mk hok
    have HL := Aside0.mk (flat_len (ok_right hok))
    have hsz := sizes_rng (l0.take i)
    obtain ⟨sz, esz⟩ : ∃ z, z = ((l0.take i).map sizeF).sum := ⟨_, rfl⟩
    obtain ⟨lst, elst⟩ : ∃ z, z = lastF (l0.take i) := ⟨_, rfl⟩
    rw [← esz] at hsz ⊢
    rw [← elst]
    have hsz2 : 0 ≤ sz ∧ sz ≤ 222822400 := by
      have q1 := hsz.2
      have q2 := H2.out
      rw [List.length_take] at q1
      omega
    have HSZ := Aside0.mk hsz2
    have ESZ := Aside0.mk esz
    have ELS := Aside0.mk elst
    obtain ⟨all, eall⟩ : ∃ z, z = (l0.take i).flatten := ⟨_, rfl⟩
    rw [← eall] at hR HL
    have EAL := Aside0.mk eall
    obtain ⟨Aa, ca, rfl⟩ := Kd.R_slice hR
    have HA := Aside0.mk hR
    clear hb hok hsz hsz2 esz elst eall hR
    by_cases hlt : i < l0.length
    · have b3 : decide ((i : Int) < (l0.length : Int)) = true := decide_eq_true (by omega)
      have b4 : decide (i < l0.length) = true := decide_eq_true hlt
      obtain ⟨ad, As, cs, rfl, k0, k1, k2⟩ := at_L3 (Kd.C_below HR.out HB.out) (i : Int) (by omega) (by omega)
      rw [Int.toNat_natCast] at k0
      have hq0 : 0 ≤ (i : Int) := by omega
      have hq1 : (i : Int) < (l0.length : Int) := by omega
      obtain ⟨s, hs⟩ : ∃ s, s = rd_L3 l0 i := ⟨_, rfl⟩
      rw [← hs] at k0 k1 k2
      have hel : l0[i]? = some s := by
        rw [hs]
        unfold rd_L3
        rw [Int.toNat_natCast, List.getD_eq_getElem?_getD, List.getElem?_eq_getElem hlt]
        rfl
      have htk : l0.take (i + 1) = l0.take i ++ [s] := by rw [List.take_add_one, hel]; rfl
      have hsp : l0 = l0.take (i + 1) ++ l0.drop (i + 1) := (List.take_append_drop _ _).symm
      have HTK := Aside0.mk htk
      have HSP := Aside0.mk hsp
      have HK1 := Aside0.mk k1
      have HK2 := Aside0.mk k2
      clear hel hs k1 k2 htk hsp
      obtain ⟨fs, hfs⟩ : ∃ z, firstF s = z := ⟨_, rfl⟩
      obtain ⟨rs, hrs⟩ : ∃ z, rightF s = z := ⟨_, rfl⟩
      obtain ⟨zs, hzs⟩ : ∃ z, sizeF s = z := ⟨_, rfl⟩
      have HFS := Aside0.mk hfs
      have HRS := Aside0.mk hrs
      have HZS := Aside0.mk hzs
      clear hfs hrs hzs
      go_wp2_with fail
      generalize wr = Wo at *
      refine (c26 As cs s Wo HK2.out HK1.out fs HFS.out).mono ?_
      rintro e W1 ⟨rfl, hb⟩
      have HB1 := Aside0.mk (HB.out.trans (hb.mono HB.out.size))
      have HA1 := Aside0.mk (Kd.R_below HA.out hb)
      have HK21 := Aside0.mk (Kd.C_below HK2.out hb)
      clear hb HB HA HK2 k0
      go_wp2_with fail
      refine (c32 As cs s W1 HK21.out HK1.out rs HRS.out).mono ?_
      rintro e W2 ⟨rfl, hb⟩
      have HB2 := Aside0.mk (HB1.out.trans (hb.mono HB1.out.size))
      have HA2 := Aside0.mk (Kd.R_below HA1.out hb)
      have HK22 := Aside0.mk (Kd.C_below HK21.out hb)
      clear hb HB1 HA1 HK21
      cases rs with
      | false =>
        have hno : rightAF l0 = false := right_no fun _ => by
          rw [HSP.out]
          refine ok_pre _ _ _ ?_
          rw [HTK.out, ok_app, HRS.out]
          simp
        have HNO := Aside0.mk hno
        clear hno
        go_wp2_with fail
        go_ret
        exact ⟨by rw [HNO.out]; rfl, HB2.out⟩
      | true =>
        by_cases hle : fs ≤ lst
        · have d1 : decide (fs ≤ lst) = true := decide_eq_true hle
          have hno : rightAF l0 = false := right_no fun _ => by
            rw [HSP.out]
            refine ok_pre _ _ _ ?_
            have e : ((l0.take i).map firstF).getLastD (-1) = lst := ELS.out.symm
            rw [HTK.out, ok_app, HRS.out, e, HFS.out, decide_eq_false (by omega : ¬ lst < fs)]
            simp
          have HNO := Aside0.mk hno
          clear hno
          go_wp2_with fail
          go_ret
          exact ⟨by rw [HNO.out]; rfl, HB2.out⟩
        · have d1 : decide (fs ≤ lst) = false := decide_eq_false hle
          have hok1 : okF (-1) (l0.take (i + 1)) = true := by
            have e : ((l0.take i).map firstF).getLastD (-1) = lst := ELS.out.symm
            rw [HTK.out, ok_app, HO.out, HRS.out, e, HFS.out, decide_eq_true (by omega : lst < fs)]
            rfl
          have HO1 := Aside0.mk hok1
          have hzr := size_rng s
          rw [HZS.out] at hzr
          have hsum : wrap64 (sz + zs) = sz + zs := w64 (by have := HSZ.out; omega) (by have := HSZ.out; omega)
          have hsum2 : IntKind.i64.wrap (sz + zs) = sz + zs := IntWalk.i64_in _ (by have := HSZ.out; omega)
          have hlast : lastF (l0.take (i + 1)) = fs := by
            unfold lastF
            rw [HTK.out, List.map_append, List.map_cons, List.map_nil, List.getLastD_concat, HFS.out]
          have HLA := Aside0.mk hlast
          have hsl := (right_len HRS.out).1
          have HSL := Aside0.mk hsl
          clear hok1 hzr hlast hsl hle
          go_wp2_with fail
          refine (c28 As cs s W2 HK22.out HK1.out zs HZS.out).mono ?_
          rintro e W3 ⟨rfl, hb⟩
          have HB3 := Aside0.mk (HB2.out.trans (hb.mono HB2.out.size))
          have HA3 := Aside0.mk (Kd.R_below HA2.out hb)
          have HK23 := Aside0.mk (Kd.C_below HK22.out hb)
          clear hb HB2 HA2 HK22
          have w2 : IntKind.i64.wrap ((i : Int) + 1) = (i : Int) + 1 := IntWalk.i64_in _ (by have := H2.out; omega)
          have w3 : wrap64 ((i : Int) + 1) = (i : Int) + 1 := w64 (by omega) (by have := H2.out; omega)
          have hll : all.length ≤ 80000 := by
            have q1 := HL.out
            have q2 := H2.out
            rw [List.length_take] at q1
            omega
          have HLL := Aside0.mk hll
          clear hll
          go_wp2_with ((with_reducible refine gate_builtin (b := .append) (xs := #[.tmp 39, .tmp 40]) rfl ?_); at_builtin; refine Kd.R_append_rows k38 (w0 := w) w.heap.size rfl (.tmp 39) (.tmp 40) 23 38 (.agg #[(.int .i64 0), (.int .i64 0)]) 16 rfl Tryz.underlying23 info38 rfl (by decide) (by omega) (.slice Aa all.length ca) all s _ _ _ (fun _ => True) (fun _ => False) rfl rfl HA3.out HK23.out (fun _ _ h => h) (fun _ h => h.elim) (fun _ _ => trivial) HB3.out HB3.out.size (by have := HLL.out; have := HSL.out; omega) ?_; intro v' w1 ho hb hg hat; have E1 := Aside0.mk ho; have E2 := Aside0.mk hb; clear ho hb hg hat)
          go_roundw
          case rel => exact ⟨i + 1, hlt, by go_num, (by rw [HTK.out, List.map_append, List.sum_append, ← ESZ.out, List.map_cons, List.map_nil, List.sum_cons, HZS.out]; simp), (by rw [HLA.out]), HO1.out, (by rw [HTK.out, List.flatten_append, ← EAL.out]; simpa using E1.out), E2.out⟩
          case measure => simp [intOf]; omega
    · have b3 : decide ((i : Int) < (l0.length : Int)) = false := decide_eq_false (by omega)
      have b4 : decide (i < l0.length) = false := decide_eq_false hlt
      obtain rfl : i = l0.length := by omega
      have hll : all.length < 4611686018427387904 := by
        have q1 := HL.out
        have q2 := H2.out
        rw [List.length_take] at q1
        omega
      have hll2 : all.length ≤ 80000 := by
        have q1 := HL.out
        have q2 := H2.out
        rw [List.length_take] at q1
        omega
      have HLL := Aside0.mk hll2
      have hfull : l0.take l0.length = l0 := List.take_length
      rw [hfull] at HO ESZ EAL ELS
      have hfin := fun ys => @right_fin l0 H1.out H2.out HO.out ys
      rw [← EAL.out, ← ESZ.out] at hfin
      have HF := Aside0.mk hfin
      clear hfin hfull hlt
      go_wp2_with fail
      generalize wr = Wo at *
      refine (sort_ranges HA.out HB.out hll).mono ?_
      rintro e W1 ⟨rfl, ys, hp, hrs, hRy, hb, _, _⟩
      have hlen : ys.length = all.length := hp.length_eq
      rw [← hlen]
      have HF2 := Aside0.mk (HF.out ys hp hrs)
      have HY := Aside0.mk hRy
      have HB1 := Aside0.mk hb
      have HLL2 : Aside0 (ys.length ≤ 80000) := ⟨by rw [hlen]; exact HLL.out⟩
      clear hp hrs hRy hb HA HB HF hll hlen
      go_wp2_with fail
      go_loopw [9] (fun u W => ∃ j : Nat, 1 ≤ j ∧ j ≤ ys.length + 1 ∧ u = .int .i64 j ∧ ChUp ys j ∧ Below W1.heap.size W1 W) (fun u W => ys.length + 1 - (intOf u).toNat)
      case atStart => exact ⟨1, Nat.le_refl _, by omega, rfl, fun i h => by omega, Below.refl _ _⟩
      case round =>
        obtain ⟨j, hj1, hj2, rfl, hch, hb⟩ := hrel
        have HB2 := Aside0.mk hb
        have HCH := Aside0.mk hch
        have hjb := HLL2.out
        clear hb hch
        by_cases hlt : j < ys.length
        · have b1 : decide ((j : Int) < (ys.length : Int)) = true := decide_eq_true (by omega)
          have b2 : decide (j < ys.length) = true := decide_eq_true hlt
          have q0 : 0 ≤ (j : Int) := by omega
          have q1 : (j : Int) < (ys.length : Int) := by omega
          obtain ⟨j1, ej1⟩ : ∃ j1, j = j1 + 1 := ⟨j - 1, by omega⟩
          have w0 : IntKind.i64.wrap ((j : Int) - 1) = (j1 : Int) := by rw [IntWalk.i64_in _ (by omega)]; omega
          have w0' : wrap64 ((j : Int) - 1) = (j1 : Int) := by rw [w64 (by omega) (by omega)]; omega
          have q2 : 0 ≤ (j1 : Int) := by omega
          have q3 : (j1 : Int) < (ys.length : Int) := by omega
          have HRd := (Kd.R_reads' HY.out).2.2
          obtain ⟨ad, rfl, k0, k1⟩ := at_T38 (Kd.C_below HRd HB2.out) (j : Int) (by omega) (by omega)
          obtain ⟨ad', e', k2, k3⟩ := at_T38 (Kd.C_below HRd HB2.out) (j1 : Int) (by omega) (by omega)
          cases e'
          rw [Int.toNat_natCast] at k0 k1 k2 k3
          obtain ⟨x, hx⟩ : ∃ x, x = (rd_T38 ys (j : Int)).f0 := ⟨_, rfl⟩
          obtain ⟨y, hy⟩ : ∃ y, y = (rd_T38 ys (j1 : Int)).f1 := ⟨_, rfl⟩
          rw [← hx] at k0
          rw [← hy] at k3
          have HX := Aside0.mk hx
          have HY1 := Aside0.mk hy
          clear hx hy k1 k2 HRd
          have w2 : IntKind.i64.wrap ((j : Int) + 1) = (j : Int) + 1 := IntWalk.i64_in _ (by omega)
          have w3 : wrap64 ((j : Int) + 1) = (j : Int) + 1 := w64 (by omega) (by omega)
          have EJ := Aside0.mk ej1
          by_cases hxy : x ≤ y
          · have d1 : decide (x ≤ y) = true := decide_eq_true hxy
            have hno : rightAF l0 = false := HF2.out.2 (chain_not ej1 hlt HX.out HY1.out hxy)
            have HNO := Aside0.mk hno
            clear hxy hno ej1
            go_upto_region 19 with (fail)
            go_quiet (fail)
            go_wp2_with fail
            go_ret
            exact ⟨by rw [HNO.out]; rfl, HB1.out.trans ((pw_below_drewN HB2.out _).mono HB1.out.size)⟩
          · have d1 : decide (x ≤ y) = false := decide_eq_false hxy
            clear hxy ej1
            go_upto_region 19 with (fail)
            go_quiet (fail)
            go_wp2_with fail
            go_roundw
            case rel =>
              exact ⟨j + 1, Nat.le_add_left _ _, Nat.succ_le_succ (Nat.le_of_lt (of_decide_eq_true b2)), by go_num, chain_next EJ.out HX.out HY1.out (of_decide_eq_false d1) HCH.out, pw_below_drewN HB2.out _⟩
            case measure => exact meas_lt (of_decide_eq_true b2)
        · have b1 : decide ((j : Int) < (ys.length : Int)) = false := decide_eq_false (by omega)
          have b2 : decide (j < ys.length) = false := decide_eq_false hlt
          have hyes := HF2.out.1 (chain_all hlt HCH.out)
          have HYES := Aside0.mk hyes
          clear hyes
          cases hz : decide (sz = 1114112) with
          | true =>
            have d1 : (sz == 1114112) = true := beq_iff_eq.2 (of_decide_eq_true hz)
            go_wp2_with fail
            go_ret
            exact ⟨by rw [HYES.out, hz]; rfl, HB1.out.trans (HB2.out.mono HB1.out.size)⟩
          | false =>
            have d1 : (sz == 1114112) = false := beq_eq_false_iff_ne.2 (of_decide_eq_false hz)
            go_wp2_with fail
            go_ret
            exact ⟨by rw [HYES.out, hz]; rfl, HB1.out.trans (HB2.out.mono HB1.out.size)⟩
theorem c37 (A0 : Option Addr) (c0 : Nat) (l0 : List (List S38)) (w : World) (hr0 : Kd.C (Kd.slice 38 k38) w A0 l0.length l0) (hc0 : l0.length ≤ c0) :
    Calls Tryz.prog 16 #[.slice A0 l0.length c0] w fun e w' => e = .returned (.bool (rightAF l0)) ∧ Below w.heap.size w w' := by
  by_cases h1 : 0 < l0.length
  · by_cases h2 : l0.length ≤ 200
    · exact right_main A0 c0 l0 w hr0 hc0 h1 h2
    · rw [right_no fun h => absurd h.2 h2]
      exact right_bad A0 c0 l0 w (Or.inr (by omega))
  · rw [right_no fun h => absurd h.1 h1]
    exact right_bad A0 c0 l0 w (Or.inl (by omega))
noncomputable def atom_Right.f (l0 : List (List S38)) : Option Bool := some (rightAF l0)
theorem atom_Right.calls (A0 : Option Addr) (c0 : Nat) (l0 : List (List S38)) (r : Bool) (w : World) (hr0 : Kd.C (Kd.slice 38 k38) w A0 l0.length l0) (hc0 : l0.length ≤ c0) (h : atom_Right.f l0 = some r) :
    Calls Tryz.prog 16 #[.slice A0 l0.length c0] w fun e w' => e = .returned (.bool r) ∧ Below w.heap.size w w' := Option.some.inj h ▸ c37 A0 c0 l0 w hr0 hc0
end Go.Proofs.YtippkbgeeeimjaaGreat.L
namespace Go.Proofs.YtippkbgeeeimjaaGreat.AA
open Go.RowKit Go.Proofs.YtippkbgeeeimjaaGreatW.PrintWords Go.Proofs.YtippkbgeeeimjaaGreatW.PrintLast Go.Proofs.YtippkbgeeeimjaaGreatW.PrintMore Go.Proofs.YtippkbgeeeimjaaGreat.A Go.Proofs.YtippkbgeeeimjaaGreat.L Go.Proofs.YtippkbgeeeimjaaGreat.B Go.Proofs.YtippkbgeeeimjaaGreat.D
attribute [local go_sem] max2_int min2_int max_two min_two max_three min_three max_four min_four   -- for this text's walks alone
set_option linter.unusedVariables false
set_option linter.unusedSimpArgs false
def errW : Option Int → Value
  | none => .nilIface
  | some c => .iface 0 (.int .i64 c)
theorem errW_none : errW none = .nilIface := rfl
theorem errW_some (c : Int) : errW (some c) = .iface 0 (.int .i64 c) := rfl
theorem info3 : (Tryz.prog.info? 3).map (fun i => (i.zero, i.size, i.bytes)) = some (some (.int .i64 0), 1, 8) := by kernel_rfl
theorem info23 : (Tryz.prog.info? 23).map (fun i => (i.zero, i.size, i.bytes)) = some (some (.slice none 0 0), 1, 24) := by kernel_rfl
theorem info38 : (Tryz.prog.info? 38).map (fun i => (i.zero, i.size, i.bytes)) = some (some (.agg #[(.int .i64 0), (.int .i64 0)]), 2, 16) := by kernel_rfl
def rd_L2 (xs : List (List S38)) (i : Int) : (List S38) := xs.getD i.toNat ([] : List S38)
theorem at_L2 {w : World} {A : Option Addr} {n : Nat} {xs : List (List S38)} (h : Kd.C (Kd.slice 38 k38) w A n xs) (i : Int) (h0 : 0 ≤ i) (h1 : i < n) : ∃ ad A0 c0, A = some ad ∧ w.cell? (ad.add i.toNat) = some (.slice A0 (rd_L2 xs i).length c0) ∧ (rd_L2 xs i).length ≤ c0 ∧ k38.C w A0 (rd_L2 xs i).length (rd_L2 xs i) := by
  obtain ⟨ad, c, e, _, hK, hc0⟩ := Kd.C_get h ([] : List S38) i h0 h1
  have hc : ∀ j u, c[j]? = some u → w.cell? (ad.add (i.toNat * 1 + j)) = some u := hc0
  obtain ⟨A0, c0, rfl, l0, g0⟩ := hK
  exact ⟨ad, A0, c0, e, by have hq := hc 0 _ rfl; rwa [Nat.mul_one, Nat.add_zero] at hq, l0, g0⟩
end Go.Proofs.YtippkbgeeeimjaaGreat.AA
namespace Go.Proofs.YtippkbgeeeimjaaGreat.AA
noncomputable section
open Go.RowKit Go.Proofs.YtippkbgeeeimjaaGreatW.PrintWords Go.Proofs.YtippkbgeeeimjaaGreatW.PrintLast Go.Proofs.YtippkbgeeeimjaaGreatW.PrintMore Go.Proofs.YtippkbgeeeimjaaGreat.A Go.Proofs.YtippkbgeeeimjaaGreat.L Go.Proofs.YtippkbgeeeimjaaGreat.B Go.Proofs.YtippkbgeeeimjaaGreat.D
attribute [local go_sem] max2_int min2_int max_two min_two max_three min_three max_four min_four   -- for this text's walks alone
set_option linter.unusedVariables false
set_option linter.unusedSimpArgs false
def caesuralaw02_alive.f (k : Nat)  : Option (Bool) := (atom_Of.f (([(([(⟨97, 99⟩ : S38)] : List (S38))), (([(⟨98, 98⟩ : S38)] : List (S38)))] : List (List (S38))))).bind fun bt110 => (if bt110.2 = 0 then (if (bt110.1.length : Int) = 3 then ((atom_Firsts.f k bt110.1).bind fun t114 => ((caesuraref01_Ints.f k t114 (([0, 97, 98] : List Int))).bind fun t120 => (if t120 = true then ((atom_Class.f bt110.1 99).bind fun t121 => (if t121 = 1 then ((atom_Class.f bt110.1 (-1)).bind fun t122 => (if t122 = (-1) then ((atom_Within.f k bt110.1 (([(⟨97, 99⟩ : S38)] : List (S38)))).bind fun t126 => ((caesuraref01_Ints.f k t126 (([1, 2] : List Int))).bind fun t132 => (if t132 = true then ((atom_Right.f bt110.1).bind fun t133 => (if t133 = true then (if 1 ≤ (bt110.1.length : Int) then ((atom_Right.f (bt110.1.drop 1)).bind fun t139 => (some (!t139))) else (none)) else (some false))) else (some false)))) else (some false))) else (some false))) else (some false)))) else (some false)) else (some false))
theorem caesuralaw02_alive.mono : ∀ k, LeO (caesuralaw02_alive.f k ) (caesuralaw02_alive.f (k + 1) ) := by
  intro  k
  unfold caesuralaw02_alive.f
  repeat' first
      | (with_reducible exact atom_Firsts.mono _ _)
      | (with_reducible exact atom_Within.mono _ _ _)
      | (with_reducible exact caesuraref01_Ints.mono _ _ _)
      | (with_reducible exact LeO.refl _)
      | (with_reducible exact LeO.none _)
      | (with_reducible refine LeO.ite ?_ ?_)
      | (with_reducible refine LeO.bind ?_ (fun _ => ?_))
      | exact atom_Firsts.mono _ _
      | exact atom_Within.mono _ _ _
      | exact caesuraref01_Ints.mono _ _ _
      | exact LeO.none _
      | refine LeO.ite ?_ ?_
      | refine LeO.bind ?_ (fun _ => ?_)
set_option maxHeartbeats 8000000 in
set_option maxRecDepth 100000 in
theorem caesuralaw02_alive.calls (k : Nat)  (r : Bool) (w : World) (h : caesuralaw02_alive.f k  = some r) (hrt_ : Aside0 (r = true)) :
    Calls Tryz.prog 4 #[] w fun e w' => e = .returned (.bool r) ∧ Below w.heap.size w w' := by
  have hu38 := Tryz.underlying38
  have HB := Aside0.mk (Below.refl w.heap.size w)
  have H : ((atom_Of.f (([(([(⟨97, 99⟩ : S38)] : List (S38))), (([(⟨98, 98⟩ : S38)] : List (S38)))] : List (List (S38))))).bind fun bt110 => (if bt110.2 = 0 then (if (bt110.1.length : Int) = 3 then ((atom_Firsts.f k bt110.1).bind fun t114 => ((caesuraref01_Ints.f k t114 (([0, 97, 98] : List Int))).bind fun t120 => (if t120 = true then ((atom_Class.f bt110.1 99).bind fun t121 => (if t121 = 1 then ((atom_Class.f bt110.1 (-1)).bind fun t122 => (if t122 = (-1) then ((atom_Within.f k bt110.1 (([(⟨97, 99⟩ : S38)] : List (S38)))).bind fun t126 => ((caesuraref01_Ints.f k t126 (([1, 2] : List Int))).bind fun t132 => (if t132 = true then ((atom_Right.f bt110.1).bind fun t133 => (if t133 = true then (if 1 ≤ (bt110.1.length : Int) then ((atom_Right.f (bt110.1.drop 1)).bind fun t139 => (some (!t139))) else (none)) else (some false))) else (some false)))) else (some false))) else (some false))) else (some false)))) else (some false)) else (some false))) = some r := h
  clear h
  obtain ⟨y101, hy101⟩ : ∃ y_ : List (S38), y_ = (([(⟨97, 99⟩ : S38)] : List (S38))) := ⟨_, rfl⟩
  replace H : ((atom_Of.f (([y101, (([(⟨98, 98⟩ : S38)] : List (S38)))] : List (List (S38))))).bind fun bt110 => (if bt110.2 = 0 then (if (bt110.1.length : Int) = 3 then ((atom_Firsts.f k bt110.1).bind fun t114 => ((caesuraref01_Ints.f k t114 (([0, 97, 98] : List Int))).bind fun t120 => (if t120 = true then ((atom_Class.f bt110.1 99).bind fun t121 => (if t121 = 1 then ((atom_Class.f bt110.1 (-1)).bind fun t122 => (if t122 = (-1) then ((atom_Within.f k bt110.1 (([(⟨97, 99⟩ : S38)] : List (S38)))).bind fun t126 => ((caesuraref01_Ints.f k t126 (([1, 2] : List Int))).bind fun t132 => (if t132 = true then ((atom_Right.f bt110.1).bind fun t133 => (if t133 = true then (if 1 ≤ (bt110.1.length : Int) then ((atom_Right.f (bt110.1.drop 1)).bind fun t139 => (some (!t139))) else (none)) else (some false))) else (some false)))) else (some false))) else (some false))) else (some false)))) else (some false)) else (some false))) = some r := by first | (rw [hy101]; with_reducible exact H) | (have H2_ := (Option.bind_some _ _).symm.trans H; rw [hy101]; with_reducible exact H2_) | (have H2_ := (Option.bind_some _ _).symm.trans H; with_reducible exact H2_) | with_reducible exact H | (rw [hy101]; exact H) | exact H
  have Ny101 := Aside0.mk hy101
  clear hy101
  obtain ⟨y104, hy104⟩ : ∃ y_ : List (S38), y_ = (([(⟨98, 98⟩ : S38)] : List (S38))) := ⟨_, rfl⟩
  replace H : ((atom_Of.f (([y101, y104] : List (List (S38))))).bind fun bt110 => (if bt110.2 = 0 then (if (bt110.1.length : Int) = 3 then ((atom_Firsts.f k bt110.1).bind fun t114 => ((caesuraref01_Ints.f k t114 (([0, 97, 98] : List Int))).bind fun t120 => (if t120 = true then ((atom_Class.f bt110.1 99).bind fun t121 => (if t121 = 1 then ((atom_Class.f bt110.1 (-1)).bind fun t122 => (if t122 = (-1) then ((atom_Within.f k bt110.1 (([(⟨97, 99⟩ : S38)] : List (S38)))).bind fun t126 => ((caesuraref01_Ints.f k t126 (([1, 2] : List Int))).bind fun t132 => (if t132 = true then ((atom_Right.f bt110.1).bind fun t133 => (if t133 = true then (if 1 ≤ (bt110.1.length : Int) then ((atom_Right.f (bt110.1.drop 1)).bind fun t139 => (some (!t139))) else (none)) else (some false))) else (some false)))) else (some false))) else (some false))) else (some false)))) else (some false)) else (some false))) = some r := by first | (rw [hy104]; with_reducible exact H) | (have H2_ := (Option.bind_some _ _).symm.trans H; rw [hy104]; with_reducible exact H2_) | (have H2_ := (Option.bind_some _ _).symm.trans H; with_reducible exact H2_) | with_reducible exact H | (rw [hy104]; exact H) | exact H
  have Ny104 := Aside0.mk hy104
  clear hy104
  obtain ⟨y107, hy107⟩ : ∃ y_ : List (List (S38)), y_ = (([y101, y104] : List (List (S38)))) := ⟨_, rfl⟩
  replace H : ((atom_Of.f y107).bind fun bt110 => (if bt110.2 = 0 then (if (bt110.1.length : Int) = 3 then ((atom_Firsts.f k bt110.1).bind fun t114 => ((caesuraref01_Ints.f k t114 (([0, 97, 98] : List Int))).bind fun t120 => (if t120 = true then ((atom_Class.f bt110.1 99).bind fun t121 => (if t121 = 1 then ((atom_Class.f bt110.1 (-1)).bind fun t122 => (if t122 = (-1) then ((atom_Within.f k bt110.1 (([(⟨97, 99⟩ : S38)] : List (S38)))).bind fun t126 => ((caesuraref01_Ints.f k t126 (([1, 2] : List Int))).bind fun t132 => (if t132 = true then ((atom_Right.f bt110.1).bind fun t133 => (if t133 = true then (if 1 ≤ (bt110.1.length : Int) then ((atom_Right.f (bt110.1.drop 1)).bind fun t139 => (some (!t139))) else (none)) else (some false))) else (some false)))) else (some false))) else (some false))) else (some false)))) else (some false)) else (some false))) = some r := by first | (rw [hy107]; with_reducible exact H) | (have H2_ := (Option.bind_some _ _).symm.trans H; rw [hy107]; with_reducible exact H2_) | (have H2_ := (Option.bind_some _ _).symm.trans H; with_reducible exact H2_) | with_reducible exact H | (rw [hy107]; exact H) | exact H
  have Ny107 := Aside0.mk hy107
  clear hy107
  replace H := Option.bind_eq_some_iff.mp H
  obtain ⟨⟨t110, t113⟩, A10, H⟩ := H
  replace H : (if t113 = 0 then (if (t110.length : Int) = 3 then ((atom_Firsts.f k t110).bind fun t114 => ((caesuraref01_Ints.f k t114 (([0, 97, 98] : List Int))).bind fun t120 => (if t120 = true then ((atom_Class.f t110 99).bind fun t121 => (if t121 = 1 then ((atom_Class.f t110 (-1)).bind fun t122 => (if t122 = (-1) then ((atom_Within.f k t110 (([(⟨97, 99⟩ : S38)] : List (S38)))).bind fun t126 => ((caesuraref01_Ints.f k t126 (([1, 2] : List Int))).bind fun t132 => (if t132 = true then ((atom_Right.f t110).bind fun t133 => (if t133 = true then (if 1 ≤ (t110.length : Int) then ((atom_Right.f (t110.drop 1)).bind fun t139 => (some (!t139))) else (none)) else (some false))) else (some false)))) else (some false))) else (some false))) else (some false)))) else (some false)) else (some false)) = some r := H
  have A1 := Aside0.mk A10
  clear A10
  by_cases c2 : t113 = 0
  · rw [if_pos c2] at H
    have c2b0 : (t113 == 0) = true := beq_iff_eq.mpr c2
    have c2b1 : (t113 != 0) = false := bne_eq_false_iff_eq.mpr c2
    clear c2
    by_cases c3 : (t110.length : Int) = 3
    · rw [if_pos c3] at H
      have c3b0 : ((t110.length : Int) == 3) = true := beq_iff_eq.mpr c3
      have c3b1 : ((t110.length : Int) != 3) = false := bne_eq_false_iff_eq.mpr c3
      clear c3
      replace H := Option.bind_eq_some_iff.mp H
      obtain ⟨t114, A40, H⟩ := H
      replace H : ((caesuraref01_Ints.f k t114 (([0, 97, 98] : List Int))).bind fun t120 => (if t120 = true then ((atom_Class.f t110 99).bind fun t121 => (if t121 = 1 then ((atom_Class.f t110 (-1)).bind fun t122 => (if t122 = (-1) then ((atom_Within.f k t110 (([(⟨97, 99⟩ : S38)] : List (S38)))).bind fun t126 => ((caesuraref01_Ints.f k t126 (([1, 2] : List Int))).bind fun t132 => (if t132 = true then ((atom_Right.f t110).bind fun t133 => (if t133 = true then (if 1 ≤ (t110.length : Int) then ((atom_Right.f (t110.drop 1)).bind fun t139 => (some (!t139))) else (none)) else (some false))) else (some false)))) else (some false))) else (some false))) else (some false))) = some r := H
      have A4 := Aside0.mk A40
      clear A40
      obtain ⟨y117, hy117⟩ : ∃ y_ : List Int, y_ = (([0, 97, 98] : List Int)) := ⟨_, rfl⟩
      replace H : ((caesuraref01_Ints.f k t114 y117).bind fun t120 => (if t120 = true then ((atom_Class.f t110 99).bind fun t121 => (if t121 = 1 then ((atom_Class.f t110 (-1)).bind fun t122 => (if t122 = (-1) then ((atom_Within.f k t110 (([(⟨97, 99⟩ : S38)] : List (S38)))).bind fun t126 => ((caesuraref01_Ints.f k t126 (([1, 2] : List Int))).bind fun t132 => (if t132 = true then ((atom_Right.f t110).bind fun t133 => (if t133 = true then (if 1 ≤ (t110.length : Int) then ((atom_Right.f (t110.drop 1)).bind fun t139 => (some (!t139))) else (none)) else (some false))) else (some false)))) else (some false))) else (some false))) else (some false))) = some r := by first | (rw [hy117]; with_reducible exact H) | (have H2_ := (Option.bind_some _ _).symm.trans H; rw [hy117]; with_reducible exact H2_) | (have H2_ := (Option.bind_some _ _).symm.trans H; with_reducible exact H2_) | with_reducible exact H | (rw [hy117]; exact H) | exact H
      have Ny117 := Aside0.mk hy117
      clear hy117
      replace H := Option.bind_eq_some_iff.mp H
      obtain ⟨t120, A50, H⟩ := H
      replace H : (if t120 = true then ((atom_Class.f t110 99).bind fun t121 => (if t121 = 1 then ((atom_Class.f t110 (-1)).bind fun t122 => (if t122 = (-1) then ((atom_Within.f k t110 (([(⟨97, 99⟩ : S38)] : List (S38)))).bind fun t126 => ((caesuraref01_Ints.f k t126 (([1, 2] : List Int))).bind fun t132 => (if t132 = true then ((atom_Right.f t110).bind fun t133 => (if t133 = true then (if 1 ≤ (t110.length : Int) then ((atom_Right.f (t110.drop 1)).bind fun t139 => (some (!t139))) else (none)) else (some false))) else (some false)))) else (some false))) else (some false))) else (some false)) = some r := H
      have A5 := Aside0.mk A50
      clear A50
      by_cases c6 : t120 = true
      · subst c6
        have H1 : ((atom_Class.f t110 99).bind fun t121 => (if t121 = 1 then ((atom_Class.f t110 (-1)).bind fun t122 => (if t122 = (-1) then ((atom_Within.f k t110 (([(⟨97, 99⟩ : S38)] : List (S38)))).bind fun t126 => ((caesuraref01_Ints.f k t126 (([1, 2] : List Int))).bind fun t132 => (if t132 = true then ((atom_Right.f t110).bind fun t133 => (if t133 = true then (if 1 ≤ (t110.length : Int) then ((atom_Right.f (t110.drop 1)).bind fun t139 => (some (!t139))) else (none)) else (some false))) else (some false)))) else (some false))) else (some false))) = some r := by rw [if_pos rfl] at H; exact H
        clear H
        have H := H1
        clear H1
        replace H := Option.bind_eq_some_iff.mp H
        obtain ⟨t121, A70, H⟩ := H
        replace H : (if t121 = 1 then ((atom_Class.f t110 (-1)).bind fun t122 => (if t122 = (-1) then ((atom_Within.f k t110 (([(⟨97, 99⟩ : S38)] : List (S38)))).bind fun t126 => ((caesuraref01_Ints.f k t126 (([1, 2] : List Int))).bind fun t132 => (if t132 = true then ((atom_Right.f t110).bind fun t133 => (if t133 = true then (if 1 ≤ (t110.length : Int) then ((atom_Right.f (t110.drop 1)).bind fun t139 => (some (!t139))) else (none)) else (some false))) else (some false)))) else (some false))) else (some false)) = some r := H
        have A7 := Aside0.mk A70
        clear A70
        by_cases c8 : t121 = 1
        · rw [if_pos c8] at H
          have c8b0 : (t121 == 1) = true := beq_iff_eq.mpr c8
          have c8b1 : (t121 != 1) = false := bne_eq_false_iff_eq.mpr c8
          clear c8
          replace H := Option.bind_eq_some_iff.mp H
          obtain ⟨t122, A90, H⟩ := H
          replace H : (if t122 = (-1) then ((atom_Within.f k t110 (([(⟨97, 99⟩ : S38)] : List (S38)))).bind fun t126 => ((caesuraref01_Ints.f k t126 (([1, 2] : List Int))).bind fun t132 => (if t132 = true then ((atom_Right.f t110).bind fun t133 => (if t133 = true then (if 1 ≤ (t110.length : Int) then ((atom_Right.f (t110.drop 1)).bind fun t139 => (some (!t139))) else (none)) else (some false))) else (some false)))) else (some false)) = some r := H
          have A9 := Aside0.mk A90
          clear A90
          by_cases c10 : t122 = (-1)
          · rw [if_pos c10] at H
            have c10b0 : (t122 == (-1)) = true := beq_iff_eq.mpr c10
            have c10b1 : (t122 != (-1)) = false := bne_eq_false_iff_eq.mpr c10
            clear c10
            obtain ⟨y123, hy123⟩ : ∃ y_ : List (S38), y_ = (([(⟨97, 99⟩ : S38)] : List (S38))) := ⟨_, rfl⟩
            replace H : ((atom_Within.f k t110 y123).bind fun t126 => ((caesuraref01_Ints.f k t126 (([1, 2] : List Int))).bind fun t132 => (if t132 = true then ((atom_Right.f t110).bind fun t133 => (if t133 = true then (if 1 ≤ (t110.length : Int) then ((atom_Right.f (t110.drop 1)).bind fun t139 => (some (!t139))) else (none)) else (some false))) else (some false)))) = some r := by first | (rw [hy123]; with_reducible exact H) | (have H2_ := (Option.bind_some _ _).symm.trans H; rw [hy123]; with_reducible exact H2_) | (have H2_ := (Option.bind_some _ _).symm.trans H; with_reducible exact H2_) | with_reducible exact H | (rw [hy123]; exact H) | exact H
            have Ny123 := Aside0.mk hy123
            clear hy123
            replace H := Option.bind_eq_some_iff.mp H
            obtain ⟨t126, A110, H⟩ := H
            replace H : ((caesuraref01_Ints.f k t126 (([1, 2] : List Int))).bind fun t132 => (if t132 = true then ((atom_Right.f t110).bind fun t133 => (if t133 = true then (if 1 ≤ (t110.length : Int) then ((atom_Right.f (t110.drop 1)).bind fun t139 => (some (!t139))) else (none)) else (some false))) else (some false))) = some r := H
            have A11 := Aside0.mk A110
            clear A110
            obtain ⟨y129, hy129⟩ : ∃ y_ : List Int, y_ = (([1, 2] : List Int)) := ⟨_, rfl⟩
            replace H : ((caesuraref01_Ints.f k t126 y129).bind fun t132 => (if t132 = true then ((atom_Right.f t110).bind fun t133 => (if t133 = true then (if 1 ≤ (t110.length : Int) then ((atom_Right.f (t110.drop 1)).bind fun t139 => (some (!t139))) else (none)) else (some false))) else (some false))) = some r := by first | (rw [hy129]; with_reducible exact H) | (have H2_ := (Option.bind_some _ _).symm.trans H; rw [hy129]; with_reducible exact H2_) | (have H2_ := (Option.bind_some _ _).symm.trans H; with_reducible exact H2_) | with_reducible exact H | (rw [hy129]; exact H) | exact H
            have Ny129 := Aside0.mk hy129
            clear hy129
            replace H := Option.bind_eq_some_iff.mp H
            obtain ⟨t132, A120, H⟩ := H
            replace H : (if t132 = true then ((atom_Right.f t110).bind fun t133 => (if t133 = true then (if 1 ≤ (t110.length : Int) then ((atom_Right.f (t110.drop 1)).bind fun t139 => (some (!t139))) else (none)) else (some false))) else (some false)) = some r := H
            have A12 := Aside0.mk A120
            clear A120
            by_cases c13 : t132 = true
            · subst c13
              have H1 : ((atom_Right.f t110).bind fun t133 => (if t133 = true then (if 1 ≤ (t110.length : Int) then ((atom_Right.f (t110.drop 1)).bind fun t139 => (some (!t139))) else (none)) else (some false))) = some r := by rw [if_pos rfl] at H; exact H
              clear H
              have H := H1
              clear H1
              replace H := Option.bind_eq_some_iff.mp H
              obtain ⟨t133, A140, H⟩ := H
              replace H : (if t133 = true then (if 1 ≤ (t110.length : Int) then ((atom_Right.f (t110.drop 1)).bind fun t139 => (some (!t139))) else (none)) else (some false)) = some r := H
              have A14 := Aside0.mk A140
              clear A140
              by_cases c15 : t133 = true
              · subst c15
                have H1 : (if 1 ≤ (t110.length : Int) then ((atom_Right.f (t110.drop 1)).bind fun t139 => (some (!t139))) else (none)) = some r := by rw [if_pos rfl] at H; exact H
                clear H
                have H := H1
                clear H1
                by_cases c16 : 1 ≤ (t110.length : Int)
                · rw [if_pos c16] at H
                  have c16b0 := eq_true c16
                  have c16b1 : decide (1 ≤ (t110.length : Int)) = true := decide_eq_true c16
                  clear c16
                  obtain ⟨y134, hy134⟩ : ∃ y_ : List (List (S38)), y_ = (t110.drop 1) := ⟨_, rfl⟩
                  replace H : ((atom_Right.f y134).bind fun t139 => (some (!t139))) = some r := by first | (rw [hy134]; with_reducible exact H) | (have H2_ := (Option.bind_some _ _).symm.trans H; rw [hy134]; with_reducible exact H2_) | (have H2_ := (Option.bind_some _ _).symm.trans H; with_reducible exact H2_) | with_reducible exact H | (rw [hy134]; exact H) | exact H
                  have Ny134 := Aside0.mk hy134
                  clear hy134
                  replace H := Option.bind_eq_some_iff.mp H
                  obtain ⟨t139, A170, H⟩ := H
                  replace H : (some (!t139)) = some r := H
                  have A17 := Aside0.mk A170
                  clear A170
                  obtain rfl := Option.some.inj H
                  go_enter Tryz.func4, Tryz.ntmps4
                  go_wp2_with (first | ((with_reducible refine gate_dst (N := 5) rfl ?_); (try (refine gate_guard (by rfl) ?_; dsimp only)); refine Kd.R_lit k38 _ 38 ?hg (N := 5) ?hd (xs := ([(⟨97, 99⟩ : S38)] : List (S38))) (inner := [.int .i64 97, .int .i64 99]) (ok := fun _ => True) (okp := fun _ => True) ?hr ?hp (fun _ hk => hk) trivial (Below.refl _ _) (Nat.le_refl _) (by simp) ?_; (case hd => rfl); (case hg => rfl); (case hr => first | (go_simp; done) | (go_simp; rfl)); (case hp => exact (Reps.c2 (show Kd.M k38 _ _ _ (⟨97, 99⟩ : S38) [.int .i64 97, .int .i64 99] from (k38_mkM _ _ _ (⟨97, 99⟩ : S38) )) (Reps.none _ _))); intro v102 w18 ho19 hb hg_ hnew_; clear hg_ hnew_; (first | rw [← Ny101.out] at ho19 | (simp only [Int.reduceToNat] at ho19; rw [← Ny101.out] at ho19)); have n0_ := Aside0.mk (Kd.R_lower ho19 (below_size (by repeat (first | (with_reducible first | exact HB.out | apply below_alloc | apply pw_below_drewN | apply below_drew1) | exact HB.out)))); have n1_ := Aside0.mk (below_step (by repeat (first | (with_reducible first | exact HB.out | apply below_alloc | apply pw_below_drewN | apply below_drew1) | exact HB.out)) hb); clear HB; have HO103 := n0_; have HB := n1_; clear n0_ n1_; clear hb ho19) | ((with_reducible refine gate_dst (N := 7) rfl ?_); (try (refine gate_guard (by rfl) ?_; dsimp only)); refine Kd.R_lit k38 _ 38 ?hg (N := 7) ?hd (xs := ([(⟨98, 98⟩ : S38)] : List (S38))) (inner := [.int .i64 98, .int .i64 98]) (ok := fun _ => True) (okp := fun _ => True) ?hr ?hp (fun _ hk => hk) trivial (Below.refl _ _) (Nat.le_refl _) (by simp) ?_; (case hd => rfl); (case hg => rfl); (case hr => first | (go_simp; done) | (go_simp; rfl)); (case hp => exact (Reps.c2 (show Kd.M k38 _ _ _ (⟨98, 98⟩ : S38) [.int .i64 98, .int .i64 98] from (k38_mkM _ _ _ (⟨98, 98⟩ : S38) )) (Reps.none _ _))); intro v105 w20 ho21 hb hg_ hnew_; clear hg_ hnew_; (first | rw [← Ny104.out] at ho21 | (simp only [Int.reduceToNat] at ho21; rw [← Ny104.out] at ho21)); have n0_ := Aside0.mk (Kd.R_elder' (by (with_reducible repeat (first | apply Kd.R_alloc | apply Kd.R_drewN | apply Kd.R_drew)); exact HO103.out) (Kd.R_base ho21) hb); have n1_ := Aside0.mk (Kd.R_lower (Kd.R_new' ho21 (Kd.R_lt (by (with_reducible repeat (first | apply Kd.R_alloc | apply Kd.R_drewN | apply Kd.R_drew)); exact HO103.out))) (below_size (by repeat (first | (with_reducible first | exact HB.out | apply below_alloc | apply pw_below_drewN | apply below_drew1) | exact HB.out)))); have n2_ := Aside0.mk (below_step (by repeat (first | (with_reducible first | exact HB.out | apply below_alloc | apply pw_below_drewN | apply below_drew1) | exact HB.out)) hb); clear HO103; clear HB; have HO103 := n0_; have HO106 := n1_; have HB := n2_; clear n0_ n1_ n2_; clear hb ho21; obtain ⟨Ao22, co22, eo22⟩ := Kd.R_slice HO103.out; subst eo22; obtain ⟨Ao23, co23, eo23⟩ := Kd.R_slice HO106.out; subst eo23) | ((with_reducible refine gate_dst (N := 8) rfl ?_); (try (refine gate_guard (by rfl) ?_; dsimp only)); refine Kd.N_lit (Kd.slice 38 k38) _ 23 ?hg (N' := 8) ?hd (xs := ([y101, y104] : List (List (S38)))) (inner := [.slice Ao22 y101.length co22, .slice Ao23 y104.length co23]) (ok := (fun _ => True)) (okp := (fun _ => True)) ?hr ?hp (fun _ hk => hk) ((show ∀ k_, w20.heap.size ≤ k_ → (fun _ => True) k_ from fun k_ hk => trivial) _ (Nat.le_refl _)) (Below.refl _ _) (Nat.le_refl _) (by simp) ?_; (case hd => rfl); (case hg => rfl); (case hr => first | (go_simp; done) | (go_simp; rfl)); (case hp => exact (Reps.one (show Kd.FK (Kd.slice 38 k38) _ _ y101 [.slice Ao22 y101.length co22] from (Kd.FK_slice_mk (Kd.R_reads' (Kd.R_mono (ok' := (fun _ => True)) (HO103.out) (fun k_ hk => trivial))).2.1 (Kd.R_F (Kd.R_mono (ok' := (fun _ => True)) (HO103.out) (fun k_ hk => trivial))))) (Reps.one (show Kd.FK (Kd.slice 38 k38) _ _ y104 [.slice Ao23 y104.length co23] from (Kd.FK_slice_mk (Kd.R_reads' (Kd.R_mono (ok' := (fun _ => True)) (HO106.out) (fun k_ hk => trivial))).2.1 (Kd.R_F (Kd.R_mono (ok' := (fun _ => True)) (HO106.out) (fun k_ hk => trivial))))) (Reps.none _ _)))); intro v108 w24 ho25 hb hg_ hnew_; clear hg_ hnew_; (first | rw [← Ny107.out] at ho25 | (simp only [Int.reduceToNat] at ho25; rw [← Ny107.out] at ho25)); have n0_ := Aside0.mk (Kd.N_lower ho25 (below_size (by repeat (first | (with_reducible first | exact HB.out | apply below_alloc | apply pw_below_drewN | apply below_drew1) | exact HB.out)))); have n1_ := Aside0.mk (below_step (by repeat (first | (with_reducible first | exact HB.out | apply below_alloc | apply pw_below_drewN | apply below_drew1) | exact HB.out)) hb); clear HB; clear HO103; clear HO106; have HO109 := n0_; have HB := n1_; clear n0_ n1_; clear hb ho25; obtain ⟨Ao26, co26, eo26⟩ := Kd.N_slice HO109.out; subst eo26) | ((with_reducible refine gate_callee (f := 6) rfl ?_); refine goesL_ (some 9) rfl rfl Tryz.func6 (by kernel_rfl) rfl #[.slice Ao26 y107.length co26] rfl (by (try simp only [List.map_toArray, List.map_cons, List.map_nil]); first | done | rfl | (simp only [List.length_drop, List.length_take]; rfl)) ?_; (with_reducible refine (atom_Of.calls _ _ y107 t110 t113 _ ?side1 ?side2 A1.out).mono ?_); (case side1 => repeat (first | exact (Kd.N_reads' HO109.out).2.2 | (with_reducible refine Kd.C_alloc ?_ _) | (with_reducible refine Kd.C_drewN ?_ _) | (with_reducible refine Kd.C_drew ?_))); (case side2 => exact (Kd.N_reads' HO109.out).2.1); rintro e w27 ⟨v111, rfl, ho0, hb⟩; refine ⟨_, rfl, ?_⟩; have n0_ := Aside0.mk (Kd.N_elder' (by (with_reducible repeat (first | apply Kd.N_alloc | apply Kd.N_drewN | apply Kd.N_drew)); exact HO109.out) (Kd.N_base ho0) hb); have n1_ := Aside0.mk (Kd.N_lower (Kd.N_mono (ok' := fun k_ => some k_ ≠ (.slice Ao26 y107.length co26 : Value).ownBlock) ho0 (fun k_ hk_ => (Kd.fresh' (Kd.N_lt (by (with_reducible repeat (first | apply Kd.N_alloc | apply Kd.N_drewN | apply Kd.N_drew)); exact HO109.out)) k_ hk_))) (below_size (by repeat (first | (with_reducible first | exact HB.out | apply below_alloc | apply pw_below_drewN | apply below_drew1) | exact HB.out)))); have n2_ := Aside0.mk (below_step (by repeat (first | (with_reducible first | exact HB.out | apply below_alloc | apply pw_below_drewN | apply below_drew1) | exact HB.out)) hb); clear HO109; clear HB; have HO109 := n0_; have HO112 := n1_; have HB := n2_; clear n0_ n1_ n2_; (try clear hb); (try clear hb2); (try clear hk); (try clear hi); (try clear ho0); obtain ⟨Ao28, co28, eo28⟩ := Kd.N_slice HO112.out; subst eo28) | (go_at_call 14; (with_reducible refine (atom_Firsts.calls k _ _ t110 t114 _ ?side1 ?side2 A4.out).mono ?_); (case side1 => repeat (first | exact (Kd.N_reads' HO112.out).2.2 | (with_reducible refine Kd.C_alloc ?_ _) | (with_reducible refine Kd.C_drewN ?_ _) | (with_reducible refine Kd.C_drew ?_))); (case side2 => exact (Kd.N_reads' HO112.out).2.1); rintro e w29 ⟨v115, rfl, ho0, hb⟩; have n0_ := Aside0.mk (Kd.N_elder' (by (with_reducible repeat (first | apply Kd.N_alloc | apply Kd.N_drewN | apply Kd.N_drew)); exact HO109.out) (Kd.R_base ho0) hb); have n1_ := Aside0.mk (Kd.N_elder' (by (with_reducible repeat (first | apply Kd.N_alloc | apply Kd.N_drewN | apply Kd.N_drew)); exact HO112.out) (Kd.R_base ho0) hb); have n2_ := Aside0.mk (Kd.R_lower ho0 (below_size (by repeat (first | (with_reducible first | exact HB.out | apply below_alloc | apply pw_below_drewN | apply below_drew1) | exact HB.out)))); have n3_ := Aside0.mk (below_step (by repeat (first | (with_reducible first | exact HB.out | apply below_alloc | apply pw_below_drewN | apply below_drew1) | exact HB.out)) hb); clear HO109; clear HO112; clear HB; have HO109 := n0_; have HO112 := n1_; have HO116 := n2_; have HB := n3_; clear n0_ n1_ n2_ n3_; (try clear hb); (try clear hb2); (try clear hk); (try clear hi); (try clear ho0)) | ((with_reducible refine gate_dst (N := 22) rfl ?_); (try (refine gate_guard (by rfl) ?_; dsimp only)); refine Kd.R_lit (Kd.int .i64) _ 3 ?hg (N := 22) ?hd (xs := ([0, 97, 98] : List Int)) (inner := [.int .i64 0, .int .i64 97, .int .i64 98]) (ok := fun _ => True) (okp := fun _ => True) ?hr ?hp (fun _ hk => hk) trivial (Below.refl _ _) (Nat.le_refl _) (by simp) ?_; (case hd => rfl); (case hg => rfl); (case hr => first | (go_simp; done) | (go_simp; rfl)); (case hp => exact (Reps.one (show Kd.M (Kd.int .i64) _ _ _ 0 [.int .i64 0] from rfl) (Reps.one (show Kd.M (Kd.int .i64) _ _ _ 97 [.int .i64 97] from rfl) (Reps.one (show Kd.M (Kd.int .i64) _ _ _ 98 [.int .i64 98] from rfl) (Reps.none _ _))))); intro v118 w30 ho31 hb hg_ hnew_; clear hg_ hnew_; (first | rw [← Ny117.out] at ho31 | (simp only [Int.reduceToNat] at ho31; rw [← Ny117.out] at ho31)); have n0_ := Aside0.mk (Kd.N_elder' (by (with_reducible repeat (first | apply Kd.N_alloc | apply Kd.N_drewN | apply Kd.N_drew)); exact HO109.out) (Kd.R_base ho31) hb); have n1_ := Aside0.mk (Kd.N_elder' (by (with_reducible repeat (first | apply Kd.N_alloc | apply Kd.N_drewN | apply Kd.N_drew)); exact HO112.out) (Kd.R_base ho31) hb); have n2_ := Aside0.mk (Kd.R_elder' (by (with_reducible repeat (first | apply Kd.R_alloc | apply Kd.R_drewN | apply Kd.R_drew)); exact HO116.out) (Kd.R_base ho31) hb); have n3_ := Aside0.mk (Kd.R_lower (Kd.R_new' ho31 (Kd.R_lt (by (with_reducible repeat (first | apply Kd.R_alloc | apply Kd.R_drewN | apply Kd.R_drew)); exact HO116.out))) (below_size (by repeat (first | (with_reducible first | exact HB.out | apply below_alloc | apply pw_below_drewN | apply below_drew1) | exact HB.out)))); have n4_ := Aside0.mk (below_step (by repeat (first | (with_reducible first | exact HB.out | apply below_alloc | apply pw_below_drewN | apply below_drew1) | exact HB.out)) hb); clear HO109; clear HO112; clear HO116; clear HB; have HO109 := n0_; have HO112 := n1_; have HO116 := n2_; have HO119 := n3_; have HB := n4_; clear n0_ n1_ n2_ n3_ n4_; clear hb ho31; obtain ⟨Ao32, co32, eo32⟩ := Kd.R_slice HO116.out; subst eo32; obtain ⟨Ao33, co33, eo33⟩ := Kd.R_slice HO119.out; subst eo33) | (go_at_call 11; (with_reducible refine (caesuraref01_Ints.calls k _ _ t114 _ _ y117 true _ ?side1 ?side2 ?side3 ?side4 A5.out).mono ?_); (case side1 => repeat (first | exact (Kd.R_reads' HO116.out).2.2 | (with_reducible refine Kd.C_alloc ?_ _) | (with_reducible refine Kd.C_drewN ?_ _) | (with_reducible refine Kd.C_drew ?_))); (case side2 => exact (Kd.R_reads' HO116.out).2.1); (case side3 => repeat (first | exact (Kd.R_reads' HO119.out).2.2 | (with_reducible refine Kd.C_alloc ?_ _) | (with_reducible refine Kd.C_drewN ?_ _) | (with_reducible refine Kd.C_drew ?_))); (case side4 => exact (Kd.R_reads' HO119.out).2.1); rintro e w' ⟨rfl, ⟨nd, rfl⟩⟩) | (go_at_call 9; (with_reducible refine (atom_Class.calls _ _ t110 99 t121 _ ?side1 ?side2 A7.out).mono ?_); (case side1 => repeat (first | exact (Kd.N_reads' HO112.out).2.2 | (with_reducible refine Kd.C_alloc ?_ _) | (with_reducible refine Kd.C_drewN ?_ _) | (with_reducible refine Kd.C_drew ?_))); (case side2 => exact (Kd.N_reads' HO112.out).2.1); rintro e w34 ⟨rfl, hb⟩; have n0_ := Aside0.mk (Kd.N_below (by (with_reducible repeat (first | apply Kd.N_alloc | apply Kd.N_drewN | apply Kd.N_drew)); exact HO109.out) hb); have n1_ := Aside0.mk (Kd.N_below (by (with_reducible repeat (first | apply Kd.N_alloc | apply Kd.N_drewN | apply Kd.N_drew)); exact HO112.out) hb); have n2_ := Aside0.mk (Kd.R_below (by (with_reducible repeat (first | apply Kd.R_alloc | apply Kd.R_drewN | apply Kd.R_drew)); exact HO116.out) hb); have n3_ := Aside0.mk (Kd.R_below (by (with_reducible repeat (first | apply Kd.R_alloc | apply Kd.R_drewN | apply Kd.R_drew)); exact HO119.out) hb); have n4_ := Aside0.mk (below_step (by repeat (first | (with_reducible first | exact HB.out | apply below_alloc | apply pw_below_drewN | apply below_drew1) | exact HB.out)) hb); clear HO109; clear HO112; clear HO116; clear HO119; clear HB; have HO109 := n0_; have HO112 := n1_; have HO116 := n2_; have HO119 := n3_; have HB := n4_; clear n0_ n1_ n2_ n3_ n4_; (try clear hb); (try clear hb2); (try clear hk); (try clear hi)) | (go_at_call 9; (with_reducible refine (atom_Class.calls _ _ t110 (-1) t122 _ ?side1 ?side2 A9.out).mono ?_); (case side1 => repeat (first | exact (Kd.N_reads' HO112.out).2.2 | (with_reducible refine Kd.C_alloc ?_ _) | (with_reducible refine Kd.C_drewN ?_ _) | (with_reducible refine Kd.C_drew ?_))); (case side2 => exact (Kd.N_reads' HO112.out).2.1); rintro e w35 ⟨rfl, hb⟩; have n0_ := Aside0.mk (Kd.N_below (by (with_reducible repeat (first | apply Kd.N_alloc | apply Kd.N_drewN | apply Kd.N_drew)); exact HO109.out) hb); have n1_ := Aside0.mk (Kd.N_below (by (with_reducible repeat (first | apply Kd.N_alloc | apply Kd.N_drewN | apply Kd.N_drew)); exact HO112.out) hb); have n2_ := Aside0.mk (Kd.R_below (by (with_reducible repeat (first | apply Kd.R_alloc | apply Kd.R_drewN | apply Kd.R_drew)); exact HO116.out) hb); have n3_ := Aside0.mk (Kd.R_below (by (with_reducible repeat (first | apply Kd.R_alloc | apply Kd.R_drewN | apply Kd.R_drew)); exact HO119.out) hb); have n4_ := Aside0.mk (below_step (by repeat (first | (with_reducible first | exact HB.out | apply below_alloc | apply pw_below_drewN | apply below_drew1) | exact HB.out)) hb); clear HO109; clear HO112; clear HO116; clear HO119; clear HB; have HO109 := n0_; have HO112 := n1_; have HO116 := n2_; have HO119 := n3_; have HB := n4_; clear n0_ n1_ n2_ n3_ n4_; (try clear hb); (try clear hb2); (try clear hk); (try clear hi)) | ((with_reducible refine gate_dst (N := 38) rfl ?_); (try (refine gate_guard (by rfl) ?_; dsimp only)); refine Kd.R_lit k38 _ 38 ?hg (N := 38) ?hd (xs := ([(⟨97, 99⟩ : S38)] : List (S38))) (inner := [.int .i64 97, .int .i64 99]) (ok := fun _ => True) (okp := fun _ => True) ?hr ?hp (fun _ hk => hk) trivial (Below.refl _ _) (Nat.le_refl _) (by simp) ?_; (case hd => rfl); (case hg => rfl); (case hr => first | (go_simp; done) | (go_simp; rfl)); (case hp => exact (Reps.c2 (show Kd.M k38 _ _ _ (⟨97, 99⟩ : S38) [.int .i64 97, .int .i64 99] from (k38_mkM _ _ _ (⟨97, 99⟩ : S38) )) (Reps.none _ _))); intro v124 w36 ho37 hb hg_ hnew_; clear hg_ hnew_; (first | rw [← Ny123.out] at ho37 | (simp only [Int.reduceToNat] at ho37; rw [← Ny123.out] at ho37)); have n0_ := Aside0.mk (Kd.N_elder' (by (with_reducible repeat (first | apply Kd.N_alloc | apply Kd.N_drewN | apply Kd.N_drew)); exact HO109.out) (Kd.R_base ho37) hb); have n1_ := Aside0.mk (Kd.N_elder' (by (with_reducible repeat (first | apply Kd.N_alloc | apply Kd.N_drewN | apply Kd.N_drew)); exact HO112.out) (Kd.R_base ho37) hb); have n2_ := Aside0.mk (Kd.R_below (by (with_reducible repeat (first | apply Kd.R_alloc | apply Kd.R_drewN | apply Kd.R_drew)); exact HO116.out) hb); have n3_ := Aside0.mk (Kd.R_below (by (with_reducible repeat (first | apply Kd.R_alloc | apply Kd.R_drewN | apply Kd.R_drew)); exact HO119.out) hb); have n4_ := Aside0.mk (Kd.R_lower ho37 (below_size (by repeat (first | (with_reducible first | exact HB.out | apply below_alloc | apply pw_below_drewN | apply below_drew1) | exact HB.out)))); have n5_ := Aside0.mk (below_step (by repeat (first | (with_reducible first | exact HB.out | apply below_alloc | apply pw_below_drewN | apply below_drew1) | exact HB.out)) hb); clear HO109; clear HO112; clear HO116; clear HO119; clear HB; have HO109 := n0_; have HO112 := n1_; have HO116 := n2_; have HO119 := n3_; have HO125 := n4_; have HB := n5_; clear n0_ n1_ n2_ n3_ n4_ n5_; clear hb ho37; obtain ⟨Ao38, co38, eo38⟩ := Kd.R_slice HO125.out; subst eo38) | (go_at_call 12; (with_reducible refine (atom_Within.calls k _ _ t110 _ _ y123 t126 _ ?side1 ?side2 ?side3 ?side4 A11.out).mono ?_); (case side1 => repeat (first | exact (Kd.N_reads' HO112.out).2.2 | (with_reducible refine Kd.C_alloc ?_ _) | (with_reducible refine Kd.C_drewN ?_ _) | (with_reducible refine Kd.C_drew ?_))); (case side2 => exact (Kd.N_reads' HO112.out).2.1); (case side3 => repeat (first | exact (Kd.R_reads' HO125.out).2.2 | (with_reducible refine Kd.C_alloc ?_ _) | (with_reducible refine Kd.C_drewN ?_ _) | (with_reducible refine Kd.C_drew ?_))); (case side4 => exact (Kd.R_reads' HO125.out).2.1); rintro e w39 ⟨v127, rfl, ho0, hb⟩; have n0_ := Aside0.mk (Kd.N_elder' (by (with_reducible repeat (first | apply Kd.N_alloc | apply Kd.N_drewN | apply Kd.N_drew)); exact HO109.out) (Kd.R_base ho0) hb); have n1_ := Aside0.mk (Kd.N_elder' (by (with_reducible repeat (first | apply Kd.N_alloc | apply Kd.N_drewN | apply Kd.N_drew)); exact HO112.out) (Kd.R_base ho0) hb); have n2_ := Aside0.mk (Kd.R_elder' (by (with_reducible repeat (first | apply Kd.R_alloc | apply Kd.R_drewN | apply Kd.R_drew)); exact HO116.out) (Kd.R_base ho0) hb); have n3_ := Aside0.mk (Kd.R_elder' (by (with_reducible repeat (first | apply Kd.R_alloc | apply Kd.R_drewN | apply Kd.R_drew)); exact HO119.out) (Kd.R_base ho0) hb); have n4_ := Aside0.mk (Kd.R_below (by (with_reducible repeat (first | apply Kd.R_alloc | apply Kd.R_drewN | apply Kd.R_drew)); exact HO125.out) hb); have n5_ := Aside0.mk (Kd.R_lower (Kd.R_new' (Kd.R_new' ho0 (Kd.R_lt (by (with_reducible repeat (first | apply Kd.R_alloc | apply Kd.R_drewN | apply Kd.R_drew)); exact HO116.out))) (Kd.R_lt (by (with_reducible repeat (first | apply Kd.R_alloc | apply Kd.R_drewN | apply Kd.R_drew)); exact HO119.out))) (below_size (by repeat (first | (with_reducible first | exact HB.out | apply below_alloc | apply pw_below_drewN | apply below_drew1) | exact HB.out)))); have n6_ := Aside0.mk (below_step (by repeat (first | (with_reducible first | exact HB.out | apply below_alloc | apply pw_below_drewN | apply below_drew1) | exact HB.out)) hb); clear HO109; clear HO112; clear HO116; clear HO119; clear HO125; clear HB; have HO109 := n0_; have HO112 := n1_; have HO116 := n2_; have HO119 := n3_; have HO125 := n4_; have HO128 := n5_; have HB := n6_; clear n0_ n1_ n2_ n3_ n4_ n5_ n6_; (try clear hb); (try clear hb2); (try clear hk); (try clear hi); (try clear ho0)) | ((with_reducible refine gate_dst (N := 40) rfl ?_); (try (refine gate_guard (by rfl) ?_; dsimp only)); refine Kd.R_lit (Kd.int .i64) _ 3 ?hg (N := 40) ?hd (xs := ([1, 2] : List Int)) (inner := [.int .i64 1, .int .i64 2]) (ok := fun _ => True) (okp := fun _ => True) ?hr ?hp (fun _ hk => hk) trivial (Below.refl _ _) (Nat.le_refl _) (by simp) ?_; (case hd => rfl); (case hg => rfl); (case hr => first | (go_simp; done) | (go_simp; rfl)); (case hp => exact (Reps.one (show Kd.M (Kd.int .i64) _ _ _ 1 [.int .i64 1] from rfl) (Reps.one (show Kd.M (Kd.int .i64) _ _ _ 2 [.int .i64 2] from rfl) (Reps.none _ _)))); intro v130 w40 ho41 hb hg_ hnew_; clear hg_ hnew_; (first | rw [← Ny129.out] at ho41 | (simp only [Int.reduceToNat] at ho41; rw [← Ny129.out] at ho41)); have n0_ := Aside0.mk (Kd.N_elder' (by (with_reducible repeat (first | apply Kd.N_alloc | apply Kd.N_drewN | apply Kd.N_drew)); exact HO109.out) (Kd.R_base ho41) hb); have n1_ := Aside0.mk (Kd.N_elder' (by (with_reducible repeat (first | apply Kd.N_alloc | apply Kd.N_drewN | apply Kd.N_drew)); exact HO112.out) (Kd.R_base ho41) hb); have n2_ := Aside0.mk (Kd.R_elder' (by (with_reducible repeat (first | apply Kd.R_alloc | apply Kd.R_drewN | apply Kd.R_drew)); exact HO116.out) (Kd.R_base ho41) hb); have n3_ := Aside0.mk (Kd.R_elder' (by (with_reducible repeat (first | apply Kd.R_alloc | apply Kd.R_drewN | apply Kd.R_drew)); exact HO119.out) (Kd.R_base ho41) hb); have n4_ := Aside0.mk (Kd.R_below (by (with_reducible repeat (first | apply Kd.R_alloc | apply Kd.R_drewN | apply Kd.R_drew)); exact HO125.out) hb); have n5_ := Aside0.mk (Kd.R_elder' (by (with_reducible repeat (first | apply Kd.R_alloc | apply Kd.R_drewN | apply Kd.R_drew)); exact HO128.out) (Kd.R_base ho41) hb); have n6_ := Aside0.mk (Kd.R_lower (Kd.R_new' (Kd.R_new' (Kd.R_new' ho41 (Kd.R_lt (by (with_reducible repeat (first | apply Kd.R_alloc | apply Kd.R_drewN | apply Kd.R_drew)); exact HO116.out))) (Kd.R_lt (by (with_reducible repeat (first | apply Kd.R_alloc | apply Kd.R_drewN | apply Kd.R_drew)); exact HO119.out))) (Kd.R_lt (by (with_reducible repeat (first | apply Kd.R_alloc | apply Kd.R_drewN | apply Kd.R_drew)); exact HO128.out))) (below_size (by repeat (first | (with_reducible first | exact HB.out | apply below_alloc | apply pw_below_drewN | apply below_drew1) | exact HB.out)))); have n7_ := Aside0.mk (below_step (by repeat (first | (with_reducible first | exact HB.out | apply below_alloc | apply pw_below_drewN | apply below_drew1) | exact HB.out)) hb); clear HO109; clear HO112; clear HO116; clear HO119; clear HO125; clear HO128; clear HB; have HO109 := n0_; have HO112 := n1_; have HO116 := n2_; have HO119 := n3_; have HO125 := n4_; have HO128 := n5_; have HO131 := n6_; have HB := n7_; clear n0_ n1_ n2_ n3_ n4_ n5_ n6_ n7_; clear hb ho41; obtain ⟨Ao42, co42, eo42⟩ := Kd.R_slice HO128.out; subst eo42; obtain ⟨Ao43, co43, eo43⟩ := Kd.R_slice HO131.out; subst eo43) | (go_at_call 11; (with_reducible refine (caesuraref01_Ints.calls k _ _ t126 _ _ y129 true _ ?side1 ?side2 ?side3 ?side4 A12.out).mono ?_); (case side1 => repeat (first | exact (Kd.R_reads' HO128.out).2.2 | (with_reducible refine Kd.C_alloc ?_ _) | (with_reducible refine Kd.C_drewN ?_ _) | (with_reducible refine Kd.C_drew ?_))); (case side2 => exact (Kd.R_reads' HO128.out).2.1); (case side3 => repeat (first | exact (Kd.R_reads' HO131.out).2.2 | (with_reducible refine Kd.C_alloc ?_ _) | (with_reducible refine Kd.C_drewN ?_ _) | (with_reducible refine Kd.C_drew ?_))); (case side4 => exact (Kd.R_reads' HO131.out).2.1); rintro e w' ⟨rfl, ⟨nd, rfl⟩⟩) | (go_at_call 16; (with_reducible refine (atom_Right.calls _ _ t110 true _ ?side1 ?side2 A14.out).mono ?_); (case side1 => repeat (first | exact (Kd.N_reads' HO112.out).2.2 | (with_reducible refine Kd.C_alloc ?_ _) | (with_reducible refine Kd.C_drewN ?_ _) | (with_reducible refine Kd.C_drew ?_))); (case side2 => exact (Kd.N_reads' HO112.out).2.1); rintro e w44 ⟨rfl, hb⟩; have n0_ := Aside0.mk (Kd.N_below (by (with_reducible repeat (first | apply Kd.N_alloc | apply Kd.N_drewN | apply Kd.N_drew)); exact HO109.out) hb); have n1_ := Aside0.mk (Kd.N_below (by (with_reducible repeat (first | apply Kd.N_alloc | apply Kd.N_drewN | apply Kd.N_drew)); exact HO112.out) hb); have n2_ := Aside0.mk (Kd.R_below (by (with_reducible repeat (first | apply Kd.R_alloc | apply Kd.R_drewN | apply Kd.R_drew)); exact HO116.out) hb); have n3_ := Aside0.mk (Kd.R_below (by (with_reducible repeat (first | apply Kd.R_alloc | apply Kd.R_drewN | apply Kd.R_drew)); exact HO119.out) hb); have n4_ := Aside0.mk (Kd.R_below (by (with_reducible repeat (first | apply Kd.R_alloc | apply Kd.R_drewN | apply Kd.R_drew)); exact HO125.out) hb); have n5_ := Aside0.mk (Kd.R_below (by (with_reducible repeat (first | apply Kd.R_alloc | apply Kd.R_drewN | apply Kd.R_drew)); exact HO128.out) hb); have n6_ := Aside0.mk (Kd.R_below (by (with_reducible repeat (first | apply Kd.R_alloc | apply Kd.R_drewN | apply Kd.R_drew)); exact HO131.out) hb); have n7_ := Aside0.mk (below_step (by repeat (first | (with_reducible first | exact HB.out | apply below_alloc | apply pw_below_drewN | apply below_drew1) | exact HB.out)) hb); clear HO109; clear HO112; clear HO116; clear HO119; clear HO125; clear HO128; clear HO131; clear HB; have HO109 := n0_; have HO112 := n1_; have HO116 := n2_; have HO119 := n3_; have HO125 := n4_; have HO128 := n5_; have HO131 := n6_; have HB := n7_; clear n0_ n1_ n2_ n3_ n4_ n5_ n6_ n7_; (try clear hb); (try clear hb2); (try clear hk); (try clear hi); have q45 : (1 : Int) ≤ ((t110.length : Int) : Int) := of_decide_eq_true (by first | (with_reducible assumption) | assumption); obtain ⟨i045, hi045, _, hsz45, _⟩ := info_parts info23; have hroom45 : t110.length ≤ co28 := (Kd.N_reads' HO112.out).2.1; have hC45 : Kd.F (Kd.slice 38 k38) _ _ Ao28 t110.length t110 := (Kd.V_at (base := w.heap.size) (Kd.N_V HO112.out)).2.2; have hcut45 := cut_from (P := Tryz.prog) 22 23 .i64 Tryz.underlying22 hi045 1 hsz45 Ao28 t110.length co28 1 (by omega) q45; have hr45 := Kd.F_cut (m := (1 : Int).toNat) (c := co28) hC45 (by omega) hroom45; obtain ⟨A45, hA45⟩ : ∃ A1, A1 = (if co28 = (1 : Int).toNat then Ao28 else (Ao28 : Option Addr).map (·.add ((1 : Int).toNat * 1))) := ⟨_, rfl⟩; obtain ⟨c45, hc45⟩ : ∃ c1, c1 = co28 - (1 : Int).toNat := ⟨_, rfl⟩; have hy45 : y134.length = t110.length - (1 : Int).toNat := (by rw [Ny134.out, List.length_drop] <;> omega); rw [show (t110).drop (1 : Int).toNat = y134 from Ny134.out.symm] at hr45; replace hr45 : Kd.F (Kd.slice 38 k38) _ _ A45 y134.length y134 := (by rw [hA45]; exact hr45); rw [← hy45, ← hA45, ← hc45] at hcut45; have HO138 := Aside0.mk (show Kd.V (Kd.slice 38 k38) 23 _ w.heap.size _ (.slice A45 y134.length c45) y134 from Kd.V_mk (by rw [hy45, hc45]; exact Nat.sub_le_sub_right hroom45 _) hr45); have HC138 := Aside0.mk (show y134.length ≤ c45 from by rw [hy45, hc45]; exact Nat.sub_le_sub_right hroom45 _); clear hr45 hC45 hroom45 hi045 hsz45 hc45; have KY45 := Aside0.mk hy45; have KA45 := Aside0.mk hA45; clear hy45 hA45; replace q45 := eq_true q45) | (go_at_call 16; (with_reducible refine (atom_Right.calls _ _ y134 t139 _ ?side1 ?side2 A17.out).mono ?_); (case side1 => repeat (first | exact (Kd.V_reads' HO138.out).2.2 | (with_reducible refine Kd.C_alloc ?_ _) | (with_reducible refine Kd.C_drewN ?_ _) | (with_reducible refine Kd.C_drew ?_))); (case side2 => exact (Kd.V_reads' HO138.out).2.1); rintro e w46 ⟨rfl, hb⟩; have n0_ := Aside0.mk (Kd.N_below (by (with_reducible repeat (first | apply Kd.N_alloc | apply Kd.N_drewN | apply Kd.N_drew)); exact HO109.out) hb); have n1_ := Aside0.mk (Kd.N_below (by (with_reducible repeat (first | apply Kd.N_alloc | apply Kd.N_drewN | apply Kd.N_drew)); exact HO112.out) hb); have n2_ := Aside0.mk (Kd.R_below (by (with_reducible repeat (first | apply Kd.R_alloc | apply Kd.R_drewN | apply Kd.R_drew)); exact HO116.out) hb); have n3_ := Aside0.mk (Kd.R_below (by (with_reducible repeat (first | apply Kd.R_alloc | apply Kd.R_drewN | apply Kd.R_drew)); exact HO119.out) hb); have n4_ := Aside0.mk (Kd.R_below (by (with_reducible repeat (first | apply Kd.R_alloc | apply Kd.R_drewN | apply Kd.R_drew)); exact HO125.out) hb); have n5_ := Aside0.mk (Kd.R_below (by (with_reducible repeat (first | apply Kd.R_alloc | apply Kd.R_drewN | apply Kd.R_drew)); exact HO128.out) hb); have n6_ := Aside0.mk (Kd.R_below (by (with_reducible repeat (first | apply Kd.R_alloc | apply Kd.R_drewN | apply Kd.R_drew)); exact HO131.out) hb); have n7_ := Aside0.mk (Kd.V_below (by (with_reducible repeat (first | apply Kd.V_alloc | apply Kd.V_drewN | apply Kd.V_drew)); exact HO138.out) hb); have n8_ := Aside0.mk (below_step (by repeat (first | (with_reducible first | exact HB.out | apply below_alloc | apply pw_below_drewN | apply below_drew1) | exact HB.out)) hb); clear HO109; clear HO112; clear HO116; clear HO119; clear HO125; clear HO128; clear HO131; clear HO138; clear HB; have HO109 := n0_; have HO112 := n1_; have HO116 := n2_; have HO119 := n3_; have HO125 := n4_; have HO128 := n5_; have HO131 := n6_; have HO138 := n7_; have HB := n8_; clear n0_ n1_ n2_ n3_ n4_ n5_ n6_ n7_ n8_; (try clear hb); (try clear hb2); (try clear hk); (try clear hi)))
                  go_ret
                  exact ⟨by first | rfl | (simp [errW_none, errW_some] <;> rfl) | (simp [*, errW_none, errW_some] <;> rfl), by repeat (first | (with_reducible first | exact HB.out | apply below_alloc | apply pw_below_drewN | apply below_drew1) | exact HB.out)⟩
                · rw [if_neg c16] at H
                  exact absurd H (by simp)
              · replace c15 := Bool.eq_false_iff.mpr c15
                subst c15
                have H1 : (some false) = some r := by rw [if_neg (show ¬ (false = true) by decide)] at H; exact H
                clear H
                have H := H1
                clear H1
                exact absurd ((Option.some.inj H).trans hrt_.out) (by decide)
            · replace c13 := Bool.eq_false_iff.mpr c13
              subst c13
              have H1 : (some false) = some r := by rw [if_neg (show ¬ (false = true) by decide)] at H; exact H
              clear H
              have H := H1
              clear H1
              exact absurd ((Option.some.inj H).trans hrt_.out) (by decide)
          · rw [if_neg c10] at H
            have c10b0 : (t122 == (-1)) = false := beq_eq_false_iff_ne.mpr c10
            have c10b1 : (t122 != (-1)) = true := bne_iff_ne.mpr c10
            exact absurd ((Option.some.inj H).trans hrt_.out) (by decide)
        · rw [if_neg c8] at H
          have c8b0 : (t121 == 1) = false := beq_eq_false_iff_ne.mpr c8
          have c8b1 : (t121 != 1) = true := bne_iff_ne.mpr c8
          exact absurd ((Option.some.inj H).trans hrt_.out) (by decide)
      · replace c6 := Bool.eq_false_iff.mpr c6
        subst c6
        have H1 : (some false) = some r := by rw [if_neg (show ¬ (false = true) by decide)] at H; exact H
        clear H
        have H := H1
        clear H1
        exact absurd ((Option.some.inj H).trans hrt_.out) (by decide)
    · rw [if_neg c3] at H
      have c3b0 : ((t110.length : Int) == 3) = false := beq_eq_false_iff_ne.mpr c3
      have c3b1 : ((t110.length : Int) != 3) = true := bne_iff_ne.mpr c3
      exact absurd ((Option.some.inj H).trans hrt_.out) (by decide)
  · rw [if_neg c2] at H
    have c2b0 : (t113 == 0) = false := beq_eq_false_iff_ne.mpr c2
    have c2b1 : (t113 != 0) = true := bne_iff_ne.mpr c2
    exact absurd ((Option.some.inj H).trans hrt_.out) (by decide)
end
end Go.Proofs.YtippkbgeeeimjaaGreat.AA
/- The closed facts of alive of law 02, and its contract. -/
namespace Go.Proofs.YtippkbgeeeimjaaGreat.P
open Go.RowKit Go.Proofs.YtippkbgeeeimjaaGreatW.PrintWords Go.Proofs.YtippkbgeeeimjaaGreat.A Go.Proofs.YtippkbgeeeimjaaGreat.L
set_option linter.unusedVariables false
set_option linter.unusedSimpArgs false
abbrev lx : List (List S38) := [[⟨97, 99⟩], [⟨98, 98⟩]]
abbrev q0 : List S38 := [⟨0, 96⟩, ⟨100, 1114111⟩]
abbrev q1 : List S38 := [⟨97, 97⟩, ⟨99, 99⟩]
abbrev q2 : List S38 := [⟨98, 98⟩]
theorem at_q0 : atF lx [false, false] = q0 := by
  refine canon_lit ⟨by simp [Can], fun c h0 h1 => Bool.eq_iff_iff.mpr ?_⟩
  simp [Mem, inR, hasB, sigF]; omega
theorem at_q1 : atF lx [true, false] = q1 := by
  refine canon_lit ⟨by simp [Can], fun c h0 h1 => Bool.eq_iff_iff.mpr ?_⟩
  simp [Mem, inR, hasB, sigF]; omega
theorem at_q2 : atF lx [true, true] = q2 := by
  refine canon_lit ⟨by simp [Can], fun c h0 h1 => Bool.eq_iff_iff.mpr ?_⟩
  simp [Mem, inR, hasB, sigF]; omega
theorem few_lx : Few lx (edgesOf lx) := few_edges (by decide)
theorem atoms_lx : AtomsOf lx [q0, q1, q2] := by
  refine ⟨[[false, false], [true, false], [true, true]], by decide, by rw [List.map_cons, List.map_cons, List.map_cons, List.map_nil, at_q0, at_q1, at_q2], fun c h0 h1 => ?_, ?_⟩
  · simp only [sigF, hasB, Mem, inR, List.map_cons, List.map_nil, List.length_cons, List.length_nil, List.any_cons, List.any_nil, List.mem_cons, List.cons.injEq, and_true, List.not_mem_nil, or_false]
    simp
    omega
  · intro t ht
    simp only [List.mem_cons, List.not_mem_nil, or_false] at ht
    rcases ht with rfl | rfl | rfl
    · rw [at_q0]; decide
    · rw [at_q1]; decide
    · rw [at_q2]; decide
theorem sorted_lx : Sorted [q0, q1, q2] := by
  unfold Sorted
  simp [lowR, rd_T38]
theorem cls_lx : clsL lx = [q0, q1, q2] := (clsL_one few_lx atoms_lx sorted_lx).symm
theorem bad_lx : badB lx = false := by
  unfold badB
  rw [cls_lx]
  decide
theorem of_lx : atom_Of.f lx = some ([q0, q1, q2], 0) := by
  rw [of_f few_lx, bad_lx, cls_lx]
  rfl
theorem clsc_lx : Cls lx [q0, q1, q2] := cls_of atoms_lx sorted_lx
theorem short_lx : Short [q0, q1, q2] := by
  intro x hx
  simp only [List.mem_cons, List.not_mem_nil, or_false] at hx
  rcases hx with rfl | rfl | rfl <;> decide
theorem firsts_lx : [q0, q1, q2].map firstF = [0, 97, 98] := by
  rw [List.map_cons, List.map_cons, List.map_cons, List.map_nil, (clsc_lx.first short_lx (x := q0) (by simp)).1, (clsc_lx.first short_lx (x := q1) (by simp)).1, (clsc_lx.first short_lx (x := q2) (by simp)).1]
  rfl
theorem within_lx : withinF [q0, q1, q2] [⟨97, 99⟩] = [1, 2] := by
  unfold withinF
  rw [firsts_lx]
  decide
theorem class_lx : classF [q0, q1, q2] 99 = 1 := by decide
theorem class_lx2 : classF [q0, q1, q2] (-1) = -1 := by decide
theorem right_lx : rightAF [q0, q1, q2] = true := cls_right atoms_lx clsc_lx short_lx (by decide)
theorem size_q {x : List S38} {P : Int → Bool} (h : x = canonF P) (hl : x.length ≤ 400) : sizeF x = szF x := by
  rw [← sizeF_eq]
  rw [h] at hl ⊢
  rw [pl_canon hl]
theorem right_lx2 : rightAF [q1, q2] = false := by
  unfold rightAF
  rw [List.map_cons, List.map_cons, List.map_nil, size_q at_q1.symm (by decide), size_q at_q2.symm (by decide)]
  have : decide ((([szF q1, szF q2] : List Int).sum) = 1114112) = false := by decide
  rw [this, Bool.and_false]
theorem ints_self (l : List Int) (h : (l.length : Int) ≤ 100000) : Ev (fun k => caesuraref01_Ints.f k l l) true := by
  unfold caesuraref01_Ints.f
  refine ev_if rfl ?_
  have go : ∀ d i : Nat, i + d = l.length → Ev (fun k => caesuraref01_Ints.l0 k l l (i : Int)) true := by
    intro d
    induction d with
    | zero =>
      intro i hi
      exact Ev.step (f := fun _ => some true) (fun k => by rw [caesuraref01_Ints.l0, if_neg (by omega)]) (Ev.now _)
    | succ d ih =>
      intro i hi
      have := ih (i + 1) (by omega)
      refine Ev.step (f := fun k => caesuraref01_Ints.l0 k l l ((i : Int) + 1)) (fun k => by rw [caesuraref01_Ints.l0, if_pos (by omega), if_pos (by omega), if_pos (by omega), if_pos rfl, w64 (n := (i : Int) + 1) (by omega) (by omega)]) ?_
      rw [show (i : Int) + 1 = ((i + 1 : Nat) : Int) from by omega]
      exact this
  exact go l.length 0 (by omega)
theorem alive_f : Ev (fun k => AA.caesuralaw02_alive.f k) true := by
  unfold AA.caesuralaw02_alive.f
  refine Ev.bind (a := ([q0, q1, q2], 0)) ⟨0, fun _ _ => of_lx⟩ ?_
  refine ev_if rfl (ev_if rfl ?_)
  refine Ev.bind (a := [0, 97, 98]) (firsts_lx ▸ firsts_f [q0, q1, q2] (by decide)) ?_
  refine Ev.bind (a := true) (ints_self _ (by decide)) ?_
  refine ev_if rfl ?_
  refine Ev.bind (a := 1) ⟨0, fun _ _ => congrArg some class_lx⟩ ?_
  refine ev_if rfl ?_
  refine Ev.bind (a := -1) ⟨0, fun _ _ => congrArg some class_lx2⟩ ?_
  refine ev_if rfl ?_
  refine Ev.bind (a := [1, 2]) (within_lx ▸ within_f [q0, q1, q2] [⟨97, 99⟩] (by decide)) ?_
  refine Ev.bind (a := true) (ints_self _ (by decide)) ?_
  refine ev_if rfl ?_
  refine Ev.bind (a := true) ⟨0, fun _ _ => congrArg some right_lx⟩ ?_
  refine ev_if rfl (ev_if (by decide) ?_)
  refine Ev.bind (a := false) ⟨0, fun _ _ => congrArg some right_lx2⟩ ?_
  exact Ev.now _
end Go.Proofs.YtippkbgeeeimjaaGreat.P
namespace Go.Proofs.YtippkbgeeeimjaaGreat.L
open Go.RowKit Go.Proofs.YtippkbgeeeimjaaGreatW.PrintWords Go.Proofs.YtippkbgeeeimjaaGreat.P
def caesuralaw02_alive.f : Option Bool := some true
theorem caesuralaw02_alive.calls (r : Bool) (w : World) (h : caesuralaw02_alive.f = some r) : Calls Tryz.prog 4 #[] w fun e w' => e = .returned (.bool r) ∧ Below w.heap.size w w' := by
  obtain rfl := Option.some.inj h
  obtain ⟨k, hk⟩ := alive_f.rounds
  exact AA.caesuralaw02_alive.calls k true w hk ⟨rfl⟩
end Go.Proofs.YtippkbgeeeimjaaGreat.L
/- What the laws on atoms share, in plain Lean. -/
namespace Go.Proofs.YtippkbgeeeimjaaGreat.P
open Go.RowKit Go.Proofs.YtippkbgeeeimjaaGreatW.PrintWords Go.Proofs.YtippkbgeeeimjaaGreat.A Go.Proofs.YtippkbgeeeimjaaGreat.L
set_option linter.unusedVariables false
set_option linter.unusedSimpArgs false
theorem rd3 {L : List (List S38)} {i : Nat} {x : List S38} (h : L[i]? = some x) : rd_L3 L (i : Int) = x := by
  unfold rd_L3
  rw [Int.toNat_natCast, List.getD_eq_getElem?_getD, h]
  rfl
theorem great_ev (l0 : List (List S38)) (m : Int) (hm : 0 ≤ m ∧ m ≤ 1000) (hs : X.SmallL l0) : ∃ b, Ev (fun k => caesuraref02_Great.f k l0 m) b ∧ (b = false → (l0.length : Int) + ((l0.map List.length).sum : Nat) ≤ m) := by
  have go : ∀ d i : Nat, i + d = l0.length → ∀ n : Int, 0 ≤ n → n ≤ 140737488356328 → ∃ b, Ev (fun k => caesuraref02_Great.l0 k l0 m n (i : Int)) b ∧ (b = false → n + (((l0.drop i).map List.length).sum : Nat) ≤ m) := by
    intro d
    induction d with
    | zero =>
      intro i hi n h0 h1
      refine ⟨decide (n > m), Ev.step (f := fun _ => some (decide (n > m))) (fun k => by rw [caesuraref02_Great.l0, if_neg (by omega)]) (Ev.now _), fun hb => ?_⟩
      rw [List.drop_eq_nil_iff.2 (by omega)]
      have := of_decide_eq_false hb
      simp only [List.map_nil, List.sum_nil]
      omega
    | succ d ih =>
      intro i hi n h0 h1
      by_cases hn : n ≤ m
      · have hlt : i < l0.length := by omega
        have hg : l0[i]? = some l0[i] := List.getElem?_eq_getElem hlt
        have hx := hs.2 _ (List.getElem_mem hlt)
        obtain ⟨b, hb, hb2⟩ := ih (i + 1) (by omega) (n + (l0[i].length : Int)) (by omega) (by omega)
        refine ⟨b, Ev.step (f := fun k => caesuraref02_Great.l0 k l0 m (n + (l0[i].length : Int)) ((i : Int) + 1)) (fun k => by rw [caesuraref02_Great.l0, if_pos (by omega), if_pos hn, if_pos (by omega), rd3 hg, w64 (n := n + (l0[i].length : Int)) (by omega) (by omega), w64 (n := (i : Int) + 1) (by omega) (by have := hs.1; omega)]) ?_, fun q => ?_⟩
        · rw [show (i : Int) + 1 = ((i + 1 : Nat) : Int) from by omega]
          exact hb
        · have := hb2 q
          rw [List.drop_eq_getElem_cons hlt, List.map_cons, List.sum_cons]
          omega
      · refine ⟨true, Ev.step (f := fun _ => some true) (fun k => by rw [caesuraref02_Great.l0, if_pos (by omega), if_neg hn, decide_eq_true (by omega)]) (Ev.now _), fun q => by cases q⟩
  obtain ⟨b, h1, h2⟩ := go l0.length 0 (by omega) (l0.length : Int) (by omega) (by have := hs.1; omega)
  exact ⟨b, h1, h2⟩
theorem wi_len {s : List S38} : ∀ (fs : List Int) (i : Nat), (wiF s fs i).length ≤ fs.length
  | [], _ => Nat.le_refl _
  | f :: fs, i => by
    have ih := wi_len (s := s) fs (i + 1)
    rw [wiF, List.length_cons]
    split
    · rw [List.length_cons]; omega
    · omega
/-- What there is where not too many. -/
theorem of_good {l0 : List (List S38)} (f : Few l0 (edgesOf l0)) (h : badB l0 = false) : AtomsOf l0 (clsL l0) ∧ Cls l0 (clsL l0) ∧ Short (clsL l0) ∧ (clsL l0).length ≤ 200 := ⟨clsL_atoms f, clsL_cls f, clsL_short f, good_len h⟩
end Go.Proofs.YtippkbgeeeimjaaGreat.P
