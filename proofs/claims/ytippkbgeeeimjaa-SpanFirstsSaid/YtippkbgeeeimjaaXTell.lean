/- span.sweep's inner function: what it turns. -/
import Derived.Test.YtippkbgeeeimjaaAx3
import Derived.Deep.DeepMust
import Derived.IntWalk
import Derived.Deep.QuietTactic
import Derived.BigQuiet
namespace Go.Proofs.Ytippkbgeeeimjaa.L
open Go.RowKit Go.Proofs.YtippkbgeeeimjaaW.PrintWords Go.Proofs.YtippkbgeeeimjaaW.PrintLast Go.Proofs.YtippkbgeeeimjaaW.PrintMore Go.Proofs.Ytippkbgeeeimjaa.A
set_option linter.unusedVariables false
set_option linter.unusedSimpArgs false

/-- What 'tell' makes of what is out. -/
def tellF (rb : Bool) (a tt : Int) (xs : List S34) : List S34 :=
  if a < tt ∧ rb = true then
    (if 0 < xs.length ∧ (rd_T34 xs ((xs.length : Int) - 1)).f1 = a - 1 then xs.set (xs.length - 1) ⟨(rd_T34 xs ((xs.length : Int) - 1)).f0, tt - 1⟩ else xs ++ [⟨a, tt - 1⟩])
  else xs
/-- What lies in memory between two of its calls. -/
structure SwS (wk w0 : World) (gf ga gr gi go : Nat) (a i0 i1 : Int) (v : Value) (xs : List S34) (W : World) : Prop where
  bel : Below w0.heap.size w0 W
  A : W.heap[ga]? = some (.cells #[.int .i64 a] 3 (0, 0))
  I : W.heap[gi]? = some (.cells #[.int .i64 i0, .int .i64 i1] 70 (0, 0))
  O : W.heap[go]? = some (.cells #[v] 22 (0, 0))
  R : W.heap[gr]? = some (.cells #[.func (.func gf) #[] #[]] 51 (0, 0))
  row : Kd.R k34 34 W w0.heap.size (fun _ => True) v xs
  la : w0.heap.size ≤ ga
  li : w0.heap.size ≤ gi
  lo : w0.heap.size ≤ go
  keep : ∀ (q : Nat) (cs : Array Value), wk.heap[q]? = some (.cells cs 68 (0, 0)) → W.heap[q]? = some (.cells cs 68 (0, 0))
theorem R_type {α : Type} {d : Kd α} {e : Nat} {W : World} {base : Nat} {v : Value} {xs : List α} (h : Kd.R d e W base (fun _ => True) v xs) : ∀ k, v.ownBlock = some k → ∃ cells, W.heap[k]? = some (.cells cells e (0, 0)) := by
  intro k hk
  obtain ⟨inner, ho⟩ := Kd.R_own h
  exact own_typed ho k hk
theorem setCell_far {W : World} {g k : Nat} (o : Nat) (u : Value) (h : k ≠ g) : (W.setCell ⟨g, o, none⟩ u).heap[k]? = W.heap[k]? := setCells_far [u] o k h
/-- A row of its own is not touched where a block of another type is written. -/
theorem R_other {α : Type} {d : Kd α} (hE : d.E = []) {e t : Nat} {W : World} {base g o : Nat} {v : Value} {xs : List α} {cs : Array Value} (h : Kd.R d e W base (fun _ => True) v xs) (hg : W.heap[g]? = some (.cells cs t (0, 0))) (hne : t ≠ e) (u : Value) : Kd.R d e (W.setCell ⟨g, o, none⟩ u) base (fun _ => True) v xs := by
  refine Kd.R_mono (Kd.R_move (Kd.R_bound h) (fun k hk => setCell_far o u ?_)) (fun _ _ => trivial)
  rintro rfl
  obtain ⟨_, _, _, q, hq, cells, hc⟩ := hk
  rw [hE, List.mem_singleton] at hq
  subst hq
  rw [hg] at hc
  injection hc with hc
  injection hc with _ hc
  exact hne hc
theorem SwS.putA {wk w0 W : World} {gf ga gr gi go : Nat} {a i0 i1 : Int} {v : Value} {xs : List S34} (h : SwS wk w0 gf ga gr gi go a i0 i1 v xs W) (b : Int) : SwS wk w0 gf ga gr gi go b i0 i1 v xs (W.setCell ⟨ga, 0, none⟩ (.int .i64 b)) where
  bel := h.bel.setCell h.la _
  A := blk_put h.A 0 _ rfl
  I := blk_far h.I (p := ⟨ga, 0, none⟩) (blk_ne h.I h.A (by decide)) _
  O := blk_far h.O (p := ⟨ga, 0, none⟩) (blk_ne h.O h.A (by decide)) _
  R := blk_far h.R (p := ⟨ga, 0, none⟩) (blk_ne h.R h.A (by decide)) _
  row := R_other rfl h.row h.A (by decide) _
  la := h.la
  li := h.li
  lo := h.lo
  keep := fun q cs hq => blk_far (h.keep q cs hq) (p := ⟨ga, 0, none⟩) (blk_ne (h.keep q cs hq) h.A (by decide)) _
theorem SwS.drew {wk w0 W : World} {gf ga gr gi go : Nat} {a i0 i1 : Int} {v : Value} {xs : List S34} (h : SwS wk w0 gf ga gr gi go a i0 i1 v xs W) : SwS wk w0 gf ga gr gi go a i0 i1 v xs W.drew where
  bel := below_drew h.bel
  A := h.A
  I := h.I
  O := h.O
  R := h.R
  row := Kd.R_drew h.row
  la := h.la
  li := h.li
  lo := h.lo
  keep := h.keep
set_option maxHeartbeats 2000000 in
set_option maxRecDepth 100000 in
theorem tell_skip {wk w0 w : World} {gf ga gr gi go : Nat} {a i0 i1 tt : Int} {v : Value} {xs : List S34} (h : SwS wk w0 gf ga gr gi go a i0 i1 v xs w) (hlt : ¬ a < tt) :
    Calls Try.prog 65 #[.int .i64 tt, .pointer (some ⟨ga, 0, none⟩), .pointer (some ⟨gr, 0, none⟩), .pointer (some ⟨gi, 0, none⟩), .pointer (some ⟨go, 0, none⟩)] w fun e w' => e = .returned (.tuple #[]) ∧ SwS wk w0 gf ga gr gi go tt i0 i1 v xs w' := by
  have hd : decide (a < tt) = false := decide_eq_false hlt
  have ca : w.cell? ⟨ga, 0, none⟩ = some (.int .i64 a) := (blk_cell h.A 0).trans rfl
  have fa := blk_frozen h.A 0
  have H := Aside0.mk h
  clear h hlt
  go_enter Try.func65, Try.ntmps65
  go_wp2_with fail
  go_end0
  exact ⟨rfl, H.out.putA tt⟩

set_option maxHeartbeats 2000000 in
set_option maxRecDepth 100000 in
theorem tell_no {wk w0 w : World} {gf ga gr gi go : Nat} {a i0 i1 tt : Int} {v : Value} {xs : List S34} (h : SwS wk w0 gf ga gr gi go a i0 i1 v xs w) (hlt : a < tt)
    (eg : ∀ args w, (callFunc gf args).run Try.prog w = .ok (.enter gf args) w) (hr : ∀ W, Calls Try.prog gf #[.bool (decide (0 < i0)), .bool (decide (0 < i1))] W fun e w' => e = .returned (.bool false) ∧ w' = W) :
    Calls Try.prog 65 #[.int .i64 tt, .pointer (some ⟨ga, 0, none⟩), .pointer (some ⟨gr, 0, none⟩), .pointer (some ⟨gi, 0, none⟩), .pointer (some ⟨go, 0, none⟩)] w fun e w' => e = .returned (.tuple #[]) ∧ SwS wk w0 gf ga gr gi go tt i0 i1 v xs w' := by
  have hd : decide (a < tt) = true := decide_eq_true hlt
  have ca : w.cell? ⟨ga, 0, none⟩ = some (.int .i64 a) := (blk_cell h.A 0).trans rfl
  have ci0 : w.cell? ⟨gi, 0, none⟩ = some (.int .i64 i0) := (blk_cell h.I 0).trans rfl
  have ci1 : w.cell? ⟨gi, 1, none⟩ = some (.int .i64 i1) := (blk_cell h.I 1).trans rfl
  have cr : w.cell? ⟨gr, 0, none⟩ = some (.func (.func gf) #[] #[]) := (blk_cell h.R 0).trans rfl
  have fa := blk_frozen h.A 0
  have H := Aside0.mk h
  have HR := Aside0.mk hr
  clear h hlt hr
  go_enter Try.func65, Try.ntmps65
  go_wp2_with fail
  refine (HR.out _).mono ?_
  rintro e w' ⟨rfl, rfl⟩
  go_wp2_with fail
  go_end0
  exact ⟨rfl, H.out.putA tt⟩
/-- The row is empty, or an array of its own. -/
theorem R_place {α : Type} {d : Kd α} {e : Nat} {W : World} {base : Nat} {ok : Nat → Prop} {v : Value} {xs : List α} (h : Kd.R d e W base ok v xs) (hn : 0 < xs.length) : ∃ g c, v = .slice (some ⟨g, 0, none⟩) xs.length c ∧ base ≤ g := by
  obtain ⟨inner, ho⟩ := Kd.R_own h
  obtain ⟨h1, h2⟩ := ho
  rcases h2 with ⟨rfl, h3⟩ | ⟨g, cap, cur, rfl, hb, hh, r⟩
  · obtain ⟨A, c, he⟩ := Kd.R_slice h
    injection he with _ he _
    omega
  · obtain ⟨A, c, he⟩ := Kd.R_slice h
    injection he with e1 e2 e3
    exact ⟨g, cap, by rw [e2], hb⟩
theorem SwS.drewN {wk w0 W : World} {gf ga gr gi go : Nat} {a i0 i1 : Int} {v : Value} {xs : List S34} (h : SwS wk w0 gf ga gr gi go a i0 i1 v xs W) (n : Nat) : SwS wk w0 gf ga gr gi go a i0 i1 v xs (W.drewN n) where
  bel := pw_below_drewN h.bel n
  A := h.A
  I := h.I
  O := h.O
  R := h.R
  row := Kd.R_drewN h.row n
  la := h.la
  li := h.li
  lo := h.lo
  keep := h.keep
/-- The last range goes on. -/
theorem SwS.seg {wk w0 W : World} {gf ga gr gi go g c : Nat} {a i0 i1 : Int} {xs : List S34} (h : SwS wk w0 gf ga gr gi go a i0 i1 (.slice (some ⟨g, 0, none⟩) xs.length c) xs W) (hn : 0 < xs.length) (u : Int) :
    SwS wk w0 gf ga gr gi go a i0 i1 (.slice (some ⟨g, 0, none⟩) xs.length c) (xs.set (xs.length - 1) ⟨(rd_T34 xs ((xs.length : Int) - 1)).f0, u⟩) (W.setCell ⟨g, (xs.length - 1) * 2 + 1, none⟩ (.int .i64 u)) := by
  obtain ⟨cs, hcl, hcM, hcc, hcf⟩ := Kd.R_elem h.row z34 ((xs.length : Int) - 1) (by omega) (by omega)
  obtain rfl := k34_openM hcM
  have hi : ((xs.length : Int) - 1).toNat = xs.length - 1 := by omega
  have hs : k34.sz = 2 := rfl
  have hfin := Kd.R_seg h.row ((xs.length : Int) - 1) (by omega) (by omega) hcl hcc (seg := [.int .i64 u]) (j := 1) (by rw [hs]; simp) (x' := ⟨(rd_T34 xs ((xs.length : Int) - 1)).f0, u⟩) (okp := fun _ => False) (k34_mkM W w0.heap.size _ ⟨(rd_T34 xs ((xs.length : Int) - 1)).f0, u⟩) (fun _ hk => hk.elim)
  rw [hi, hs] at hfin
  obtain ⟨hrow, hgr⟩ := hfin
  have hrow : Kd.R k34 34 (W.setCell ⟨g, (xs.length - 1) * 2 + 1, none⟩ (.int .i64 u)) w0.heap.size (fun _ => True) (.slice (some ⟨g, 0, none⟩) xs.length c) (xs.set (xs.length - 1) ⟨(rd_T34 xs ((xs.length : Int) - 1)).f0, u⟩) := hrow
  obtain ⟨cells, hc⟩ := R_type h.row g (by simp [Value.ownBlock])
  have hb : w0.heap.size ≤ g := Kd.R_base h.row g (by simp [Value.ownBlock])
  exact ⟨h.bel.setCell hb _, blk_far h.A (p := ⟨g, _, none⟩) (blk_ne h.A hc (by decide)) _, blk_far h.I (p := ⟨g, _, none⟩) (blk_ne h.I hc (by decide)) _, blk_far h.O (p := ⟨g, _, none⟩) (blk_ne h.O hc (by decide)) _, blk_far h.R (p := ⟨g, _, none⟩) (blk_ne h.R hc (by decide)) _, hrow, h.la, h.li, h.lo, fun q cs hq => blk_far (h.keep q cs hq) (p := ⟨g, _, none⟩) (blk_ne (h.keep q cs hq) hc (by decide)) _⟩
set_option maxHeartbeats 4000000 in
set_option maxRecDepth 100000 in
theorem tell_join {wk w0 w : World} {gf ga gr gi go : Nat} {a i0 i1 tt : Int} {v : Value} {xs : List S34} (h : SwS wk w0 gf ga gr gi go a i0 i1 v xs w) (hlt : a < tt) (hbd : 0 ≤ a ∧ tt ≤ 1114112) (hn : 0 < xs.length) (hz : xs.length ≤ 100000) (hj : (rd_T34 xs ((xs.length : Int) - 1)).f1 = a - 1)
    (eg : ∀ args w, (callFunc gf args).run Try.prog w = .ok (.enter gf args) w) (hr : ∀ W, Calls Try.prog gf #[.bool (decide (0 < i0)), .bool (decide (0 < i1))] W fun e w' => e = .returned (.bool true) ∧ w' = W) :
    Calls Try.prog 65 #[.int .i64 tt, .pointer (some ⟨ga, 0, none⟩), .pointer (some ⟨gr, 0, none⟩), .pointer (some ⟨gi, 0, none⟩), .pointer (some ⟨go, 0, none⟩)] w fun e w' => e = .returned (.tuple #[]) ∧ SwS wk w0 gf ga gr gi go tt i0 i1 v (xs.set (xs.length - 1) ⟨(rd_T34 xs ((xs.length : Int) - 1)).f0, tt - 1⟩) w' := by
  have hd : decide (a < tt) = true := decide_eq_true hlt
  have ca : w.cell? ⟨ga, 0, none⟩ = some (.int .i64 a) := (blk_cell h.A 0).trans rfl
  have ci0 : w.cell? ⟨gi, 0, none⟩ = some (.int .i64 i0) := (blk_cell h.I 0).trans rfl
  have ci1 : w.cell? ⟨gi, 1, none⟩ = some (.int .i64 i1) := (blk_cell h.I 1).trans rfl
  have cr : w.cell? ⟨gr, 0, none⟩ = some (.func (.func gf) #[] #[]) := (blk_cell h.R 0).trans rfl
  obtain ⟨g, c, rfl, hg⟩ := R_place h.row hn
  have co : w.cell? ⟨go, 0, none⟩ = some (.slice (some ⟨g, 0, none⟩) xs.length c) := (blk_cell h.O 0).trans rfl
  have fa := blk_frozen h.A 0
  obtain ⟨cs, hcl, hcM, hcc, hcf⟩ := Kd.R_elem h.row z34 ((xs.length : Int) - 1) (by omega) (by omega)
  obtain rfl := k34_openM hcM
  have hi : ((xs.length : Int) - 1).toNat = xs.length - 1 := by omega
  have c1 : w.cell? ⟨g, (xs.length - 1) * 2 + 1, none⟩ = some (.int .i64 (a - 1)) := by
    have := hcc 1 _ rfl
    rw [hi] at this
    rw [← hj]
    unfold rd_T34
    rw [hi]
    exact this
  have f1 : w.frozen? ⟨g, (xs.length - 1) * 2 + 1, none⟩ = false := by
    have := hcf 1
    rw [hi] at this
    exact this
  have H := Aside0.mk h
  have HR := Aside0.mk hr
  have b1 : decide (0 < (xs.length : Int)) = true := by simp; omega
  have b1' : decide (0 < xs.length) = true := by simp; omega
  have w1 : IntKind.i64.wrap ((xs.length : Int) - 1) = (xs.length : Int) - 1 := IntWalk.i64_in _ (by omega)
  have w2 : IntKind.i64.wrap (a - 1) = a - 1 := IntWalk.i64_in _ (by omega)
  have w3 : IntKind.i64.wrap (tt - 1) = tt - 1 := IntWalk.i64_in _ (by omega)
  have q0 : 0 ≤ (xs.length : Int) - 1 := by omega
  have q1 : (xs.length : Int) - 1 < (xs.length : Int) := by omega
  have e1 : ((a - 1) == (a - 1)) = true := by simp
  clear h hlt hr hcc hcf hcM hcl hj
  go_enter Try.func65, Try.ntmps65
  go_wp2_with fail
  refine (HR.out _).mono ?_
  rintro e w' ⟨rfl, rfl⟩
  go_wp2_with fail
  go_quiet (fail)
  go_wp2_with fail
  go_end0
  exact ⟨rfl, ((H.out.drewN nq).seg hn (tt - 1)).putA tt⟩
theorem info34 : (Try.prog.info? 34).map (fun i => (i.zero, i.size, i.bytes)) = some (some (.agg #[.int .i64 0, .int .i64 0]), 2, 16) := by kernel_rfl
/-- Behind an append to the row, ahead of the stores. -/
theorem SwS.grown {wk w0 W W1 : World} {gf ga gr gi go : Nat} {a i0 i1 : Int} {v v1 : Value} {xs ys : List S34} (h : SwS wk w0 gf ga gr gi go a i0 i1 v xs W) (hb : Below w0.heap.size w0 W1) (hg : W.grownBy W1 v.ownBlock) (hr : Kd.R k34 34 W1 w0.heap.size (fun _ => True) v1 ys) :
    SwS wk w0 gf ga gr gi go a i0 i1 v1 ys (W1.setCell ⟨go, 0, none⟩ v1) ∧ W1.heap[ga]? = some (.cells #[.int .i64 a] 3 (0, 0)) ∧ W1.heap[go]? = some (.cells #[v] 22 (0, 0)) := by
  have ne : ∀ {g t : Nat} {cs : Array Value}, W.heap[g]? = some (.cells cs t (0, 0)) → t ≠ 34 → some g ≠ v.ownBlock := by
    intro g t cs hg ht he
    obtain ⟨cells, hc⟩ := R_type h.row g he.symm
    rw [hg] at hc
    injection hc with hc
    injection hc with _ hc
    exact ht hc
  have A := blk_grown h.A hg (ne h.A (by decide))
  have I := blk_grown h.I hg (ne h.I (by decide))
  have O := blk_grown h.O hg (ne h.O (by decide))
  have R := blk_grown h.R hg (ne h.R (by decide))
  exact ⟨⟨hb.setCell h.lo _, blk_far A (p := ⟨go, 0, none⟩) (blk_ne A O (by decide)) _, blk_far I (p := ⟨go, 0, none⟩) (blk_ne I O (by decide)) _, blk_put O 0 _ rfl, blk_far R (p := ⟨go, 0, none⟩) (blk_ne R O (by decide)) _, R_other rfl hr O (by decide) _, h.la, h.li, h.lo, fun q cs hq => by
    have K := blk_grown (h.keep q cs hq) hg (ne (h.keep q cs hq) (by decide))
    exact blk_far K (p := ⟨go, 0, none⟩) (blk_ne K O (by decide)) _⟩, A, O⟩
set_option maxHeartbeats 4000000 in
set_option maxRecDepth 100000 in
theorem tell_app0 {wk w0 w : World} {gf ga gr gi go : Nat} {a i0 i1 tt : Int} {v : Value} {xs : List S34} (h : SwS wk w0 gf ga gr gi go a i0 i1 v xs w) (hlt : a < tt) (hbd : 0 ≤ a ∧ tt ≤ 1114112) (hz : xs.length ≤ 100000) (hn : xs.length = 0)
    (eg : ∀ args w, (callFunc gf args).run Try.prog w = .ok (.enter gf args) w) (hr : ∀ W, Calls Try.prog gf #[.bool (decide (0 < i0)), .bool (decide (0 < i1))] W fun e w' => e = .returned (.bool true) ∧ w' = W) :
    Calls Try.prog 65 #[.int .i64 tt, .pointer (some ⟨ga, 0, none⟩), .pointer (some ⟨gr, 0, none⟩), .pointer (some ⟨gi, 0, none⟩), .pointer (some ⟨go, 0, none⟩)] w fun e w' => e = .returned (.tuple #[]) ∧ ∃ v1, SwS wk w0 gf ga gr gi go tt i0 i1 v1 (xs ++ [⟨a, tt - 1⟩]) w' := by
  have hd : decide (a < tt) = true := decide_eq_true hlt
  have ca : w.cell? ⟨ga, 0, none⟩ = some (.int .i64 a) := (blk_cell h.A 0).trans rfl
  have ci0 : w.cell? ⟨gi, 0, none⟩ = some (.int .i64 i0) := (blk_cell h.I 0).trans rfl
  have ci1 : w.cell? ⟨gi, 1, none⟩ = some (.int .i64 i1) := (blk_cell h.I 1).trans rfl
  have cr : w.cell? ⟨gr, 0, none⟩ = some (.func (.func gf) #[] #[]) := (blk_cell h.R 0).trans rfl
  obtain ⟨A, c, rfl⟩ := Kd.R_slice h.row
  have co : w.cell? ⟨go, 0, none⟩ = some (.slice A xs.length c) := (blk_cell h.O 0).trans rfl
  have b1 : decide ((0 : Int) < (xs.length : Int)) = false := decide_eq_false (by omega)
  have b1' : decide (0 < xs.length) = false := decide_eq_false (by omega)
  clear hn
  have w3 : IntKind.i64.wrap (tt - 1) = tt - 1 := IntWalk.i64_in _ (by omega)
  have hsz : w0.heap.size ≤ w.heap.size := h.bel.size
  have H := Aside0.mk h
  have HR := Aside0.mk hr
  clear h hlt hr
  go_enter Try.func65, Try.ntmps65
  go_wp2_with fail
  refine (HR.out _).mono ?_
  rintro e w' ⟨rfl, rfl⟩
  go_wp2_with fail
  go_quiet (fail)
  go_wp2_with ((with_reducible refine gate_builtin (b := .append) (xs := #[.tmp 42, .tmp 47]) rfl ?_); at_builtin; refine Kd.R_append k34 (w0 := w0) w0.heap.size rfl (.tmp 42) (.tmp 47) 22 34 (.agg #[.int .i64 0, .int .i64 0]) 16 rfl Try.underlying22 info34 rfl (by decide) (by omega) _ xs ⟨a, tt - 1⟩ [.int .i64 a, .int .i64 (tt - 1)] (fun _ => True) (fun _ => False) rfl rfl ?aP (fun _ hk => hk.elim) ?aF ?aO ?aB ?aS ?aL ?_; (case aP => exact k34_mkM _ _ _ ⟨a, tt - 1⟩); (case aF => exact fun _ _ => trivial); (case aO => exact (H.out.drewN _).row); (case aB => exact (H.out.drewN _).bel); (case aS => exact hsz); (case aL => omega); intro v1 w1 hR hb hg hat; obtain ⟨A1_, c1_, rfl⟩ := Kd.R_slice hR; obtain ⟨S1, A1, O1⟩ := (H.out.drewN _).grown hb hg hR; have S2 := Aside0.mk S1; clear S1 hR hb hg hat; have fo := blk_frozen O1 0; have co1 : w1.cell? ⟨go, 0, none⟩ = some (.slice A xs.length c) := (blk_cell O1 0).trans rfl; have ga1 := blk_frozen A1 0; have ca1 : w1.cell? ⟨ga, 0, none⟩ = some (.int .i64 a) := (blk_cell A1 0).trans rfl; have ne1 : ga ≠ go := blk_ne A1 O1 (by decide))
  go_end0
  have S3 := S2.out
  rw [show (xs ++ [(⟨a, tt - 1⟩ : S34)]).length = xs.length + 1 from by simp] at S3
  exact ⟨rfl, _, S3.putA tt⟩
set_option maxHeartbeats 4000000 in
set_option maxRecDepth 100000 in
theorem tell_app1 {wk w0 w : World} {gf ga gr gi go : Nat} {a i0 i1 tt : Int} {v : Value} {xs : List S34} (h : SwS wk w0 gf ga gr gi go a i0 i1 v xs w) (hlt : a < tt) (hbd : 0 ≤ a ∧ tt ≤ 1114112) (hz : xs.length ≤ 100000) (hn : 0 < xs.length) (hj : ¬ (rd_T34 xs ((xs.length : Int) - 1)).f1 = a - 1)
    (eg : ∀ args w, (callFunc gf args).run Try.prog w = .ok (.enter gf args) w) (hr : ∀ W, Calls Try.prog gf #[.bool (decide (0 < i0)), .bool (decide (0 < i1))] W fun e w' => e = .returned (.bool true) ∧ w' = W) :
    Calls Try.prog 65 #[.int .i64 tt, .pointer (some ⟨ga, 0, none⟩), .pointer (some ⟨gr, 0, none⟩), .pointer (some ⟨gi, 0, none⟩), .pointer (some ⟨go, 0, none⟩)] w fun e w' => e = .returned (.tuple #[]) ∧ ∃ v1, SwS wk w0 gf ga gr gi go tt i0 i1 v1 (xs ++ [⟨a, tt - 1⟩]) w' := by
  have hd : decide (a < tt) = true := decide_eq_true hlt
  have ca : w.cell? ⟨ga, 0, none⟩ = some (.int .i64 a) := (blk_cell h.A 0).trans rfl
  have ci0 : w.cell? ⟨gi, 0, none⟩ = some (.int .i64 i0) := (blk_cell h.I 0).trans rfl
  have ci1 : w.cell? ⟨gi, 1, none⟩ = some (.int .i64 i1) := (blk_cell h.I 1).trans rfl
  have cr : w.cell? ⟨gr, 0, none⟩ = some (.func (.func gf) #[] #[]) := (blk_cell h.R 0).trans rfl
  obtain ⟨g, c, rfl, hg⟩ := R_place h.row hn
  have co : w.cell? ⟨go, 0, none⟩ = some (.slice (some ⟨g, 0, none⟩) xs.length c) := (blk_cell h.O 0).trans rfl
  obtain ⟨cs, hcl, hcM, hcc, hcf⟩ := Kd.R_elem h.row z34 ((xs.length : Int) - 1) (by omega) (by omega)
  obtain rfl := k34_openM hcM
  have hi : ((xs.length : Int) - 1).toNat = xs.length - 1 := by omega
  have c1 : w.cell? ⟨g, (xs.length - 1) * 2 + 1, none⟩ = some (.int .i64 (rd_T34 xs ((xs.length : Int) - 1)).f1) := by
    have := hcc 1 _ rfl
    rw [hi] at this
    unfold rd_T34
    rw [hi]
    exact this
  generalize (rd_T34 xs ((xs.length : Int) - 1)).f1 = y at hj c1
  have b1 : decide (0 < (xs.length : Int)) = true := decide_eq_true (by omega)
  have b1' : decide (0 < xs.length) = true := decide_eq_true hn
  have w1 : IntKind.i64.wrap ((xs.length : Int) - 1) = (xs.length : Int) - 1 := IntWalk.i64_in _ (by omega)
  have w2 : IntKind.i64.wrap (a - 1) = a - 1 := IntWalk.i64_in _ (by omega)
  have q0 : 0 ≤ (xs.length : Int) - 1 := by omega
  have q1 : (xs.length : Int) - 1 < (xs.length : Int) := by omega
  have e1 : (y == (a - 1)) = false := beq_eq_false_iff_ne.2 hj
  have w3 : IntKind.i64.wrap (tt - 1) = tt - 1 := IntWalk.i64_in _ (by omega)
  have hsz : w0.heap.size ≤ w.heap.size := h.bel.size
  have H := Aside0.mk h
  have HR := Aside0.mk hr
  clear h hlt hr hj hcc hcf hcM hcl
  go_enter Try.func65, Try.ntmps65
  go_wp2_with fail
  refine (HR.out _).mono ?_
  rintro e w' ⟨rfl, rfl⟩
  go_wp2_with fail
  go_quiet (fail)
  go_wp2_with ((with_reducible refine gate_builtin (b := .append) (xs := #[.tmp 42, .tmp 47]) rfl ?_); at_builtin; refine Kd.R_append k34 (w0 := w0) w0.heap.size rfl (.tmp 42) (.tmp 47) 22 34 (.agg #[.int .i64 0, .int .i64 0]) 16 rfl Try.underlying22 info34 rfl (by decide) (by omega) _ xs ⟨a, tt - 1⟩ [.int .i64 a, .int .i64 (tt - 1)] (fun _ => True) (fun _ => False) rfl rfl ?aP (fun _ hk => hk.elim) ?aF ?aO ?aB ?aS ?aL ?_; (case aP => exact k34_mkM _ _ _ ⟨a, tt - 1⟩); (case aF => exact fun _ _ => trivial); (case aO => exact (H.out.drewN _).row); (case aB => exact (H.out.drewN _).bel); (case aS => exact hsz); (case aL => omega); intro v1 w2_ hR hb hgr hat; obtain ⟨A1_, c1_, rfl⟩ := Kd.R_slice hR; obtain ⟨S1, A1, O1⟩ := (H.out.drewN _).grown hb hgr hR; have S2 := Aside0.mk S1; clear S1 hR hb hgr hat; have fo := blk_frozen O1 0; have co1 : w2_.cell? ⟨go, 0, none⟩ = some (.slice (some ⟨g, 0, none⟩) xs.length c) := (blk_cell O1 0).trans rfl; have ga1 := blk_frozen A1 0; have ca1 : w2_.cell? ⟨ga, 0, none⟩ = some (.int .i64 a) := (blk_cell A1 0).trans rfl; have ne1 : ga ≠ go := blk_ne A1 O1 (by decide))
  go_end0
  have S3 := S2.out
  rw [show (xs ++ [(⟨a, tt - 1⟩ : S34)]).length = xs.length + 1 from by simp] at S3
  exact ⟨rfl, _, S3.putA tt⟩
/-- ONE CALL OF tell. -/
theorem tell_calls {wk w0 w : World} {gf ga gr gi go : Nat} {rb : Bool → Bool → Bool} {a i0 i1 tt : Int} {v : Value} {xs : List S34} (h : SwS wk w0 gf ga gr gi go a i0 i1 v xs w) (hbd : 0 ≤ a ∧ tt ≤ 1114112) (hz : xs.length ≤ 100000)
    (eg : ∀ args w, (callFunc gf args).run Try.prog w = .ok (.enter gf args) w) (hr : ∀ x y W, Calls Try.prog gf #[.bool x, .bool y] W fun e w' => e = .returned (.bool (rb x y)) ∧ w' = W) :
    Calls Try.prog 65 #[.int .i64 tt, .pointer (some ⟨ga, 0, none⟩), .pointer (some ⟨gr, 0, none⟩), .pointer (some ⟨gi, 0, none⟩), .pointer (some ⟨go, 0, none⟩)] w fun e w' => e = .returned (.tuple #[]) ∧ ∃ v1, SwS wk w0 gf ga gr gi go tt i0 i1 v1 (tellF (rb (decide (0 < i0)) (decide (0 < i1))) a tt xs) w' := by
  unfold tellF
  by_cases hlt : a < tt
  · have hr' := hr (decide (0 < i0)) (decide (0 < i1))
    cases hb : rb (decide (0 < i0)) (decide (0 < i1)) with
    | false =>
      rw [hb] at hr'
      rw [if_neg (by simp)]
      exact (tell_no h hlt eg hr').mono fun _ _ ⟨he, hs⟩ => ⟨he, _, hs⟩
    | true =>
      rw [hb] at hr'
      rw [if_pos ⟨hlt, rfl⟩]
      by_cases hn : 0 < xs.length
      · by_cases hj : (rd_T34 xs ((xs.length : Int) - 1)).f1 = a - 1
        · rw [if_pos ⟨hn, hj⟩]
          exact (tell_join h hlt hbd hn hz hj eg hr').mono fun _ _ ⟨he, hs⟩ => ⟨he, _, hs⟩
        · rw [if_neg (fun q => hj q.2)]
          exact tell_app1 h hlt hbd hz hn hj eg hr'
      · rw [if_neg (fun q => hn q.1)]
        exact tell_app0 h hlt hbd hz (by omega) eg hr'
  · rw [if_neg (fun q => hlt q.1)]
    exact (tell_skip h hlt).mono fun _ _ ⟨he, hs⟩ => ⟨he, _, hs⟩
end Go.Proofs.Ytippkbgeeeimjaa.L
