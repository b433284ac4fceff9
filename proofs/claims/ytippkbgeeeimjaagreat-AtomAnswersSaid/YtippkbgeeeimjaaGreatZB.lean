/- Sorts, sweeps and sets. -/
import Derived.Shelf.SlGeneric
import Derived.Shelf.SlSortCmp.WholeK
import Derived.Shelf.SlSortCmp.NoneTotal
import Derived.Ground.SlsfProg
import Derived.Test.YtippkbgeeeimjaaGreatProg
import Derived.Test.YtippkbgeeeimjaaGreatZA
import Derived.Deep.DeepMust
import Derived.IntWalk
import Derived.Deep.QuietTactic
import Derived.BigQuiet
import Derived.Lib.Hide
import Derived.Lib.OwnBridge
import Derived.Outline
import Derived.Deep.RegionLaw
import Derived.StillTailTactics
/-
  DERIVED: THE SHELF's CONTRACTS AT THIS DUMP, IN PLAIN WORDS (tools/lay-plain.mjs out of 'YtippkbgeeeimjaaGreatShelf.lean', which tools/lay-shelf.mjs wrote): THE SAME DECLARATIONS UNDER THE SAME NAMES: 'import', 'namespace', 'open', 'def', 'theorem' AND NOTHING ELSE: no command of the shelf's: FOR A HAND-IN. Each laying: the table of numbers ('.._ren') and one theorem, a field a fact of the dump's own or the kernel's comparison; each contract: ONE APPLICATION.
-/
namespace Go.Proofs
open Go.Shelf
def Tryz.sortStep_ren : Go.Shelf.Ren := ⟨fun | 6 => 59 | 15 => 48 | 14 => 86 | 28 => 73 | 29 => 74 | 20 => 96 | 21 => 97 | 22 => 98 | 23 => 99 | 24 => 100 | 25 => 101 | 26 => 102 | 27 => 103 | 46 => 106 | 47 => 88 | 48 => 89 | 49 => 107 | 50 => 108 | 57 => 109 | n => n, fun | 22 => 68 | 24 => 72 | 25 => 73 | 3 => 3 | 39 => 61 | 0 => 0 | 53 => 85 | 55 => 87 | 4 => 4 | 46 => 78 | 45 => 77 | 50 => 82 | 5 => 5 | 9 => 9 | 66 => 95 | 70 => 99 | 76 => 108 | 77 => 109 | n => n, fun | n => n⟩
theorem Tryz.sortStep : Go.Proofs.SlLaysF0.n6 Tryz.prog Tryz.sortStep_ren := {
  mixed := by kernel_rfl
  f6 := ⟨Tryz.f59.name, by decide, Tryz.func59.trans (congrArg some (by kernel_rfl))⟩
  f14 := ⟨Tryz.f86.name, by decide, Tryz.func86.trans (congrArg some (by kernel_rfl))⟩
  f15 := Tryz.func48.trans (congrArg some (by kernel_rfl))
  f20 := ⟨Tryz.f96.name, by decide, Tryz.func96.trans (congrArg some (by kernel_rfl))⟩
  f21 := ⟨Tryz.f97.name, by decide, Tryz.func97.trans (congrArg some (by kernel_rfl))⟩
  f22 := ⟨Tryz.f98.name, by decide, Tryz.func98.trans (congrArg some (by kernel_rfl))⟩
  f23 := ⟨Tryz.f99.name, by decide, Tryz.func99.trans (congrArg some (by kernel_rfl))⟩
  f24 := ⟨Tryz.f100.name, by decide, Tryz.func100.trans (congrArg some (by kernel_rfl))⟩
  f25 := ⟨Tryz.f101.name, by decide, Tryz.func101.trans (congrArg some (by kernel_rfl))⟩
  f26 := ⟨Tryz.f102.name, by decide, Tryz.func102.trans (congrArg some (by kernel_rfl))⟩
  f27 := ⟨Tryz.f103.name, by decide, Tryz.func103.trans (congrArg some (by kernel_rfl))⟩
  f28 := Tryz.func73.trans (congrArg some (by kernel_rfl))
  f29 := Tryz.func74.trans (congrArg some (by kernel_rfl))
  f46 := ⟨Tryz.f106.name, by decide, Tryz.func106.trans (congrArg some (by kernel_rfl))⟩
  f47 := Tryz.func88.trans (congrArg some (by kernel_rfl))
  f48 := Tryz.func89.trans (congrArg some (by kernel_rfl))
  f49 := ⟨Tryz.f107.name, by decide, Tryz.func107.trans (congrArg some (by kernel_rfl))⟩
  f50 := ⟨Tryz.f108.name, by decide, Tryz.func108.trans (congrArg some (by kernel_rfl))⟩
  f57 := ⟨Tryz.f109.name, by decide, Tryz.func109.trans (congrArg some (by kernel_rfl))⟩
  t0 := Tryz.underlying0
  a0 := Tryz.isAgg0
  z0 := Tryz.sizeOf0
  v0 := Tryz.zeroValue0
  t3 := Tryz.underlying3
  a3 := Tryz.isAgg3
  z3 := Tryz.sizeOf3
  v3 := Tryz.zeroValue3
  t4 := Tryz.underlying4
  a4 := Tryz.isAgg4
  z4 := Tryz.sizeOf4
  v4 := Tryz.zeroValue4
  t5 := Tryz.underlying5
  a5 := Tryz.isAgg5
  z5 := Tryz.sizeOf5
  v5 := Tryz.zeroValue5
  t9 := Tryz.underlying9
  a9 := Tryz.isAgg9
  z9 := Tryz.sizeOf9
  v9 := Tryz.zeroValue9
  t22 := Tryz.underlying68
  a22 := Tryz.isAgg68
  z22 := Tryz.sizeOf68
  v22 := Tryz.zeroValue68
  t25 := Tryz.underlying73
  a25 := Tryz.isAgg73
  z25 := Tryz.sizeOf73
  v25 := Tryz.zeroValue73
  t39 := Tryz.underlying61
  a39 := Tryz.isAgg61
  z39 := Tryz.sizeOf61
  v39 := Tryz.zeroValue61
  t45 := Tryz.underlying77
  a45 := Tryz.isAgg77
  z45 := Tryz.sizeOf77
  v45 := Tryz.zeroValue77
  t46 := Tryz.underlying78
  a46 := Tryz.isAgg78
  z46 := Tryz.sizeOf78
  v46 := Tryz.zeroValue78
  t50 := Tryz.underlying82
  a50 := Tryz.isAgg82
  z50 := Tryz.sizeOf82
  v50 := Tryz.zeroValue82
  t53 := Tryz.underlying85
  a53 := Tryz.isAgg85
  z53 := Tryz.sizeOf85
  v53 := Tryz.zeroValue85
  t55 := Tryz.underlying87
  a55 := Tryz.isAgg87
  z55 := Tryz.sizeOf87
  v55 := Tryz.zeroValue87
  t66 := Tryz.underlying95
  a66 := Tryz.isAgg95
  z66 := Tryz.sizeOf95
  v66 := Tryz.zeroValue95
  t70 := Tryz.underlying99
  a70 := Tryz.isAgg99
  z70 := Tryz.sizeOf99
  v70 := Tryz.zeroValue99
  t76 := Tryz.underlying108
  a76 := Tryz.isAgg108
  z76 := Tryz.sizeOf108
  v76 := Tryz.zeroValue108
  t77 := Tryz.underlying109
  a77 := Tryz.isAgg109
  z77 := Tryz.sizeOf109
  v77 := Tryz.zeroValue109 }
def Tryz.sortRange_ren : Go.Shelf.Ren := ⟨fun | 6 => 37 | 15 => 48 | 14 => 56 | 28 => 73 | 29 => 74 | 20 => 78 | 21 => 79 | 22 => 80 | 23 => 81 | 24 => 82 | 25 => 83 | 26 => 84 | 27 => 85 | 46 => 93 | 47 => 88 | 48 => 89 | 49 => 94 | 50 => 95 | 57 => 105 | n => n, fun | 22 => 23 | 24 => 38 | 25 => 52 | 3 => 3 | 39 => 61 | 0 => 0 | 53 => 85 | 55 => 87 | 4 => 4 | 46 => 78 | 45 => 77 | 50 => 82 | 5 => 5 | 9 => 9 | 66 => 95 | 70 => 99 | 76 => 108 | 77 => 109 | n => n, fun | n => n⟩
theorem Tryz.sortRange : Go.Proofs.SlLaysF0.n6 Tryz.prog Tryz.sortRange_ren := {
  mixed := by kernel_rfl
  f6 := ⟨Tryz.f37.name, by decide, Tryz.func37.trans (congrArg some (by kernel_rfl))⟩
  f14 := ⟨Tryz.f56.name, by decide, Tryz.func56.trans (congrArg some (by kernel_rfl))⟩
  f15 := Tryz.func48.trans (congrArg some (by kernel_rfl))
  f20 := ⟨Tryz.f78.name, by decide, Tryz.func78.trans (congrArg some (by kernel_rfl))⟩
  f21 := ⟨Tryz.f79.name, by decide, Tryz.func79.trans (congrArg some (by kernel_rfl))⟩
  f22 := ⟨Tryz.f80.name, by decide, Tryz.func80.trans (congrArg some (by kernel_rfl))⟩
  f23 := ⟨Tryz.f81.name, by decide, Tryz.func81.trans (congrArg some (by kernel_rfl))⟩
  f24 := ⟨Tryz.f82.name, by decide, Tryz.func82.trans (congrArg some (by kernel_rfl))⟩
  f25 := ⟨Tryz.f83.name, by decide, Tryz.func83.trans (congrArg some (by kernel_rfl))⟩
  f26 := ⟨Tryz.f84.name, by decide, Tryz.func84.trans (congrArg some (by kernel_rfl))⟩
  f27 := ⟨Tryz.f85.name, by decide, Tryz.func85.trans (congrArg some (by kernel_rfl))⟩
  f28 := Tryz.func73.trans (congrArg some (by kernel_rfl))
  f29 := Tryz.func74.trans (congrArg some (by kernel_rfl))
  f46 := ⟨Tryz.f93.name, by decide, Tryz.func93.trans (congrArg some (by kernel_rfl))⟩
  f47 := Tryz.func88.trans (congrArg some (by kernel_rfl))
  f48 := Tryz.func89.trans (congrArg some (by kernel_rfl))
  f49 := ⟨Tryz.f94.name, by decide, Tryz.func94.trans (congrArg some (by kernel_rfl))⟩
  f50 := ⟨Tryz.f95.name, by decide, Tryz.func95.trans (congrArg some (by kernel_rfl))⟩
  f57 := ⟨Tryz.f105.name, by decide, Tryz.func105.trans (congrArg some (by kernel_rfl))⟩
  t0 := Tryz.underlying0
  a0 := Tryz.isAgg0
  z0 := Tryz.sizeOf0
  v0 := Tryz.zeroValue0
  t3 := Tryz.underlying3
  a3 := Tryz.isAgg3
  z3 := Tryz.sizeOf3
  v3 := Tryz.zeroValue3
  t4 := Tryz.underlying4
  a4 := Tryz.isAgg4
  z4 := Tryz.sizeOf4
  v4 := Tryz.zeroValue4
  t5 := Tryz.underlying5
  a5 := Tryz.isAgg5
  z5 := Tryz.sizeOf5
  v5 := Tryz.zeroValue5
  t9 := Tryz.underlying9
  a9 := Tryz.isAgg9
  z9 := Tryz.sizeOf9
  v9 := Tryz.zeroValue9
  t22 := Tryz.underlying23
  a22 := Tryz.isAgg23
  z22 := Tryz.sizeOf23
  v22 := Tryz.zeroValue23
  t25 := Tryz.underlying52
  a25 := Tryz.isAgg52
  z25 := Tryz.sizeOf52
  v25 := Tryz.zeroValue52
  t39 := Tryz.underlying61
  a39 := Tryz.isAgg61
  z39 := Tryz.sizeOf61
  v39 := Tryz.zeroValue61
  t45 := Tryz.underlying77
  a45 := Tryz.isAgg77
  z45 := Tryz.sizeOf77
  v45 := Tryz.zeroValue77
  t46 := Tryz.underlying78
  a46 := Tryz.isAgg78
  z46 := Tryz.sizeOf78
  v46 := Tryz.zeroValue78
  t50 := Tryz.underlying82
  a50 := Tryz.isAgg82
  z50 := Tryz.sizeOf82
  v50 := Tryz.zeroValue82
  t53 := Tryz.underlying85
  a53 := Tryz.isAgg85
  z53 := Tryz.sizeOf85
  v53 := Tryz.zeroValue85
  t55 := Tryz.underlying87
  a55 := Tryz.isAgg87
  z55 := Tryz.sizeOf87
  v55 := Tryz.zeroValue87
  t66 := Tryz.underlying95
  a66 := Tryz.isAgg95
  z66 := Tryz.sizeOf95
  v66 := Tryz.zeroValue95
  t70 := Tryz.underlying99
  a70 := Tryz.isAgg99
  z70 := Tryz.sizeOf99
  v70 := Tryz.zeroValue99
  t76 := Tryz.underlying108
  a76 := Tryz.isAgg108
  z76 := Tryz.sizeOf108
  v76 := Tryz.zeroValue108
  t77 := Tryz.underlying109
  a77 := Tryz.isAgg109
  z77 := Tryz.sizeOf109
  v77 := Tryz.zeroValue109 }
def Tryz.sortRows_ren : Go.Shelf.Ren := ⟨fun | 6 => 22 | 15 => 48 | 14 => 47 | 28 => 73 | 29 => 74 | 20 => 65 | 21 => 66 | 22 => 67 | 23 => 68 | 24 => 69 | 25 => 70 | 26 => 71 | 27 => 72 | 46 => 87 | 47 => 88 | 48 => 89 | 49 => 90 | 50 => 91 | 57 => 104 | n => n, fun | 22 => 22 | 24 => 23 | 25 => 45 | 3 => 3 | 39 => 61 | 0 => 0 | 53 => 85 | 55 => 87 | 4 => 4 | 46 => 78 | 45 => 77 | 50 => 82 | 5 => 5 | 9 => 9 | 66 => 95 | 70 => 99 | 76 => 108 | 77 => 109 | n => n, fun | n => n⟩
theorem Tryz.sortRows : Go.Proofs.SlLaysF.n6 Tryz.prog Tryz.sortRows_ren := {
  mixed := by kernel_rfl
  f6 := ⟨Tryz.f22.name, by decide, Tryz.func22.trans (congrArg some (by kernel_rfl))⟩
  f14 := ⟨Tryz.f47.name, by decide, Tryz.func47.trans (congrArg some (by kernel_rfl))⟩
  f15 := Tryz.func48.trans (congrArg some (by kernel_rfl))
  f20 := ⟨Tryz.f65.name, by decide, Tryz.func65.trans (congrArg some (by kernel_rfl))⟩
  f21 := ⟨Tryz.f66.name, by decide, Tryz.func66.trans (congrArg some (by kernel_rfl))⟩
  f22 := ⟨Tryz.f67.name, by decide, Tryz.func67.trans (congrArg some (by kernel_rfl))⟩
  f23 := ⟨Tryz.f68.name, by decide, Tryz.func68.trans (congrArg some (by kernel_rfl))⟩
  f24 := ⟨Tryz.f69.name, by decide, Tryz.func69.trans (congrArg some (by kernel_rfl))⟩
  f25 := ⟨Tryz.f70.name, by decide, Tryz.func70.trans (congrArg some (by kernel_rfl))⟩
  f26 := ⟨Tryz.f71.name, by decide, Tryz.func71.trans (congrArg some (by kernel_rfl))⟩
  f27 := ⟨Tryz.f72.name, by decide, Tryz.func72.trans (congrArg some (by kernel_rfl))⟩
  f28 := Tryz.func73.trans (congrArg some (by kernel_rfl))
  f29 := Tryz.func74.trans (congrArg some (by kernel_rfl))
  f46 := ⟨Tryz.f87.name, by decide, Tryz.func87.trans (congrArg some (by kernel_rfl))⟩
  f47 := Tryz.func88.trans (congrArg some (by kernel_rfl))
  f48 := Tryz.func89.trans (congrArg some (by kernel_rfl))
  f49 := ⟨Tryz.f90.name, by decide, Tryz.func90.trans (congrArg some (by kernel_rfl))⟩
  f50 := ⟨Tryz.f91.name, by decide, Tryz.func91.trans (congrArg some (by kernel_rfl))⟩
  f57 := ⟨Tryz.f104.name, by decide, Tryz.func104.trans (congrArg some (by kernel_rfl))⟩
  t0 := Tryz.underlying0
  a0 := Tryz.isAgg0
  z0 := Tryz.sizeOf0
  v0 := Tryz.zeroValue0
  t3 := Tryz.underlying3
  a3 := Tryz.isAgg3
  z3 := Tryz.sizeOf3
  v3 := Tryz.zeroValue3
  t4 := Tryz.underlying4
  a4 := Tryz.isAgg4
  z4 := Tryz.sizeOf4
  v4 := Tryz.zeroValue4
  t5 := Tryz.underlying5
  a5 := Tryz.isAgg5
  z5 := Tryz.sizeOf5
  v5 := Tryz.zeroValue5
  t9 := Tryz.underlying9
  a9 := Tryz.isAgg9
  z9 := Tryz.sizeOf9
  v9 := Tryz.zeroValue9
  t22 := Tryz.underlying22
  a22 := Tryz.isAgg22
  z22 := Tryz.sizeOf22
  v22 := Tryz.zeroValue22
  a24 := Tryz.isAgg23
  z24 := Tryz.sizeOf23
  t25 := Tryz.underlying45
  a25 := Tryz.isAgg45
  z25 := Tryz.sizeOf45
  v25 := Tryz.zeroValue45
  t39 := Tryz.underlying61
  a39 := Tryz.isAgg61
  z39 := Tryz.sizeOf61
  v39 := Tryz.zeroValue61
  t45 := Tryz.underlying77
  a45 := Tryz.isAgg77
  z45 := Tryz.sizeOf77
  v45 := Tryz.zeroValue77
  t46 := Tryz.underlying78
  a46 := Tryz.isAgg78
  z46 := Tryz.sizeOf78
  v46 := Tryz.zeroValue78
  t50 := Tryz.underlying82
  a50 := Tryz.isAgg82
  z50 := Tryz.sizeOf82
  v50 := Tryz.zeroValue82
  t53 := Tryz.underlying85
  a53 := Tryz.isAgg85
  z53 := Tryz.sizeOf85
  v53 := Tryz.zeroValue85
  t55 := Tryz.underlying87
  a55 := Tryz.isAgg87
  z55 := Tryz.sizeOf87
  v55 := Tryz.zeroValue87
  t66 := Tryz.underlying95
  a66 := Tryz.isAgg95
  z66 := Tryz.sizeOf95
  v66 := Tryz.zeroValue95
  t70 := Tryz.underlying99
  a70 := Tryz.isAgg99
  z70 := Tryz.sizeOf99
  v70 := Tryz.zeroValue99
  t76 := Tryz.underlying108
  a76 := Tryz.isAgg108
  z76 := Tryz.sizeOf108
  v76 := Tryz.zeroValue108
  t77 := Tryz.underlying109
  a77 := Tryz.isAgg109
  z77 := Tryz.sizeOf109
  v77 := Tryz.zeroValue109 }
end Go.Proofs
/- span.sweep's inner function: what it turns. -/
namespace Go.Proofs.YtippkbgeeeimjaaGreat.L
open Go.RowKit Go.Proofs.YtippkbgeeeimjaaGreatW.PrintWords Go.Proofs.YtippkbgeeeimjaaGreatW.PrintLast Go.Proofs.YtippkbgeeeimjaaGreatW.PrintMore Go.Proofs.YtippkbgeeeimjaaGreat.A
set_option linter.unusedVariables false
set_option linter.unusedSimpArgs false
/-- What 'tell' makes of what is out. -/
def tellF (rb : Bool) (a tt : Int) (xs : List S38) : List S38 :=
  if a < tt ∧ rb = true then
    (if 0 < xs.length ∧ (rd_T38 xs ((xs.length : Int) - 1)).f1 = a - 1 then xs.set (xs.length - 1) ⟨(rd_T38 xs ((xs.length : Int) - 1)).f0, tt - 1⟩ else xs ++ [⟨a, tt - 1⟩])
  else xs
/-- What lies in memory between two of its calls. -/
structure SwS (wk w0 : World) (gf ga gr gi go : Nat) (a i0 i1 : Int) (v : Value) (xs : List S38) (W : World) : Prop where
  bel : Below w0.heap.size w0 W
  A : W.heap[ga]? = some (.cells #[.int .i64 a] 3 (0, 0))
  I : W.heap[gi]? = some (.cells #[.int .i64 i0, .int .i64 i1] 74 (0, 0))
  O : W.heap[go]? = some (.cells #[v] 23 (0, 0))
  R : W.heap[gr]? = some (.cells #[.func (.func gf) #[] #[]] 55 (0, 0))
  row : Kd.R k38 38 W w0.heap.size (fun _ => True) v xs
  la : w0.heap.size ≤ ga
  li : w0.heap.size ≤ gi
  lo : w0.heap.size ≤ go
  keep : ∀ (q : Nat) (cs : Array Value), wk.heap[q]? = some (.cells cs 72 (0, 0)) → W.heap[q]? = some (.cells cs 72 (0, 0))
theorem R_type {α : Type} {d : Kd α} {e : Nat} {W : World} {base : Nat} {v : Value} {xs : List α} (h : Kd.R d e W base (fun _ => True) v xs) : ∀ k, v.ownBlock = some k → ∃ cells, W.heap[k]? = some (.cells cells e (0, 0)) := by
  intro k hk
  obtain ⟨inner, ho⟩ := Kd.R_own h
  exact own_typed ho k hk
theorem setCell_far {W : World} {g k : Nat} (o : Nat) (u : Value) (h : k ≠ g) : (W.setCell ⟨g, o, none⟩ u).heap[k]? = W.heap[k]? := setCells_far [u] o k h
/-- A row of its own is not touched where a block of another type is written. -/
theorem R_other {α : Type} {d : Kd α} (hE : d.E = []) {e t : Nat} {W : World} {base g o : Nat} {v : Value} {xs : List α} {cs : Array Value} (h : Kd.R d e W base (fun _ => True) v xs) (hg : W.heap[g]? = some (.cells cs t (0, 0))) (hne : t ≠ e) (u : Value) : Kd.R d e (W.setCell ⟨g, o, none⟩ u) base (fun _ => True) v xs := by
  refine Kd.R_mono (Kd.R_move (Kd.R_bound h) (fun k hk => setCell_far o u ?_)) (fun _ _ => trivial)
  rintro rfl
  obtain ⟨_, _, _, q, hq, cells, hc⟩ := hk
  rw [hE, List.mem_singleton] at hq
  subst hq
  rw [hg] at hc
  injection hc with hc
  injection hc with _ hc
  exact hne hc
theorem SwS.putA {wk w0 W : World} {gf ga gr gi go : Nat} {a i0 i1 : Int} {v : Value} {xs : List S38} (h : SwS wk w0 gf ga gr gi go a i0 i1 v xs W) (b : Int) : SwS wk w0 gf ga gr gi go b i0 i1 v xs (W.setCell ⟨ga, 0, none⟩ (.int .i64 b)) where
  bel := h.bel.setCell h.la _
  A := blk_put h.A 0 _ rfl
  I := blk_far h.I (p := ⟨ga, 0, none⟩) (blk_ne h.I h.A (by decide)) _
  O := blk_far h.O (p := ⟨ga, 0, none⟩) (blk_ne h.O h.A (by decide)) _
  R := blk_far h.R (p := ⟨ga, 0, none⟩) (blk_ne h.R h.A (by decide)) _
  row := R_other rfl h.row h.A (by decide) _
  la := h.la
  li := h.li
  lo := h.lo
  keep := fun q cs hq => blk_far (h.keep q cs hq) (p := ⟨ga, 0, none⟩) (blk_ne (h.keep q cs hq) h.A (by decide)) _
theorem SwS.drew {wk w0 W : World} {gf ga gr gi go : Nat} {a i0 i1 : Int} {v : Value} {xs : List S38} (h : SwS wk w0 gf ga gr gi go a i0 i1 v xs W) : SwS wk w0 gf ga gr gi go a i0 i1 v xs W.drew where
  bel := below_drew h.bel
  A := h.A
  I := h.I
  O := h.O
  R := h.R
  row := Kd.R_drew h.row
  la := h.la
  li := h.li
  lo := h.lo
  keep := h.keep
set_option maxHeartbeats 2000000 in
set_option maxRecDepth 100000 in
theorem tell_skip {wk w0 w : World} {gf ga gr gi go : Nat} {a i0 i1 tt : Int} {v : Value} {xs : List S38} (h : SwS wk w0 gf ga gr gi go a i0 i1 v xs w) (hlt : ¬ a < tt) :
    Calls Tryz.prog 61 #[.int .i64 tt, .pointer (some ⟨ga, 0, none⟩), .pointer (some ⟨gr, 0, none⟩), .pointer (some ⟨gi, 0, none⟩), .pointer (some ⟨go, 0, none⟩)] w fun e w' => e = .returned (.tuple #[]) ∧ SwS wk w0 gf ga gr gi go tt i0 i1 v xs w' := by
  have hd : decide (a < tt) = false := decide_eq_false hlt
  have ca : w.cell? ⟨ga, 0, none⟩ = some (.int .i64 a) := (blk_cell h.A 0).trans rfl
  have fa := blk_frozen h.A 0
  have H := Aside0.mk h
  clear h hlt
  go_enter Tryz.func61, Tryz.ntmps61
  go_wp2_with fail
  go_end0
  exact ⟨rfl, H.out.putA tt⟩
set_option maxHeartbeats 2000000 in
set_option maxRecDepth 100000 in
theorem tell_no {wk w0 w : World} {gf ga gr gi go : Nat} {a i0 i1 tt : Int} {v : Value} {xs : List S38} (h : SwS wk w0 gf ga gr gi go a i0 i1 v xs w) (hlt : a < tt)
    (eg : ∀ args w, (callFunc gf args).run Tryz.prog w = .ok (.enter gf args) w) (hr : ∀ W, Calls Tryz.prog gf #[.bool (decide (0 < i0)), .bool (decide (0 < i1))] W fun e w' => e = .returned (.bool false) ∧ w' = W) :
    Calls Tryz.prog 61 #[.int .i64 tt, .pointer (some ⟨ga, 0, none⟩), .pointer (some ⟨gr, 0, none⟩), .pointer (some ⟨gi, 0, none⟩), .pointer (some ⟨go, 0, none⟩)] w fun e w' => e = .returned (.tuple #[]) ∧ SwS wk w0 gf ga gr gi go tt i0 i1 v xs w' := by
  have hd : decide (a < tt) = true := decide_eq_true hlt
  have ca : w.cell? ⟨ga, 0, none⟩ = some (.int .i64 a) := (blk_cell h.A 0).trans rfl
  have ci0 : w.cell? ⟨gi, 0, none⟩ = some (.int .i64 i0) := (blk_cell h.I 0).trans rfl
  have ci1 : w.cell? ⟨gi, 1, none⟩ = some (.int .i64 i1) := (blk_cell h.I 1).trans rfl
  have cr : w.cell? ⟨gr, 0, none⟩ = some (.func (.func gf) #[] #[]) := (blk_cell h.R 0).trans rfl
  have fa := blk_frozen h.A 0
  have H := Aside0.mk h
  have HR := Aside0.mk hr
  clear h hlt hr
  go_enter Tryz.func61, Tryz.ntmps61
  go_wp2_with fail
  refine (HR.out _).mono ?_
  rintro e w' ⟨rfl, rfl⟩
  go_wp2_with fail
  go_end0
  exact ⟨rfl, H.out.putA tt⟩
/-- The row is empty, or an array of its own. -/
theorem R_place {α : Type} {d : Kd α} {e : Nat} {W : World} {base : Nat} {ok : Nat → Prop} {v : Value} {xs : List α} (h : Kd.R d e W base ok v xs) (hn : 0 < xs.length) : ∃ g c, v = .slice (some ⟨g, 0, none⟩) xs.length c ∧ base ≤ g := by
  obtain ⟨inner, ho⟩ := Kd.R_own h
  obtain ⟨h1, h2⟩ := ho
  rcases h2 with ⟨rfl, h3⟩ | ⟨g, cap, cur, rfl, hb, hh, r⟩
  · obtain ⟨A, c, he⟩ := Kd.R_slice h
    injection he with _ he _
    omega
  · obtain ⟨A, c, he⟩ := Kd.R_slice h
    injection he with e1 e2 e3
    exact ⟨g, cap, by rw [e2], hb⟩
theorem SwS.drewN {wk w0 W : World} {gf ga gr gi go : Nat} {a i0 i1 : Int} {v : Value} {xs : List S38} (h : SwS wk w0 gf ga gr gi go a i0 i1 v xs W) (n : Nat) : SwS wk w0 gf ga gr gi go a i0 i1 v xs (W.drewN n) where
  bel := pw_below_drewN h.bel n
  A := h.A
  I := h.I
  O := h.O
  R := h.R
  row := Kd.R_drewN h.row n
  la := h.la
  li := h.li
  lo := h.lo
  keep := h.keep
/-- The last range goes on. -/
theorem SwS.seg {wk w0 W : World} {gf ga gr gi go g c : Nat} {a i0 i1 : Int} {xs : List S38} (h : SwS wk w0 gf ga gr gi go a i0 i1 (.slice (some ⟨g, 0, none⟩) xs.length c) xs W) (hn : 0 < xs.length) (u : Int) :
    SwS wk w0 gf ga gr gi go a i0 i1 (.slice (some ⟨g, 0, none⟩) xs.length c) (xs.set (xs.length - 1) ⟨(rd_T38 xs ((xs.length : Int) - 1)).f0, u⟩) (W.setCell ⟨g, (xs.length - 1) * 2 + 1, none⟩ (.int .i64 u)) := by
  obtain ⟨cs, hcl, hcM, hcc, hcf⟩ := Kd.R_elem h.row z38 ((xs.length : Int) - 1) (by omega) (by omega)
  obtain rfl := k38_openM hcM
  have hi : ((xs.length : Int) - 1).toNat = xs.length - 1 := by omega
  have hs : k38.sz = 2 := rfl
  have hfin := Kd.R_seg h.row ((xs.length : Int) - 1) (by omega) (by omega) hcl hcc (seg := [.int .i64 u]) (j := 1) (by rw [hs]; simp) (x' := ⟨(rd_T38 xs ((xs.length : Int) - 1)).f0, u⟩) (okp := fun _ => False) (k38_mkM W w0.heap.size _ ⟨(rd_T38 xs ((xs.length : Int) - 1)).f0, u⟩) (fun _ hk => hk.elim)
  rw [hi, hs] at hfin
  obtain ⟨hrow, hgr⟩ := hfin
  have hrow : Kd.R k38 38 (W.setCell ⟨g, (xs.length - 1) * 2 + 1, none⟩ (.int .i64 u)) w0.heap.size (fun _ => True) (.slice (some ⟨g, 0, none⟩) xs.length c) (xs.set (xs.length - 1) ⟨(rd_T38 xs ((xs.length : Int) - 1)).f0, u⟩) := hrow
  obtain ⟨cells, hc⟩ := R_type h.row g (by simp [Value.ownBlock])
  have hb : w0.heap.size ≤ g := Kd.R_base h.row g (by simp [Value.ownBlock])
  exact ⟨h.bel.setCell hb _, blk_far h.A (p := ⟨g, _, none⟩) (blk_ne h.A hc (by decide)) _, blk_far h.I (p := ⟨g, _, none⟩) (blk_ne h.I hc (by decide)) _, blk_far h.O (p := ⟨g, _, none⟩) (blk_ne h.O hc (by decide)) _, blk_far h.R (p := ⟨g, _, none⟩) (blk_ne h.R hc (by decide)) _, hrow, h.la, h.li, h.lo, fun q cs hq => blk_far (h.keep q cs hq) (p := ⟨g, _, none⟩) (blk_ne (h.keep q cs hq) hc (by decide)) _⟩
set_option maxHeartbeats 4000000 in
set_option maxRecDepth 100000 in
theorem tell_join {wk w0 w : World} {gf ga gr gi go : Nat} {a i0 i1 tt : Int} {v : Value} {xs : List S38} (h : SwS wk w0 gf ga gr gi go a i0 i1 v xs w) (hlt : a < tt) (hbd : 0 ≤ a ∧ tt ≤ 1114112) (hn : 0 < xs.length) (hz : xs.length ≤ 100000) (hj : (rd_T38 xs ((xs.length : Int) - 1)).f1 = a - 1)
    (eg : ∀ args w, (callFunc gf args).run Tryz.prog w = .ok (.enter gf args) w) (hr : ∀ W, Calls Tryz.prog gf #[.bool (decide (0 < i0)), .bool (decide (0 < i1))] W fun e w' => e = .returned (.bool true) ∧ w' = W) :
    Calls Tryz.prog 61 #[.int .i64 tt, .pointer (some ⟨ga, 0, none⟩), .pointer (some ⟨gr, 0, none⟩), .pointer (some ⟨gi, 0, none⟩), .pointer (some ⟨go, 0, none⟩)] w fun e w' => e = .returned (.tuple #[]) ∧ SwS wk w0 gf ga gr gi go tt i0 i1 v (xs.set (xs.length - 1) ⟨(rd_T38 xs ((xs.length : Int) - 1)).f0, tt - 1⟩) w' := by
  have hd : decide (a < tt) = true := decide_eq_true hlt
  have ca : w.cell? ⟨ga, 0, none⟩ = some (.int .i64 a) := (blk_cell h.A 0).trans rfl
  have ci0 : w.cell? ⟨gi, 0, none⟩ = some (.int .i64 i0) := (blk_cell h.I 0).trans rfl
  have ci1 : w.cell? ⟨gi, 1, none⟩ = some (.int .i64 i1) := (blk_cell h.I 1).trans rfl
  have cr : w.cell? ⟨gr, 0, none⟩ = some (.func (.func gf) #[] #[]) := (blk_cell h.R 0).trans rfl
  obtain ⟨g, c, rfl, hg⟩ := R_place h.row hn
  have co : w.cell? ⟨go, 0, none⟩ = some (.slice (some ⟨g, 0, none⟩) xs.length c) := (blk_cell h.O 0).trans rfl
  have fa := blk_frozen h.A 0
  obtain ⟨cs, hcl, hcM, hcc, hcf⟩ := Kd.R_elem h.row z38 ((xs.length : Int) - 1) (by omega) (by omega)
  obtain rfl := k38_openM hcM
  have hi : ((xs.length : Int) - 1).toNat = xs.length - 1 := by omega
  have c1 : w.cell? ⟨g, (xs.length - 1) * 2 + 1, none⟩ = some (.int .i64 (a - 1)) := by
    have := hcc 1 _ rfl
    rw [hi] at this
    rw [← hj]
    unfold rd_T38
    rw [hi]
    exact this
  have f1 : w.frozen? ⟨g, (xs.length - 1) * 2 + 1, none⟩ = false := by
    have := hcf 1
    rw [hi] at this
    exact this
  have H := Aside0.mk h
  have HR := Aside0.mk hr
  have b1 : decide (0 < (xs.length : Int)) = true := by simp; omega
  have b1' : decide (0 < xs.length) = true := by simp; omega
  have w1 : IntKind.i64.wrap ((xs.length : Int) - 1) = (xs.length : Int) - 1 := IntWalk.i64_in _ (by omega)
  have w2 : IntKind.i64.wrap (a - 1) = a - 1 := IntWalk.i64_in _ (by omega)
  have w3 : IntKind.i64.wrap (tt - 1) = tt - 1 := IntWalk.i64_in _ (by omega)
  have q0 : 0 ≤ (xs.length : Int) - 1 := by omega
  have q1 : (xs.length : Int) - 1 < (xs.length : Int) := by omega
  have e1 : ((a - 1) == (a - 1)) = true := by simp
  clear h hlt hr hcc hcf hcM hcl hj
  go_enter Tryz.func61, Tryz.ntmps61
  go_wp2_with fail
  refine (HR.out _).mono ?_
  rintro e w' ⟨rfl, rfl⟩
  go_wp2_with fail
  go_quiet (fail)
  go_wp2_with fail
  go_end0
  exact ⟨rfl, ((H.out.drewN nq).seg hn (tt - 1)).putA tt⟩
theorem info38 : (Tryz.prog.info? 38).map (fun i => (i.zero, i.size, i.bytes)) = some (some (.agg #[.int .i64 0, .int .i64 0]), 2, 16) := by kernel_rfl
/-- Behind an append to the row, ahead of the stores. -/
theorem SwS.grown {wk w0 W W1 : World} {gf ga gr gi go : Nat} {a i0 i1 : Int} {v v1 : Value} {xs ys : List S38} (h : SwS wk w0 gf ga gr gi go a i0 i1 v xs W) (hb : Below w0.heap.size w0 W1) (hg : W.grownBy W1 v.ownBlock) (hr : Kd.R k38 38 W1 w0.heap.size (fun _ => True) v1 ys) :
    SwS wk w0 gf ga gr gi go a i0 i1 v1 ys (W1.setCell ⟨go, 0, none⟩ v1) ∧ W1.heap[ga]? = some (.cells #[.int .i64 a] 3 (0, 0)) ∧ W1.heap[go]? = some (.cells #[v] 23 (0, 0)) := by
  have ne : ∀ {g t : Nat} {cs : Array Value}, W.heap[g]? = some (.cells cs t (0, 0)) → t ≠ 38 → some g ≠ v.ownBlock := by
    intro g t cs hg ht he
    obtain ⟨cells, hc⟩ := R_type h.row g he.symm
    rw [hg] at hc
    injection hc with hc
    injection hc with _ hc
    exact ht hc
  have A := blk_grown h.A hg (ne h.A (by decide))
  have I := blk_grown h.I hg (ne h.I (by decide))
  have O := blk_grown h.O hg (ne h.O (by decide))
  have R := blk_grown h.R hg (ne h.R (by decide))
  exact ⟨⟨hb.setCell h.lo _, blk_far A (p := ⟨go, 0, none⟩) (blk_ne A O (by decide)) _, blk_far I (p := ⟨go, 0, none⟩) (blk_ne I O (by decide)) _, blk_put O 0 _ rfl, blk_far R (p := ⟨go, 0, none⟩) (blk_ne R O (by decide)) _, R_other rfl hr O (by decide) _, h.la, h.li, h.lo, fun q cs hq => by
    have K := blk_grown (h.keep q cs hq) hg (ne (h.keep q cs hq) (by decide))
    exact blk_far K (p := ⟨go, 0, none⟩) (blk_ne K O (by decide)) _⟩, A, O⟩
set_option maxHeartbeats 4000000 in
set_option maxRecDepth 100000 in
theorem tell_app0 {wk w0 w : World} {gf ga gr gi go : Nat} {a i0 i1 tt : Int} {v : Value} {xs : List S38} (h : SwS wk w0 gf ga gr gi go a i0 i1 v xs w) (hlt : a < tt) (hbd : 0 ≤ a ∧ tt ≤ 1114112) (hz : xs.length ≤ 100000) (hn : xs.length = 0)
    (eg : ∀ args w, (callFunc gf args).run Tryz.prog w = .ok (.enter gf args) w) (hr : ∀ W, Calls Tryz.prog gf #[.bool (decide (0 < i0)), .bool (decide (0 < i1))] W fun e w' => e = .returned (.bool true) ∧ w' = W) :
    Calls Tryz.prog 61 #[.int .i64 tt, .pointer (some ⟨ga, 0, none⟩), .pointer (some ⟨gr, 0, none⟩), .pointer (some ⟨gi, 0, none⟩), .pointer (some ⟨go, 0, none⟩)] w fun e w' => e = .returned (.tuple #[]) ∧ ∃ v1, SwS wk w0 gf ga gr gi go tt i0 i1 v1 (xs ++ [⟨a, tt - 1⟩]) w' := by
  have hd : decide (a < tt) = true := decide_eq_true hlt
  have ca : w.cell? ⟨ga, 0, none⟩ = some (.int .i64 a) := (blk_cell h.A 0).trans rfl
  have ci0 : w.cell? ⟨gi, 0, none⟩ = some (.int .i64 i0) := (blk_cell h.I 0).trans rfl
  have ci1 : w.cell? ⟨gi, 1, none⟩ = some (.int .i64 i1) := (blk_cell h.I 1).trans rfl
  have cr : w.cell? ⟨gr, 0, none⟩ = some (.func (.func gf) #[] #[]) := (blk_cell h.R 0).trans rfl
  obtain ⟨A, c, rfl⟩ := Kd.R_slice h.row
  have co : w.cell? ⟨go, 0, none⟩ = some (.slice A xs.length c) := (blk_cell h.O 0).trans rfl
  have b1 : decide ((0 : Int) < (xs.length : Int)) = false := decide_eq_false (by omega)
  have b1' : decide (0 < xs.length) = false := decide_eq_false (by omega)
  clear hn
  have w3 : IntKind.i64.wrap (tt - 1) = tt - 1 := IntWalk.i64_in _ (by omega)
  have hsz : w0.heap.size ≤ w.heap.size := h.bel.size
  have H := Aside0.mk h
  have HR := Aside0.mk hr
  clear h hlt hr
  go_enter Tryz.func61, Tryz.ntmps61
  go_wp2_with fail
  refine (HR.out _).mono ?_
  rintro e w' ⟨rfl, rfl⟩
  go_wp2_with fail
  go_quiet (fail)
  go_wp2_with ((with_reducible refine gate_builtin (b := .append) (xs := #[.tmp 42, .tmp 47]) rfl ?_); at_builtin; refine Kd.R_append k38 (w0 := w0) w0.heap.size rfl (.tmp 42) (.tmp 47) 23 38 (.agg #[.int .i64 0, .int .i64 0]) 16 rfl Tryz.underlying23 info38 rfl (by decide) (by omega) _ xs ⟨a, tt - 1⟩ [.int .i64 a, .int .i64 (tt - 1)] (fun _ => True) (fun _ => False) rfl rfl ?aP (fun _ hk => hk.elim) ?aF ?aO ?aB ?aS ?aL ?_; (case aP => exact k38_mkM _ _ _ ⟨a, tt - 1⟩); (case aF => exact fun _ _ => trivial); (case aO => exact (H.out.drewN _).row); (case aB => exact (H.out.drewN _).bel); (case aS => exact hsz); (case aL => omega); intro v1 w1 hR hb hg hat; obtain ⟨A1_, c1_, rfl⟩ := Kd.R_slice hR; obtain ⟨S1, A1, O1⟩ := (H.out.drewN _).grown hb hg hR; have S2 := Aside0.mk S1; clear S1 hR hb hg hat; have fo := blk_frozen O1 0; have co1 : w1.cell? ⟨go, 0, none⟩ = some (.slice A xs.length c) := (blk_cell O1 0).trans rfl; have ga1 := blk_frozen A1 0; have ca1 : w1.cell? ⟨ga, 0, none⟩ = some (.int .i64 a) := (blk_cell A1 0).trans rfl; have ne1 : ga ≠ go := blk_ne A1 O1 (by decide))
  go_end0
  have S3 := S2.out
  rw [show (xs ++ [(⟨a, tt - 1⟩ : S38)]).length = xs.length + 1 from by simp] at S3
  exact ⟨rfl, _, S3.putA tt⟩
set_option maxHeartbeats 4000000 in
set_option maxRecDepth 100000 in
theorem tell_app1 {wk w0 w : World} {gf ga gr gi go : Nat} {a i0 i1 tt : Int} {v : Value} {xs : List S38} (h : SwS wk w0 gf ga gr gi go a i0 i1 v xs w) (hlt : a < tt) (hbd : 0 ≤ a ∧ tt ≤ 1114112) (hz : xs.length ≤ 100000) (hn : 0 < xs.length) (hj : ¬ (rd_T38 xs ((xs.length : Int) - 1)).f1 = a - 1)
    (eg : ∀ args w, (callFunc gf args).run Tryz.prog w = .ok (.enter gf args) w) (hr : ∀ W, Calls Tryz.prog gf #[.bool (decide (0 < i0)), .bool (decide (0 < i1))] W fun e w' => e = .returned (.bool true) ∧ w' = W) :
    Calls Tryz.prog 61 #[.int .i64 tt, .pointer (some ⟨ga, 0, none⟩), .pointer (some ⟨gr, 0, none⟩), .pointer (some ⟨gi, 0, none⟩), .pointer (some ⟨go, 0, none⟩)] w fun e w' => e = .returned (.tuple #[]) ∧ ∃ v1, SwS wk w0 gf ga gr gi go tt i0 i1 v1 (xs ++ [⟨a, tt - 1⟩]) w' := by
  have hd : decide (a < tt) = true := decide_eq_true hlt
  have ca : w.cell? ⟨ga, 0, none⟩ = some (.int .i64 a) := (blk_cell h.A 0).trans rfl
  have ci0 : w.cell? ⟨gi, 0, none⟩ = some (.int .i64 i0) := (blk_cell h.I 0).trans rfl
  have ci1 : w.cell? ⟨gi, 1, none⟩ = some (.int .i64 i1) := (blk_cell h.I 1).trans rfl
  have cr : w.cell? ⟨gr, 0, none⟩ = some (.func (.func gf) #[] #[]) := (blk_cell h.R 0).trans rfl
  obtain ⟨g, c, rfl, hg⟩ := R_place h.row hn
  have co : w.cell? ⟨go, 0, none⟩ = some (.slice (some ⟨g, 0, none⟩) xs.length c) := (blk_cell h.O 0).trans rfl
  obtain ⟨cs, hcl, hcM, hcc, hcf⟩ := Kd.R_elem h.row z38 ((xs.length : Int) - 1) (by omega) (by omega)
  obtain rfl := k38_openM hcM
  have hi : ((xs.length : Int) - 1).toNat = xs.length - 1 := by omega
  have c1 : w.cell? ⟨g, (xs.length - 1) * 2 + 1, none⟩ = some (.int .i64 (rd_T38 xs ((xs.length : Int) - 1)).f1) := by
    have := hcc 1 _ rfl
    rw [hi] at this
    unfold rd_T38
    rw [hi]
    exact this
  generalize (rd_T38 xs ((xs.length : Int) - 1)).f1 = y at hj c1
  have b1 : decide (0 < (xs.length : Int)) = true := decide_eq_true (by omega)
  have b1' : decide (0 < xs.length) = true := decide_eq_true hn
  have w1 : IntKind.i64.wrap ((xs.length : Int) - 1) = (xs.length : Int) - 1 := IntWalk.i64_in _ (by omega)
  have w2 : IntKind.i64.wrap (a - 1) = a - 1 := IntWalk.i64_in _ (by omega)
  have q0 : 0 ≤ (xs.length : Int) - 1 := by omega
  have q1 : (xs.length : Int) - 1 < (xs.length : Int) := by omega
  have e1 : (y == (a - 1)) = false := beq_eq_false_iff_ne.2 hj
  have w3 : IntKind.i64.wrap (tt - 1) = tt - 1 := IntWalk.i64_in _ (by omega)
  have hsz : w0.heap.size ≤ w.heap.size := h.bel.size
  have H := Aside0.mk h
  have HR := Aside0.mk hr
  clear h hlt hr hj hcc hcf hcM hcl
  go_enter Tryz.func61, Tryz.ntmps61
  go_wp2_with fail
  refine (HR.out _).mono ?_
  rintro e w' ⟨rfl, rfl⟩
  go_wp2_with fail
  go_quiet (fail)
  go_wp2_with ((with_reducible refine gate_builtin (b := .append) (xs := #[.tmp 42, .tmp 47]) rfl ?_); at_builtin; refine Kd.R_append k38 (w0 := w0) w0.heap.size rfl (.tmp 42) (.tmp 47) 23 38 (.agg #[.int .i64 0, .int .i64 0]) 16 rfl Tryz.underlying23 info38 rfl (by decide) (by omega) _ xs ⟨a, tt - 1⟩ [.int .i64 a, .int .i64 (tt - 1)] (fun _ => True) (fun _ => False) rfl rfl ?aP (fun _ hk => hk.elim) ?aF ?aO ?aB ?aS ?aL ?_; (case aP => exact k38_mkM _ _ _ ⟨a, tt - 1⟩); (case aF => exact fun _ _ => trivial); (case aO => exact (H.out.drewN _).row); (case aB => exact (H.out.drewN _).bel); (case aS => exact hsz); (case aL => omega); intro v1 w2_ hR hb hgr hat; obtain ⟨A1_, c1_, rfl⟩ := Kd.R_slice hR; obtain ⟨S1, A1, O1⟩ := (H.out.drewN _).grown hb hgr hR; have S2 := Aside0.mk S1; clear S1 hR hb hgr hat; have fo := blk_frozen O1 0; have co1 : w2_.cell? ⟨go, 0, none⟩ = some (.slice (some ⟨g, 0, none⟩) xs.length c) := (blk_cell O1 0).trans rfl; have ga1 := blk_frozen A1 0; have ca1 : w2_.cell? ⟨ga, 0, none⟩ = some (.int .i64 a) := (blk_cell A1 0).trans rfl; have ne1 : ga ≠ go := blk_ne A1 O1 (by decide))
  go_end0
  have S3 := S2.out
  rw [show (xs ++ [(⟨a, tt - 1⟩ : S38)]).length = xs.length + 1 from by simp] at S3
  exact ⟨rfl, _, S3.putA tt⟩
/-- ONE CALL OF tell. -/
theorem tell_calls {wk w0 w : World} {gf ga gr gi go : Nat} {rb : Bool → Bool → Bool} {a i0 i1 tt : Int} {v : Value} {xs : List S38} (h : SwS wk w0 gf ga gr gi go a i0 i1 v xs w) (hbd : 0 ≤ a ∧ tt ≤ 1114112) (hz : xs.length ≤ 100000)
    (eg : ∀ args w, (callFunc gf args).run Tryz.prog w = .ok (.enter gf args) w) (hr : ∀ x y W, Calls Tryz.prog gf #[.bool x, .bool y] W fun e w' => e = .returned (.bool (rb x y)) ∧ w' = W) :
    Calls Tryz.prog 61 #[.int .i64 tt, .pointer (some ⟨ga, 0, none⟩), .pointer (some ⟨gr, 0, none⟩), .pointer (some ⟨gi, 0, none⟩), .pointer (some ⟨go, 0, none⟩)] w fun e w' => e = .returned (.tuple #[]) ∧ ∃ v1, SwS wk w0 gf ga gr gi go tt i0 i1 v1 (tellF (rb (decide (0 < i0)) (decide (0 < i1))) a tt xs) w' := by
  unfold tellF
  by_cases hlt : a < tt
  · have hr' := hr (decide (0 < i0)) (decide (0 < i1))
    cases hb : rb (decide (0 < i0)) (decide (0 < i1)) with
    | false =>
      rw [hb] at hr'
      rw [if_neg (by simp)]
      exact (tell_no h hlt eg hr').mono fun _ _ ⟨he, hs⟩ => ⟨he, _, hs⟩
    | true =>
      rw [hb] at hr'
      rw [if_pos ⟨hlt, rfl⟩]
      by_cases hn : 0 < xs.length
      · by_cases hj : (rd_T38 xs ((xs.length : Int) - 1)).f1 = a - 1
        · rw [if_pos ⟨hn, hj⟩]
          exact (tell_join h hlt hbd hn hz hj eg hr').mono fun _ _ ⟨he, hs⟩ => ⟨he, _, hs⟩
        · rw [if_neg (fun q => hj q.2)]
          exact tell_app1 h hlt hbd hz hn hj eg hr'
      · rw [if_neg (fun q => hn q.1)]
        exact tell_app0 h hlt hbd hz (by omega) eg hr'
  · rw [if_neg (fun q => hlt q.1)]
    exact (tell_skip h hlt).mono fun _ _ ⟨he, hs⟩ => ⟨he, _, hs⟩
end Go.Proofs.YtippkbgeeeimjaaGreat.L
/- span's rules; what orders steps. -/
namespace Go.Proofs.YtippkbgeeeimjaaGreat.L
open Go.RowKit Go.Proofs.YtippkbgeeeimjaaGreatW.PrintWords Go.Proofs.YtippkbgeeeimjaaGreatW.PrintLast Go.Proofs.YtippkbgeeeimjaaGreatW.PrintMore Go.Proofs.YtippkbgeeeimjaaGreat.A
set_option linter.unusedVariables false
set_option linter.unusedSimpArgs false
theorem rule_or (x y : Bool) (W : World) : Calls Tryz.prog 92 #[.bool x, .bool y] W fun e w' => e = .returned (.bool (x || y)) ∧ w' = W := by
  cases x <;> cases y <;> (go_enter Tryz.func92, Tryz.ntmps92; go_wp2_with fail; go_ret; exact ⟨rfl, rfl⟩)
theorem rule_and (x y : Bool) (W : World) : Calls Tryz.prog 63 #[.bool x, .bool y] W fun e w' => e = .returned (.bool (x && y)) ∧ w' = W := by
  cases x <;> cases y <;> (go_enter Tryz.func63, Tryz.ntmps63; go_wp2_with fail; go_ret; exact ⟨rfl, rfl⟩)
theorem rule_less (x y : Bool) (W : World) : Calls Tryz.prog 64 #[.bool x, .bool y] W fun e w' => e = .returned (.bool (x && !y)) ∧ w' = W := by
  cases x <;> cases y <;> (go_enter Tryz.func64, Tryz.ntmps64; go_wp2_with fail; go_ret; exact ⟨rfl, rfl⟩)
theorem rule_not (x y : Bool) (W : World) : Calls Tryz.prog 43 #[.bool x, .bool y] W fun e w' => e = .returned (.bool (!x)) ∧ w' = W := by
  cases x <;> cases y <;> (go_enter Tryz.func43, Tryz.ntmps43; go_wp2_with fail; go_ret; exact ⟨rfl, rfl⟩)
theorem nan (x : Int) (W : World) : Calls Tryz.prog 49 #[.int .i64 x] W fun e w' => e = .returned (.bool false) ∧ w' = W := by
  have h : (x != x) = false := by simp
  go_enter Tryz.func49, Tryz.ntmps49
  go_wp2_with fail
  go_ret
  exact ⟨rfl, rfl⟩
def cmpI (x y : Int) : Int := if x < y then -1 else if y < x then 1 else 0
theorem cmp_int (x y : Int) (W : World) : Calls Tryz.prog 24 #[.int .i64 x, .int .i64 y] W fun e w' => e = .returned (.int .i64 (cmpI x y)) ∧ w' = W := by
  unfold cmpI
  by_cases h1 : x < y
  · rw [if_pos h1]
    have b1 : decide (x < y) = true := decide_eq_true h1
    clear h1
    go_enter Tryz.func24, Tryz.ntmps24
    go_wp2_with fail
    refine (nan _ _).mono ?_
    rintro e w' ⟨rfl, rfl⟩
    go_wp2_with fail
    refine (nan _ _).mono ?_
    rintro e w2 ⟨rfl, rfl⟩
    go_wp2_with fail
    go_ret
    exact ⟨rfl, rfl⟩
  · rw [if_neg h1]
    have b1 : decide (x < y) = false := decide_eq_false h1
    clear h1
    by_cases h2 : y < x
    · rw [if_pos h2]
      have b2 : decide (y < x) = true := decide_eq_true h2
      clear h2
      go_enter Tryz.func24, Tryz.ntmps24
      go_wp2_with fail
      refine (nan _ _).mono ?_
      rintro e w' ⟨rfl, rfl⟩
      go_wp2_with fail
      refine (nan _ _).mono ?_
      rintro e w2 ⟨rfl, rfl⟩
      go_wp2_with fail
      go_ret
      exact ⟨rfl, rfl⟩
    · rw [if_neg h2]
      have b2 : decide (y < x) = false := decide_eq_false h2
      clear h2
      go_enter Tryz.func24, Tryz.ntmps24
      go_wp2_with fail
      refine (nan _ _).mono ?_
      rintro e w' ⟨rfl, rfl⟩
      go_wp2_with fail
      refine (nan _ _).mono ?_
      rintro e w2 ⟨rfl, rfl⟩
      go_wp2_with fail
      go_ret
      exact ⟨rfl, rfl⟩
/-- span.sweep's order of steps: two boxes are made. -/
theorem cmp_step (x y : S72) (W : World) : Calls Tryz.prog 60 #[.agg #[.int .i64 x.f0, .int .i64 x.f1, .int .i64 x.f2], .agg #[.int .i64 y.f0, .int .i64 y.f1, .int .i64 y.f2]] W fun e w' => e = .returned (.int .i64 (cmpI x.f0 y.f0)) ∧ w' = (W.alloc (.cells #[.int .i64 x.f0, .int .i64 x.f1, .int .i64 x.f2] 72)).alloc (.cells #[.int .i64 y.f0, .int .i64 y.f1, .int .i64 y.f2] 72) := by
  have hc := fun W' => cmp_int x.f0 y.f0 W'
  generalize cmpI x.f0 y.f0 = r at hc ⊢
  have HC := Aside0.mk hc
  clear hc
  go_enter Tryz.func60, Tryz.ntmps60
  go_wp2_with fail
  refine (HC.out _).mono ?_
  rintro e w' ⟨rfl, rfl⟩
  go_wp2_with fail
  go_ret
  exact ⟨rfl, rfl⟩
end Go.Proofs.YtippkbgeeeimjaaGreat.L
/- Between a row of one's own, of structs, and what the shelf's sort says of it. -/
namespace Go.Proofs.YtippkbgeeeimjaaGreat.L
open Go.RowKit Go.Shelf Go.Sort Go.Lib Go.Proofs.YtippkbgeeeimjaaGreatW.PrintWords Go.Proofs.YtippkbgeeeimjaaGreatW.PrintLast Go.Proofs.YtippkbgeeeimjaaGreatW.PrintMore Go.Proofs.YtippkbgeeeimjaaGreat.A
set_option linter.unusedVariables false
set_option linter.unusedSimpArgs false
section
variable {α : Type} [Inhabited α] (enc : α → List Value) (k : Nat) (hk0 : 0 < k) (hk : ∀ x, (enc x).length = k)
include hk0 hk
theorem flat_at (d : Array α) (j : Nat) (hj : j < d.size) (i : Nat) (hi : i < k) : (flatK enc k d).toList[j * k + i]? = (enc d[j]!)[i]? := by
  have hlt : j * k + i < d.size * k := by
    have : (j + 1) * k ≤ d.size * k := Nat.mul_le_mul_right _ hj
    rw [Nat.add_mul, Nat.one_mul] at this
    omega
  have h1 := get_flatK enc k d (j * k + i) hlt
  have e1 : (j * k + i) / k = j := by
    rw [Nat.mul_comm, Nat.mul_add_div hk0, Nat.div_eq_of_lt hi, Nat.add_zero]
  have e2 : (j * k + i) % k = i := by
    rw [Nat.mul_comm, Nat.mul_add_mod, Nat.mod_eq_of_lt hi]
  rw [e1, e2] at h1
  have hs : j * k + i < (flatK enc k d).size := by simpa using hlt
  rw [getElem!_pos (flatK enc k d) (j * k + i) hs, getElem!_pos (enc d[j]!) i (by rw [hk]; exact hi)] at h1
  rw [Array.getElem?_toList, Array.getElem?_eq_getElem hs, h1, List.getElem?_eq_getElem (by rw [hk]; exact hi)]
theorem flat_reps (d : Array α) {R : α → List Value → Prop} (hR : ∀ x, R x (enc x)) : Reps R k d.toList (flatK enc k d).toList := by
  refine ⟨by simp, fun j p hj => ?_⟩
  have hjs : j < d.size := by
    have := (List.getElem?_eq_some_iff.1 hj).1
    simpa using this
  have hp : d[j]! = p := by
    rw [getElem!_pos d j hjs]
    have := (List.getElem?_eq_some_iff.1 hj).2
    simpa using this
  have : ((flatK enc k d).toList.drop (j * k)).take k = enc p := by
    apply List.ext_getElem?
    intro i
    rw [List.getElem?_take]
    by_cases hi : i < k
    · rw [if_pos hi, List.getElem?_drop, flat_at enc k hk0 hk d j hjs i hi, hp]
    · rw [if_neg hi, List.getElem?_eq_none (by rw [hk]; omega)]
  rw [this]
  exact hR p
variable {d : Kd α} (hsz : d.sz = k)
include hsz
theorem holds_R {w : World} {base e g n cap : Nat} {ok : Nat → Prop} {xs : List α} (hopen : ∀ {w x cs}, d.K w x cs → cs = enc x) (h : Kd.R d e w base ok (.slice (some ⟨g, 0, none⟩) n cap) xs) : HoldsK enc k w g 0 xs.toArray := by
  obtain ⟨hn, hnc, hC⟩ := Kd.R_reads' h
  obtain ⟨cells, hb⟩ : ∃ cells, w.heap[g]? = some (.cells cells e (0, 0)) := by
    obtain ⟨inner, ho⟩ := Kd.R_own h
    exact own_typed ho g (by simp [Value.ownBlock])
  intro j hj
  have hj' : j < xs.length * k := by simpa using hj
  have hxl : 0 < xs.length := by
    rcases Nat.eq_zero_or_pos xs.length with h0 | h0
    · rw [h0] at hj'; simp at hj'
    · exact h0
  refine ⟨?_, blk_frozen hb _⟩
  obtain ⟨ad, hA, hcell⟩ := hC.2.2 hxl
  injection hA with hA
  subst hA
  have hq : j / k < xs.length := (Nat.div_lt_iff_lt_mul hk0).2 hj'
  have hm : j % k < k := Nat.mod_lt _ hk0
  obtain ⟨c, hcl, hcK, hcc⟩ := hcell (j / k) _ (List.getElem?_eq_getElem hq)
  obtain rfl := hopen hcK
  have e1 : j / k * k + j % k = j := by rw [Nat.mul_comm]; exact Nat.div_add_mod j k
  have h2 := hcc (j % k) _ (List.getElem?_eq_getElem (by rw [hk]; exact hm))
  rw [hsz, e1, add_plain] at h2
  have h1 := get_flatK enc k xs.toArray j (by simpa using hj')
  show w.cell? ⟨g, 0 + j, none⟩ = some (flatK enc k xs.toArray)[j]!
  rw [h1, Nat.zero_add, h2]
  congr 1
  have e2 : xs.toArray[j / k]! = xs[j / k] := by rw [getElem!_pos xs.toArray (j / k) (by simpa using hq)]; simp
  rw [e2, getElem!_pos (enc xs[j / k]) (j % k) (by rw [hk]; exact hm)]
theorem sorted_R {w : World} {base e g n cap m : Nat} {ok : Nat → Prop} {xs : List α} {ys : Array α} {os : Array Obj} (hmk : ∀ w base ok x, d.M w base ok x (enc x)) (h : Kd.R d e w base ok (.slice (some ⟨g, 0, none⟩) n cap) xs) (hy : ys.size = xs.length) :
    Kd.R d e (sortWorldK enc k w g 0 m ys os) base ok (.slice (some ⟨g, 0, none⟩) n cap) ys.toList := by
  obtain ⟨hok, inner, ⟨ho1, ho2⟩, hr⟩ := h
  rcases ho2 with ⟨hv, _⟩ | ⟨g', cap', cur, hv, hb, hh, hn, hcm, hcs, ht⟩
  · cases hv
  injection hv with ha hl hc
  injection ha with ha
  injection ha with ha
  subst ha; subst hc
  have hl' : n = ys.toList.length := by rw [hl]; simp [hy]
  have hlt : g < w.heap.size := blk_lt hh
  refine ⟨hok, (flatK enc k ys).toList, ⟨by simp [hsz], .inr ⟨g, cap, putCells id 0 (flatK enc k ys) cur, by rw [hl'], hb, ?_, by simpa [hy] using hn, hcm, by simpa [putCells] using hcs, ?_⟩⟩, by rw [hsz]; exact flat_reps enc k hk0 hk ys (fun x => hmk _ _ _ x)⟩
  · have : ((Sort.ahead w m).heap.modify g (onCells (putCells id 0 (flatK enc k ys))))[g]? = some (.cells (putCells id 0 (flatK enc k ys) cur) e (0, 0)) := by
      simp [Sort.ahead, Array.getElem?_modify, hh, onCells]
    show ((Sort.ahead w m).heap.modify g (onCells (putCells id 0 (flatK enc k ys))) ++ os)[g]? = _
    rw [Array.getElem?_append_left (by simpa [Sort.ahead] using hlt)]
    exact this
  · apply List.ext_getElem?
    intro j
    have hys : ys.toList.length = ys.size := by simp
    rw [List.getElem?_take, hsz, hys]
    by_cases hj : j < ys.size * k
    · have hjc : j < cur.size := by
        rw [hcs, hsz]
        have : ys.size * k ≤ cap * k := Nat.mul_le_mul_right _ (by rw [hy]; exact hn)
        omega
      rw [if_pos hj, Array.getElem?_toList, Array.getElem?_toList]
      simp only [putCells, Array.getElem?_mapIdx, Array.getElem?_eq_getElem hjc, Option.map_some]
      rw [if_pos (by simp; exact hj), Array.getElem?_eq_getElem (by simpa using hj)]
      simp [getElem!_pos, hj]
    · rw [if_neg hj, List.getElem?_eq_none (by simp; omega)]
omit hk0 hk hsz in
theorem sorted_below {w0 w : World} {B g m : Nat} {ys : Array α} {os : Array Obj} (h : Below B w0 w) (hg : B ≤ g) (hgw : g < w.heap.size) : Below B w0 (sortWorldK enc k w g 0 m ys os) := by
  refine ⟨h.os, h.tape, h.output, ?_, fun q hq => ?_⟩
  · have := h.size
    show _ ≤ ((Sort.ahead w m).heap.modify g (onCells (putCells id 0 (flatK enc k ys))) ++ os).size
    simp [Sort.ahead]
    omega
  · rw [← h.block q hq]
    show ((Sort.ahead w m).heap.modify g (onCells (putCells id 0 (flatK enc k ys))) ++ os)[q]? = _
    rw [Array.getElem?_append_left (by simp [Sort.ahead]; omega)]
    simp [Sort.ahead, Array.getElem?_modify, show g ≠ q by omega]
end
end Go.Proofs.YtippkbgeeeimjaaGreat.L
/- slices.SortFunc of steps. -/
namespace Go.Proofs.YtippkbgeeeimjaaGreat.L
open Go.RowKit Go.Shelf Go.Sort Go.Lib Go.Proofs.YtippkbgeeeimjaaGreatW.PrintWords Go.Proofs.YtippkbgeeeimjaaGreatW.PrintLast Go.Proofs.YtippkbgeeeimjaaGreatW.PrintMore Go.Proofs.YtippkbgeeeimjaaGreat.A
set_option linter.unusedVariables false
set_option linter.unusedSimpArgs false
instance : Inhabited S72 := ⟨z72⟩
def enc72 (x : S72) : List Value := [.int .i64 x.f0, .int .i64 x.f1, .int .i64 x.f2]
theorem lt68 (x y : S72) : ltOf (fun x y : S72 => cmpI x.f0 y.f0) x y = decide (x.f0 < y.f0) := by
  unfold ltOf cmpI
  by_cases h1 : x.f0 < y.f0
  · simp [h1]
  · by_cases h2 : y.f0 < x.f0 <;> simp [h1, h2]
theorem swo68 : SWO (ltOf fun x y : S72 => cmpI x.f0 y.f0) where
  irrefl x := by rw [lt68]; simp
  trans x y z h1 h2 := by rw [lt68] at *; simp at *; omega
  ntrans x y z h1 h2 := by rw [lt68] at *; simp at *; omega
theorem cmpLays68 (blk off size : Nat) (w : World) : CmpLays Tryz.prog 60 #[] enc72 3 (fun x y => cmpI x.f0 y.f0) blk off size w :=
  fun _ _ _ _ x y => (cmp_step x y _).mono fun e w' ⟨he, hw⟩ => ⟨he, 0, #[.cells #[.int .i64 x.f0, .int .i64 x.f1, .int .i64 x.f2] 72] ++ #[.cells #[.int .i64 y.f0, .int .i64 y.f1, .int .i64 y.f2] 72], by subst hw; rw [alloc_eq_grow, alloc_eq_grow, grow_grow]; rfl⟩
/-- Risen by where it changes. -/
def Rises (l : List S72) : Prop := l.Pairwise fun x y => x.f0 ≤ y.f0
theorem sort_steps {w0 w : World} {base : Nat} {ok : Nat → Prop} {v : Value} {xs : List S72} (h : Kd.R k72 72 w base ok v xs) (hb : Below base w0 w) (hz : xs.length < 4611686018427387904) :
    Calls Tryz.prog 59 #[v, .func (.func 60) #[] #[]] w fun e w' => e = .returned (.tuple #[]) ∧ ∃ ys, ys.Perm xs ∧ Rises ys ∧ Kd.R k72 72 w' base ok v ys ∧ Below base w0 w' ∧ w.heap.size ≤ w'.heap.size ∧ ∀ q, q < w.heap.size → some q ≠ v.ownBlock → w'.heap[q]? = w.heap[q]? := by
  by_cases hn : 0 < xs.length
  · obtain ⟨g, c, rfl, hg⟩ := R_place h hn
    have hopen : ∀ {w x cs}, k72.K w x cs → cs = enc72 x := fun h => k72_open h
    have hH := holds_R enc72 3 (by decide) (fun _ => rfl) (d := k72) rfl hopen h
    have hlt : g < w.heap.size := Kd.R_lt h g (by simp [Value.ownBlock])
    have eg : ∀ args w, (callFunc 60 args).run Tryz.prog w = .ok (.enter 60 args) w := enters_of Tryz.func60 (by kernel_rfl) rfl
    have hc := AnyQ.slices_SortFunc Tryz.sortStep 3 Tryz.isAgg72 Tryz.sizeOf72 enc72 (fun _ => rfl) (fun x v hv => by simp [enc72] at hv; rcases hv with rfl | rfl | rfl <;> rfl) (fun x y : S72 => cmpI x.f0 y.f0) swo68 60 #[] g 0 c xs.toArray w eg (cmpLays68 g 0 _ w) hH hlt (by simpa using hz)
    have hc' : Calls Tryz.prog 59 #[.slice (some ⟨g, 0, none⟩) xs.length c, .func (.func 60) #[] #[]] w _ := hc
    refine hc'.mono ?_
    rintro e w' ⟨rfl, d', n, os, ⟨hs1, hs2, hs3⟩, hso, rfl⟩
    have hsz : d'.size = xs.length := by simpa using hs1
    refine ⟨rfl, d'.toList, ?_, ?_, sorted_R enc72 3 (by decide) (fun _ => rfl) rfl (fun w base ok x => k72_mkM w base ok x) h hsz, sorted_below enc72 3 hb hg hlt, ?_, ?_⟩
    · have e1 : d'.extract 0 xs.toArray.size = d' := by rw [← hs1]; exact Array.extract_size
      have e2 : xs.toArray.extract 0 xs.toArray.size = xs.toArray := Array.extract_size
      rw [e1, e2] at hs3
      simpa using hs3
    · rw [Rises, List.pairwise_iff_getElem]
      intro i j hi hj hij
      have hi' : i < d'.size := by simpa using hi
      have hj' : j < d'.size := by simpa using hj
      have := hso i j (Nat.zero_le _) hij (by rw [List.size_toArray]; omega)
      rw [lt68, getElem!_pos d' j hj', getElem!_pos d' i hi'] at this
      have := of_decide_eq_false this
      simp only [Array.getElem_toList]
      omega
    · show _ ≤ ((Sort.ahead w n).heap.modify g _ ++ os).size
      simp [Sort.ahead]
    · intro q hq hne
      have hqg : g ≠ q := fun he => hne (by rw [he]; simp [Value.ownBlock])
      show ((Sort.ahead w n).heap.modify g _ ++ os)[q]? = _
      rw [Array.getElem?_append_left (by simp [Sort.ahead]; omega)]
      simp [Sort.ahead, Array.getElem?_modify, hqg]
  · obtain rfl : xs = [] := List.eq_nil_of_length_eq_zero (by omega)
    obtain ⟨A, c, rfl⟩ := Kd.R_slice h
    have hc := AnyF.slices_SortFunc_none Tryz.sortStep A c (.func (.func 60) #[] #[]) w
    have hc' : Calls Tryz.prog 59 #[.slice A (List.length ([] : List S72)) c, .func (.func 60) #[] #[]] w _ := hc
    refine hc'.mono ?_
    rintro e w' ⟨rfl, rfl⟩
    exact ⟨rfl, [], List.Perm.refl _, List.Pairwise.nil, h, hb, Nat.le_refl _, fun _ _ _ => rfl⟩
end Go.Proofs.YtippkbgeeeimjaaGreat.L
/- span.sweep: what it makes. -/
namespace Go.Proofs.YtippkbgeeeimjaaGreat.L
open Go.RowKit Go.Proofs.YtippkbgeeeimjaaGreatW.PrintWords Go.Proofs.YtippkbgeeeimjaaGreatW.PrintLast Go.Proofs.YtippkbgeeeimjaaGreatW.PrintMore Go.Proofs.YtippkbgeeeimjaaGreat.A
set_option linter.unusedVariables false
set_option linter.unusedSimpArgs false
/-- From step to step. -/
def runF (rb : Bool → Bool → Bool) : List S72 → Int → Int → Int → List S38 → List S38
  | [], a, i0, i1, xs => tellF (rb (decide (0 < i0)) (decide (0 < i1))) a 1114112 xs
  | s :: r, a, i0, i1, xs => runF rb r s.f0 (if s.f1 = 0 then i0 + s.f2 else i0) (if s.f1 = 0 then i1 else i1 + s.f2) (tellF (rb (decide (0 < i0)) (decide (0 < i1))) a s.f0 xs)
def StepOk (s : S72) : Prop := 0 ≤ s.f0 ∧ s.f0 ≤ 1114112 ∧ (s.f1 = 0 ∨ s.f1 = 1) ∧ -1 ≤ s.f2 ∧ s.f2 ≤ 1
theorem info72' : (Tryz.prog.info? 72).map (fun i => (i.zero, i.size, i.bytes)) = some (some (.agg #[.int .i64 0, .int .i64 0, .int .i64 0]), 3, 24) := by kernel_rfl
theorem SwS.alloc {wk w0 W : World} {gf ga gr gi go : Nat} {a i0 i1 : Int} {v : Value} {xs : List S38} (h : SwS wk w0 gf ga gr gi go a i0 i1 v xs W) (o : Obj) : SwS wk w0 gf ga gr gi go a i0 i1 v xs (W.alloc o) where
  bel := below_alloc h.bel _
  A := blk_alloc h.A _
  I := blk_alloc h.I _
  O := blk_alloc h.O _
  R := blk_alloc h.R _
  row := Kd.R_alloc h.row _
  la := h.la
  li := h.li
  lo := h.lo
  keep := fun q cs hq => blk_alloc (h.keep q cs hq) _
theorem SwS.base {wk w0 W : World} {gf ga gr gi go : Nat} {a i0 i1 : Int} {v : Value} {xs : List S38} (h : SwS wk w0 gf ga gr gi go a i0 i1 v xs W) : SwS W w0 gf ga gr gi go a i0 i1 v xs W := { h with keep := fun _ _ hq => hq }
theorem SwS.over {wk wk' w0 W : World} {gf ga gr gi go : Nat} {a i0 i1 : Int} {v : Value} {xs : List S38} (h : SwS wk w0 gf ga gr gi go a i0 i1 v xs W) (hk : ∀ (q : Nat) (cs : Array Value), wk'.heap[q]? = some (.cells cs 72 (0, 0)) → wk.heap[q]? = some (.cells cs 72 (0, 0))) : SwS wk' w0 gf ga gr gi go a i0 i1 v xs W := { h with keep := fun q cs hq => h.keep q cs (hk q cs hq) }
theorem SwS.putI0 {wk w0 W : World} {gf ga gr gi go : Nat} {a i0 i1 : Int} {v : Value} {xs : List S38} (h : SwS wk w0 gf ga gr gi go a i0 i1 v xs W) (b : Int) : SwS wk w0 gf ga gr gi go a b i1 v xs (W.setCell ⟨gi, 0, none⟩ (.int .i64 b)) where
  bel := h.bel.setCell h.li _
  A := blk_far h.A (p := ⟨gi, 0, none⟩) (blk_ne h.A h.I (by decide)) _
  I := blk_put h.I 0 _ rfl
  O := blk_far h.O (p := ⟨gi, 0, none⟩) (blk_ne h.O h.I (by decide)) _
  R := blk_far h.R (p := ⟨gi, 0, none⟩) (blk_ne h.R h.I (by decide)) _
  row := R_other rfl h.row h.I (by decide) _
  la := h.la
  li := h.li
  lo := h.lo
  keep := fun q cs hq => blk_far (h.keep q cs hq) (p := ⟨gi, 0, none⟩) (blk_ne (h.keep q cs hq) h.I (by decide)) _
theorem SwS.putI1 {wk w0 W : World} {gf ga gr gi go : Nat} {a i0 i1 : Int} {v : Value} {xs : List S38} (h : SwS wk w0 gf ga gr gi go a i0 i1 v xs W) (b : Int) : SwS wk w0 gf ga gr gi go a i0 b v xs (W.setCell ⟨gi, 1, none⟩ (.int .i64 b)) where
  bel := h.bel.setCell h.li _
  A := blk_far h.A (p := ⟨gi, 1, none⟩) (blk_ne h.A h.I (by decide)) _
  I := blk_put h.I 1 _ rfl
  O := blk_far h.O (p := ⟨gi, 1, none⟩) (blk_ne h.O h.I (by decide)) _
  R := blk_far h.R (p := ⟨gi, 1, none⟩) (blk_ne h.R h.I (by decide)) _
  row := R_other rfl h.row h.I (by decide) _
  la := h.la
  li := h.li
  lo := h.lo
  keep := fun q cs hq => blk_far (h.keep q cs hq) (p := ⟨gi, 1, none⟩) (blk_ne (h.keep q cs hq) h.I (by decide)) _
theorem R_keep {w W : World} {base : Nat} {v : Value} {ys : List S72} (h : Kd.R k72 72 w base (fun _ => True) v ys) (hk : ∀ (q : Nat) (cs : Array Value), w.heap[q]? = some (.cells cs 72 (0, 0)) → W.heap[q]? = some (.cells cs 72 (0, 0))) : Kd.R k72 72 W base (fun _ => True) v ys := by
  refine Kd.R_mono (Kd.R_move (Kd.R_bound h) (fun k hk' => ?_)) (fun _ _ => trivial)
  obtain ⟨_, _, _, q, hq, cells, hc⟩ := hk'
  rw [show k72.E = [] from rfl, List.mem_singleton] at hq
  subst hq
  rw [hk k cells hc, hc]
theorem tellF_len (rb : Bool) (a tt : Int) (xs : List S38) : (tellF rb a tt xs).length ≤ xs.length + 1 := by
  unfold tellF
  split
  · split
    · simp
    · simp
  · omega
/-- What holds between two rounds. -/
def Lp (rb : Bool → Bool → Bool) (gf : Nat) (w w4 : World) (ga gr gi go : Nat) (ys : List S72) (fin : List S38) (u : Value) (W : World) : Prop :=
  ∃ (j : Nat) (a i0 i1 : Int) (v : Value) (xs : List S38), j ≤ ys.length ∧ u = .int .i64 j ∧ SwS w4 w gf ga gr gi go a i0 i1 v xs W ∧ runF rb (ys.drop j) a i0 i1 xs = fin ∧ (0 ≤ a ∧ a ≤ 1114112) ∧ (-(j : Int) ≤ i0 ∧ i0 ≤ j) ∧ (-(j : Int) ≤ i1 ∧ i1 ≤ j) ∧ xs.length ≤ j
set_option maxHeartbeats 4000000 in
set_option maxRecDepth 100000 in
theorem sweep_calls (rb : Bool → Bool → Bool) (gf : Nat) (eg : ∀ args w, (callFunc gf args).run Tryz.prog w = .ok (.enter gf args) w) (hr : ∀ x y W, Calls Tryz.prog gf #[.bool x, .bool y] W fun e w' => e = .returned (.bool (rb x y)) ∧ w' = W)
    (A0 : Option Addr) (c0 : Nat) (l0 : List S38) (A1 : Option Addr) (c1 : Nat) (l1 : List S38) (w : World) (hr0 : Kd.C k38 w A0 l0.length l0) (hc0 : l0.length ≤ c0) (hr1 : Kd.C k38 w A1 l1.length l1) (hc1 : l1.length ≤ c1)
    (k : Nat) (s0 s1 ss : List S72) (hss : ss = s0 ++ s1) (h0 : span_steps.f k l0 0 = some s0) (h1 : span_steps.f k l1 1 = some s1) (hok : ∀ s ∈ ss, StepOk s) (hz : ss.length ≤ 2000) :
    Calls Tryz.prog 42 #[.slice A0 l0.length c0, .slice A1 l1.length c1, .func (.func gf) #[] #[]] w fun e w' => ∃ v ys, e = .returned v ∧ ys.Perm ss ∧ Rises ys ∧ Kd.R k38 38 w' w.heap.size (fun _ => True) v (runF rb ys 0 0 0 []) ∧ Below w.heap.size w w' := by
  have hz' : s0.length + s1.length ≤ 2000 := by rw [hss, List.length_append] at hz; exact hz
  have HSS := Aside0.mk hss
  clear hss
  have HR0 := Aside0.mk hr0
  have HR1 := Aside0.mk hr1
  have HC0 := Aside0.mk hc0
  have HC1 := Aside0.mk hc1
  have H0 := Aside0.mk h0
  have H1 := Aside0.mk h1
  have HOK := Aside0.mk hok
  have HRB := Aside0.mk hr
  clear hr0 hr1 hc0 hc1 h0 h1 hok hr
  go_enter Tryz.func42, Tryz.ntmps42
  go_wp2_with fail
  obtain ⟨W0, hW0⟩ : ∃ W0, W0 = w.alloc (.cells #[.func (.func gf) #[] #[]] 55) := ⟨_, rfl⟩
  have B0 : Below w.heap.size w W0 := by rw [hW0]; exact below_alloc (Below.refl _ _) _
  have X0 : W0.heap[w.heap.size]? = some (.cells #[.func (.func gf) #[] #[]] 55 (0, 0)) := by rw [hW0]; exact blk_new _ _
  rw [← hW0]
  clear hW0
  have HB0 := Aside0.mk B0
  have HX0 := Aside0.mk X0
  clear B0 X0
  refine (span_steps.calls k A0 c0 l0 0 s0 W0 (Kd.C_below HR0.out HB0.out) HC0.out H0.out).mono ?_
  rintro e W1 ⟨v1, rfl, r1, b1⟩
  obtain ⟨P1, p1, rfl⟩ := Kd.R_slice r1
  have HX1 := Aside0.mk (blk_below HX0.out b1)
  have HB1 := Aside0.mk (HB0.out.trans (b1.mono HB0.out.size))
  have HS0 := Aside0.mk (Kd.R_lower r1 HB0.out.size)
  clear r1 b1 HX0 HB0
  go_wp2_with fail
  refine (span_steps.calls k A1 c1 l1 1 s1 W1 (Kd.C_below HR1.out HB1.out) HC1.out H1.out).mono ?_
  rintro e W2 ⟨v2, rfl, r2, b2⟩
  obtain ⟨P2, p2, rfl⟩ := Kd.R_slice r2
  have HX2 := Aside0.mk (blk_below HX1.out b2)
  have HB2 := Aside0.mk (HB1.out.trans (b2.mono HB1.out.size))
  have HS1 := Aside0.mk (Kd.R_below HS0.out b2)
  have HT1 := Aside0.mk (Kd.R_reads' r2)
  clear r2 b2 HX1 HB1 HS0
  go_wp2_with ((with_reducible refine gate_builtin (b := .append) (xs := #[.tmp 15, .tmp 17]) rfl ?_); at_builtin; refine Kd.R_append_rows k72 (Rr := k72.K W2) (w0 := w) w.heap.size rfl (.tmp 15) (.tmp 17) 68 72 (.agg #[.int .i64 0, .int .i64 0, .int .i64 0]) 24 rfl Tryz.underlying68 info72' rfl (by decide) (by omega) _ s0 s1 P2 s1.length p2 (fun _ => True) (fun _ => False) rfl rfl HS1.out HT1.out.2.2 ?aK (fun _ hk => hk.elim) ?aF HB2.out HB2.out.size ?aL ?_; (case aK => intro x cs hx; obtain rfl := k72_open hx; exact k72_mkM _ _ _ x); (case aF => exact fun _ _ => trivial); (case aL => omega); intro v3 W3 hR3 hb3 hg3 hat3; rw [← HSS.out] at hR3; obtain ⟨P3, p3, rfl⟩ := Kd.R_slice hR3; have ne3 : (Value.slice P1 s0.length p1).ownBlock ≠ some w.heap.size := (by intro he; obtain ⟨cells, hc⟩ := R_type HS1.out _ he; rw [HX2.out] at hc; injection hc with hc; injection hc with _ hc; cases hc); have HX3 := Aside0.mk (blk_grown HX2.out hg3 (Ne.symm ne3)); have HB3 := Aside0.mk hb3; have HS3 := Aside0.mk hR3; clear hR3 hb3 hg3 hat3 ne3)
  clear HS1 HB2 HX2
  refine (sort_steps HS3.out HB3.out (by omega)).mono ?_
  rintro e W4 ⟨rfl, ys, hp, hri, hR4, hb4, hsz4, hk4⟩
  have ne4 : some w.heap.size ≠ (Value.slice P3 ss.length p3).ownBlock := by
    intro he
    obtain ⟨cells, hc⟩ := R_type HS3.out _ he.symm
    rw [HX3.out] at hc
    injection hc with hc
    injection hc with _ hc
    cases hc
  have HX4 := Aside0.mk ((hk4 _ (blk_lt HX3.out) ne4).trans HX3.out)
  have HB4 := Aside0.mk hb4
  have HS4 := Aside0.mk hR4
  have HP := Aside0.mk hp
  have HRI := Aside0.mk hri
  have hl4 : ss.length = ys.length := hp.length_eq.symm
  rw [hl4] at HS4
  rw [hl4] at hz
  clear hp hri hR4 hb4 hsz4 hk4 ne4 HX3 HB3 HS3
  go_wp2_with fail
  obtain ⟨W5, hW5⟩ : ∃ W5, W5 = ((W4.alloc (.cells #[.slice none 0 0] 23)).alloc (.cells #[.int .i64 0, .int .i64 0] 74)).alloc (.cells #[.int .i64 0] 3) := ⟨_, rfl⟩
  have S5 : SwS W4 w gf (W4.heap.size + 1 + 1) w.heap.size (W4.heap.size + 1) W4.heap.size 0 0 0 (.slice none 0 0) [] W5 := by
    rw [hW5]
    have z1 : (W4.alloc (.cells #[.slice none 0 0] 23)).heap.size = W4.heap.size + 1 := by simp
    have z2 : ((W4.alloc (.cells #[.slice none 0 0] 23)).alloc (.cells #[.int .i64 0, .int .i64 0] 74)).heap.size = W4.heap.size + 1 + 1 := by simp
    have hle := HB4.out.size
    refine ⟨below_alloc (below_alloc (below_alloc HB4.out _) _) _, ?_, ?_, ?_, blk_alloc (blk_alloc (blk_alloc HX4.out _) _) _, Kd.R_nil _ _ _ _ _, by omega, by omega, hle, fun q cs hq => blk_alloc (blk_alloc (blk_alloc hq _) _) _⟩
    · have := blk_new ((W4.alloc (.cells #[.slice none 0 0] 23)).alloc (.cells #[.int .i64 0, .int .i64 0] 74)) (.cells #[.int .i64 0] 3)
      rw [z2] at this
      exact this
    · have := blk_new (W4.alloc (.cells #[.slice none 0 0] 23)) (.cells #[.int .i64 0, .int .i64 0] 74)
      rw [z1] at this
      exact blk_alloc this _
    · exact blk_alloc (blk_alloc (blk_new _ _) _) _
  rw [← hW5]
  clear hW5
  obtain ⟨ga, hga⟩ : ∃ ga, ga = W4.heap.size + 1 + 1 := ⟨_, rfl⟩
  obtain ⟨gi, hgi⟩ : ∃ gi, gi = W4.heap.size + 1 := ⟨_, rfl⟩
  obtain ⟨go, hgo⟩ : ∃ go, go = W4.heap.size := ⟨_, rfl⟩
  obtain ⟨gr, hgr⟩ : ∃ gr, gr = w.heap.size := ⟨_, rfl⟩
  rw [← hga, ← hgi, ← hgo] at S5 ⊢
  have S6 := Aside0.mk S5
  clear S5 hga hgi hgo hgr HX4
  obtain ⟨fin, hfin⟩ : ∃ fin, fin = runF rb ys 0 0 0 [] := ⟨_, rfl⟩
  have HFIN := Aside0.mk hfin
  clear hfin
  go_loopw [24] (fun u W => Lp rb gf w W4 ga w.heap.size gi go ys fin u W) (fun u _ => ys.length - (intOf u).toNat)
  case atStart => exact ⟨0, 0, 0, 0, _, [], Nat.zero_le _, rfl, S6.out, HFIN.out.symm, by omega, by omega, by omega, Nat.le_refl _⟩
  case round =>
    obtain ⟨j, a, i0, i1, v, xs, hj, rfl, hS, hrun, ha, h0, h1, hx⟩ := hrel
    by_cases hlt : j < ys.length
    · have b1 : decide ((j : Int) < (ys.length : Int)) = true := decide_eq_true (by omega)
      have b2 : decide (j < ys.length) = true := decide_eq_true hlt
      have hrow := R_keep HS4.out hS.keep
      obtain ⟨ad, rfl, k0, k1, k2⟩ := at_T72 (Kd.R_reads' hrow).2.2 (j : Int) (by omega) (by omega)
      rw [Int.toNat_natCast] at k0 k1 k2
      have hdrop : ys.drop j = rd_T72 ys j :: ys.drop (j + 1) := by
        rw [List.drop_eq_getElem_cons hlt]
        unfold rd_T72
        rw [Int.toNat_natCast, List.getD_eq_getElem?_getD, List.getElem?_eq_getElem hlt]
        rfl
      have hmem : rd_T72 ys j ∈ ss := by
        refine HP.out.mem_iff.1 (List.mem_of_mem_drop (i := j) ?_)
        rw [hdrop]
        exact List.mem_cons_self
      obtain ⟨q0, q1, q2, q3, q4⟩ := HOK.out _ hmem
      rw [hdrop] at hrun
      obtain ⟨s, hs⟩ : ∃ s, s = rd_T72 ys j := ⟨_, rfl⟩
      rw [← hs] at k0 k1 k2 q0 q1 q2 q3 q4 hrun
      clear hs hdrop hmem
      obtain ⟨f0, f1, f2⟩ := s
      simp only at k0 k1 k2 q0 q1 q2 q3 q4
      have HRUN := Aside0.mk hrun
      have HS := Aside0.mk hS
      have hj0 : 0 ≤ (j : Int) := by omega
      have hj1 : (j : Int) < (ys.length : Int) := by omega
      clear hrun hS hrow
      go_wp2_with fail
      obtain ⟨W6, hW6⟩ : ∃ W6, W6 = wr.alloc (.cells #[.int .i64 f0, .int .i64 f1, .int .i64 f2] 72) := ⟨_, rfl⟩
      have S7 : SwS W6 w gf ga w.heap.size gi go a i0 i1 v xs W6 := by rw [hW6]; exact (HS.out.alloc _).base
      have k7 : ∀ (q : Nat) (cs : Array Value), W4.heap[q]? = some (.cells cs 72 (0, 0)) → W6.heap[q]? = some (.cells cs 72 (0, 0)) := by rw [hW6]; exact (HS.out.alloc _).keep
      have X7 : W6.heap[wr.heap.size]? = some (.cells #[.int .i64 f0, .int .i64 f1, .int .i64 f2] 72 (0, 0)) := by rw [hW6]; exact blk_new _ _
      rw [← hW6]
      clear hW6 k0 k1 k2
      have S7' := Aside0.mk S7
      have K7 := Aside0.mk k7
      have X7' := Aside0.mk X7
      clear S7 k7 X7 HS
      refine (tell_calls S7'.out ⟨ha.1, q1⟩ (by omega) eg HRB.out).mono ?_
      rintro e W7 ⟨rfl, v', S8⟩
      have X8 := S8.keep _ _ X7'.out
      have x1 : W7.cell? ⟨wr.heap.size, 1, none⟩ = some (.int .i64 f1) := (blk_cell X8 1).trans rfl
      have x2 : W7.cell? ⟨wr.heap.size, 2, none⟩ = some (.int .i64 f2) := (blk_cell X8 2).trans rfl
      have y0 : W7.cell? ⟨gi, 0, none⟩ = some (.int .i64 i0) := (blk_cell S8.I 0).trans rfl
      have y1 : W7.cell? ⟨gi, 1, none⟩ = some (.int .i64 i1) := (blk_cell S8.I 1).trans rfl
      have g0 := blk_frozen S8.I 0
      have g1 := blk_frozen S8.I 1
      have S9 := Aside0.mk (S8.over K7.out)
      clear S8 X8 S7' K7 X7'
      have hlen := tellF_len (rb (decide (0 < i0)) (decide (0 < i1))) a f0 xs
      have HL := Aside0.mk hlen
      clear hlen
      rcases q2 with rfl | rfl
      · have w1 : IntKind.i64.wrap (i0 + f2) = i0 + f2 := IntWalk.i64_in _ (by omega)
        have hrun : runF rb (ys.drop (j + 1)) f0 (i0 + f2) (i1) (tellF (rb (decide (0 < i0)) (decide (0 < i1))) a f0 xs) = fin := HRUN.out
        have HRUN2 := Aside0.mk hrun
        clear hrun HRUN
        have w2 : IntKind.i64.wrap ((j : Int) + 1) = (j : Int) + 1 := IntWalk.i64_in _ (by omega)
        go_wp2_with fail
        go_still_tail 8, (by kernel_rfl)
        go_wp2_with fail
        go_roundw
        case rel => exact ⟨j + 1, f0, i0 + f2, i1, v', _, hlt, by go_num, (S9.out.drew).putI0 _, HRUN2.out, ⟨q0, q1⟩, by omega, by omega, by have := HL.out; omega⟩
        case measure => simp [intOf]; omega
      · have w1 : IntKind.i64.wrap (i1 + f2) = i1 + f2 := IntWalk.i64_in _ (by omega)
        have hrun : runF rb (ys.drop (j + 1)) f0 (i0) (i1 + f2) (tellF (rb (decide (0 < i0)) (decide (0 < i1))) a f0 xs) = fin := HRUN.out
        have HRUN2 := Aside0.mk hrun
        clear hrun HRUN
        have w2 : IntKind.i64.wrap ((j : Int) + 1) = (j : Int) + 1 := IntWalk.i64_in _ (by omega)
        go_wp2_with fail
        go_still_tail 8, (by kernel_rfl)
        go_wp2_with fail
        go_roundw
        case rel => exact ⟨j + 1, f0, i0, i1 + f2, v', _, hlt, by go_num, (S9.out.drew).putI1 _, HRUN2.out, ⟨q0, q1⟩, by omega, by omega, by have := HL.out; omega⟩
        case measure => simp [intOf]; omega
    · have b1 : decide ((j : Int) < (ys.length : Int)) = false := decide_eq_false (by omega)
      have b2 : decide (j < ys.length) = false := decide_eq_false hlt
      have hdrop : ys.drop j = [] := List.drop_eq_nil_iff.2 (by omega)
      rw [hdrop] at hrun
      have HRUN := Aside0.mk hrun
      have HS := Aside0.mk hS
      clear hrun hS hdrop
      go_wp2_with fail
      refine (tell_calls HS.out ⟨ha.1, Int.le_refl _⟩ (by omega) eg HRB.out).mono ?_
      rintro e W7 ⟨rfl, v', S8⟩
      obtain ⟨A8, c8, rfl⟩ := Kd.R_slice S8.row
      have y0 : W7.cell? ⟨go, 0, none⟩ = some (.slice A8 (tellF (rb (decide (0 < i0)) (decide (0 < i1))) a 1114112 xs).length c8) := (blk_cell S8.O 0).trans rfl
      have S9 := Aside0.mk S8
      have hfin : tellF (rb (decide (0 < i0)) (decide (0 < i1))) a 1114112 xs = runF rb ys 0 0 0 [] := (HRUN.out).trans HFIN.out
      have HF := Aside0.mk hfin
      clear S8 hfin
      generalize tellF (rb (decide (0 < i0)) (decide (0 < i1))) a 1114112 xs = zs at S9 HF y0
      go_wp2_with fail
      go_ret
      exact ⟨_, ys, rfl, HP.out, HRI.out, by rw [← HF.out]; exact S9.out.row, S9.out.bel⟩
end Go.Proofs.YtippkbgeeeimjaaGreat.L
/- Plain lists, no program: least lists of ranges; what span.sweep makes is the least list of the set that its rule says. -/
namespace Go.Proofs.YtippkbgeeeimjaaGreat.P
open Go.RowKit Go.Proofs.YtippkbgeeeimjaaGreatW.PrintWords Go.Proofs.YtippkbgeeeimjaaGreat.A Go.Proofs.YtippkbgeeeimjaaGreat.L
set_option linter.unusedVariables false
set_option linter.unusedSimpArgs false
theorem w64 {n : Int} (h : -9223372036854775808 ≤ n) (h' : n ≤ 9223372036854775807) : wrap64 n = n := by
  unfold wrap64
  omega
theorem ev_if {α : Type} {c : Prop} [Decidable c] {g f : Nat → Option α} {r : α} (hc : c) (h : Ev g r) : Ev (fun k => if c then g k else f k) r := by
  obtain ⟨K, h⟩ := h
  exact ⟨K, fun k hk => by show (if c then g k else f k) = some r; rw [if_pos hc]; exact h k hk⟩
theorem ev_else {α : Type} {c : Prop} [Decidable c] {g f : Nat → Option α} {r : α} (hc : ¬ c) (h : Ev f r) : Ev (fun k => if c then g k else f k) r := by
  obtain ⟨K, h⟩ := h
  exact ⟨K, fun k hk => by show (if c then g k else f k) = some r; rw [if_neg hc]; exact h k hk⟩
def inR (r : S38) (c : Int) : Bool := decide (r.f0 ≤ c) && decide (c ≤ r.f1)
theorem inR_iff {r : S38} {c : Int} : inR r c = true ↔ r.f0 ≤ c ∧ c ≤ r.f1 := by simp [inR]
/-- Is a character in one of the ranges? -/
def Mem (l : List S38) (c : Int) : Bool := l.any fun r => inR r c
theorem mem_iff {l : List S38} {c : Int} : Mem l c = true ↔ ∃ r ∈ l, r.f0 ≤ c ∧ c ≤ r.f1 := by
  simp [Mem, inR_iff]
theorem mem_app (l m : List S38) (c : Int) : Mem (l ++ m) c = (Mem l c || Mem m c) := by simp [Mem]
theorem mem_one (r : S38) (c : Int) : Mem [r] c = inR r c := by simp [Mem]
/-- A least list below a bound. -/
def Can (a : Int) (xs : List S38) : Prop := (∀ r ∈ xs, 0 ≤ r.f0 ∧ r.f0 ≤ r.f1 ∧ r.f1 < a) ∧ xs.Pairwise fun r s => r.f1 + 1 < s.f0
def Spec (P : Int → Bool) (xs : List S38) (a : Int) : Prop := Can a xs ∧ ∀ c, 0 ≤ c → c < a → Mem xs c = P c
theorem Can.mem_range {a : Int} {xs : List S38} (h : Can a xs) {c : Int} (hm : Mem xs c = true) : 0 ≤ c ∧ c < a := by
  obtain ⟨r, hr, h1, h2⟩ := mem_iff.1 hm
  have := h.1 r hr
  omega
theorem Can.one : ∀ {xs ys : List S38} {a : Int}, Can a xs → Can a ys → (∀ c, Mem xs c = Mem ys c) → xs = ys
  | [], [], _, _, _, _ => rfl
  | [], s :: u, a, _, hy, h => by
    have := h s.f0
    have h2 := hy.1 s List.mem_cons_self
    have : Mem (s :: u) s.f0 = true := mem_iff.2 ⟨s, List.mem_cons_self, by omega, by omega⟩
    rw [← h] at this
    simp [Mem] at this
  | r :: t, [], a, hx, _, h => by
    have h2 := hx.1 r List.mem_cons_self
    have : Mem (r :: t) r.f0 = true := mem_iff.2 ⟨r, List.mem_cons_self, by omega, by omega⟩
    rw [h] at this
    simp [Mem] at this
  | r :: t, s :: u, a, hx, hy, h => by
    have hr := hx.1 r List.mem_cons_self
    have hs := hy.1 s List.mem_cons_self
    obtain ⟨hx1, hx2⟩ := List.pairwise_cons.1 hx.2
    obtain ⟨hy1, hy2⟩ := List.pairwise_cons.1 hy.2
    have A : ∀ (r s : S38) (t u : List S38), r.f0 ≤ r.f1 → (s.f0 ≤ s.f1) → (∀ b ∈ u, s.f1 + 1 < b.f0) → Mem (s :: u) r.f0 = Mem (r :: t) r.f0 → s.f0 ≤ r.f0 := by
      intro r s t u h1 h2 h3 h4
      have : Mem (r :: t) r.f0 = true := mem_iff.2 ⟨r, List.mem_cons_self, by omega, by omega⟩
      rw [this] at h4
      obtain ⟨b, hb, h5, h6⟩ := mem_iff.1 h4
      rcases List.mem_cons.1 hb with rfl | hb
      · exact h5
      · have := h3 b hb; omega
    have e0 : r.f0 = s.f0 := by
      have := A r s t u hr.2.1 hs.2.1 hy1 (h _).symm
      have := A s r u t hs.2.1 hr.2.1 hx1 (h _)
      omega
    have B : ∀ (r s : S38) (t u : List S38), r.f0 = s.f0 → r.f0 ≤ r.f1 → (∀ b ∈ t, r.f1 + 1 < b.f0) → Mem (s :: u) (r.f1 + 1) = Mem (r :: t) (r.f1 + 1) → s.f1 ≤ r.f1 := by
      intro r s t u h1 h2 h3 h4
      by_cases hq : s.f1 ≤ r.f1
      · exact hq
      · have : Mem (s :: u) (r.f1 + 1) = true := mem_iff.2 ⟨s, List.mem_cons_self, by omega, by omega⟩
        rw [this] at h4
        obtain ⟨b, hb, h5, h6⟩ := mem_iff.1 h4.symm
        rcases List.mem_cons.1 hb with rfl | hb
        · omega
        · have := h3 b hb; omega
    have e1 : r.f1 = s.f1 := by
      have := B r s t u e0 hr.2.1 hx1 (h _).symm
      have := B s r u t e0.symm hs.2.1 hy1 (h _)
      omega
    have er : r = s := by
      cases r; cases s; simp at e0 e1; simp [e0, e1]
    subst er
    have : t = u := Can.one (a := a) ⟨fun b hb => hx.1 b (List.mem_cons_of_mem _ hb), hx2⟩ ⟨fun b hb => hy.1 b (List.mem_cons_of_mem _ hb), hy2⟩ (fun c => by
      have hc := h c
      have D : ∀ v : List S38, (∀ b ∈ v, r.f1 + 1 < b.f0) → c ≤ r.f1 → Mem v c = false := by
        intro v hv hcr
        cases hm : Mem v c with
        | false => rfl
        | true =>
          obtain ⟨b, hb, h5, h6⟩ := mem_iff.1 hm
          have := hv b hb
          omega
      by_cases hcr : c ≤ r.f1
      · rw [D t hx1 hcr, D u hy1 hcr]
      · have : inR r c = false := by simp [inR]; omega
        simp only [Mem, List.any_cons, this, Bool.false_or] at hc
        exact hc)
    rw [this]
theorem Spec.one {P : Int → Bool} {xs ys : List S38} {a : Int} (h : Spec P xs a) (k : Spec P ys a) : xs = ys := by
  refine Can.one h.1 k.1 fun c => ?_
  by_cases hc : 0 ≤ c ∧ c < a
  · rw [h.2 c hc.1 hc.2, k.2 c hc.1 hc.2]
  · have F : ∀ {zs : List S38}, Can a zs → Mem zs c = false := fun hz => by
      cases hm : Mem _ c with
      | false => rfl
      | true => exact absurd (hz.mem_range hm) hc
    rw [F h.1, F k.1]
theorem last_of {xs : List S38} (hn : 0 < xs.length) : ∃ pre r, xs = pre ++ [r] ∧ rd_T38 xs ((xs.length : Int) - 1) = r ∧ ∀ r', xs.set (xs.length - 1) r' = pre ++ [r'] := by
  have hne : xs ≠ [] := List.length_pos_iff.1 hn
  refine ⟨xs.dropLast, xs.getLast hne, (List.dropLast_concat_getLast hne).symm, ?_, fun r' => ?_⟩
  · unfold rd_T38
    have : ((xs.length : Int) - 1).toNat = xs.length - 1 := by omega
    rw [this, List.getD_eq_getElem?_getD, List.getElem?_eq_getElem (by omega), List.getLast_eq_getElem]
    rfl
  · conv => lhs; rw [← List.dropLast_concat_getLast hne]
    rw [List.set_append_right _ _ (by simp)]
    simp
theorem tell_spec {P : Int → Bool} {b : Bool} {a tt : Int} {xs : List S38} (h : Spec P xs a) (h0 : 0 ≤ a) (hle : a ≤ tt) (hP : ∀ c, a ≤ c → c < tt → P c = b) : Spec P (tellF b a tt xs) tt := by
  obtain ⟨⟨hc, hp⟩, hm⟩ := h
  unfold tellF
  by_cases hlt : a < tt
  · cases b with
    | false =>
      rw [if_neg (by simp)]
      refine ⟨⟨fun r hr => by have := hc r hr; omega, hp⟩, fun c h1 h2 => ?_⟩
      by_cases hca : c < a
      · exact hm c h1 hca
      · rw [hP c (by omega) h2]
        cases hq : Mem xs c with
        | false => rfl
        | true =>
          obtain ⟨r, hr, h3, h4⟩ := mem_iff.1 hq
          have := hc r hr
          omega
    | true =>
      rw [if_pos ⟨hlt, rfl⟩]
      by_cases hj : 0 < xs.length ∧ (rd_T38 xs ((xs.length : Int) - 1)).f1 = a - 1
      · rw [if_pos hj]
        obtain ⟨pre, r, hx, hrd, hset⟩ := last_of hj.1
        rw [hset, hrd]
        have hr1 : r.f1 = a - 1 := by rw [← hrd]; exact hj.2
        subst hx
        rw [List.pairwise_append] at hp
        have hrr := hc r (by simp)
        refine ⟨⟨fun s hs => ?_, ?_⟩, fun c h1 h2 => ?_⟩
        · rcases List.mem_append.1 hs with hs | hs
          · have := hc s (by simp [hs]); omega
          · rw [List.mem_singleton] at hs
            subst hs
            simp only
            omega
        · rw [List.pairwise_append]
          refine ⟨hp.1, List.pairwise_singleton _ _, fun s hs q hq => ?_⟩
          rw [List.mem_singleton] at hq
          subst hq
          exact hp.2.2 s hs r (by simp)
        · rw [mem_app, mem_one]
          by_cases hca : c < a
          · have := hm c h1 hca
            rw [mem_app, mem_one] at this
            rw [← this]
            congr 1
            unfold inR
            simp only
            rw [decide_eq_true (show c ≤ tt - 1 by omega), decide_eq_true (show c ≤ r.f1 by omega)]
          · rw [hP c (by omega) h2]
            have : inR ⟨r.f0, tt - 1⟩ c = true := inR_iff.2 ⟨by simp only; omega, by simp only; omega⟩
            rw [this, Bool.or_true]
      · rw [if_neg hj]
        have hgap : ∀ r ∈ xs, r.f1 + 1 < a := by
          intro r hr
          have hn : 0 < xs.length := List.length_pos_of_mem hr
          obtain ⟨pre, s, hx, hrd, _⟩ := last_of hn
          have hs1 : s.f1 ≠ a - 1 := fun e => hj ⟨hn, by rw [hrd]; exact e⟩
          have hs := hc s (by rw [hx]; simp)
          rw [hx] at hr hp
          rcases List.mem_append.1 hr with hr | hr
          · have := (List.pairwise_append.1 hp).2.2 r hr s (by simp)
            omega
          · rw [List.mem_singleton] at hr
            subst hr
            omega
        refine ⟨⟨fun s hs => ?_, ?_⟩, fun c h1 h2 => ?_⟩
        · rcases List.mem_append.1 hs with hs | hs
          · have := hc s hs; omega
          · rw [List.mem_singleton] at hs
            subst hs
            simp only
            omega
        · rw [List.pairwise_append]
          refine ⟨hp, List.pairwise_singleton _ _, fun s hs q hq => ?_⟩
          rw [List.mem_singleton] at hq
          subst hq
          exact hgap s hs
        · rw [mem_app, mem_one]
          by_cases hca : c < a
          · have : inR ⟨a, tt - 1⟩ c = false := by simp [inR]; omega
            rw [this, Bool.or_false]
            exact hm c h1 hca
          · rw [hP c (by omega) h2]
            have : inR ⟨a, tt - 1⟩ c = true := inR_iff.2 ⟨by simp only; omega, by simp only; omega⟩
            rw [this, Bool.or_true]
  · rw [if_neg (fun q => hlt q.1)]
    obtain rfl : a = tt := by omega
    exact ⟨⟨hc, hp⟩, hm⟩
/-- The least list of a set, from its least character on. -/
def ups (P : Int → Bool) : Nat → List S38
  | 0 => []
  | n + 1 => tellF (P n) n ((n : Int) + 1) (ups P n)
theorem ups_spec (P : Int → Bool) : ∀ n : Nat, Spec P (ups P n) n
  | 0 => ⟨⟨(fun r hr => nomatch hr), List.Pairwise.nil⟩, fun c h1 h2 => by simp at h2; omega⟩
  | n + 1 => by
    have := tell_spec (b := P n) (ups_spec P n) (by omega) (show (n : Int) ≤ (n : Int) + 1 by omega) (fun c h1 h2 => by rw [show c = (n : Int) from by omega])
    exact this
def canonF (P : Int → Bool) : List S38 := ups P 1114112
theorem canon_spec (P : Int → Bool) : Spec P (canonF P) 1114112 := ups_spec P 1114112
theorem canon_of {P : Int → Bool} {xs : List S38} (h : Spec P xs 1114112) : xs = canonF P := h.one (canon_spec P)
theorem canon_congr {P Q : Int → Bool} (h : ∀ c, 0 ≤ c → c ≤ 1114111 → P c = Q c) : canonF P = canonF Q := by
  refine canon_of ?_
  have := canon_spec P
  exact ⟨this.1, fun c h1 h2 => by rw [this.2 c h1 h2, h c h1 (by omega)]⟩
theorem canon_mem (P : Int → Bool) {c : Int} (h0 : 0 ≤ c) (h1 : c ≤ 1114111) : Mem (canonF P) c = P c := (canon_spec P).2 c h0 (by omega)
def cntS (set : Int) (l : List S72) (c : Int) : Int := (l.map fun s => if s.f1 = set ∧ s.f0 ≤ c then s.f2 else 0).sum
theorem cntS_cons (set : Int) (s : S72) (l : List S72) (c : Int) : cntS set (s :: l) c = (if s.f1 = set ∧ s.f0 ≤ c then s.f2 else 0) + cntS set l c := by simp [cntS]
theorem cntS_app (set : Int) (l m : List S72) (c : Int) : cntS set (l ++ m) c = cntS set l c + cntS set m c := by simp [cntS]
theorem cntS_perm {set : Int} {l m : List S72} (h : l.Perm m) (c : Int) : cntS set l c = cntS set m c := by
  induction h with
  | nil => rfl
  | cons x _ ih => rw [cntS_cons, cntS_cons, ih]
  | swap x y l => rw [cntS_cons, cntS_cons, cntS_cons, cntS_cons]; omega
  | trans _ _ h1 h2 => rw [h1, h2]
theorem cntS_none {set : Int} {l : List S72} {c : Int} (h : ∀ s ∈ l, c < s.f0) : cntS set l c = 0 := by
  induction l with
  | nil => rfl
  | cons s l ih =>
    rw [cntS_cons, if_neg (by have := h s List.mem_cons_self; omega), ih (fun t ht => h t (List.mem_cons_of_mem _ ht))]
    rfl
theorem run_spec {P : Int → Bool} {rb : Bool → Bool → Bool} : ∀ (l : List S72) (a i0 i1 : Int) (xs : List S38), Spec P xs a → 0 ≤ a → a ≤ 1114112 → Rises l → (∀ s ∈ l, a ≤ s.f0 ∧ s.f0 ≤ 1114112 ∧ (s.f1 = 0 ∨ s.f1 = 1)) →
    (∀ c, a ≤ c → c ≤ 1114111 → P c = rb (decide (0 < i0 + cntS 0 l c)) (decide (0 < i1 + cntS 1 l c))) → Spec P (runF rb l a i0 i1 xs) 1114112
  | [], a, i0, i1, xs, hs, h0, h1, _, _, hP => tell_spec hs h0 h1 (fun c h2 h3 => by
      have := hP c h2 (by omega)
      simpa [cntS] using this)
  | s :: r, a, i0, i1, xs, hs, h0, h1, hr, hb, hP => by
    have hs0 := hb s List.mem_cons_self
    obtain ⟨hr1, hr2⟩ := List.pairwise_cons.1 hr
    refine run_spec r s.f0 _ _ _ (tell_spec hs h0 hs0.1 (fun c h2 h3 => ?_)) (by omega) hs0.2.1 hr2 (fun t ht => ⟨hr1 t ht, (hb t (List.mem_cons_of_mem _ ht)).2⟩) (fun c h2 h3 => ?_)
    · have hn : ∀ t ∈ s :: r, c < t.f0 := fun t ht => by
        rcases List.mem_cons.1 ht with rfl | ht
        · exact h3
        · have := hr1 t ht; omega
      have := hP c h2 (by omega)
      rw [cntS_none hn, cntS_none hn, Int.add_zero, Int.add_zero] at this
      exact this
    · have := hP c (by omega) h3
      rw [cntS_cons, cntS_cons] at this
      rw [this]
      rcases hs0.2.2 with e | e
      · rw [e, if_pos ⟨rfl, h2⟩, if_neg (by simp), if_pos rfl, if_pos rfl, Int.zero_add, Int.add_assoc]
      · rw [e, if_neg (by simp), if_pos ⟨rfl, h2⟩, if_neg (by decide), if_neg (by decide), Int.zero_add, Int.add_assoc]
def stepF (set : Int) (r : S38) : List S72 := if mx 0 r.f0 ≤ mn 1114111 r.f1 then [⟨mx 0 r.f0, set, 1⟩, ⟨mn 1114111 r.f1 + 1, set, -1⟩] else []
def stepsF (l : List S38) (set : Int) : List S72 := if (l.length : Int) > 400 then [] else l.flatMap (stepF set)
theorem mm (r : S38) : 0 ≤ mx 0 r.f0 ∧ r.f0 ≤ mx 0 r.f0 ∧ (mx 0 r.f0 = 0 ∨ mx 0 r.f0 = r.f0) ∧ mn 1114111 r.f1 ≤ 1114111 ∧ mn 1114111 r.f1 ≤ r.f1 ∧ (mn 1114111 r.f1 = 1114111 ∨ mn 1114111 r.f1 = r.f1) := by
  unfold mx mn
  omega
theorem step_at {l : List S38} {i : Int} (h0 : 0 ≤ i) (h : i < (l.length : Int)) : l.drop i.toNat = rd_T38 l i :: l.drop (i + 1).toNat := by
  have hi : i.toNat < l.length := by omega
  rw [List.drop_eq_getElem_cons hi, show (i + 1).toNat = i.toNat + 1 from by omega]
  unfold rd_T38
  rw [List.getD_eq_getElem?_getD, List.getElem?_eq_getElem hi]
  rfl
theorem steps_ev (l : List S38) (set : Int) : Ev (fun k => span_steps.f k l set) (stepsF l set) := by
  unfold span_steps.f stepsF
  by_cases hz : (l.length : Int) > 400
  · rw [if_pos hz]
    exact ev_if hz (Ev.now _)
  rw [if_neg hz]
  refine ev_else hz ?_
  have main : ∀ (d : Nat) (i : Int) (x : List S72), 0 ≤ i → (l.length : Int) - i = d → (x.length : Int) ≤ 2 * i → Ev (fun k => span_steps.l0 k set x l (l.length : Int) i) (x ++ (l.drop i.toNat).flatMap (stepF set)) := by
    intro d
    induction d with
    | zero =>
      intro i x h0 hd hx
      rw [List.drop_eq_nil_iff.2 (by omega), List.flatMap_nil, List.append_nil]
      exact Ev.step (f := fun _ => some x) (fun k => by rw [span_steps.l0, if_neg (by omega)]) (Ev.now _)
    | succ d ih =>
      intro i x h0 hd hx
      have hi : i < (l.length : Int) := by omega
      rw [step_at h0 hi, List.flatMap_cons]
      have hm := mm (rd_T38 l i)
      refine Ev.step (fun k => by rw [span_steps.l0, if_pos hi, if_pos h0, if_pos hi, w64 (n := i + 1) (by omega) (by omega)]) ?_
      by_cases hr : mx 0 (rd_T38 l i).f0 ≤ mn 1114111 (rd_T38 l i).f1
      · refine ev_if hr ?_
        rw [w64 (n := mn 1114111 (rd_T38 l i).f1 + 1) (by omega) (by omega)]
        refine Ev.congr (fun k => by rw [Option.bind_some]) ?_
        refine ev_if (by simp; omega) ?_
        have := ih (i + 1) (x ++ stepF set (rd_T38 l i)) (by omega) (by omega) (by unfold stepF; rw [if_pos hr]; simp; omega)
        rw [List.append_assoc] at this
        unfold stepF at this ⊢
        rw [if_pos hr] at this ⊢
        exact this
      · refine ev_else hr ?_
        have := ih (i + 1) x (by omega) (by omega) (by omega)
        unfold stepF at this ⊢
        rw [if_neg hr, List.nil_append]
        exact this
  exact main l.length 0 [] (by omega) (by omega) (by simp)
theorem stepF_cnt (set t : Int) (r : S38) {c : Int} (h0 : 0 ≤ c) (h1 : c ≤ 1114111) : cntS t (stepF set r) c = if t = set ∧ inR r c = true then 1 else 0 := by
  have hm := mm r
  unfold stepF
  by_cases ht : t = set
  · subst ht
    by_cases hr : mx 0 r.f0 ≤ mn 1114111 r.f1
    · rw [if_pos hr]
      simp only [cntS, List.map_cons, List.map_nil, List.sum_cons, List.sum_nil, true_and, Int.add_zero]
      by_cases hi : inR r c = true
      · rw [if_pos hi]
        have := inR_iff.1 hi
        rw [if_pos (by omega), if_neg (by omega)]
        rfl
      · rw [if_neg hi]
        have : ¬ (r.f0 ≤ c ∧ c ≤ r.f1) := fun q => hi (inR_iff.2 q)
        by_cases h2 : mx 0 r.f0 ≤ c
        · rw [if_pos h2, if_pos (by omega)]
          rfl
        · rw [if_neg h2, if_neg (by omega)]
          rfl
    · rw [if_neg hr, if_neg]
      · rfl
      · rintro ⟨_, q⟩
        have := inR_iff.1 q
        omega
  · have e : (if t = set ∧ inR r c = true then (1 : Int) else 0) = 0 := if_neg (fun q => ht q.1)
    rw [e]
    have hne : ¬ set = t := fun q => ht q.symm
    by_cases hr : mx 0 r.f0 ≤ mn 1114111 r.f1
    · rw [if_pos hr]
      simp [cntS, hne]
    · rw [if_neg hr]
      rfl
theorem flat_cnt (set t : Int) {c : Int} (h0 : 0 ≤ c) (h1 : c ≤ 1114111) : ∀ l : List S38, 0 ≤ cntS t (l.flatMap (stepF set)) c ∧ (0 < cntS t (l.flatMap (stepF set)) c ↔ t = set ∧ Mem l c = true) ∧ (t ≠ set → cntS t (l.flatMap (stepF set)) c = 0)
  | [] => by simp [cntS, Mem]
  | r :: l => by
    obtain ⟨a, b, d⟩ := flat_cnt set t h0 h1 l
    rw [List.flatMap_cons, cntS_app, stepF_cnt set t r h0 h1]
    have e : Mem (r :: l) c = (inR r c || Mem l c) := by simp [Mem]
    rw [e]
    refine ⟨by split <;> omega, ?_, fun hne => by rw [if_neg (fun q => hne q.1), d hne]; rfl⟩
    by_cases hi : t = set ∧ inR r c = true
    · rw [if_pos hi]
      rw [hi.2, Bool.true_or]
      constructor
      · intro _; exact ⟨hi.1, rfl⟩
      · intro _; omega
    · rw [if_neg hi, Int.zero_add, b]
      constructor
      · rintro ⟨q1, q2⟩
        exact ⟨q1, by rw [q2, Bool.or_true]⟩
      · rintro ⟨q1, q2⟩
        refine ⟨q1, ?_⟩
        cases hr : inR r c with
        | true => exact absurd ⟨q1, hr⟩ hi
        | false => rw [hr, Bool.false_or] at q2; exact q2
/-- Is a character there, as span.Has says? -/
def hasB (l : List S38) (c : Int) : Bool := decide (l.length ≤ 400) && Mem l c
theorem steps_cnt (l : List S38) (set t : Int) {c : Int} (h0 : 0 ≤ c) (h1 : c ≤ 1114111) : decide (0 < cntS t (stepsF l set) c) = (decide (t = set) && hasB l c) ∧ (t ≠ set → cntS t (stepsF l set) c = 0) := by
  obtain ⟨a, b, d⟩ := flat_cnt set t h0 h1 l
  unfold stepsF hasB
  by_cases hz : (l.length : Int) > 400
  · rw [if_pos hz, decide_eq_false (show ¬ l.length ≤ 400 by omega)]
    simp [cntS]
  · rw [if_neg hz, decide_eq_true (show l.length ≤ 400 by omega), Bool.true_and]
    refine ⟨?_, d⟩
    rw [Bool.eq_iff_iff]
    simp [b]
theorem steps_ok (l : List S38) {set : Int} (hs : set = 0 ∨ set = 1) : (∀ s ∈ stepsF l set, StepOk s) ∧ (stepsF l set).length ≤ 800 := by
  unfold stepsF
  split
  · simp
  · rename_i hz
    have one : ∀ r : S38, (∀ s ∈ stepF set r, StepOk s) ∧ (stepF set r).length ≤ 2 := fun r => by
      have hm := mm r
      unfold stepF
      split
      · refine ⟨fun s hq => ?_, by simp⟩
        simp only [List.mem_cons, List.not_mem_nil, or_false] at hq
        unfold StepOk
        rcases hq with rfl | rfl <;> simp only <;> omega
      · simp
    refine ⟨fun s hq => ?_, ?_⟩
    · obtain ⟨r, hr, hq⟩ := List.mem_flatMap.1 hq
      exact (one r).1 s hq
    · have : ∀ l : List S38, (l.flatMap (stepF set)).length ≤ 2 * l.length := fun l => by
        induction l with
        | nil => simp
        | cons r l ih =>
          have := (one r).2
          rw [List.flatMap_cons, List.length_append, List.length_cons]
          omega
      have := this l
      omega
/-- WHAT span.sweep MAKES. -/
theorem sweep_spec (rb : Bool → Bool → Bool) (l0 l1 : List S38) {ys : List S72} (hp : ys.Perm (stepsF l0 0 ++ stepsF l1 1)) (hr : Rises ys) : runF rb ys 0 0 0 [] = canonF fun c => rb (hasB l0 c) (hasB l1 c) := by
  refine canon_of (run_spec ys 0 0 0 [] ⟨⟨(fun r hr => nomatch hr), List.Pairwise.nil⟩, fun c h1 h2 => by omega⟩ (by omega) (by omega) hr (fun s hs => ?_) (fun c h0 h1 => ?_))
  · have hs' := hp.mem_iff.1 hs
    rcases List.mem_append.1 hs' with h | h
    · have := (steps_ok l0 (Or.inl rfl)).1 s h
      unfold StepOk at this
      omega
    · have := (steps_ok l1 (Or.inr rfl)).1 s h
      unfold StepOk at this
      omega
  · obtain ⟨a1, a2⟩ := steps_cnt l0 0 0 h0 h1
    obtain ⟨b1, b2⟩ := steps_cnt l1 1 0 h0 h1
    obtain ⟨c1, c2⟩ := steps_cnt l0 0 1 h0 h1
    obtain ⟨d1, d2⟩ := steps_cnt l1 1 1 h0 h1
    rw [cntS_perm hp, cntS_perm hp, cntS_app, cntS_app, b2 (by decide), c2 (by decide), Int.add_zero, Int.zero_add, Int.zero_add, Int.zero_add, a1, d1]
    rfl
end Go.Proofs.YtippkbgeeeimjaaGreat.P
/- span.Or, And, Less, Not in the print's shape. -/
namespace Go.Proofs.YtippkbgeeeimjaaGreat.L
open Go.RowKit Go.Proofs.YtippkbgeeeimjaaGreatW.PrintWords Go.Proofs.YtippkbgeeeimjaaGreatW.PrintLast Go.Proofs.YtippkbgeeeimjaaGreatW.PrintMore Go.Proofs.YtippkbgeeeimjaaGreat.A Go.Proofs.YtippkbgeeeimjaaGreat.P
set_option linter.unusedVariables false
set_option linter.unusedSimpArgs false
theorem sweep_made (rb : Bool → Bool → Bool) (gf : Nat) (eg : ∀ args w, (callFunc gf args).run Tryz.prog w = .ok (.enter gf args) w) (hr : ∀ x y W, Calls Tryz.prog gf #[.bool x, .bool y] W fun e w' => e = .returned (.bool (rb x y)) ∧ w' = W)
    (A0 : Option Addr) (c0 : Nat) (l0 : List S38) (A1 : Option Addr) (c1 : Nat) (l1 : List S38) (w : World) (hr0 : Kd.C k38 w A0 l0.length l0) (hc0 : l0.length ≤ c0) (hr1 : Kd.C k38 w A1 l1.length l1) (hc1 : l1.length ≤ c1) :
    Calls Tryz.prog 42 #[.slice A0 l0.length c0, .slice A1 l1.length c1, .func (.func gf) #[] #[]] w fun e w' => ∃ v, e = .returned v ∧ Kd.R k38 38 w' w.heap.size (fun _ => True) v (canonF fun c => rb (hasB l0 c) (hasB l1 c)) ∧ Below w.heap.size w w' := by
  obtain ⟨K0, h0⟩ := steps_ev l0 0
  obtain ⟨K1, h1⟩ := steps_ev l1 1
  have z0 := steps_ok l0 (Or.inl rfl)
  have z1 := steps_ok l1 (Or.inr rfl)
  refine (sweep_calls rb gf eg hr A0 c0 l0 A1 c1 l1 w hr0 hc0 hr1 hc1 (max K0 K1) (stepsF l0 0) (stepsF l1 1) _ rfl (h0 _ (by omega)) (h1 _ (by omega)) (fun s hs => (List.mem_append.1 hs).elim (z0.1 s) (z1.1 s)) (by rw [List.length_append]; omega)).mono ?_
  rintro e w' ⟨v, ys, rfl, hp, hri, hR, hb⟩
  rw [sweep_spec rb l0 l1 hp hri] at hR
  exact ⟨v, rfl, hR, hb⟩
theorem eg43 : ∀ args w, (callFunc 92 args).run Tryz.prog w = .ok (.enter 92 args) w := enters_of Tryz.func92 (by kernel_rfl) rfl
theorem eg45 : ∀ args w, (callFunc 63 args).run Tryz.prog w = .ok (.enter 63 args) w := enters_of Tryz.func63 (by kernel_rfl) rfl
theorem eg46 : ∀ args w, (callFunc 64 args).run Tryz.prog w = .ok (.enter 64 args) w := enters_of Tryz.func64 (by kernel_rfl) rfl
theorem eg47 : ∀ args w, (callFunc 43 args).run Tryz.prog w = .ok (.enter 43 args) w := enters_of Tryz.func43 (by kernel_rfl) rfl
def orF (l0 l1 : List S38) : List S38 := canonF fun c => hasB l0 c || hasB l1 c
def andF (l0 l1 : List S38) : List S38 := canonF fun c => hasB l0 c && hasB l1 c
def lessF (l0 l1 : List S38) : List S38 := canonF fun c => hasB l0 c && !hasB l1 c
def notF (l0 : List S38) : List S38 := canonF fun c => !hasB l0 c
def span_Or.f (l0 l1 : List S38) : Option (List S38) := some (orF l0 l1)
def span_And.f (l0 l1 : List S38) : Option (List S38) := some (andF l0 l1)
def span_Less.f (l0 l1 : List S38) : Option (List S38) := some (lessF l0 l1)
def span_Not.f (l0 : List S38) : Option (List S38) := some (notF l0)
theorem span_Or.calls (A0 : Option Addr) (c0 : Nat) (l0 : List S38) (A1 : Option Addr) (c1 : Nat) (l1 : List S38) (r : List S38) (w : World) (hr0 : Kd.C k38 w A0 l0.length l0) (hc0 : l0.length ≤ c0) (hr1 : Kd.C k38 w A1 l1.length l1) (hc1 : l1.length ≤ c1) (h : span_Or.f l0 l1 = some r) :
    Calls Tryz.prog 76 #[.slice A0 l0.length c0, .slice A1 l1.length c1] w fun e w' => ∃ v0_ : Value, e = .returned v0_ ∧ Kd.R k38 38 w' w.heap.size (fun _ => True) v0_ r ∧ Below w.heap.size w w' := by
  obtain rfl : orF l0 l1 = r := Option.some.inj h
  clear h
  have hs := sweep_made (fun x y => x || y) 92 eg43 rule_or A0 c0 l0 A1 c1 l1 w hr0 hc0 hr1 hc1
  change Calls Tryz.prog 42 _ w (fun e w' => ∃ v, e = .returned v ∧ Kd.R k38 38 w' w.heap.size (fun _ => True) v (orF l0 l1) ∧ Below w.heap.size w w') at hs
  generalize orF l0 l1 = r at hs ⊢
  have HS := Aside0.mk hs
  clear hs hr0 hc0 hr1 hc1
  go_enter Tryz.func76, Tryz.ntmps76
  go_wp2_with fail
  refine HS.out.mono ?_
  rintro e w' ⟨v, rfl, hR, hb⟩
  obtain ⟨A, c, rfl⟩ := Kd.R_slice hR
  have HR := Aside0.mk hR
  have HB := Aside0.mk hb
  clear hR hb
  go_wp2_with fail
  go_ret
  exact ⟨_, rfl, HR.out, HB.out⟩
theorem span_And.calls (A0 : Option Addr) (c0 : Nat) (l0 : List S38) (A1 : Option Addr) (c1 : Nat) (l1 : List S38) (r : List S38) (w : World) (hr0 : Kd.C k38 w A0 l0.length l0) (hc0 : l0.length ≤ c0) (hr1 : Kd.C k38 w A1 l1.length l1) (hc1 : l1.length ≤ c1) (h : span_And.f l0 l1 = some r) :
    Calls Tryz.prog 45 #[.slice A0 l0.length c0, .slice A1 l1.length c1] w fun e w' => ∃ v0_ : Value, e = .returned v0_ ∧ Kd.R k38 38 w' w.heap.size (fun _ => True) v0_ r ∧ Below w.heap.size w w' := by
  obtain rfl : andF l0 l1 = r := Option.some.inj h
  clear h
  have hs := sweep_made (fun x y => x && y) 63 eg45 rule_and A0 c0 l0 A1 c1 l1 w hr0 hc0 hr1 hc1
  change Calls Tryz.prog 42 _ w (fun e w' => ∃ v, e = .returned v ∧ Kd.R k38 38 w' w.heap.size (fun _ => True) v (andF l0 l1) ∧ Below w.heap.size w w') at hs
  generalize andF l0 l1 = r at hs ⊢
  have HS := Aside0.mk hs
  clear hs hr0 hc0 hr1 hc1
  go_enter Tryz.func45, Tryz.ntmps45
  go_wp2_with fail
  refine HS.out.mono ?_
  rintro e w' ⟨v, rfl, hR, hb⟩
  obtain ⟨A, c, rfl⟩ := Kd.R_slice hR
  have HR := Aside0.mk hR
  have HB := Aside0.mk hb
  clear hR hb
  go_wp2_with fail
  go_ret
  exact ⟨_, rfl, HR.out, HB.out⟩
theorem span_Less.calls (A0 : Option Addr) (c0 : Nat) (l0 : List S38) (A1 : Option Addr) (c1 : Nat) (l1 : List S38) (r : List S38) (w : World) (hr0 : Kd.C k38 w A0 l0.length l0) (hc0 : l0.length ≤ c0) (hr1 : Kd.C k38 w A1 l1.length l1) (hc1 : l1.length ≤ c1) (h : span_Less.f l0 l1 = some r) :
    Calls Tryz.prog 46 #[.slice A0 l0.length c0, .slice A1 l1.length c1] w fun e w' => ∃ v0_ : Value, e = .returned v0_ ∧ Kd.R k38 38 w' w.heap.size (fun _ => True) v0_ r ∧ Below w.heap.size w w' := by
  obtain rfl : lessF l0 l1 = r := Option.some.inj h
  clear h
  have hs := sweep_made (fun x y => x && !y) 64 eg46 rule_less A0 c0 l0 A1 c1 l1 w hr0 hc0 hr1 hc1
  change Calls Tryz.prog 42 _ w (fun e w' => ∃ v, e = .returned v ∧ Kd.R k38 38 w' w.heap.size (fun _ => True) v (lessF l0 l1) ∧ Below w.heap.size w w') at hs
  generalize lessF l0 l1 = r at hs ⊢
  have HS := Aside0.mk hs
  clear hs hr0 hc0 hr1 hc1
  go_enter Tryz.func46, Tryz.ntmps46
  go_wp2_with fail
  refine HS.out.mono ?_
  rintro e w' ⟨v, rfl, hR, hb⟩
  obtain ⟨A, c, rfl⟩ := Kd.R_slice hR
  have HR := Aside0.mk hR
  have HB := Aside0.mk hb
  clear hR hb
  go_wp2_with fail
  go_ret
  exact ⟨_, rfl, HR.out, HB.out⟩
theorem span_Not.calls (A0 : Option Addr) (c0 : Nat) (l0 : List S38) (r : List S38) (w : World) (hr0 : Kd.C k38 w A0 l0.length l0) (hc0 : l0.length ≤ c0) (h : span_Not.f l0 = some r) :
    Calls Tryz.prog 20 #[.slice A0 l0.length c0] w fun e w' => ∃ v0_ : Value, e = .returned v0_ ∧ Kd.R k38 38 w' w.heap.size (fun _ => True) v0_ r ∧ Below w.heap.size w w' := by
  obtain rfl : notF l0 = r := Option.some.inj h
  clear h
  have hs := sweep_made (fun x _ => !x) 43 eg47 rule_not A0 c0 l0 none 0 [] w hr0 hc0 (Kd.C_nil _ _) (Nat.le_refl _)
  change Calls Tryz.prog 42 #[.slice A0 l0.length c0, .slice none 0 0, .func (.func 43) #[] #[]] w (fun e w' => ∃ v, e = .returned v ∧ Kd.R k38 38 w' w.heap.size (fun _ => True) v (notF l0) ∧ Below w.heap.size w w') at hs
  generalize notF l0 = r at hs ⊢
  have HS := Aside0.mk hs
  clear hs hr0 hc0
  go_enter Tryz.func20, Tryz.ntmps20
  go_wp2_with fail
  refine HS.out.mono ?_
  rintro e w' ⟨v, rfl, hR, hb⟩
  obtain ⟨A, c, rfl⟩ := Kd.R_slice hR
  have HR := Aside0.mk hR
  have HB := Aside0.mk hb
  clear hR hb
  go_wp2_with fail
  go_ret
  exact ⟨_, rfl, HR.out, HB.out⟩
end Go.Proofs.YtippkbgeeeimjaaGreat.L
/- span.Has in the print's shape. -/
namespace Go.Proofs.YtippkbgeeeimjaaGreat.L
open Go.RowKit Go.Proofs.YtippkbgeeeimjaaGreatW.PrintWords Go.Proofs.YtippkbgeeeimjaaGreatW.PrintLast Go.Proofs.YtippkbgeeeimjaaGreatW.PrintMore Go.Proofs.YtippkbgeeeimjaaGreat.A Go.Proofs.YtippkbgeeeimjaaGreat.P
set_option linter.unusedVariables false
set_option linter.unusedSimpArgs false
theorem has_one (r : S38) (c : Int) (gc : Nat) (w : World) (hc : w.cell? ⟨gc, 0, none⟩ = some (.int .i64 c)) :
    Calls Tryz.prog 52 #[.agg #[.int .i64 r.f0, .int .i64 r.f1], .pointer (some ⟨gc, 0, none⟩)] w fun e w' => e = .returned (.bool (inR r c)) ∧ Below w.heap.size w w' := by
  have hlt : gc < w.heap.size := by
    rcases Nat.lt_or_ge gc w.heap.size with h | h
    · exact h
    · simp [World.cell?, Array.getElem?_eq_none h] at hc
  have hne : gc ≠ w.heap.size := by omega
  unfold inR
  by_cases h1 : r.f0 ≤ c
  · by_cases h2 : c ≤ r.f1
    · have b1 : decide (r.f0 ≤ c) = true := decide_eq_true h1
      have b2 : decide (c ≤ r.f1) = true := decide_eq_true h2
      rw [b1, b2]
      clear h1 h2
      go_enter Tryz.func52, Tryz.ntmps52
      go_wp2_with fail
      go_ret
      exact ⟨rfl, below_alloc (Below.refl _ _) _⟩
    · have b1 : decide (r.f0 ≤ c) = true := decide_eq_true h1
      have b2 : decide (c ≤ r.f1) = false := decide_eq_false h2
      rw [b1, b2]
      clear h1 h2
      go_enter Tryz.func52, Tryz.ntmps52
      go_wp2_with fail
      go_ret
      exact ⟨rfl, below_alloc (Below.refl _ _) _⟩
  · have b1 : decide (r.f0 ≤ c) = false := decide_eq_false h1
    rw [b1, Bool.false_and]
    clear h1
    go_enter Tryz.func52, Tryz.ntmps52
    go_wp2_with fail
    go_ret
    exact ⟨rfl, below_alloc (Below.refl _ _) _⟩
/-- The first range that has it. -/
def idxF (l : List S38) (c : Int) : Int := match l.findIdx? fun r => inR r c with
  | some i => i
  | none => -1
theorem idxF_ge (l : List S38) (c : Int) : decide (0 ≤ idxF l c) = Mem l c := by
  unfold idxF Mem
  cases h : l.findIdx? fun r => inR r c with
  | none =>
    have := List.findIdx?_eq_none_iff.1 h
    simp only
    rw [decide_eq_false (by omega)]
    symm
    rw [List.any_eq_false]
    intro x hx
    rw [this x hx]
    decide
  | some i =>
    simp only
    rw [decide_eq_true (by omega)]
    symm
    obtain ⟨hi, hp, _⟩ := List.findIdx?_eq_some_iff_getElem.1 h
    exact List.any_eq_true.2 ⟨_, List.getElem_mem hi, hp⟩
def Lix (w : World) (l : List S38) (c : Int) (u : Value) (W : World) : Prop := ∃ j : Nat, j ≤ l.length ∧ u = .int .i64 j ∧ Below w.heap.size w W ∧ ∀ r ∈ l.take j, inR r c = false
set_option maxHeartbeats 2000000 in
theorem index_func (A0 : Option Addr) (c0 : Nat) (l0 : List S38) (c : Int) (gc : Nat) (w : World) (hr0 : Kd.C k38 w A0 l0.length l0) (hc0 : l0.length ≤ c0) (hg : w.heap[gc]? = some (.cells #[.int .i64 c] 3 (0, 0))) :
    Calls Tryz.prog 75 #[.slice A0 l0.length c0, .func (.func 52) #[] #[.pointer (some ⟨gc, 0, none⟩)]] w fun e w' => e = .returned (.int .i64 (idxF l0 c)) ∧ Below w.heap.size w w' := by
  have HR := Aside0.mk hr0
  have HG := Aside0.mk hg
  have HM : l0.length ≤ 9223372036854775807 := Kd.C_max hr0
  have eg : ∀ args w, (callFunc 52 args).run Tryz.prog w = .ok (.enter 52 args) w := enters_of Tryz.func52 (by kernel_rfl) rfl
  clear hr0 hg
  go_enter Tryz.func75, Tryz.ntmps75
  go_wp2_with fail
  go_loopw [8] (fun u W => Lix w l0 c u W) (fun u _ => l0.length - (intOf u).toNat)
  case atStart => exact ⟨0, Nat.zero_le _, rfl, Below.refl _ _, (fun r hr => by simp at hr)⟩
  case round =>
    obtain ⟨j, hj, rfl, hb, hno⟩ := hrel
    have HB := Aside0.mk hb
    have HN := Aside0.mk hno
    clear hb hno
    by_cases hlt : j < l0.length
    · have b1 : decide ((j : Int) < (l0.length : Int)) = true := decide_eq_true (by omega)
      have b2 : decide (j < l0.length) = true := decide_eq_true hlt
      obtain ⟨ad, rfl, k0, k1⟩ := at_T38 (Kd.C_below HR.out HB.out) (j : Int) (by omega) (by omega)
      rw [Int.toNat_natCast] at k0 k1
      have hq0 : 0 ≤ (j : Int) := by omega
      have hq1 : (j : Int) < (l0.length : Int) := by omega
      have w2 : IntKind.i64.wrap ((j : Int) + 1) = (j : Int) + 1 := IntWalk.i64_in _ (by omega)
      have hel : l0[j]? = some (rd_T38 l0 j) := by
        unfold rd_T38
        rw [Int.toNat_natCast, List.getD_eq_getElem?_getD, List.getElem?_eq_getElem hlt]
        rfl
      have HE := Aside0.mk hel
      clear hel
      obtain ⟨s, hs⟩ : ∃ s, s = rd_T38 l0 j := ⟨_, rfl⟩
      rw [← hs] at k0 k1 HE
      clear hs
      go_wp2_with fail
      have hcell : wr.cell? ⟨gc, 0, none⟩ = some (.int .i64 c) := (blk_cell (blk_below HG.out HB.out) 0).trans rfl
      refine (has_one s c gc wr hcell).mono ?_
      rintro e W7 ⟨rfl, hb7⟩
      have HB7 := Aside0.mk (HB.out.trans (hb7.mono HB.out.size))
      clear hb7 hcell k0 k1
      cases hi : inR s c with
      | true =>
        have HI := Aside0.mk hi
        clear hi
        go_wp2_with fail
        go_ret
        have hfi : (l0.findIdx? fun r => inR r c) = some j := List.findIdx?_eq_some_iff_getElem.2 ⟨hlt, (by rw [List.getElem?_eq_getElem hlt] at HE; rw [Option.some.inj HE.out]; exact HI.out), (fun i hi => by
          have := HN.out (l0[i]'(by omega)) (List.mem_take_iff_getElem.2 ⟨i, by omega, rfl⟩)
          rw [this]
          decide)⟩
        have hix : idxF l0 c = j := by
          unfold idxF
          rw [hfi]
        exact ⟨by rw [hix]; rfl, HB7.out⟩
      | false =>
        have HI := Aside0.mk hi
        clear hi
        go_wp2_with fail
        go_roundw
        case rel =>
          refine ⟨j + 1, hlt, by go_num, HB7.out, fun r hr => ?_⟩
          rw [List.take_add_one, HE.out] at hr
          rcases List.mem_append.1 hr with hr | hr
          · exact HN.out r hr
          · simp at hr
            rw [hr]
            exact HI.out
        case measure => simp [intOf]; omega
    · have b1 : decide ((j : Int) < (l0.length : Int)) = false := decide_eq_false (by omega)
      have b2 : decide (j < l0.length) = false := decide_eq_false hlt
      go_wp2_with fail
      go_ret
      have : idxF l0 c = -1 := by
        unfold idxF
        rw [List.findIdx?_eq_none_iff.2 fun x hx => HN.out x (by rw [List.take_of_length_le (by omega)]; exact hx)]
      exact ⟨by rw [this]; rfl, HB.out⟩
theorem contains_func (A0 : Option Addr) (c0 : Nat) (l0 : List S38) (c : Int) (gc : Nat) (w : World) (hr0 : Kd.C k38 w A0 l0.length l0) (hc0 : l0.length ≤ c0) (hg : w.heap[gc]? = some (.cells #[.int .i64 c] 3 (0, 0))) :
    Calls Tryz.prog 51 #[.slice A0 l0.length c0, .func (.func 52) #[] #[.pointer (some ⟨gc, 0, none⟩)]] w fun e w' => e = .returned (.bool (Mem l0 c)) ∧ Below w.heap.size w w' := by
  have hi := index_func A0 c0 l0 c gc w hr0 hc0 hg
  have hge := idxF_ge l0 c
  generalize idxF l0 c = i at hi hge
  rw [← hge]
  have HI := Aside0.mk hi
  clear hi hr0 hc0 hg hge
  go_enter Tryz.func51, Tryz.ntmps51
  go_wp2_with fail
  refine HI.out.mono ?_
  rintro e w' ⟨rfl, hb⟩
  have HB := Aside0.mk hb
  clear hb
  go_wp2_with fail
  go_ret
  exact ⟨rfl, HB.out⟩
def hasF (l : List S38) (c : Int) : Bool := decide (0 ≤ c) && decide (c ≤ 1114111) && hasB l c
def span_Has.f (l0 : List S38) (a1 : Int) : Option Bool := some (hasF l0 a1)
theorem span_Has.calls (A0 : Option Addr) (c0 : Nat) (l0 : List S38) (a1 : Int) (r : Bool) (w : World) (hr0 : Kd.C k38 w A0 l0.length l0) (hc0 : l0.length ≤ c0) (h : span_Has.f l0 a1 = some r) :
    Calls Tryz.prog 31 #[.slice A0 l0.length c0, .int .i64 a1] w fun e w' => e = .returned (.bool r) ∧ Below w.heap.size w w' := by
  obtain rfl : hasF l0 a1 = r := Option.some.inj h
  clear h
  unfold hasF hasB
  have hs := contains_func A0 c0 l0 a1 w.heap.size (w.alloc (.cells #[.int .i64 a1] 3)) (Kd.C_alloc hr0 _) hc0 (blk_new _ _)
  have HS := Aside0.mk hs
  clear hs hr0 hc0
  by_cases h1 : 0 ≤ a1
  · have b1 : decide (0 ≤ a1) = true := decide_eq_true h1
    by_cases h2 : a1 ≤ 1114111
    · have b2 : decide (a1 ≤ 1114111) = true := decide_eq_true h2
      by_cases h3 : l0.length ≤ 400
      · have b3 : decide (l0.length ≤ 400) = true := decide_eq_true h3
        have b4 : decide ((l0.length : Int) ≤ 400) = true := decide_eq_true (by omega)
        rw [b1, b2, b3, Bool.true_and, Bool.true_and, Bool.true_and]
        clear h1 h2 h3
        go_enter Tryz.func31, Tryz.ntmps31
        go_wp2_with fail
        refine HS.out.mono ?_
        rintro e w' ⟨rfl, hb⟩
        have HB := Aside0.mk ((below_alloc (Below.refl w.heap.size w) (.cells #[.int .i64 a1] 3)).trans (hb.mono (by simp)))
        clear hb
        go_wp2_with fail
        go_ret
        exact ⟨rfl, HB.out⟩
      · have b3 : decide (l0.length ≤ 400) = false := decide_eq_false h3
        have b4 : decide ((l0.length : Int) ≤ 400) = false := decide_eq_false (by omega)
        rw [b3, Bool.false_and, Bool.and_false]
        clear h1 h2 h3
        go_enter Tryz.func31, Tryz.ntmps31
        go_wp2_with fail
        go_ret
        exact ⟨rfl, below_alloc (Below.refl _ _) _⟩
    · have b2 : decide (a1 ≤ 1114111) = false := decide_eq_false h2
      rw [b2, Bool.and_false, Bool.false_and]
      clear h1 h2
      go_enter Tryz.func31, Tryz.ntmps31
      go_wp2_with fail
      go_ret
      exact ⟨rfl, below_alloc (Below.refl _ _) _⟩
  · have b1 : decide (0 ≤ a1) = false := decide_eq_false h1
    rw [b1, Bool.false_and, Bool.false_and]
    clear h1
    go_enter Tryz.func31, Tryz.ntmps31
    go_wp2_with fail
    go_ret
    exact ⟨rfl, below_alloc (Below.refl _ _) _⟩
end Go.Proofs.YtippkbgeeeimjaaGreat.L
/- Contracts by hand, in the print's shape. -/
namespace Go.Proofs.YtippkbgeeeimjaaGreat.L
open Go.RowKit Go.Proofs.YtippkbgeeeimjaaGreatW.PrintWords Go.Proofs.YtippkbgeeeimjaaGreatW.PrintLast Go.Proofs.YtippkbgeeeimjaaGreatW.PrintMore Go.Proofs.YtippkbgeeeimjaaGreat.A
set_option linter.unusedVariables false
def caesuraref01_Edges.f (l0 : List (List S38)) : Option (List Int) := if l0.length ≤ 100 then some (edgesF l0) else none
theorem caesuraref01_Edges.calls (A0 : Option Addr) (c0 : Nat) (l0 : List (List (S38))) (r : List Int) (w : World) (hr0 : Kd.C (Kd.slice 38 k38) w A0 l0.length l0) (hc0 : l0.length ≤ c0) (h : caesuraref01_Edges.f l0 = some r) :
    Calls Tryz.prog 25 #[.slice A0 l0.length c0] w fun e w' => ∃ v0_ : Value, e = .returned (v0_) ∧ Kd.R (Kd.int .i64) 3 w' w.heap.size (fun _ => True) v0_ r ∧ Below w.heap.size w w' := by
  unfold caesuraref01_Edges.f at h
  by_cases hz : l0.length ≤ 100
  · rw [if_pos hz] at h
    obtain rfl := Option.some.inj h
    exact edges_calls A0 c0 l0 w hr0 hc0 hz
  · rw [if_neg hz] at h
    cases h
end Go.Proofs.YtippkbgeeeimjaaGreat.L
/- The document's Has, by hand's word. -/
namespace Go.Proofs.YtippkbgeeeimjaaGreat.P
open Go.RowKit Go.Proofs.YtippkbgeeeimjaaGreatW.PrintWords Go.Proofs.YtippkbgeeeimjaaGreat.A Go.Proofs.YtippkbgeeeimjaaGreat.L
set_option linter.unusedVariables false
set_option linter.unusedSimpArgs false
theorem ref_has (l : List S38) (c : Int) : Ev (fun k => caesuraref01_Has.f k l c) (hasF l c) := by
  have no : ∀ r : Bool, r = false → Ev (fun k => caesuraref01_Has.j0 k l c true) r := fun r hr => by
    rw [hr]
    exact Ev.step (f := fun _ => some false) (fun k => by rw [caesuraref01_Has.j0, if_pos rfl]) (Ev.now _)
  unfold caesuraref01_Has.f
  by_cases h1 : c < 0
  · exact ev_if h1 (no _ (by unfold hasF; rw [decide_eq_false (show ¬ 0 ≤ c by omega)]; rfl))
  refine ev_else h1 ?_
  by_cases h2 : c > 1114111
  · exact ev_if h2 (no _ (by unfold hasF; rw [decide_eq_false (show ¬ c ≤ 1114111 by omega), Bool.and_false]; rfl))
  refine ev_else h2 ?_
  have e : hasF l c = (decide (l.length ≤ 400) && Mem l c) := by
    unfold hasF hasB
    rw [decide_eq_true (show 0 ≤ c by omega), decide_eq_true (show c ≤ 1114111 by omega)]
    rfl
  rw [e]
  by_cases h3 : (l.length : Int) > 400
  · rw [decide_eq_true h3, decide_eq_false (show ¬ l.length ≤ 400 by omega)]
    exact no _ rfl
  rw [decide_eq_false h3, decide_eq_true (show l.length ≤ 400 by omega), Bool.true_and]
  refine Ev.step (fun k => by rw [caesuraref01_Has.j0, if_neg (by decide)]) ?_
  have main : ∀ d i : Nat, i + d = l.length → Ev (fun k => caesuraref01_Has.l0 k l c (i : Int)) (Mem (l.drop i) c) := by
    intro d
    induction d with
    | zero =>
      intro i h
      rw [List.drop_eq_nil_iff.2 (by omega)]
      exact Ev.step (f := fun _ => some false) (fun k => by rw [caesuraref01_Has.l0, if_neg (by omega)]) (Ev.now _)
    | succ d ih =>
      intro i h
      have hs := step_at (l := l) (i := (i : Int)) (by omega) (by omega)
      rw [Int.toNat_natCast, show ((i : Int) + 1).toNat = i + 1 from by omega] at hs
      have := ih (i + 1) (by omega)
      rw [show ((i + 1 : Nat) : Int) = (i : Int) + 1 from by omega] at this
      rw [hs]
      have hm : Mem (rd_T38 l i :: l.drop (i + 1)) c = (inR (rd_T38 l i) c || Mem (l.drop (i + 1)) c) := by simp [Mem]
      rw [hm]
      refine Ev.step (fun k => by rw [caesuraref01_Has.l0, if_pos (show (i : Int) < (l.length : Int) by omega), if_pos (show 0 ≤ (i : Int) by omega), w64 (n := (i : Int) + 1) (by omega) (by omega)]) ?_
      by_cases q1 : c ≥ (rd_T38 l i).f0
      · refine ev_if q1 ?_
        by_cases q2 : c ≤ (rd_T38 l i).f1
        · rw [inR_iff.2 ⟨q1, q2⟩, Bool.true_or]
          exact ev_if q2 (Ev.now _)
        · have : inR (rd_T38 l i) c = false := by simp [inR]; omega
          rw [this, Bool.false_or]
          exact ev_else q2 (by assumption)
      · have : inR (rd_T38 l i) c = false := by simp [inR]; omega
        rw [this, Bool.false_or]
        exact ev_else q1 (by assumption)
  exact main l.length 0 (by omega)
theorem ref_has_calls (A0 : Option Addr) (c0 : Nat) (l0 : List S38) (a1 : Int) (w : World) (hr0 : Kd.C k38 w A0 l0.length l0) (hc0 : l0.length ≤ c0) :
    Calls Tryz.prog 32 #[.slice A0 l0.length c0, .int .i64 a1] w fun e w' => e = .returned (.bool (hasF l0 a1)) ∧ Drawn0 w w' := by
  obtain ⟨k, hk⟩ := (ref_has l0 a1).rounds
  exact caesuraref01_Has.calls k A0 c0 l0 a1 _ w hr0 hc0 hk
end Go.Proofs.YtippkbgeeeimjaaGreat.P
