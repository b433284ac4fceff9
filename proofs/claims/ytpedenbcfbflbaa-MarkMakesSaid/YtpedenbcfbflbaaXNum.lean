import Derived.Test.YtpedenbcfbflbaaXMap
import Derived.StillTailTactics
import Derived.Deep.RegionLaw
import Derived.Deep.DrawnRows
namespace Go.Proofs.Ytpedenbcfbflbaa.X
open Go.RowKit Go.Proofs.YtpedenbcfbflbaaW.PrintWords Go.Proofs.YtpedenbcfbflbaaW.PrintLast Go.Proofs.YtpedenbcfbflbaaW.PrintMore Go.Maps Num
set_option linter.unusedVariables false

def enc2 (x : Int × Int) : Value := .agg #[.int .i64 x.1, .int .i64 x.2]
def cells2 (l : List (Int × Int)) : List Value := l.flatMap fun x => [.int .i64 x.1, .int .i64 x.2]
theorem cells2_snoc (l : List (Int × Int)) (x : Int × Int) : cells2 (l ++ [x]) = cells2 l ++ [.int .i64 x.1, .int .i64 x.2] := by simp [cells2]
theorem cells2_length (l : List (Int × Int)) : (cells2 l).length = l.length * 2 := by
  induction l with
  | nil => rfl
  | cons x r ih => simp only [cells2, List.flatMap_cons, List.length_append, List.length_cons, List.length_nil] at *; omega
theorem enc2_inj (x y : Int × Int) (h : enc2 x = enc2 y) : x = y := by
  simp only [enc2, Value.agg.injEq] at h
  have h1 : [Value.int .i64 x.1, .int .i64 x.2] = [.int .i64 y.1, .int .i64 y.2] := by
    have := congrArg Array.toList h
    simpa using this
  simp at h1
  exact Prod.ext h1.1 h1.2

/-- A map's block is no row. -/
theorem own_map_ne {w : World} {base : Nat} {e : TypeId} {size n mb : Nat} {v : Value} {xs : List Value} {es : Array MapEntry} {clock : Nat} (h : w.ownsRow base e size v n xs) (hm : w.heap[mb]? = some (.map es clock)) : v.ownBlock = none ∨ v.ownBlock ≠ some mb := by
  cases hv : v.ownBlock with
  | none => exact .inl rfl
  | some k =>
    refine .inr fun e => ?_
    obtain ⟨cells, hc⟩ := own_typed h k hv
    injection e with e
    subst e
    rw [hm] at hc
    cases hc

theorem own_block_ne {w : World} {base : Nat} {e t : TypeId} {size n g : Nat} {v : Value} {xs : List Value} {cs : Array Value} {fr : Nat × Nat} (h : w.ownsRow base e size v n xs) (hb : w.heap[g]? = some (.cells cs t fr)) (ht : e ≠ t) : some g ≠ v.ownBlock := by
  intro e'
  obtain ⟨cells, hc⟩ := own_typed h g e'.symm
  rw [hb] at hc
  injection hc with hc
  injection hc with _ hc
  exact ht hc.symm

/-- What the new one's coming leaves (in whatever numbering: e the list's elements' type, t the block's). -/
theorem num_fin {σ : Type} [DecidableEq σ] {P : Program} {K : TypeId} {enc : σ → Value} {cells : List σ → List Value} {l : List σ} {x : σ} {kl : Lit} {D : DataW Unit} {w W W1 w2 : World} {o0 o1 : Obj} {nq base g mb gg cap e size t j : Nat} {v : Value} {cs cs' : Array Value} {R : Value → Option (DataW Unit × List MemPlace)}
    (hK : Keyed P K) (hinj : ∀ x y, enc x = enc y → x = y) (hW : W = (w.alloc o0).drewN nq) (hg1 : W.drew.grownBy W1 (some mb)) (hg2 : ((W1.alloc o1).drew).grownBy w2 v.ownBlock) (hm1 : W1.ownsMap P K R mb (l.length + 1) (D.put kl (.lit (.int .i64 l.length))))
    (b1 : W1.heap[g]? = some (.cells cs t (0, 0))) (hne : some g ≠ v.ownBlock) (hmv : v.ownBlock = none ∨ v.ownBlock ≠ some mb) (hgw : g < w.heap.size) (hmw : mb < w.heap.size) (hgm : g ≠ mb) (hk : Known P K enc l D) (hkl : keyOf P K (enc x) = some kl) (hx : x ∉ l)
    (hown : w2.ownsRow base e size (.slice (some ⟨gg, 0, none⟩) (l.length + 1) cap) (l.length + 1) (cells (l ++ [x]))) (hat : v.ownBlock = some gg ∨ gg = W1.heap.size + 1) (hcs : cs.setIfInBounds j (.slice (some ⟨gg, 0, none⟩) (l.length + 1) cap) = cs') :
    (w2.setCell ⟨g, j, none⟩ (.slice (some ⟨gg, 0, none⟩) (l.length + 1) cap)).heap[g]? = some (.cells cs' t (0, 0)) ∧
    (w2.setCell ⟨g, j, none⟩ (.slice (some ⟨gg, 0, none⟩) (l.length + 1) cap)).ownsMap P K R mb (l.length + 1) (D.put kl (.lit (.int .i64 l.length))) ∧ Known P K enc (l ++ [x]) (D.put kl (.lit (.int .i64 l.length))) ∧
    (w2.setCell ⟨g, j, none⟩ (.slice (some ⟨gg, 0, none⟩) (l.length + 1) cap)).ownsRow base e size (.slice (some ⟨gg, 0, none⟩) (l.length + 1) cap) (l.length + 1) (cells (l ++ [x])) ∧
    Chg (fun i => i = g ∨ i = mb ∨ some i = v.ownBlock) w (w2.setCell ⟨g, j, none⟩ (.slice (some ⟨gg, 0, none⟩) (l.length + 1) cap)) := by
  have hsz : W.drew.heap.size = w.heap.size + 1 := by rw [hW]; simp
  have hs1 := hg1.size
  have hb2 : w2.heap[g]? = some (.cells cs t (0, 0)) := blk_grown (blk_drew (blk_alloc b1 o1)) hg2 hne
  have hggn : g ≠ gg := by
    rintro rfl
    rcases hat with h | h
    · exact hne h.symm
    · omega
  refine ⟨blk_put hb2 j _ hcs, ?_, hk.put hK hinj hkl hx, own_setCell hown (by simp [Value.ownBlock]; exact hggn) _, ?_⟩
  · refine World.ownsMap.setCell ?_ (fun e => hgm e.symm) _
    refine (hm1.alloc o1).drew.kept hg2 ?_
    rcases hmv with h | h
    · rw [h]; simp
    · exact fun e => h e.symm
  · refine Chg.setCell (p := ⟨g, j, none⟩) ?_ (fun _ => .inl rfl) _
    refine Chg.grown (w1 := (W1.alloc o1).drew) ?_ hg2 (fun i _ e => .inr (.inr e.symm))
    refine Chg.drew (Chg.alloc ?_ o1)
    refine Chg.grown (w1 := W.drew) ?_ hg1 (fun i _ e => .inr (.inl (by injection e with e; exact e.symm)))
    rw [hW]
    exact Chg.drew (Chg.drewN ((Chg.refl _ w).alloc o0) nq)

theorem look_not {σ : Type} [DecidableEq σ] {P : Program} {K T E : TypeId} {enc : σ → Value} {l : List σ} {D : DataW Unit} {w : World} {b n : Nat} (hK : Keyed P K) (ht : P.underlying T = some (.map K E)) (he : P.underlying E = some (.int .i64)) (hz : (zeroValue E).run P w = .ok (.int .i64 0) w)
    (ho : w.ownsMap P K (plainElem P E) b n D) (h : Known P K enc l D) {x : σ} {kl : Lit} (hx : keyOf P K (enc x) = some kl) (hn : x ∉ l) :
    (Instr.lookup T (.map (some b)) (enc x) true).run P w = .ok (.tuple #[.int .i64 0, .bool false]) w := by
  obtain ⟨v, ps, hrun, hv⟩ := ho.look_ok hK ht hz (plainElem_int he (by decide)) hx
  obtain ⟨h1, h2⟩ := h.2 x kl hx
  obtain ⟨c, rfl, hc, _⟩ := plainElem_int_inv he hv
  have hno : has D kl = false := by rw [h1]; simp [hn]
  rw [atKey_of_not_has hno] at hc
  simp only [Prod.mk.injEq, DataW.lit.injEq, Lit.int.injEq, true_and] at hc
  rw [hno] at hrun
  rw [← hc.1] at hrun
  exact hrun
end Go.Proofs.Ytpedenbcfbflbaa.X
