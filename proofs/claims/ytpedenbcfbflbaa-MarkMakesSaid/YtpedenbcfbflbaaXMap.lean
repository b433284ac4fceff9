import Derived.Test.YtpedenbcfbflbaaXKeys
import Derived.Test.YtpedenbcfbflbaaNum
namespace Go.Proofs.Ytpedenbcfbflbaa.X
open Go.RowKit Go.Proofs.YtpedenbcfbflbaaW.PrintWords Go.Proofs.YtpedenbcfbflbaaW.PrintLast Go.Proofs.YtpedenbcfbflbaaW.PrintMore Go.Maps Num
set_option linter.unusedVariables false

/-- What a map of numbers, got as they were met, holds. -/
def Known {σ : Type} [DecidableEq σ] (P : Program) (K : TypeId) (enc : σ → Value) (l : List σ) (D : DataW Unit) : Prop :=
  IsMap D ∧ ∀ x kl, keyOf P K (enc x) = some kl → has D kl = decide (x ∈ l) ∧ (x ∈ l → ∀ z, D.atKey kl z = .lit (.int .i64 (idx l x)))

section
variable {σ : Type} [DecidableEq σ] {P : Program} {K T E : TypeId} {enc : σ → Value} {l : List σ} {D : DataW Unit} {w : World} {b n : Nat}

theorem Known.nil : Known P K enc ([] : List σ) (.map []) := ⟨isMap_empty, fun x kl _ => ⟨by simp [has], fun h => by simp at h⟩⟩

theorem Known.put (hK : Keyed P K) (hinj : ∀ x y, enc x = enc y → x = y) (h : Known P K enc l D) {x : σ} {kl : Lit} (hx : keyOf P K (enc x) = some kl) (hn : x ∉ l) :
    Known P K enc (l ++ [x]) (D.put kl (.lit (.int .i64 l.length))) := by
  refine ⟨h.1.put _ _, fun y kl' hy => ?_⟩
  by_cases e : y = x
  · subst e
    obtain rfl : kl = kl' := by rw [hx] at hy; exact Option.some.inj hy
    refine ⟨by rw [has_put_same h.1 (hK.key hx)]; simp, fun _ z => ?_⟩
    rw [atKey_put_same h.1 (hK.key hx), idx_append_new hn]
  · have hne : kl' ≠ kl := fun e' => e (hinj _ _ (hK.inj (e' ▸ hy) hx))
    obtain ⟨h1, h2⟩ := h.2 y kl' hy
    refine ⟨by rw [has_put_other hne, h1]; simp [e], fun hm z => ?_⟩
    have hm' : y ∈ l := by simpa [e] using hm
    rw [atKey_put_other hne, h2 hm', idx_append_left hm']

theorem Known.look (hK : Keyed P K) (ht : P.underlying T = some (.map K E)) (he : P.underlying E = some (.int .i64)) (hz : (zeroValue E).run P w = .ok (.int .i64 0) w)
    (ho : w.ownsMap P K (plainElem P E) b n D) (h : Known P K enc l D) {x : σ} {kl : Lit} (hx : keyOf P K (enc x) = some kl) :
    ∃ c : Int, (Instr.lookup T (.map (some b)) (enc x) true).run P w = .ok (.tuple #[.int .i64 c, .bool (decide (x ∈ l))]) w ∧ (x ∈ l → c = idx l x) := by
  obtain ⟨v, ps, hrun, hv⟩ := ho.look_ok hK ht hz (plainElem_int he (by decide)) hx
  obtain ⟨h1, h2⟩ := h.2 x kl hx
  obtain ⟨c, rfl, hc, _⟩ := plainElem_int_inv he hv
  refine ⟨c, by rw [h1] at hrun; exact hrun, fun hm => ?_⟩
  rw [h2 hm] at hc
  simp only [Prod.mk.injEq, DataW.lit.injEq, Lit.int.injEq, true_and] at hc
  exact hc.1.symm
end

/-- What has been changed: new blocks, and those of S. -/
structure Chg (S : Nat → Prop) (w w' : World) : Prop where
  os : w'.os = w.os
  tape : w'.tape = w.tape
  output : w'.output = w.output
  size : w.heap.size ≤ w'.heap.size
  block : ∀ i, i < w.heap.size → ¬ S i → w'.heap[i]? = w.heap[i]?
section
variable {S S' : Nat → Prop} {w w1 w2 : World}
theorem Chg.refl (S : Nat → Prop) (w : World) : Chg S w w := ⟨rfl, rfl, rfl, Nat.le_refl _, fun _ _ _ => rfl⟩
theorem Chg.trans (h : Chg S w w1) (k : Chg S' w1 w2) (hs : ∀ i, i < w.heap.size → S' i → S i) : Chg S w w2 :=
  ⟨k.os.trans h.os, k.tape.trans h.tape, k.output.trans h.output, Nat.le_trans h.size k.size, fun i hi hn => (k.block i (Nat.lt_of_lt_of_le hi h.size) (fun hs' => hn (hs i hi hs'))).trans (h.block i hi hn)⟩
theorem Chg.grown (h : Chg S w w1) {row : Option Nat} (hg : w1.grownBy w2 row) (hs : ∀ i, i < w.heap.size → row = some i → S i) : Chg S w w2 :=
  h.trans (S' := fun i => row = some i) ⟨hg.os, hg.tape, hg.output, hg.size, fun i hi hn => hg.block i hi (fun e => hn e.symm)⟩ hs
theorem Chg.alloc (h : Chg S w w1) (o : Obj) : Chg S w (w1.alloc o) :=
  h.trans (S' := fun _ => False) ⟨rfl, rfl, rfl, by simp, fun i hi _ => Below.heap_alloc _ _ _ hi⟩ (fun _ _ h => h.elim)
theorem Chg.drewN (h : Chg S w w1) (n : Nat) : Chg S w (w1.drewN n) := ⟨h.os, h.tape, h.output, h.size, h.block⟩
theorem Chg.drew (h : Chg S w w1) : Chg S w w1.drew := ⟨h.os, h.tape, h.output, h.size, h.block⟩
theorem Chg.setCell (h : Chg S w w1) {p : Addr} (hp : p.block < w.heap.size → S p.block) (u : Value) : Chg S w (w1.setCell p u) :=
  h.trans (S' := fun i => i = p.block) ⟨rfl, rfl, rfl, by simp [World.setCell], fun i hi hn => Below.heap_setCell _ _ _ _ hn⟩ (fun i hi e => by subst e; exact hp hi)
theorem Chg.of_below (h : Below w.heap.size w w1) : Chg S w w1 := ⟨h.os, h.tape, h.output, h.size, fun i hi _ => h.block i hi⟩
theorem Chg.below {B : Nat} (h : Chg S w w1) (hB : B ≤ w.heap.size) (hs : ∀ i, S i → B ≤ i) : Below B w w1 :=
  ⟨h.os, h.tape, h.output, h.size, fun i hi => h.block i (by omega) (fun e => by have := hs i e; omega)⟩
theorem Chg.mono (h : Chg S w w1) (hs : ∀ i, i < w.heap.size → S i → S' i) : Chg S' w w1 := ⟨h.os, h.tape, h.output, h.size, fun i hi hn => h.block i hi (fun e => hn (hs i hi e))⟩
end
end Go.Proofs.Ytpedenbcfbflbaa.X
