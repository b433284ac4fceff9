/- A region that draws its order: some few first operations yield in whatever world and are taken ahead; the others of its head only read; its tail is one chain. -/
import Derived.StillTail
namespace Go.Proofs.Ytpedenbcfbflbaa.X
open Go
set_option linter.unusedVariables false
section
variable {P : Program} {ops : Array Oper} {md : Region.Mode} {w : World}

/-- Every operation of the head, but the k first ones, is waited for. -/
def sinkFrom (k0 : Nat) (md : Region.Mode) (ops : Array Oper) (n : Nat) : Bool :=
  (List.range n).all fun i => decide (i < k0) || (List.range (n + 1)).any fun j => decide (i < j) && Region.waitsFor md ops j i

def LowDone (k0 : Nat) (listed : Array Bool) : Prop := ∀ i, i < k0 → listed.getD i true = true

theorem LowDone.set {k0 i : Nat} {listed : Array Bool} (h : LowDone k0 listed) : LowDone k0 (listed.setIfInBounds i true) := by
  intro j hj
  by_cases hij : i = j
  · subst hij
    rcases Nat.lt_or_ge i listed.size with h' | h' <;> simp [h']
  · rw [getD_set_ne true hij]; exact h j hj

theorem tail_waits_from {k0 n : Nat} {listed : Array Bool} (hs : sinkFrom k0 md ops n = true) (hc : Region.chainB md ops n = true) (hn : n < ops.size) (inv : HeadInv md ops n listed) (low : LowDone k0 listed) :
    ∀ (d i : Nat), n - i = d → i < n → listed.getD i true = false → ∀ t, n ≤ t → t ∉ Region.ready md ops listed := by
  intro d
  induction d using Nat.strongRecOn with
  | _ d ih =>
    intro i hd hi hun t ht hr
    obtain ⟨_, ot, hot, hall⟩ := mem_ready.1 hr
    have htlt : t < ops.size := (Array.getElem?_eq_some_iff.1 hot).1
    by_cases htn : t = n
    · subst htn
      have h1 := List.all_eq_true.1 hs i (List.mem_range.2 hi)
      have hik : ¬ i < k0 := fun h => by rw [low i h] at hun; cases hun
      simp only [Bool.or_eq_true, decide_eq_true_eq, hik, false_or] at h1
      obtain ⟨j, hj, hj2⟩ := List.any_eq_true.1 h1
      simp only [Bool.and_eq_true, decide_eq_true_eq] at hj2
      obtain ⟨oj, hoj, e, he, hb, hon⟩ := Region.waitsFor_spec hj2.2
      have hjle : j ≤ t := by have := List.mem_range.1 hj; omega
      by_cases hjt : j = t
      · subst hjt
        have : oj = ot := Option.some.inj (hoj.symm.trans hot)
        subst this
        have h2 := hall e he hb
        rw [hon, getD_both hun] at h2
        cases h2
      · cases hl : listed.getD j false with
        | true =>
          have h2 := inv.closed j oj hoj hl e he hb
          rw [hon, getD_both hun] at h2
          cases h2
        | false =>
          have hjs : j < listed.size := by rw [inv.size]; omega
          exact ih (t - j) (by omega) j rfl (by omega) (getD_in hjs hl) t (Nat.le_refl _) hr
    · have h1 := List.all_eq_true.1 hc t (List.mem_range.2 htlt)
      simp only [Bool.or_eq_true, decide_eq_true_eq] at h1
      rcases h1 with h1 | h1
      · omega
      · obtain ⟨o', ho', e, he, hb, hon⟩ := Region.waitsFor_spec h1
        have : o' = ot := Option.some.inj (ho'.symm.trans hot)
        subst this
        have h2 := hall e he hb
        rw [hon, getD_both (inv.tail (t - 1) (by omega) (by omega))] at h2
        cases h2

theorem first_from {k0 n i : Nat} {oi : Oper} {v : Value} {L : Array Bool → Act → Prop} (hi : ops[i]? = some oi) (hsel : ∀ (j : Nat) (o : Oper) cs b, ops[j]? = some o → o.op ≠ .select cs b)
    (hs : sinkFrom k0 md ops n = true) (hc : Region.chainB md ops n = true) (hn : n < ops.size) (hin : i < n)
    (hdone : ∀ listed a, L listed a → ∀ j ∈ Region.ready md ops listed, n ≤ j) :
    ∀ (f : Nat) (listed : Array Bool) (a : Act), HeadInv md ops n listed → LowDone k0 listed →
      (∀ j oj, ops[j]? = some oj → j ≠ i → listed.getD j true = false → (∀ e ∈ oj.after, Region.binds md e = true → e.on ≠ i) → oi.apart ops oj = true) →
      i ∈ Region.ready md ops listed → YieldsAt P ops w oi v a →
      wpAnyL P md ops w n L f (listed.setIfInBounds i true) (a.put oi.dst v) → wpAnyL P md ops w n L (f + 1) listed a := by
  intro f
  induction f with
  | zero =>
    intro listed a inv low _ hr hy H
    have hun := (mem_ready.1 hr).1
    refine ⟨fun h => (by rw [h] at hr; cases hr), fun j hj => ?_⟩
    have hjn : j < n := by
      rcases Nat.lt_or_ge j n with h | h
      · exact h
      · exact absurd hj (tail_waits_from hs hc hn inv low _ i rfl hin hun j h)
    refine ⟨hjn, ?_⟩
    by_cases hji : j = i
    · subst hji; exact hy.stOp hi H
    · exact absurd (hdone _ _ H j (ready_mono hj hji)) (by omega)
  | succ f ih =>
    intro listed a inv low hfree hr hy H
    have hun := (mem_ready.1 hr).1
    refine ⟨fun h => (by rw [h] at hr; cases hr), fun j hj => ?_⟩
    have hjn : j < n := by
      rcases Nat.lt_or_ge j n with h | h
      · exact h
      · exact absurd hj (tail_waits_from hs hc hn inv low _ i rfl hin hun j h)
    refine ⟨hjn, ?_⟩
    by_cases hji : j = i
    · subst hji; exact hy.stOp hi H
    · have h1 := (H.2 j (ready_mono hj hji)).2
      obtain ⟨hjun, oj, hoj, hall⟩ := mem_ready.1 hj
      have hnot : ∀ e ∈ oj.after, Region.binds md e = true → e.on ≠ i := fun e he hb heq => by
        have h1 := hall e he hb
        rw [heq, getD_both hun] at h1
        cases h1
      have h2 := stOp_put hoj (hfree j oj hoj hji hjun hnot) (fun cs b => hsel i oi cs b hi) (fun cs b => hsel j oj cs b hoj) hy h1
      have hfree' : ∀ k ok, ops[k]? = some ok → k ≠ i → (listed.setIfInBounds j true).getD k true = false →
          (∀ e ∈ ok.after, Region.binds md e = true → e.on ≠ i) → oi.apart ops ok = true := fun k ok hk hki hun hno => by
        refine hfree k ok hk hki ?_ hno
        by_cases hjk : j = k
        · subst hjk; exact hjun
        · rw [getD_set_ne true hjk] at hun; exact hun
      refine stOp_mono (fun a' h3 => ih (listed.setIfInBounds j true) a' (inv.set hj hjn) low.set hfree' (ready_mono hr (Ne.symm hji)) h3.1 ?_) h2
      rw [Array.setIfInBounds_comm _ _ hji]
      exact h3.2

theorem lex_from {k0 n g : Nat} {Lq : Act → Prop} (hsel : Region.noSelect ops = true) (hs : sinkFrom k0 md ops n = true) (hc : Region.chainB md ops n = true) (hn : n < ops.size) :
    ∀ (l : List Oper) (k : Nat) (listed : Array Bool) (a : Act), (∀ j, j < l.length → l[j]? = ops[k + j]?) → k + l.length = n → HeadInv md ops n listed → LowDone k0 listed →
    Region.lexHead md ops g l.length k listed = true → wpStill P ops w Lq l a →
    wpAnyL P md ops w n (fun listed' a' => Region.seqB md ops g n listed' = true ∧ Lq a') l.length listed a
  | [], k, listed, a, _, hk, _, _, hB, h => by
    have : k = n := by simpa using hk
    subst this
    exact ⟨by simpa [Region.lexHead] using hB, h⟩
  | o :: l, k, listed, a, hl, hk, inv, low, hB, h => by
    have h0 : ops[k]? = some o := by simpa using (hl 0 (by simp)).symm
    simp only [List.length_cons, Region.lexHead, Bool.and_eq_true] at hB
    obtain ⟨⟨hr, hf⟩, hB'⟩ := hB
    have hkn : k < n := by simp only [List.length_cons] at hk; omega
    have hr' : k ∈ Region.ready md ops listed := by simpa using hr
    have hst : stOp P ops w k (wpStill P ops w Lq l) a := by unfold stOp; simp only [h0]; exact h
    obtain ⟨v, hy, hK⟩ := yieldsAt_of_stOp h0 hst
    exact first_from h0 (Region.noSelect_spec hsel) hs hc hn hkn (fun listed' a' hL => seqB_ready hL.1) l.length listed a inv low (Region.free_spec h0 hf) hr' hy
      (lex_from hsel hs hc hn l (k + 1) _ _ (fun j hj => by have := hl (j + 1) (by simp; omega); simpa [Nat.add_assoc, Nat.add_comm 1 j] using this) (by simp only [List.length_cons] at hk; omega) (inv.set hr' hkn) low.set hB' hK)

/-- What is to be looked at: kernel's work. -/
def tailFromB (md : Region.Mode) (ops : Array Oper) (k0 n : Nat) (listed : Array Bool) : Bool :=
  Region.noSelect ops && decide (n < ops.size) && sinkFrom k0 md ops n && Region.chainB md ops n && Region.lexHead md ops (ops.size - n) (n - k0) k0 listed &&
    (List.range ops.size).all fun i => listed.getD i false == decide (i < k0)

/-- The k0 first operations of the region wait for none but one another. -/
def lowClosed (md : Region.Mode) (ops : Array Oper) (k0 : Nat) : Bool :=
  (List.range k0).all fun i => match ops[i]? with | none => true | some o => o.after.all fun e => !Region.binds md e || decide (e.on < k0)

theorem still_tail_from {Q : Exit → Act → World → Prop} {a : Act} {l : List Oper} {listed : Array Bool} (k0 n fuel : Nat) (hk : k0 ≤ n) (hsz : listed.size = l.toArray.size) (hB : tailFromB md l.toArray k0 n listed = true) (hlow : lowClosed md l.toArray k0 = true)
    (hfuel : fuel = l.toArray.size - k0)
    (h : wpStill P l.toArray w (fun a' => wpList P l.toArray Q (l.drop n) a' w) ((l.drop k0).take (n - k0)) a) : wpAny P md l.toArray Q fuel listed a w := by
  subst hfuel
  simp only [tailFromB, Bool.and_eq_true, decide_eq_true_eq] at hB
  obtain ⟨⟨⟨⟨⟨hsel, hn⟩, hs⟩, hc⟩, hlex⟩, hli⟩ := hB
  have hget : ∀ i, i < l.toArray.size → listed.getD i false = decide (i < k0) := fun i hi => by
    have := List.all_eq_true.1 hli i (List.mem_range.2 hi)
    exact eq_of_beq this
  have hn' : n < l.length := by simpa using hn
  have htl : ((l.drop k0).take (n - k0)).length = n - k0 := by simp; omega
  have hdl : (l.drop n).length = l.toArray.size - n := by simp
  have low : LowDone k0 listed := fun i hi => by
    have h1 := hget i (by omega)
    rw [decide_eq_true hi] at h1
    have : i < listed.size := by omega
    simp [this] at h1 ⊢
    exact h1
  have inv0 : HeadInv md l.toArray n listed := by
    refine ⟨hsz, fun j oj hj hl e he hb => ?_, fun t ht ht' => ?_⟩
    · have hjlt : j < l.toArray.size := (Array.getElem?_eq_some_iff.1 hj).1
      rw [hget j hjlt] at hl
      have hjk := of_decide_eq_true hl
      have h1 := List.all_eq_true.1 hlow j (List.mem_range.2 hjk)
      simp only [hj] at h1
      have h2 := Array.all_eq_true'.1 h1 e he
      rw [hb] at h2
      simp at h2
      rw [hget e.on (by omega)]
      exact decide_eq_true h2
    · have h1 := hget t ht'
      rw [decide_eq_false (by omega)] at h1
      exact getD_in (by omega) h1
  have H := lex_from (md := md) (g := l.toArray.size - n) hsel hs hc hn ((l.drop k0).take (n - k0)) k0 _ a (fun j hj => by
    have hj' : j < n - k0 := by rw [htl] at hj; exact hj
    simp [hj', List.getElem?_take, List.getElem?_drop]) (by rw [htl]; omega) inv0 low (by rw [htl]; exact hlex) h
  have := wpAny_of_head (Q' := Q) (g := l.toArray.size - n) (fun listed a' hL => by
    have := wpAny_of_seq (md := md) (Q' := Q) (l.drop n) n listed a' w (fun j => by simp [List.getElem?_drop]) (by rw [hdl]; exact hL.1) hL.2
    rwa [hdl] at this) _ _ _ H
  rw [htl, show n - k0 + (l.toArray.size - n) = l.toArray.size - k0 by omega] at this
  exact this
end
end Go.Proofs.Ytpedenbcfbflbaa.X
