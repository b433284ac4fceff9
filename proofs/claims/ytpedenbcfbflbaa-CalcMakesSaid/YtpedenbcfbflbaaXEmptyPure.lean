/- Plain lists, no program: a search of all states that are come to. -/
import Derived.Test.YtpedenbcfbflbaaZP
namespace Go.Proofs.Ytpedenbcfbflbaa.X
open Go.RowKit Go.Proofs.YtpedenbcfbflbaaW.PrintWords Num
set_option linter.unusedVariables false
set_option linter.unusedSimpArgs false

/-- Nothing is accepted. -/
def NoneAcc (s : Int) (n : List (List Int)) (e : List Bool) : Prop := ∀ l, inB s l = true → e.getD (runF n 0 l).toNat false = false
/-- What is behind a state by a sign. -/
def behindN (n : List (List Int)) (q : Int) (v : Nat) : Int := (n.getD q.toNat []).getD v 0
theorem runF_snoc (n : List (List Int)) (l : List Int) (v : Int) (q : Int) : runF n q (l ++ [v]) = behindN n (runF n q l) v.toNat := by
  unfold runF
  rw [List.foldl_append]
  rfl
theorem inB_snoc {s : Int} {l : List Int} {v : Int} (h : inB s l = true) (h0 : 0 ≤ v) (h1 : v < s) : inB s (l ++ [v]) = true := by
  simp [inB] at h ⊢
  exact ⟨h, h0, h1⟩
def DoneQ (s : Int) (n : List (List Int)) (e : List Bool) (M : List Int) (q : Int) : Prop := e.getD q.toNat false = false ∧ ∀ v : Nat, (v : Int) < s → behindN n q v ∈ M
/-- Between the rounds. -/
structure VInv (s : Int) (n : List (List Int)) (e : List Bool) (M ws : List Int) : Prop where
  zero : 0 ∈ M
  reach : ∀ q ∈ M, 0 ≤ q ∧ q < n.length ∧ ∃ l, inB s l = true ∧ runF n 0 l = q
  sub : ∀ q ∈ ws, q ∈ M
  nd : M.Nodup
  done : ∀ q ∈ M, q ∈ ws ∨ DoneQ s n e M q
/-- Within a round. -/
structure VIn (s : Int) (n : List (List Int)) (e : List Bool) (q0 : Int) (j : Nat) (M ws : List Int) : Prop where
  zero : 0 ∈ M
  reach : ∀ q ∈ M, 0 ≤ q ∧ q < n.length ∧ ∃ l, inB s l = true ∧ runF n 0 l = q
  sub : ∀ q ∈ ws, q ∈ M
  nd : M.Nodup
  mem : q0 ∈ M
  ends : e.getD q0.toNat false = false
  seen : ∀ v : Nat, v < j → behindN n q0 v ∈ M
  done : ∀ q ∈ M, q ∈ ws ∨ q = q0 ∨ DoneQ s n e M q
theorem DoneQ.mono {s : Int} {n : List (List Int)} {e : List Bool} {M M' : List Int} {q : Int} (h : DoneQ s n e M q) (hs : ∀ x ∈ M, x ∈ M') : DoneQ s n e M' q := ⟨h.1, fun v hv => hs _ (h.2 v hv)⟩
theorem VInv.start {s : Int} {n : List (List Int)} {e : List Bool} (hn : 0 < n.length) : VInv s n e [0] [0] :=
  ⟨by simp, fun q hq => by
    rw [List.mem_singleton] at hq
    subst hq
    exact ⟨Int.le_refl _, by omega, [], rfl, rfl⟩, fun q h => h, by simp, fun q h => .inl h⟩
theorem VInv.size {s : Int} {n : List (List Int)} {e : List Bool} {M ws : List Int} (h : VInv s n e M ws) : M.length ≤ n.length := by
  have := nodup_le' M ((List.range n.length).map (fun (i : Nat) => (i : Int))) h.nd (fun q hq => by
    have := h.reach q hq
    exact List.mem_map.2 ⟨q.toNat, List.mem_range.2 (by omega), by omega⟩)
  simpa using this
theorem VInv.hit {s : Int} {n : List (List Int)} {e : List Bool} {M ws : List Int} {q : Int} (h : VInv s n e M ws) (hq : q ∈ ws) (he : e.getD q.toNat false = true) : ¬ NoneAcc s n e := fun hn => by
  obtain ⟨_, _, l, h1, h2⟩ := h.reach q (h.sub q hq)
  have := hn l h1
  rw [h2, he] at this
  cases this
theorem VInv.fin {s : Int} {n : List (List Int)} {e : List Bool} {M : List Int} (h : VInv s n e M []) : NoneAcc s n e := fun l hl => by
  have key : ∀ l : List Int, inB s l = true → ∀ q ∈ M, runF n q l ∈ M := by
    intro l
    induction l with
    | nil => exact fun _ q hq => hq
    | cons v r ih =>
      intro hl q hq
      rw [inB_cons, Bool.and_eq_true, Bool.and_eq_true, decide_eq_true_eq, decide_eq_true_eq] at hl
      have hd := (h.done q hq).resolve_left (by simp)
      exact ih hl.2 _ (hd.2 v.toNat (by omega))
  exact ((h.done _ (key l hl 0 h.zero)).resolve_left (by simp)).1
theorem VInv.pop {s : Int} {n : List (List Int)} {e : List Bool} {M ws : List Int} {q : Int} (h : VInv s n e M (ws ++ [q])) (he : e.getD q.toNat false = false) : VIn s n e q 0 M ws :=
  ⟨h.zero, h.reach, fun x hx => h.sub x (List.mem_append_left _ hx), h.nd, h.sub q (by simp), he, fun v hv => by omega, fun x hx => by
    rcases h.done x hx with h1 | h1
    · rcases List.mem_append.1 h1 with h1 | h1
      · exact .inl h1
      · exact .inr (.inl (by simpa using h1))
    · exact .inr (.inr h1)⟩
theorem VIn.known {s : Int} {n : List (List Int)} {e : List Bool} {q0 : Int} {j : Nat} {M ws : List Int} (h : VIn s n e q0 j M ws) (hm : behindN n q0 j ∈ M) : VIn s n e q0 (j + 1) M ws :=
  ⟨h.zero, h.reach, h.sub, h.nd, h.mem, h.ends, fun v hv => by
    rcases Nat.lt_or_ge v j with h1 | h1
    · exact h.seen v h1
    · obtain rfl : v = j := by omega
      exact hm, h.done⟩
theorem VIn.new {s : Int} {n : List (List Int)} {e : List Bool} {q0 : Int} {j : Nat} {M ws : List Int} (h : VIn s n e q0 j M ws) (hr : rightB s n e = true) (hj : (j : Int) < s) (hm : behindN n q0 j ∉ M) : VIn s n e q0 (j + 1) (M ++ [behindN n q0 j]) (ws ++ [behindN n q0 j]) := by
  obtain ⟨a1, a2, a3, a4, a5, a6⟩ := rightB_spec hr
  have hs : ∀ x ∈ M, x ∈ M ++ [behindN n q0 j] := fun x hx => List.mem_append_left _ hx
  refine ⟨hs _ h.zero, fun q hq => ?_, fun q hq => ?_, ?_, hs _ h.mem, h.ends, fun v hv => ?_, fun q hq => ?_⟩
  · rcases List.mem_append.1 hq with hq | hq
    · exact h.reach q hq
    · rw [List.mem_singleton] at hq
      subst hq
      obtain ⟨b1, b2, l, b3, b4⟩ := h.reach q0 h.mem
      obtain ⟨t1, t2⟩ := getD_row a6 q0 b1 b2
      have := t2 j (by omega)
      refine ⟨this.1, this.2, l ++ [(j : Int)], inB_snoc b3 (by omega) hj, ?_⟩
      rw [runF_snoc, b4, Int.toNat_natCast]
  · rcases List.mem_append.1 hq with hq | hq
    · exact hs _ (h.sub q hq)
    · exact List.mem_append_right _ hq
  · rw [List.nodup_append]
    exact ⟨h.nd, by simp, by simp; intro a ha e; exact hm (e ▸ ha)⟩
  · rcases Nat.lt_or_ge v j with h1 | h1
    · exact hs _ (h.seen v h1)
    · obtain rfl : v = j := by omega
      simp
  · rcases List.mem_append.1 hq with hq | hq
    · rcases h.done q hq with h1 | h1 | h1
      · exact .inl (List.mem_append_left _ h1)
      · exact .inr (.inl h1)
      · exact .inr (.inr (h1.mono hs))
    · exact .inl (List.mem_append_right _ hq)
theorem VIn.close {s : Int} {n : List (List Int)} {e : List Bool} {q0 : Int} {j : Nat} {M ws : List Int} (h : VIn s n e q0 j M ws) (hj : s ≤ (j : Int)) : VInv s n e M ws :=
  ⟨h.zero, h.reach, h.sub, h.nd, fun q hq => by
    rcases h.done q hq with h1 | h1 | h1
    · exact .inl h1
    · subst h1
      exact .inr ⟨h.ends, fun v hv => h.seen v (by omega)⟩
    · exact .inr h1⟩
theorem VIn.size {s : Int} {n : List (List Int)} {e : List Bool} {q0 : Int} {j : Nat} {M ws : List Int} (h : VIn s n e q0 j M ws) : M.length ≤ n.length := by
  have := nodup_le' M ((List.range n.length).map (fun (i : Nat) => (i : Int))) h.nd (fun q hq => by
    have := h.reach q hq
    exact List.mem_map.2 ⟨q.toNat, List.mem_range.2 (by omega), by omega⟩)
  simpa using this
end Go.Proofs.Ytpedenbcfbflbaa.X
