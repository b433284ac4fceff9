import Derived.Test.YtpedenbcfbflbaaXSigns
import Derived.Test.YtpedenbcfbflbaaCx1
namespace Go.Proofs.Ytpedenbcfbflbaa.X
open Go.RowKit Go.Proofs.YtpedenbcfbflbaaW.PrintWords Go.Proofs.YtpedenbcfbflbaaW.PrintLast Go.Proofs.YtpedenbcfbflbaaW.PrintMore Go.Maps Num
set_option linter.unusedVariables false
set_option linter.unusedSimpArgs false

theorem tmod2 (v : Int) : (Int.tmod v 2 = 0) ↔ ¬ v % 2 = 1 := by
  have := Int.tmod_eq_emod (a := v) (b := 2)
  rw [this]
  split <;> omega
theorem rtimes_l0 (l : List Int) (hmax : l.length ≤ 9223372036854775807) : ∀ (d i k : Nat) (x : Int), i + d = l.length → 0 ≤ x → x + d ≤ 9223372036854775807 → C.caesuraref19_Times.l0 (d + 1 + k) l x i = some (x + timesF (l.drop i)) := by
  intro d
  induction d with
  | zero =>
    intro i k x hi h0 h1
    rw [show 0 + 1 + k = k + 1 by omega, List.drop_eq_nil_of_le (by omega)]
    unfold C.caesuraref19_Times.l0
    rw [if_neg (by omega)]
    simp [timesF]
  | succ d ih =>
    intro i k x hi h0 h1
    have hl : i < l.length := by omega
    rw [show d + 1 + 1 + k = (d + 1 + k) + 1 by omega, List.drop_eq_getElem_cons hl, timesF_cons]
    unfold C.caesuraref19_Times.l0
    rw [if_pos (by omega), if_pos (by omega), rd_at hl, wrap64_of (n := x + 1) (by omega) (by omega), wrap64_of (n := (i : Int) + 1) (by omega) (by omega)]
    have h2 := fun x' => ih (i + 1) k x' (by omega)
    rw [show ((i + 1 : Nat) : Int) = (i : Int) + 1 by omega] at h2
    by_cases ho : l[i] % 2 = 1
    · rw [if_neg (fun h => (tmod2 _).1 h ho), h2 (x + 1) (by omega) (by omega)]
      congr 1; omega
    · rw [if_pos ((tmod2 _).2 ho), h2 x (by omega) (by omega)]
      congr 1; omega
theorem rtimes_f (l : List Int) (k : Nat) (hk : l.length ≤ k) (hmax : l.length ≤ 9223372036854775807) : C.caesuraref19_Times.f (k + 1) l = some (timesF l) := by
  unfold C.caesuraref19_Times.f
  have := rtimes_l0 l hmax l.length 0 (k - l.length) 0 (by omega) (by omega) (by omega)
  rw [show l.length + 1 + (k - l.length) = k + 1 by omega] at this
  simpa using this
theorem rsigns_l0 (l : List Int) (hmax : l.length ≤ 17592186044415) (hwf : ∀ v ∈ l, v ≤ 9223372036854775807) : ∀ (d i k : Nat) (acc : List Int) (p : Int), i + d = l.length → acc.length = i → l.length ≤ k →
    C.caesuraref19_Signs.l0 (d + 1 + k + 1) l acc p i = some (match signsGo (l.drop i) acc p i with | none => ([], 0, false) | some q => if q.2 = 0 then ([], 0, false) else if timesF l = 1 then (q.1, q.2, true) else ([], 0, false)) := by
  intro d
  induction d with
  | zero =>
    intro i k acc p hi ha hk
    rw [show 0 + 1 + k + 1 = (k + 1) + 1 by omega, List.drop_eq_nil_of_le (by omega)]
    unfold C.caesuraref19_Signs.l0 signsGo
    rw [if_neg (by omega), rtimes_f l k hk (by omega), Option.bind_some]
    by_cases hp : p = 0 <;> by_cases ht : timesF l = 1 <;> simp [hp, ht]
  | succ d ih =>
    intro i k acc p hi ha hk
    have hl : i < l.length := by omega
    rw [show d + 1 + 1 + k + 1 = (d + 1 + k + 1) + 1 by omega, List.drop_eq_getElem_cons hl]
    unfold C.caesuraref19_Signs.l0 signsGo
    rw [if_pos (by omega), if_pos (by omega), rd_at hl]
    by_cases hv : l[i] < 0
    · rw [if_pos hv, if_pos hv]
    · have hw := hwf l[i] (List.getElem_mem hl)
      have hd : wrap64 (Int.tdiv l[i] 2) = l[i] / 2 := by rw [Int.tdiv_eq_ediv_of_nonneg (by omega), wrap64_of (by omega) (by omega)]
      rw [if_neg hv, if_neg hv, hd, wrap64_of (n := (i : Int) + 1) (by omega) (by omega)]
      have h1 := fun p' => ih (i + 1) k (acc ++ [l[i] / 2]) p' (by omega) (by simp [ha]) hk
      rw [show ((i + 1 : Nat) : Int) = (i : Int) + 1 by omega] at h1
      by_cases ho : l[i] % 2 = 1
      · rw [if_neg (fun h => (tmod2 _).1 h ho), if_pos (by omega), if_pos ho]; exact h1 _
      · rw [if_pos ((tmod2 _).2 ho), if_pos (by omega), if_neg ho]; exact h1 _
theorem rsigns_f (l : List Int) (hmax : l.length ≤ 17592186044415) (hwf : ∀ v ∈ l, v ≤ 9223372036854775807) : ∃ k, C.caesuraref19_Signs.f k l = some (signsF l) := by
  refine ⟨l.length + 1 + l.length + 1, ?_⟩
  unfold C.caesuraref19_Signs.f
  have := rsigns_l0 l hmax hwf l.length 0 l.length [] 0 (by omega) rfl (Nat.le_refl _)
  rw [List.drop_zero] at this
  exact this
end Go.Proofs.Ytpedenbcfbflbaa.X
