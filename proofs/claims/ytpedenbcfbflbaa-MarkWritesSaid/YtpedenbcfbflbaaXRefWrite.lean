import Derived.Test.YtpedenbcfbflbaaXWrite
import Derived.Test.YtpedenbcfbflbaaDx1
namespace Go.Proofs.Ytpedenbcfbflbaa.X
open Go.RowKit Go.Proofs.YtpedenbcfbflbaaW.PrintWords Go.Proofs.YtpedenbcfbflbaaW.PrintLast Go.Proofs.YtpedenbcfbflbaaW.PrintMore Num
set_option linter.unusedVariables false
set_option linter.unusedSimpArgs false

theorem write_l0 (s : List Int) (p : Int) (hmax : s.length ≤ 17592186044415) : ∀ (d i k : Nat) (acc : List Int), i + d = s.length → acc.length = i →
    D.caesuraref18_Write.l0 (2 * d + 1 + k) s p acc i = some (match wrGo p i (s.drop i) with | none => [] | some t => acc ++ t) := by
  intro d
  induction d with
  | zero =>
    intro i k acc hi ha
    rw [show 2 * 0 + 1 + k = k + 1 by omega, List.drop_eq_nil_of_le (by omega)]
    unfold D.caesuraref18_Write.l0 wrGo
    rw [if_neg (by omega)]
    simp
  | succ d ih =>
    intro i k acc hi ha
    have hl : i < s.length := by omega
    rw [show 2 * (d + 1) + 1 + k = ((2 * d + 1 + k) + 1) + 1 by omega, List.drop_eq_getElem_cons hl]
    unfold D.caesuraref18_Write.l0 wrGo
    rw [if_pos (by omega), if_pos (by omega), rd_at hl]
    by_cases h1 : s[i] < 0
    · rw [if_pos h1, if_pos (.inl h1)]
      unfold D.caesuraref18_Write.j2
      rw [if_pos rfl]
    · rw [if_neg h1]
      by_cases h2 : 1048576 < s[i]
      · have hd : decide (s[i] > 1048576) = true := decide_eq_true h2
        rw [hd, if_pos (.inr h2)]
        unfold D.caesuraref18_Write.j2
        rw [if_pos rfl]
      · have hd : decide (s[i] > 1048576) = false := decide_eq_false h2
        rw [hd, if_neg (by omega)]
        unfold D.caesuraref18_Write.j2
        rw [if_neg (by simp), if_pos (by omega), if_pos (by omega), rd_at hl, wrap64_of (n := 2 * s[i]) (by omega) (by omega), wrap64_of (n := 2 * s[i] + 1) (by omega) (by omega), wrap64_of (n := (i : Int) + 1) (by omega) (by omega)]
        have h3 := fun z => ih (i + 1) k (acc ++ [z]) (by omega) (by simp [ha])
        rw [show ((i + 1 : Nat) : Int) = (i : Int) + 1 by omega] at h3
        by_cases hp : (i : Int) = p
        · rw [if_pos hp, if_pos (by omega), h3]
          cases wrGo p ((i : Int) + 1) (s.drop (i + 1)) with
          | none => rfl
          | some t => simp [hp]
        · rw [if_neg hp, if_pos (by omega), h3]
          cases wrGo p ((i : Int) + 1) (s.drop (i + 1)) with
          | none => rfl
          | some t => simp [hp]
theorem write_f (s : List Int) (p : Int) (hmax : s.length ≤ 17592186044415) : ∃ k, D.caesuraref18_Write.f k s p = some (writeF s p) := by
  refine ⟨2 * s.length + 1 + 1, ?_⟩
  have ej : ∀ (k : Nat) (b : Bool), D.caesuraref18_Write.j0 (k + 1) s p b = if b = true then some [] else D.caesuraref18_Write.l0 k s p [] 0 := fun k b => by simp only [D.caesuraref18_Write.j0]
  unfold D.caesuraref18_Write.f writeF
  by_cases h1 : p < 1
  · rw [if_pos h1, ej, if_pos rfl, if_pos (.inl h1)]
  · rw [if_neg h1, ej]
    by_cases h2 : (s.length : Int) ≤ p
    · have hd : decide (p ≥ (s.length : Int)) = true := decide_eq_true h2
      rw [hd, if_pos rfl, if_pos (.inr h2)]
    · have hd : decide (p ≥ (s.length : Int)) = false := decide_eq_false h2
      rw [hd, if_neg (by simp), if_neg (by omega)]
      have := write_l0 s p hmax s.length 0 0 [] (by omega) rfl
      rw [List.drop_zero] at this
      refine Eq.trans this ?_
      show _ = some ((wrGo p 0 s).getD [])
      have e0 : ((0 : Nat) : Int) = 0 := rfl
      rw [e0]
      cases wrGo p 0 s with
      | none => rfl
      | some t => simp
theorem writeF_len (s : List Int) (p : Int) : (writeF s p).length ≤ s.length := by
  unfold writeF
  split
  · simp
  · cases h : wrGo p 0 s with
    | none => simp
    | some t => simp [wrGo_len p s 0 t h]
end Go.Proofs.Ytpedenbcfbflbaa.X
