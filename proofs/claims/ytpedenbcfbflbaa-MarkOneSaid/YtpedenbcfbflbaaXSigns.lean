import Derived.Test.YtpedenbcfbflbaaYD
import Derived.Test.YtpedenbcfbflbaaPMarkMakesx1
namespace Go.Proofs.Ytpedenbcfbflbaa.X
open Go.RowKit Go.Proofs.YtpedenbcfbflbaaW.PrintWords Go.Proofs.YtpedenbcfbflbaaW.PrintLast Go.Proofs.YtpedenbcfbflbaaW.PrintMore Go.Maps Num Go.Proofs.Ytpedenbcfbflbaa.PMarkMakes
set_option linter.unusedVariables false
set_option linter.unusedSimpArgs false

theorem bits_one (x : Int) : bits .and .i64 x 1 = x % 2 := by
  have h1 : (BitVec.ofInt 64 x &&& BitVec.ofInt 64 1).toNat = (x % 2).toNat := by
    rw [BitVec.toNat_and, BitVec.toNat_ofInt, BitVec.toNat_ofInt]
    rw [show ((1 : Int) % ((2 ^ 64 : Nat) : Int)).toNat = 1 by decide, Nat.and_one_is_mod]
    omega
  show IntKind.i64.wrap ((BitVec.ofInt 64 x &&& BitVec.ofInt 64 1).toNat : Int) = x % 2
  rw [h1, IntKind.wrap_i64]
  omega

def oddB (x : Int) : Bool := decide (x % 2 = 1)
/-- How many odd ones. -/
def timesF (l : List Int) : Int := ((l.filter oddB).length : Nat)
theorem timesF_le (l : List Int) : 0 ≤ timesF l ∧ timesF l ≤ l.length := by
  unfold timesF
  have := List.length_filter_le oddB l
  omega
theorem timesF_cons (v : Int) (r : List Int) : timesF (v :: r) = v % 2 + timesF r := by
  unfold timesF oddB
  by_cases h : v % 2 = 1
  · rw [List.filter_cons_of_pos (by simpa using h), List.length_cons]; omega
  · rw [List.filter_cons_of_neg (by simpa using h)]; omega
theorem rd_at {l : List Int} {i : Nat} (h : i < l.length) : rd l (i : Int) = l[i] := by
  simp only [rd, Int.toNat_natCast]; rw [List.getD_eq_getElem?_getD, List.getElem?_eq_getElem h]; rfl

theorem mtimes_l0 (l : List Int) (hmax : l.length ≤ 9223372036854775807) : ∀ (d i k : Nat) (x : Int), i + d = l.length → 0 ≤ x → x + d ≤ 9223372036854775807 → mark_Times.l0 (d + 1 + k) x l l.length i = some (x + timesF (l.drop i)) := by
  intro d
  induction d with
  | zero =>
    intro i k x hi h0 h1
    rw [show 0 + 1 + k = k + 1 by omega, List.drop_eq_nil_of_le (by omega)]
    unfold mark_Times.l0
    rw [if_neg (by omega)]
    simp [timesF]
  | succ d ih =>
    intro i k x hi h0 h1
    have hl : i < l.length := by omega
    rw [show d + 1 + 1 + k = (d + 1 + k) + 1 by omega, List.drop_eq_getElem_cons hl, timesF_cons]
    unfold mark_Times.l0
    rw [if_pos (by omega), if_pos (by omega), if_pos (by omega), rd_at hl, bits_one, wrap64_of (n := x + l[i] % 2) (by omega) (by omega), wrap64_of (n := (i : Int) + 1) (by omega) (by omega)]
    have := ih (i + 1) k (x + l[i] % 2) (by omega) (by omega) (by omega)
    rw [show ((i + 1 : Nat) : Int) = (i : Int) + 1 by omega] at this
    rw [this]
    congr 1
    omega
theorem mtimes_f (l : List Int) (k : Nat) (hk : l.length ≤ k) (hmax : l.length ≤ 9223372036854775807) : mark_Times.f (k + 1) l = some (timesF l) := by
  unfold mark_Times.f
  have := mtimes_l0 l hmax l.length 0 (k - l.length) 0 (by omega) (by omega) (by omega)
  rw [show l.length + 1 + (k - l.length) = k + 1 by omega] at this
  simpa using this

/-- The signs as they are read, and the last odd one's place. -/
def signsGo : List Int → List Int → Int → Int → Option (List Int × Int)
  | [], acc, p, i => some (acc, p)
  | v :: r, acc, p, i => if v < 0 then none else signsGo r (acc ++ [v / 2]) (if v % 2 = 1 then i else p) (i + 1)
/-- A marked list's signs, its place. -/
def signsF (l : List Int) : List Int × Int × Bool :=
  match signsGo l [] 0 0 with
  | none => ([], 0, false)
  | some q => if q.2 = 0 then ([], 0, false) else if timesF l = 1 then (q.1, q.2, true) else ([], 0, false)
theorem msigns_l0 (l : List Int) (hmax : l.length ≤ 17592186044415) : ∀ (d i k : Nat) (acc : List Int) (p : Int), i + d = l.length → acc.length = i → l.length ≤ k →
    mark_Signs.l0 (d + 1 + k + 1) l acc p l l.length i = some (match signsGo (l.drop i) acc p i with | none => ([], 0, false) | some q => if q.2 = 0 then ([], 0, false) else if timesF l = 1 then (q.1, q.2, true) else ([], 0, false)) := by
  intro d
  induction d with
  | zero =>
    intro i k acc p hi ha hk
    rw [show 0 + 1 + k + 1 = (k + 1) + 1 by omega, List.drop_eq_nil_of_le (by omega)]
    unfold mark_Signs.l0 signsGo
    rw [if_neg (by omega)]
    by_cases hp : p = 0
    · rw [if_pos hp]; simp [hp]
    · rw [if_neg hp, mtimes_f l k hk (by omega), Option.bind_some]
      by_cases ht : timesF l = 1 <;> simp [hp, ht]
  | succ d ih =>
    intro i k acc p hi ha hk
    have hl : i < l.length := by omega
    rw [show d + 1 + 1 + k + 1 = (d + 1 + k + 1) + 1 by omega, List.drop_eq_getElem_cons hl]
    unfold mark_Signs.l0 signsGo
    rw [if_pos (by omega), if_pos (by omega), if_pos (by omega), rd_at hl]
    by_cases hv : l[i] < 0
    · rw [if_pos hv, if_pos hv]
    · rw [if_neg hv, if_neg hv, bits_one, wrap64_of (n := (i : Int) + 1) (by omega) (by omega)]
      have h1 := fun p' => ih (i + 1) k (acc ++ [l[i] / 2]) p' (by omega) (by simp [ha]) hk
      rw [show ((i + 1 : Nat) : Int) = (i : Int) + 1 by omega] at h1
      by_cases ho : l[i] % 2 = 1
      · rw [if_pos ho, if_pos (by omega), if_pos ho]; exact h1 _
      · rw [if_neg ho, if_pos (by omega), if_neg ho]; exact h1 _
theorem msigns_f (l : List Int) (hmax : l.length ≤ 17592186044415) : ∃ k, mark_Signs.f k l = some (signsF l) := by
  refine ⟨l.length + 1 + l.length + 1, ?_⟩
  unfold mark_Signs.f
  have := msigns_l0 l hmax l.length 0 l.length [] 0 (by omega) rfl (Nat.le_refl _)
  rw [List.drop_zero] at this
  exact this
end Go.Proofs.Ytpedenbcfbflbaa.X
