/- Plain lists, no program: a character's bytes, and that byte8.First tells the one character that bytes begin with. -/
import Derived.Test.YtfdllcakpmaifaaDoorXFirst
namespace Go.Proofs.YtfdllcakpmaifaaDoor.P
open Go.RowKit Go.Proofs.YtfdllcakpmaifaaDoorW.PrintWords L
set_option linter.unusedVariables false
set_option linter.unusedSimpArgs false

/-- A character's bytes; none of what has none. -/
def enc (c : Int) : List Int :=
  if c < 0 ∨ 1114111 < c ∨ (55296 ≤ c ∧ c ≤ 57343) then []
  else if c < 128 then [c]
  else if c < 2048 then [192 + c / 64, 128 + c % 64]
  else if c < 65536 then [224 + c / 4096, 128 + c / 64 % 64, 128 + c % 64]
  else [240 + c / 262144, 128 + c / 4096 % 64, 128 + c / 64 % 64, 128 + c % 64]
def Good (c : Int) : Prop := ¬ (c < 0 ∨ 1114111 < c ∨ (55296 ≤ c ∧ c ≤ 57343))
theorem enc_nil {c : Int} : enc c = [] ↔ ¬ Good c := by
  unfold enc Good
  constructor
  · intro h
    split at h
    · intro g; exact g ‹_›
    · split at h
      · cases h
      · split at h
        · cases h
        · split at h <;> cases h
  · intro h
    rw [if_pos (Classical.not_not.1 h)]
theorem enc_cases {c : Int} (h : Good c) : (c < 128 ∧ 0 ≤ c ∧ enc c = [c]) ∨ (128 ≤ c ∧ c < 2048 ∧ enc c = [192 + c / 64, 128 + c % 64]) ∨ (2048 ≤ c ∧ c < 65536 ∧ ¬ (55296 ≤ c ∧ c ≤ 57343) ∧ enc c = [224 + c / 4096, 128 + c / 64 % 64, 128 + c % 64]) ∨ (65536 ≤ c ∧ c ≤ 1114111 ∧ enc c = [240 + c / 262144, 128 + c / 4096 % 64, 128 + c / 64 % 64, 128 + c % 64]) := by
  have g := h
  unfold Good at g
  unfold enc
  rw [if_neg g]
  by_cases h1 : c < 128
  · rw [if_pos h1]; exact .inl ⟨h1, by omega, rfl⟩
  · rw [if_neg h1]
    by_cases h2 : c < 2048
    · rw [if_pos h2]; exact .inr (.inl ⟨by omega, h2, rfl⟩)
    · rw [if_neg h2]
      by_cases h3 : c < 65536
      · rw [if_pos h3]; exact .inr (.inr (.inl ⟨by omega, h3, by omega, rfl⟩))
      · rw [if_neg h3]; exact .inr (.inr (.inr ⟨by omega, by omega, rfl⟩))
theorem enc_byte {c : Int} (h : Good c) : ∀ b ∈ enc c, 0 ≤ b ∧ b < 256 := by
  rcases enc_cases h with ⟨a, b, e⟩ | ⟨a, b, e⟩ | ⟨a, b, d, e⟩ | ⟨a, b, e⟩ <;> rw [e] <;> simp only [List.mem_cons, List.mem_nil_iff, or_false, List.not_mem_nil] <;> intro x hx <;> omega
theorem enc_len {c : Int} (h : Good c) : 1 ≤ (enc c).length ∧ (enc c).length ≤ 4 := by
  rcases enc_cases h with ⟨a, b, e⟩ | ⟨a, b, e⟩ | ⟨a, b, d, e⟩ | ⟨a, b, e⟩ <;> rw [e] <;> simp
/-- No character's bytes begin another one's. -/
theorem enc_one {c d : Int} (hc : Good c) (hd : Good d) {l : List Int} (h1 : enc c <+: l) (h2 : enc d <+: l) : c = d := by
  obtain ⟨s, rfl⟩ := h1
  obtain ⟨t, h2⟩ := h2
  rcases enc_cases hc with ⟨a, b, e⟩ | ⟨a, b, e⟩ | ⟨a, b, x, e⟩ | ⟨a, b, e⟩ <;> rcases enc_cases hd with ⟨a', b', e'⟩ | ⟨a', b', e'⟩ | ⟨a', b', x', e'⟩ | ⟨a', b', e'⟩ <;> rw [e, e'] at h2 <;> simp only [List.cons_append, List.nil_append, List.cons.injEq] at h2 <;> omega
/-- No character's bytes stand ahead. -/
def NoHead (l : List Int) : Prop := ∀ x, Good x → ¬ enc x <+: l
/-- What the character is that bytes begin with. -/
def FirstS (l : List Int) (c n : Int) : Prop := (n = 0 ∧ c = -1 ∧ NoHead l) ∨ (Good c ∧ n = ((enc c).length : Int) ∧ enc c <+: l)
theorem FirstS.one {l : List Int} {c n d m : Int} (h : FirstS l c n) (k : FirstS l d m) : c = d ∧ n = m := by
  rcases h with ⟨rfl, rfl, h⟩ | ⟨g, rfl, h⟩ <;> rcases k with ⟨rfl, rfl, k⟩ | ⟨g', rfl, k⟩
  · exact ⟨rfl, rfl⟩
  · exact absurd k (h _ g')
  · exact absurd h (k _ g)
  · obtain rfl := enc_one g g' h k
    exact ⟨rfl, rfl⟩
theorem get_any {l : List Int} (h : byteB l = true) (j : Nat) : ((strOfNums l).get! j).toNat = (l.getD j 0).toNat := by
  by_cases hj : j < l.length
  · have := byte_get h j hj
    omega
  · have e : (strOfNums l).get! j = 0 := by
      show (strOfNums l).data[j]! = _
      simp [strOfNums, hj]
      rfl
    rw [e, List.getD_eq_getElem?_getD, List.getElem?_eq_none (by omega)]
    rfl
theorem rune_of {l : List Int} (h : byteB l = true) (h0 : l ≠ []) : runeG l = (((Lib.decodeN l.length (l.getD 0 0).toNat (l.getD 1 0).toNat (l.getD 2 0).toNat (l.getD 3 0).toNat).1 : Int), ((Lib.decodeN l.length (l.getD 0 0).toNat (l.getD 1 0).toNat (l.getD 2 0).toNat (l.getD 3 0).toNat).2 : Int)) := by
  have hz : (strOfNums l).size = l.length := by simp [strOfNums, ByteArray.size]
  have hl : 0 < l.length := List.length_pos_iff.2 h0
  unfold runeG Lib.decodeGo
  rw [if_neg (by omega), Lib.decode_at, hz, Nat.sub_zero, get_any h, get_any h, get_any h, get_any h]
/-- decodeN, against the characters' bytes. -/
def DecS (l : List Int) (p : Nat × Nat) : Prop := (p = (65533, 1) ∧ NoHead l) ∨ (Good p.1 ∧ (p.2 : Int) = ((enc p.1).length : Int) ∧ enc p.1 <+: l)
theorem ite_ok {α : Type} {P : α → Prop} {c : Prop} [Decidable c] {a b : α} (h : c → P a) (k : ¬ c → P b) : P (if c then a else b) := by
  split
  · exact h ‹_›
  · exact k ‹_›
theorem no_head {l : List Int} (h1 : ∀ x : Int, 0 ≤ x → x < 128 → ¬ [x] <+: l) (h2 : ∀ x : Int, 128 ≤ x → x < 2048 → ¬ [192 + x / 64, 128 + x % 64] <+: l)
    (h3 : ∀ x : Int, 2048 ≤ x → x < 65536 → ¬ (55296 ≤ x ∧ x ≤ 57343) → ¬ [224 + x / 4096, 128 + x / 64 % 64, 128 + x % 64] <+: l)
    (h4 : ∀ x : Int, 65536 ≤ x → x ≤ 1114111 → ¬ [240 + x / 262144, 128 + x / 4096 % 64, 128 + x / 64 % 64, 128 + x % 64] <+: l) : NoHead l := by
  intro x hx
  rcases enc_cases hx with ⟨a, b, e⟩ | ⟨a, b, e⟩ | ⟨a, b, d, e⟩ | ⟨a, b, e⟩ <;> rw [e]
  · exact h1 x b a
  · exact h2 x a b
  · exact h3 x a b d
  · exact h4 x a b
theorem yes1 {l : List Int} {c : Nat} (h : c < 128) (k : [(c : Int)] <+: l) : DecS l (c, 1) := by
  have g : Good c := by unfold Good; omega
  rcases enc_cases g with ⟨a, b, e⟩ | ⟨a, b, e⟩ | ⟨a, b, d, e⟩ | ⟨a, b, e⟩
  · exact .inr ⟨g, by show ((1 : Nat) : Int) = ((enc c).length : Int); rw [e]; rfl, by show enc c <+: l; rw [e]; exact k⟩
  all_goals omega
theorem yes2 {l : List Int} {c : Nat} (h : 128 ≤ c) (h' : c < 2048) (k : [192 + (c : Int) / 64, 128 + (c : Int) % 64] <+: l) : DecS l (c, 2) := by
  have g : Good c := by unfold Good; omega
  rcases enc_cases g with ⟨a, b, e⟩ | ⟨a, b, e⟩ | ⟨a, b, d, e⟩ | ⟨a, b, e⟩
  · omega
  · exact .inr ⟨g, by show ((2 : Nat) : Int) = ((enc c).length : Int); rw [e]; rfl, by show enc c <+: l; rw [e]; exact k⟩
  all_goals omega
theorem yes3 {l : List Int} {c : Nat} (h : 2048 ≤ c) (h' : c < 65536) (hs : ¬ (55296 ≤ c ∧ c ≤ 57343)) (k : [224 + (c : Int) / 4096, 128 + (c : Int) / 64 % 64, 128 + (c : Int) % 64] <+: l) : DecS l (c, 3) := by
  have g : Good c := by unfold Good; omega
  rcases enc_cases g with ⟨a, b, e⟩ | ⟨a, b, e⟩ | ⟨a, b, d, e⟩ | ⟨a, b, e⟩
  · omega
  · omega
  · exact .inr ⟨g, by show ((3 : Nat) : Int) = ((enc c).length : Int); rw [e]; rfl, by show enc c <+: l; rw [e]; exact k⟩
  · omega
theorem yes4 {l : List Int} {c : Nat} (h : 65536 ≤ c) (h' : c ≤ 1114111) (k : [240 + (c : Int) / 262144, 128 + (c : Int) / 4096 % 64, 128 + (c : Int) / 64 % 64, 128 + (c : Int) % 64] <+: l) : DecS l (c, 4) := by
  have g : Good c := by unfold Good; omega
  rcases enc_cases g with ⟨a, b, e⟩ | ⟨a, b, e⟩ | ⟨a, b, d, e⟩ | ⟨a, b, e⟩
  · omega
  · omega
  · omega
  · exact .inr ⟨g, by show ((4 : Nat) : Int) = ((enc c).length : Int); rw [e]; rfl, by show enc c <+: l; rw [e]; exact k⟩
set_option maxHeartbeats 2000000 in
theorem dec_ok (l : List Int) (hl : ∀ x ∈ l, 0 ≤ x ∧ x < 256) (h0 : l ≠ []) : DecS l (Lib.decodeN l.length (l.getD 0 0).toNat (l.getD 1 0).toNat (l.getD 2 0).toNat (l.getD 3 0).toNat) := by
  match l, hl, h0 with
  | [a], hl, _ =>
    obtain ⟨a, rfl⟩ : ∃ n : Nat, a = n := ⟨a.toNat, by have := hl a (by simp); omega⟩
    have ha := hl a (by simp)
    simp only [List.getD_cons_zero, List.getD_cons_succ, List.getD_nil, Int.toNat_natCast, List.length_cons, List.length_nil, Lib.decodeN]
    refine ite_ok (fun h => yes1 h (by simp)) fun h => ?_
    rw [if_neg (by omega), if_neg (by omega), if_neg (by omega)]
    exact .inl ⟨rfl, no_head (by simp; omega) (by simp) (by simp) (by simp)⟩
  | [a, b], hl, _ =>
    obtain ⟨a, rfl⟩ : ∃ n : Nat, a = n := ⟨a.toNat, by have := hl a (by simp); omega⟩
    obtain ⟨b, rfl⟩ : ∃ n : Nat, b = n := ⟨b.toNat, by have := hl b (by simp); omega⟩
    have ha := hl a (by simp)
    have hb := hl b (by simp)
    simp only [List.getD_cons_zero, List.getD_cons_succ, List.getD_nil, Int.toNat_natCast, List.length_cons, List.length_nil, Lib.decodeN]
    refine ite_ok (fun h => yes1 h (by simp)) fun h => ?_
    refine ite_ok (fun h2 => ite_ok (fun h3 => yes2 (by omega) (by omega) (by simp; omega)) fun h3 => .inl ⟨rfl, no_head (by simp; omega) (by simp; omega) (by simp) (by simp)⟩) fun h2 => ?_
    rw [if_neg (by omega), if_neg (by omega)]
    exact .inl ⟨rfl, no_head (by simp; omega) (by simp; omega) (by simp) (by simp)⟩
  | [a, b, c], hl, _ =>
    obtain ⟨a, rfl⟩ : ∃ n : Nat, a = n := ⟨a.toNat, by have := hl a (by simp); omega⟩
    obtain ⟨b, rfl⟩ : ∃ n : Nat, b = n := ⟨b.toNat, by have := hl b (by simp); omega⟩
    obtain ⟨c, rfl⟩ : ∃ n : Nat, c = n := ⟨c.toNat, by have := hl c (by simp); omega⟩
    have ha := hl a (by simp)
    have hb := hl b (by simp)
    have hc := hl c (by simp)
    simp only [List.getD_cons_zero, List.getD_cons_succ, List.getD_nil, Int.toNat_natCast, List.length_cons, List.length_nil, Lib.decodeN]
    refine ite_ok (fun h => yes1 h (by simp)) fun h => ?_
    refine ite_ok (fun h2 => ite_ok (fun h3 => yes2 (by omega) (by omega) (by simp; omega)) fun h3 => .inl ⟨rfl, no_head (by simp; omega) (by simp; omega) (by simp; omega) (by simp)⟩) fun h2 => ?_
    refine ite_ok (fun h3 => ite_ok (fun h4 => yes3 (by omega) (by omega) (by omega) (by simp; omega)) fun h4 => .inl ⟨rfl, no_head (by simp; omega) (by simp; omega) (by simp; omega) (by simp)⟩) fun h3 => ?_
    rw [if_neg (by omega)]
    exact .inl ⟨rfl, no_head (by simp; omega) (by simp; omega) (by simp; omega) (by simp)⟩
  | a :: b :: c :: d :: t, hl, _ =>
    obtain ⟨a, rfl⟩ : ∃ n : Nat, a = n := ⟨a.toNat, by have := hl a (by simp); omega⟩
    obtain ⟨b, rfl⟩ : ∃ n : Nat, b = n := ⟨b.toNat, by have := hl b (by simp); omega⟩
    obtain ⟨c, rfl⟩ : ∃ n : Nat, c = n := ⟨c.toNat, by have := hl c (by simp); omega⟩
    obtain ⟨d, rfl⟩ : ∃ n : Nat, d = n := ⟨d.toNat, by have := hl d (by simp); omega⟩
    have ha := hl a (by simp)
    have hb := hl b (by simp)
    have hc := hl c (by simp)
    have hd := hl d (by simp)
    simp only [List.getD_cons_zero, List.getD_cons_succ, List.getD_nil, Int.toNat_natCast, List.length_cons, List.length_nil, Lib.decodeN]
    refine ite_ok (fun h => yes1 h (by simp)) fun h => ?_
    refine ite_ok (fun h2 => ite_ok (fun h3 => yes2 (by omega) (by omega) (by simp; omega)) fun h3 => .inl ⟨rfl, no_head (by simp; omega) (by simp; omega) (by simp; omega) (by simp; omega)⟩) fun h2 => ?_
    refine ite_ok (fun h3 => ite_ok (fun h4 => yes3 (by omega) (by omega) (by omega) (by simp; omega)) fun h4 => .inl ⟨rfl, no_head (by simp; omega) (by simp; omega) (by simp; omega) (by simp; omega)⟩) fun h3 => ?_
    refine ite_ok (fun h4 => ite_ok (fun h5 => yes4 (by omega) (by omega) (by simp; omega)) fun h5 => .inl ⟨rfl, no_head (by simp; omega) (by simp; omega) (by simp; omega) (by simp; omega)⟩) fun h4 => ?_
    exact .inl ⟨rfl, no_head (by simp; omega) (by simp; omega) (by simp; omega) (by simp; omega)⟩
theorem byte_all {l : List Int} : byteB l = true ↔ ∀ x ∈ l, 0 ≤ x ∧ x < 256 := by
  unfold byteB
  simp [List.all_eq_true]
theorem first_ok {l : List Int} (hl : ∀ x ∈ l, 0 ≤ x ∧ x < 256) : FirstS l (firstG l).1 (firstG l).2 := by
  by_cases h0 : l = []
  · subst h0
    have e : firstG [] = (-1, 0) := by decide
    rw [e]
    refine .inl ⟨rfl, rfl, fun x hx h => ?_⟩
    have := enc_len hx
    rw [List.prefix_nil.1 h] at this
    simp at this
  · have hr := rune_of (byte_all.2 hl) h0
    have hd := dec_ok l hl h0
    generalize Lib.decodeN l.length (l.getD 0 0).toNat (l.getD 1 0).toNat (l.getD 2 0).toNat (l.getD 3 0).toNat = p at hr hd
    unfold firstG
    rw [hr]
    rcases hd with ⟨rfl, h⟩ | ⟨g, hn, h⟩
    · exact .inl ⟨rfl, rfl, h⟩
    · have : ¬ ((p.1 : Int) = 65533 ∧ (p.2 : Int) ≤ 1) := by
        rintro ⟨e, e'⟩
        rw [hn, e] at e'
        exact absurd e' (by decide)
      rw [if_neg this]
      exact .inr ⟨g, hn, h⟩
theorem byte8_first {l : List Int} (hl : ∀ x ∈ l, 0 ≤ x ∧ x < 256) : ∃ c n, byte8_First.f l = some (c, n) ∧ FirstS l c n :=
  ⟨_, _, if_pos (byte_all.2 hl), first_ok hl⟩
end Go.Proofs.YtfdllcakpmaifaaDoor.P
