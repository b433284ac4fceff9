/- utf8's tables in a world; the contracts of byte8.First and bytes.Count in the print's shape. -/
import Derived.Test.YtfdllcakpmaifaaDoorShelfP
import Derived.Test.YtfdllcakpmaifaaDoorRx0
import Derived.Shelf.Spec.NilArms
namespace Go.Proofs.YtfdllcakpmaifaaDoor.L
open Go.RowKit Go.Proofs.YtfdllcakpmaifaaDoorW.PrintWords Go.Proofs.YtfdllcakpmaifaaDoorW.PrintLast Go.Proofs.YtfdllcakpmaifaaDoorW.PrintMore
set_option linter.unusedVariables false

/-- The two tables of unicode/utf8 lie in the world. -/
def Tabs (w : World) : Prop := Lib.Utf8Tabs 0 1 w
theorem Tabs.below {w W : World} (h : Tabs w) (hb : Below w.heap.size w W) : Tabs W :=
  ⟨fun c hc => pw_cell_below hb (h.1 c hc), fun i hi => ⟨pw_cell_below hb (h.2 i hi).1, pw_cell_below hb (h.2 i hi).2⟩⟩
theorem slow_empty (A : Option Addr) (cap : Nat) (w : World) : Calls Tryd.prog 25 #[.slice A 0 cap] w fun e w' => e = .returned (.tuple #[.int .i32 65533, .int .i64 0]) ∧ Below w.heap.size w w' := by
  go_enter Tryd.func25, Tryd.ntmps25
  go_wp2_with fail
  go_ret2
  exact ⟨rfl, Below.refl _ _⟩
theorem rune_empty (A : Option Addr) (cap : Nat) (w : World) : Calls Tryd.prog 19 #[.slice A 0 cap] w fun e w' => e = .returned (.tuple #[.int .i32 65533, .int .i64 0]) ∧ Below w.heap.size w w' := by
  go_enter Tryd.func19, Tryd.ntmps19
  go_wp2_with fail
  go_loop [8] (fun i => i = .int .i64 0) (fun _ => 0)
  case atStart => rfl
  case round =>
    subst hrel
    go_wp2_with (go_at_call 25; refine (slow_empty A cap _).mono ?_; rintro e w' ⟨rfl, hb⟩)
    go_ret2
    exact ⟨rfl, hb⟩
/-- Bytes, all of them. -/
def byteB (l : List Int) : Bool := l.all fun x => decide (0 ≤ x) && decide (x < 256)
def runeG (l : List Int) : Int × Int := ((Lib.decodeGo (strOfNums l)).1, (Lib.decodeGo (strOfNums l)).2)
theorem byte_get {l : List Int} (h : byteB l = true) (j : Nat) (hj : j < l.length) : ((strOfNums l).get! j).toNat = l.getD j 0 := by
  have hb := List.all_eq_true.1 h (l[j]) (List.getElem_mem hj)
  simp only [Bool.and_eq_true, decide_eq_true_eq] at hb
  have e : (strOfNums l).get! j = UInt8.ofNat (l[j]).toNat := by
    show (strOfNums l).data[j]! = _
    simp [strOfNums, hj]
  rw [e, List.getD_eq_getElem?_getD, List.getElem?_eq_getElem hj]
  show ((UInt8.ofNat (l[j]).toNat).toNat : Int) = l[j]
  rw [UInt8.toNat_ofNat']
  omega
theorem rune_calls (A : Option Addr) (c : Nat) (l : List Int) (w : World) (hT : Tabs w) (hr : Kd.C (Kd.int .u8) w A l.length l) (hb : byteB l = true) :
    Calls Tryd.prog 19 #[.slice A l.length c] w fun e w' => e = .returned (.tuple #[.int .i32 (runeG l).1, .int .i64 (runeG l).2]) ∧ Below w.heap.size w w' := by
  by_cases h0 : l.length = 0
  · obtain rfl : l = [] := List.eq_nil_of_length_eq_zero h0
    exact rune_empty A c w
  · have hz : (strOfNums l).size = l.length := by simp [strOfNums, ByteArray.size]
    obtain ⟨ad, rfl, hc0⟩ := Kd.at_int hr 0 (by omega) (by omega)
    obtain ⟨b, o, sp⟩ := ad
    have hsp : sp = none := by
      cases sp with
      | none => rfl
      | some x => simp [Addr.add, World.cell?] at hc0; split at hc0 <;> simp at hc0
    subst hsp
    have h := Any7.utf8_DecodeRune Tryd.lays732 (strOfNums l) b o c w hT (fun j hj => by
      rw [hz] at hj
      obtain ⟨ad, e, hc⟩ := Kd.at_int hr (j : Int) (by omega) (by omega)
      injection e with e
      subst e
      rw [byte_get hb j hj]
      have ea : (⟨b, o, none⟩ : Addr).add j = ⟨b, o + j, none⟩ := by unfold Addr.add; split <;> simp_all
      rw [Int.toNat_natCast, ea] at hc
      simpa [rd] using hc)
    rw [hz] at h
    exact h
theorem rune_range (l : List Int) : 0 ≤ (runeG l).1 ∧ (runeG l).1 ≤ 1114111 ∧ 0 ≤ (runeG l).2 ∧ (runeG l).2 ≤ 4 := by
  have h : (Lib.decodeGo (strOfNums l)).1 ≤ 1114111 ∧ (Lib.decodeGo (strOfNums l)).2 ≤ 4 := by
    unfold Lib.decodeGo
    split
    · exact ⟨by decide, by decide⟩
    · rw [Lib.decode_at]
      unfold Go.Lib.decodeN
      repeat' split
      all_goals (refine ⟨?_, ?_⟩ <;> dsimp only <;> omega)
  unfold runeG
  omega
def firstG (l : List Int) : Int × Int := if (runeG l).1 = 65533 ∧ (runeG l).2 ≤ 1 then (-1, 0) else runeG l
def byte8_First.f (l : List Int) : Option (Int × Int) := if byteB l = true then some (firstG l) else none
theorem byte8_First.calls (A0 : Option Addr) (c0 : Nat) (l0 : List Int) (r1 : Int) (r2 : Int) (w : World) (hr0 : Kd.C (Kd.int .u8) w A0 l0.length l0) (hc0 : l0.length ≤ c0) (hT_ : Tabs w) (h : byte8_First.f l0 = some (r1, r2)) :
    Calls Tryd.prog 11 #[.slice A0 l0.length c0] w fun e w' => e = .returned (.tuple #[.int .i64 r1, .int .i64 r2]) ∧ Below w.heap.size w w' := by
  have hb : byteB l0 = true := by unfold byte8_First.f at h; split at h; assumption; cases h
  have h2 : firstG l0 = (r1, r2) := by unfold byte8_First.f at h; rw [if_pos hb] at h; exact Option.some.inj h
  have hc := rune_calls A0 c0 l0 w hT_ hr0 hb
  obtain ⟨q1, q2, q3, q4⟩ := rune_range l0
  unfold firstG at h2
  generalize runeG l0 = p at hc q1 q2 q3 q4 h2
  obtain ⟨x, n⟩ := p
  simp only at hc q1 q2 q3 q4 h2
  have HC := Aside0.mk hc
  clear hr0 hc hT_ h hb
  go_enter Tryd.func11, Tryd.ntmps11
  go_wp2_with fail
  refine HC.out.mono ?_
  rintro e w1 ⟨rfl, hbl⟩
  have HB := Aside0.mk hbl
  clear HC hbl
  have hw : IntKind.i64.wrap x = x := by rw [IntKind.wrap_i64]; omega
  by_cases hx : x = 65533
  · have hx1 : (x == 65533) = true := beq_iff_eq.2 hx
    by_cases hn : n ≤ 1
    · have hn1 : decide (n ≤ 1) = true := decide_eq_true hn
      rw [if_pos ⟨hx, hn⟩] at h2
      injection h2 with e1 e2
      subst e1 e2
      clear hx hn
      go_wp2_with fail
      go_ret2
      exact ⟨rfl, HB.out⟩
    · have hn1 : decide (n ≤ 1) = false := decide_eq_false hn
      rw [if_neg (fun h => hn h.2)] at h2
      injection h2 with e1 e2
      subst e1 e2
      clear hx hn
      go_wp2_with fail
      go_ret2
      exact ⟨rfl, HB.out⟩
  · have hx1 : (x == 65533) = false := beq_eq_false_iff_ne.2 hx
    rw [if_neg (fun h => hx h.1)] at h2
    injection h2 with e1 e2
    subst e1 e2
    clear hx
    go_wp2_with fail
    go_ret2
    exact ⟨rfl, HB.out⟩
theorem count_nil (c b2 o2 d : Nat) (cv : Int) (w : World) (hc2 : w.cell? ⟨b2, o2, none⟩ = some (.int .u8 cv)) :
    Calls Tryd.prog 21 #[.slice none 0 c, .slice (some ⟨b2, o2, none⟩) 1 d] w fun e w' => e = .returned (.int .i64 0) ∧ w' = w := by
  go_enter Tryd.func21, Tryd.ntmps21
  go_wp2
  rw [run_callFunc_extern Tryd.func28 (by kernel_rfl) (by kernel_rfl) (by kernel_rfl) (e := Extern.BytealgCount.count) (by kernel_rfl), Lib.run_countNil w 0 c cv]
  simp only [Result.andThen]
  rw [Oper.upon_value]
  go_wp2
  go_ret
  exact ⟨rfl, rfl⟩
def bytes_Count.f (l m : List Int) : Option Int := match m with
  | [v] => some (Lib.countByte (Lib.bytesOf l) v.toNat.toUInt8)
  | _ => none
theorem bytes_Count.calls (A0 : Option Addr) (c0 : Nat) (l0 : List Int) (A1 : Option Addr) (c1 : Nat) (l1 : List Int) (r : Int) (w : World) (hr0 : Kd.C (Kd.int .u8) w A0 l0.length l0) (hc0 : l0.length ≤ c0) (hr1 : Kd.C (Kd.int .u8) w A1 l1.length l1) (hc1 : l1.length ≤ c1) (h : bytes_Count.f l0 l1 = some r) :
    Calls Tryd.prog 21 #[.slice A0 l0.length c0, .slice A1 l1.length c1] w fun e w' => e = .returned (.int .i64 r) ∧ Below w.heap.size w w' := by
  obtain ⟨v, rfl⟩ : ∃ v, l1 = [v] := by
    unfold bytes_Count.f at h
    split at h
    · exact ⟨_, rfl⟩
    · cases h
  obtain rfl : (Lib.countByte (Lib.bytesOf l0) v.toNat.toUInt8 : Int) = r := by simpa [bytes_Count.f] using h
  obtain ⟨ad, rfl, hv⟩ := Kd.at_int hr1 0 (by simp) (by simp)
  obtain ⟨b, o, sp⟩ := ad
  have hsp : sp = none := by
    cases sp with
    | none => rfl
    | some x => simp [Addr.add, World.cell?] at hv; split at hv <;> simp at hv
  subst hsp
  have hv2 : w.cell? ⟨b, o, none⟩ = some (.int .u8 v) := by simpa [Addr.add, rd] using hv
  cases A0 with
  | none =>
    have h0 : l0 = [] := by
      cases l0 with
      | nil => rfl
      | cons x t => obtain ⟨_, e, _⟩ := Kd.at_int hr0 0 (by simp) (by simp); cases e
    subst h0
    refine (count_nil c0 b o c1 v w hv2).mono ?_
    rintro e w' ⟨rfl, rfl⟩
    exact ⟨by simp [Lib.countByte, Lib.bytesOf], Below.refl _ _⟩
  | some a =>
    refine (Tryd.bytes_Count_one_at a l0.length c0 b o c1 l0 v w rfl (fun i hi => ?_) hv2).mono ?_
    · obtain ⟨ad, e, hc⟩ := Kd.at_int hr0 (i : Int) (by omega) (by omega)
      injection e with e
      subst e
      simpa [rd] using hc
    · rintro e w' ⟨rfl, rfl⟩
      exact ⟨rfl, Below.refl _ _⟩
end Go.Proofs.YtfdllcakpmaifaaDoor.L
