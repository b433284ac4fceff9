-- Printed by a program of this session (over the kit's print).
import Derived.Test.YtfdllcakpmaifaaDoorGx0
namespace Go.Proofs.YtfdllcakpmaifaaDoor.G
open Go.RowKit Go.Proofs.YtfdllcakpmaifaaDoorW.PrintWords Go.Proofs.YtfdllcakpmaifaaDoorW.PrintLast Go.Proofs.YtfdllcakpmaifaaDoorW.PrintMore Go.Proofs.YtfdllcakpmaifaaDoor.L Go.Proofs.YtfdllcakpmaifaaDoor.R Go.Proofs.YtfdllcakpmaifaaDoor.E Go.Proofs.YtfdllcakpmaifaaDoor.F
attribute [local go_sem] max2_int min2_int max_two min_two max_three min_three max_four min_four   -- for this text's walks alone
set_option linter.unusedVariables false
set_option linter.unusedSimpArgs false

/-! ### caesuralaw03_Byte8Joins: function 7 -/
def caesuralaw03_Byte8Joins.j0 : Nat → List Int → List Int → Bool → Option (Bool)
  | 0, _, _, _ => none
  | k + 1, x0, x1, x26 => if x26 = true then (some true) else ((byte8_Decode.f k x0).bind fun bt181 => (if bt181.2.2.2 = 0 then ((byte8_Decode.f k x1).bind fun bt189 => ((some (([] : List Int) : List Int)).bind fun y197 => (if y197.length + x0.length < 140737488355328 then ((some (y197 ++ x0 : List Int)).bind fun y200 => (if y200.length + x1.length < 140737488355328 then ((byte8_Decode.f k (y200 ++ x1)).bind fun bt206 => (if bt189.2.2.2 = 0 then (if bt206.2.2.2 = 0 then ((some (([] : List Int) : List Int)).bind fun y214 => (if y214.length + bt181.1.length < 17592186044416 then ((some (y214 ++ bt181.1 : List Int)).bind fun y217 => (if y217.length + bt189.1.length < 17592186044416 then ((caesuraref01_Ints.f k bt206.1 (y217 ++ bt189.1)).bind fun t223 => (if t223 = true then (if (bt206.2.1.length : Int) = (wrap64 ((wrap64 ((bt181.1.length : Int) + (bt189.1.length : Int))) + 1)) then (if 0 ≤ (bt181.1.length : Int) then (if (bt181.1.length : Int) ≤ (bt206.2.1.length : Int) then (if (bt181.1.length : Int) ≤ (bt181.2.1.length : Int) then ((caesuraref01_Ints.f k (bt206.2.1.take ((bt181.1.length : Int) : Int).toNat) (bt181.2.1.take ((bt181.1.length : Int) : Int).toNat)).bind fun t232 => (some t232)) else (none)) else (none)) else (none)) else (some false)) else (some false))) else (none))) else (none))) else (some false)) else (if bt206.2.2.2 = bt189.2.2.2 then (some (bt206.2.2.1 == (wrap64 (bt189.2.2.1 + (x0.length : Int))))) else (some false)))) else (none))) else (none)))) else (some true)))
def caesuralaw03_Byte8Joins.f (k : Nat) (l0 : List Int) (l1 : List Int) : Option (Bool) := (caesuralaw03_alive.f).bind fun t180 => (if t180 = true then (if (l0.length : Int) > 1400 then (caesuralaw03_Byte8Joins.j0 k l0 l1 true) else (caesuralaw03_Byte8Joins.j0 k l0 l1 (decide ((l1.length : Int) > 1400)))) else (some false))
theorem caesuralaw03_Byte8Joins.mono_l : ∀ k, (∀ y0 y1 y2, LeO (caesuralaw03_Byte8Joins.j0 k y0 y1 y2) (caesuralaw03_Byte8Joins.j0 (k + 1) y0 y1 y2))
  | 0 => fun _ _ _ r h => by simp [caesuralaw03_Byte8Joins.j0] at h
  | k + 1 => by
    have ih0 := caesuralaw03_Byte8Joins.mono_l k
    · intro y0 y1 y2
      unfold caesuralaw03_Byte8Joins.j0
      repeat' first
      | (with_reducible exact ih0 _ _ _)
      | (with_reducible exact byte8_Decode.mono _ _)
      | (with_reducible exact caesuraref01_Ints.mono _ _ _)
      | (with_reducible exact LeO.refl _)
      | (with_reducible exact LeO.none _)
      | (with_reducible refine LeO.ite ?_ ?_)
      | (with_reducible refine LeO.bind ?_ (fun _ => ?_))
      | exact ih0 _ _ _
      | exact byte8_Decode.mono _ _
      | exact caesuraref01_Ints.mono _ _ _
      | exact LeO.none _
      | refine LeO.ite ?_ ?_
      | refine LeO.bind ?_ (fun _ => ?_)
theorem caesuralaw03_Byte8Joins.mono : ∀ a0 a1 k, LeO (caesuralaw03_Byte8Joins.f k a0 a1) (caesuralaw03_Byte8Joins.f (k + 1) a0 a1) := by
  intro a0 a1 k
  have ih0 := caesuralaw03_Byte8Joins.mono_l k
  unfold caesuralaw03_Byte8Joins.f
  repeat' first
      | (with_reducible exact ih0 _ _ _)
      | (with_reducible exact byte8_Decode.mono _ _)
      | (with_reducible exact caesuraref01_Ints.mono _ _ _)
      | (with_reducible exact LeO.refl _)
      | (with_reducible exact LeO.none _)
      | (with_reducible refine LeO.ite ?_ ?_)
      | (with_reducible refine LeO.bind ?_ (fun _ => ?_))
      | exact ih0 _ _ _
      | exact byte8_Decode.mono _ _
      | exact caesuraref01_Ints.mono _ _ _
      | exact LeO.none _
      | refine LeO.ite ?_ ?_
      | refine LeO.bind ?_ (fun _ => ?_)
def caesuralaw03_Byte8Joins.T12 : Bool × List (List Nat × List Nat) := (true, [([], []), ([0], [0]), ([1], [1]), ([2], [2]), ([2], [2]), ([2], [2]), ([4, 5, 2, 2], [2, 4, 5]), ([2], [2]), ([6, 7, 6, 2], [2, 6, 7]), ([3, 8, 8, 2], [2, 3, 8]), ([2, 9], [2, 9]), ([10, 9], [10]), ([11], [11]), ([12, 11], [11, 12]), ([11], [11]), ([14, 11], [11, 14]), ([11], [11]), ([16, 11], [11, 16]), ([15, 17, 11], [11, 15, 17]), ([18, 11], [11, 18]), ([13, 19, 11], [11, 13, 19]), ([11, 20], [11, 20]), ([21, 11], [21]), ([22], [22]), ([22], [22]), ([24, 22], [22, 24]), ([23, 25, 22], [22, 23, 25]), ([22], [22]), ([22], [22]), ([28, 22], [22, 28]), ([27, 29, 22], [22, 27, 29]), ([26, 30, 22, 22], [22, 26, 30]), ([22, 31], [22, 31]), ([32, 31, 0, 1, 2, 3, 4, 5, 6, 7, 8, 9, 10, 11, 12, 13, 14, 15, 16, 17, 18, 19, 20, 21, 22, 23, 24, 25, 26, 27, 28, 29, 30, 31, 32], [32])])
def caesuralaw03_Byte8Joins.B12 : List Nat := [0, 1, 3, 7, 7, 7, 55, 7, 247, 511, 1023, 2047, 4095, 8191, 4095, 20479, 4095, 69631, 249855, 511999, 1048575, 2097151, 4194303, 8388607, 8388607, 25165823, 67108863, 8388607, 8388607, 276824063, 947912703, 2147483647, 4294967295, 8589934591]
theorem caesuralaw03_Byte8Joins.tab12 : rtab .any (opsOf Tryd.f7 12) = caesuralaw03_Byte8Joins.T12 := by kernel_rfl
theorem caesuralaw03_Byte8Joins.bits12 : waitsOk caesuralaw03_Byte8Joins.T12.2 caesuralaw03_Byte8Joins.B12 = true := by kernel_rfl
end Go.Proofs.YtfdllcakpmaifaaDoor.G
