/- Closed facts of alive: canonF at literal sets. -/
import Derived.Test.YtippkbgeeeimjaaBx1
namespace Go.Proofs.Ytippkbgeeeimjaa.P
open Go.RowKit Go.Proofs.YtippkbgeeeimjaaW.PrintWords Go.Proofs.YtippkbgeeeimjaaW.PrintLast Go.Proofs.YtippkbgeeeimjaaW.PrintMore Go.Proofs.Ytippkbgeeeimjaa.A Go.Proofs.Ytippkbgeeeimjaa.L Go.Proofs.Ytippkbgeeeimjaa.B
set_option linter.unusedVariables false
set_option linter.unusedSimpArgs false
abbrev la : List S34 := [⟨4, 5⟩, ⟨1, 3⟩, ⟨9, 8⟩]
abbrev lb : List S34 := [⟨3, 7⟩]
theorem canon_lit {P : Int → Bool} {xs : List S34} (h : Spec P xs 1114112) : canonF P = xs := (canon_of h).symm
theorem orF_aa : orF la [] = [⟨1, 5⟩] := by
  refine canon_lit ⟨by simp [Can], fun c h0 h1 => Bool.eq_iff_iff.mpr ?_⟩
  simp [Mem, inR, hasB]; omega
theorem andF_ab : andF la lb = [⟨3, 5⟩] := by
  refine canon_lit ⟨by simp [Can], fun c h0 h1 => Bool.eq_iff_iff.mpr ?_⟩
  simp [Mem, inR, hasB]; omega
theorem lessF_ba : lessF lb la = [⟨6, 7⟩] := by
  refine canon_lit ⟨by simp [Can], fun c h0 h1 => Bool.eq_iff_iff.mpr ?_⟩
  simp [Mem, inR, hasB]; omega
theorem orF_ab : orF la lb = [⟨1, 7⟩] := by
  refine canon_lit ⟨by simp [Can], fun c h0 h1 => Bool.eq_iff_iff.mpr ?_⟩
  simp [Mem, inR, hasB]; omega
theorem orF_15 : orF [⟨1, 5⟩] [] = [⟨1, 5⟩] := by
  refine canon_lit ⟨by simp [Can], fun c h0 h1 => Bool.eq_iff_iff.mpr ?_⟩
  simp [Mem, inR, hasB]
theorem orF_b : orF lb [] = [⟨3, 7⟩] := by
  refine canon_lit ⟨by simp [Can], fun c h0 h1 => Bool.eq_iff_iff.mpr ?_⟩
  simp [Mem, inR, hasB]
theorem notF_a : notF la = [⟨0, 0⟩, ⟨6, 1114111⟩] := by
  refine canon_lit ⟨by simp [Can], fun c h0 h1 => Bool.eq_iff_iff.mpr ?_⟩
  simp [Mem, inR, hasB]; omega
theorem orF_n : orF [⟨0, 0⟩, ⟨6, 1114111⟩] [] = [⟨0, 0⟩, ⟨6, 1114111⟩] := by
  refine canon_lit ⟨by simp [Can], fun c h0 h1 => Bool.eq_iff_iff.mpr ?_⟩
  simp [Mem, inR, hasB]
theorem l1 : span_Plain.f la = some [⟨1, 5⟩] := by unfold span_Plain.f span_Or.f; rw [orF_aa]; rfl
theorem l2 : span_And.f la lb = some [⟨3, 5⟩] := by unfold span_And.f; rw [andF_ab]
theorem l3 : span_Less.f lb la = some [⟨6, 7⟩] := by unfold span_Less.f; rw [lessF_ba]
theorem l4 : span_Or.f la lb = some [⟨1, 7⟩] := by unfold span_Or.f; rw [orF_ab]
theorem l5 : span_First.f 4 la = some 1 := by unfold span_First.f; rw [l1]; decide +kernel
theorem l6 : span_Size.f 4 la = some 5 := by unfold span_Size.f; rw [l1]; decide +kernel
theorem l7 : span_Has.f la 4 = some true := by decide +kernel
theorem l8 : span_Has.f la 8 = some false := by decide +kernel
theorem p15 : span_Plain.f [⟨1, 5⟩] = some [⟨1, 5⟩] := by unfold span_Plain.f span_Or.f; rw [orF_15]; rfl
theorem pb : span_Plain.f lb = some [⟨3, 7⟩] := by unfold span_Plain.f span_Or.f; rw [orF_b]; rfl
theorem pn : span_Plain.f [⟨0, 0⟩, ⟨6, 1114111⟩] = some [⟨0, 0⟩, ⟨6, 1114111⟩] := by unfold span_Plain.f span_Or.f; rw [orF_n]; rfl
theorem l9 : span_Same.f 4 la [⟨1, 5⟩] = some true := by unfold span_Same.f; rw [l1, p15]; decide +kernel
theorem l10 : span_Right.f 4 lb = some true := by unfold span_Right.f; rw [pb]; decide +kernel
theorem l11 : span_Right.f 4 la = some false := by unfold span_Right.f; rw [l1]; decide +kernel
theorem l12 : span_Not.f la = some [⟨0, 0⟩, ⟨6, 1114111⟩] := by unfold span_Not.f; rw [notF_a]
theorem l13 : span_Size.f 4 [⟨0, 0⟩, ⟨6, 1114111⟩] = some 1114107 := by unfold span_Size.f; rw [pn]; decide +kernel
theorem g15 : caesuraref01_Ranges.f 4 [⟨1, 5⟩] [⟨1, 5⟩] = some true := by decide +kernel
theorem g35 : caesuraref01_Ranges.f 4 [⟨3, 5⟩] [⟨3, 5⟩] = some true := by decide +kernel
theorem g67 : caesuraref01_Ranges.f 4 [⟨6, 7⟩] [⟨6, 7⟩] = some true := by decide +kernel
theorem g17 : caesuraref01_Ranges.f 4 [⟨1, 7⟩] [⟨1, 7⟩] = some true := by decide +kernel
end Go.Proofs.Ytippkbgeeeimjaa.P
