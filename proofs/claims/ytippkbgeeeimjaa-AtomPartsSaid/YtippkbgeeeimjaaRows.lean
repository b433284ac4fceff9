/-
  No cell of these rows narrows 'for every input' (looked for: loops, veiled, ifaces, maps, wideKeys, modest, calm, conditions, laid).
  DERIVED. THE GIVEN ROWS OF THIS SEAT. 8 by the template 'for every input the law returns true; each argument reads behind the call as it read before'; 0 by the template 'total and deterministic' (their statements: YtippkbgeeeimjaaTotals.lean).
  GIVEN WITH THE SEED: the statements are not yours to turn. If you find one false, say at which input.
  Laid BY PROGRAM, IN A SANDBOX (cutbox-rows.mjs): the forced cells as the released guide's own fill.sh prints them over the translation bb437ebf5dfdfffa… (all of the seat's roots in one cut). By AI agents, Wed Nov 11 2026. No macro, syntax, notation, axiom, sorry.
-/
import Derived.Test.YtippkbgeeeimjaaChecked
import GoSem.Claim
import GoSem.ClaimJoined
import GoSem.ClaimMapViews
import Derived.JoinedTies
import Derived.KernelRfl
namespace Go.Proofs.Ytippkbgeeeimjaa
/- THE CELL 'sum', in the pinned program and in every row, IS THE sha256 OF THE DUMP (.gsa) THAT YtippkbgeeeimjaaProg.lean LOADS. Nothing in Lean hashes anything: it is a label: what it is worth is what the hold of that sum in a sandbox is worth. -/
noncomputable def Try.pinned : Pinned := { name := "ytippkbgeeeimjaa", sum := "bb437ebf5dfdfffa4313633ee3bbe8ae79e7e82ae0a0d4b30e369e129577e528", checked := Try.checked }
namespace Rows
def none {H : Type} : Left H := { results := [], args := [] }

/-- 'caesuralaw01.SpanAnswers': WHATEVER THE INPUT: true; the input reads as it did. -/
def spanAnswersSpec : ChangeSpec := { name := "spanAnswers", fn := fun _ => fun
  | [d1, d2, d3] => { results := [.lit (.bool true)], args := [d1, d2, d3] }
  | _ => none }
def spanAnswersRow : OpenClaim := { program := "ytippkbgeeeimjaa", sum := "bb437ebf5dfdfffa4313633ee3bbe8ae79e7e82ae0a0d4b30e369e129577e528", func := "caesura/caesuralaw01.SpanAnswers", spec := "spanAnswers", unfollowed := true, recurses := true, apart := false }
def SpanAnswersSaid : Prop := spanAnswersRow.holds Try.pinned (OpenSpec.ofChange spanAnswersSpec)

/-- ITS FALSE NEIGHBOUR: 'it returns false'. Refute it at one input. -/
def spanAnswersWrong : ChangeSpec := { name := "spanAnswers", fn := fun _ => fun
  | [d1, d2, d3] => { results := [.lit (.bool false)], args := [d1, d2, d3] }
  | _ => none }
def SpanAnswersWrongFalsely : Prop := spanAnswersRow.holds Try.pinned (OpenSpec.ofChange spanAnswersWrong)

/-- 'caesuralaw01.SpanLaws': WHATEVER THE INPUT: true; the input reads as it did. -/
def spanLawsSpec : ChangeSpec := { name := "spanLaws", fn := fun _ => fun
  | [d1, d2, d3] => { results := [.lit (.bool true)], args := [d1, d2, d3] }
  | _ => none }
def spanLawsRow : OpenClaim := { program := "ytippkbgeeeimjaa", sum := "bb437ebf5dfdfffa4313633ee3bbe8ae79e7e82ae0a0d4b30e369e129577e528", func := "caesura/caesuralaw01.SpanLaws", spec := "spanLaws", unfollowed := true, recurses := true, apart := false }
def SpanLawsSaid : Prop := spanLawsRow.holds Try.pinned (OpenSpec.ofChange spanLawsSpec)

/-- ITS FALSE NEIGHBOUR: 'it returns false'. Refute it at one input. -/
def spanLawsWrong : ChangeSpec := { name := "spanLaws", fn := fun _ => fun
  | [d1, d2, d3] => { results := [.lit (.bool false)], args := [d1, d2, d3] }
  | _ => none }
def SpanLawsWrongFalsely : Prop := spanLawsRow.holds Try.pinned (OpenSpec.ofChange spanLawsWrong)

/-- 'caesuralaw01.SpanOrders': WHATEVER THE INPUT: true; the input reads as it did. -/
def spanOrdersSpec : ChangeSpec := { name := "spanOrders", fn := fun _ => fun
  | [d1, d2] => { results := [.lit (.bool true)], args := [d1, d2] }
  | _ => none }
def spanOrdersRow : OpenClaim := { program := "ytippkbgeeeimjaa", sum := "bb437ebf5dfdfffa4313633ee3bbe8ae79e7e82ae0a0d4b30e369e129577e528", func := "caesura/caesuralaw01.SpanOrders", spec := "spanOrders", unfollowed := true, recurses := true, apart := false }
def SpanOrdersSaid : Prop := spanOrdersRow.holds Try.pinned (OpenSpec.ofChange spanOrdersSpec)

/-- ITS FALSE NEIGHBOUR: 'it returns false'. Refute it at one input. -/
def spanOrdersWrong : ChangeSpec := { name := "spanOrders", fn := fun _ => fun
  | [d1, d2] => { results := [.lit (.bool false)], args := [d1, d2] }
  | _ => none }
def SpanOrdersWrongFalsely : Prop := spanOrdersRow.holds Try.pinned (OpenSpec.ofChange spanOrdersWrong)

/-- 'caesuralaw01.SpanFirsts': WHATEVER THE INPUT: true; the input reads as it did. -/
def spanFirstsSpec : ChangeSpec := { name := "spanFirsts", fn := fun _ => fun
  | [d1, d2] => { results := [.lit (.bool true)], args := [d1, d2] }
  | _ => none }
def spanFirstsRow : OpenClaim := { program := "ytippkbgeeeimjaa", sum := "bb437ebf5dfdfffa4313633ee3bbe8ae79e7e82ae0a0d4b30e369e129577e528", func := "caesura/caesuralaw01.SpanFirsts", spec := "spanFirsts", unfollowed := true, recurses := true, apart := false }
def SpanFirstsSaid : Prop := spanFirstsRow.holds Try.pinned (OpenSpec.ofChange spanFirstsSpec)

/-- ITS FALSE NEIGHBOUR: 'it returns false'. Refute it at one input. -/
def spanFirstsWrong : ChangeSpec := { name := "spanFirsts", fn := fun _ => fun
  | [d1, d2] => { results := [.lit (.bool false)], args := [d1, d2] }
  | _ => none }
def SpanFirstsWrongFalsely : Prop := spanFirstsRow.holds Try.pinned (OpenSpec.ofChange spanFirstsWrong)

/-- 'caesuralaw02.AtomParts': WHATEVER THE INPUT: true; the input reads as it did. -/
def atomPartsSpec : ChangeSpec := { name := "atomParts", fn := fun _ => fun
  | [d1, d2, d3] => { results := [.lit (.bool true)], args := [d1, d2, d3] }
  | _ => none }
def atomPartsRow : OpenClaim := { program := "ytippkbgeeeimjaa", sum := "bb437ebf5dfdfffa4313633ee3bbe8ae79e7e82ae0a0d4b30e369e129577e528", func := "caesura/caesuralaw02.AtomParts", spec := "atomParts", unfollowed := true, recurses := true, apart := false }
def AtomPartsSaid : Prop := atomPartsRow.holds Try.pinned (OpenSpec.ofChange atomPartsSpec)

/-- ITS FALSE NEIGHBOUR: 'it returns false'. Refute it at one input. -/
def atomPartsWrong : ChangeSpec := { name := "atomParts", fn := fun _ => fun
  | [d1, d2, d3] => { results := [.lit (.bool false)], args := [d1, d2, d3] }
  | _ => none }
def AtomPartsWrongFalsely : Prop := atomPartsRow.holds Try.pinned (OpenSpec.ofChange atomPartsWrong)

/-- 'caesuralaw02.AtomMore': WHATEVER THE INPUT: true; the input reads as it did. -/
def atomMoreSpec : ChangeSpec := { name := "atomMore", fn := fun _ => fun
  | [d1, d2] => { results := [.lit (.bool true)], args := [d1, d2] }
  | _ => none }
def atomMoreRow : OpenClaim := { program := "ytippkbgeeeimjaa", sum := "bb437ebf5dfdfffa4313633ee3bbe8ae79e7e82ae0a0d4b30e369e129577e528", func := "caesura/caesuralaw02.AtomMore", spec := "atomMore", unfollowed := true, recurses := true, apart := false }
def AtomMoreSaid : Prop := atomMoreRow.holds Try.pinned (OpenSpec.ofChange atomMoreSpec)

/-- ITS FALSE NEIGHBOUR: 'it returns false'. Refute it at one input. -/
def atomMoreWrong : ChangeSpec := { name := "atomMore", fn := fun _ => fun
  | [d1, d2] => { results := [.lit (.bool false)], args := [d1, d2] }
  | _ => none }
def AtomMoreWrongFalsely : Prop := atomMoreRow.holds Try.pinned (OpenSpec.ofChange atomMoreWrong)

/-- 'caesuralaw02.AtomTurned': WHATEVER THE INPUT: true; the input reads as it did. -/
def atomTurnedSpec : ChangeSpec := { name := "atomTurned", fn := fun _ => fun
  | [d1, d2] => { results := [.lit (.bool true)], args := [d1, d2] }
  | _ => none }
def atomTurnedRow : OpenClaim := { program := "ytippkbgeeeimjaa", sum := "bb437ebf5dfdfffa4313633ee3bbe8ae79e7e82ae0a0d4b30e369e129577e528", func := "caesura/caesuralaw02.AtomTurned", spec := "atomTurned", unfollowed := true, recurses := true, apart := false }
def AtomTurnedSaid : Prop := atomTurnedRow.holds Try.pinned (OpenSpec.ofChange atomTurnedSpec)

/-- ITS FALSE NEIGHBOUR: 'it returns false'. Refute it at one input. -/
def atomTurnedWrong : ChangeSpec := { name := "atomTurned", fn := fun _ => fun
  | [d1, d2] => { results := [.lit (.bool false)], args := [d1, d2] }
  | _ => none }
def AtomTurnedWrongFalsely : Prop := atomTurnedRow.holds Try.pinned (OpenSpec.ofChange atomTurnedWrong)

/-- 'caesuralaw02.AtomWithin': WHATEVER THE INPUT: true; the input reads as it did. -/
def atomWithinSpec : ChangeSpec := { name := "atomWithin", fn := fun _ => fun
  | [d1, d2] => { results := [.lit (.bool true)], args := [d1, d2] }
  | _ => none }
def atomWithinRow : OpenClaim := { program := "ytippkbgeeeimjaa", sum := "bb437ebf5dfdfffa4313633ee3bbe8ae79e7e82ae0a0d4b30e369e129577e528", func := "caesura/caesuralaw02.AtomWithin", spec := "atomWithin", unfollowed := true, recurses := true, apart := false }
def AtomWithinSaid : Prop := atomWithinRow.holds Try.pinned (OpenSpec.ofChange atomWithinSpec)

/-- ITS FALSE NEIGHBOUR: 'it returns false'. Refute it at one input. -/
def atomWithinWrong : ChangeSpec := { name := "atomWithin", fn := fun _ => fun
  | [d1, d2] => { results := [.lit (.bool false)], args := [d1, d2] }
  | _ => none }
def AtomWithinWrongFalsely : Prop := atomWithinRow.holds Try.pinned (OpenSpec.ofChange atomWithinWrong)

/- THE SECOND FORM. 'bulk': how many values and letters a reading holds, each counted each time it is reached (what is shared counts as often as it is met; a slice's spare places count too). A statement '..UptoSaid' is the law's where the arguments, and the package variables that the reading takes, are together of bulk at most 1048576: NARROWER than '..Said'. Prove '..Said' where nothing that the law and all that it calls make is longer than what came in: it says more and counts as full. Else prove '..UptoSaid'. A law counts once. -/
mutual
def uptoBulk {H : Type} : DataW H → Nat
  | .lit (.string bytes) => bytes.length + 1
  | .lit _ => 1
  | .nil => 1
  | .ptr d => uptoBulk d + 1
  | .slice elems spare => uptoBulkAll elems + uptoBulkAll spare + 1
  | .agg parts => uptoBulkAll parts + 1
  | .iface _ d => uptoBulk d + 1
  | .map entries => uptoBulkEntries entries + 1
  | .held _ => 1
def uptoBulkAll {H : Type} : List (DataW H) → Nat
  | [] => 0
  | d :: r => uptoBulk d + uptoBulkAll r
def uptoBulkEntries {H : Type} : List (Lit × DataW H) → Nat
  | [] => 0
  | x :: r => uptoBulkEntry x + uptoBulkEntries r
def uptoBulkEntry {H : Type} : Lit × DataW H → Nat
  | (.string bytes, d) => bytes.length + uptoBulk d + 1
  | (_, d) => uptoBulk d + 1
 end
def uptoSmall : (H : Type) → List (DataW H) → Bool := fun _ ds => decide (uptoBulkAll ds ≤ 1048576)
def OpenSpec.upto (s : _root_.Go.ChangeSpec) : _root_.Go.OpenSpec := { _root_.Go.OpenSpec.ofChange s with cond := some uptoSmall }

/-- 'caesuralaw01.SpanAnswers', WHERE WHAT IT READS IS OF BULK AT MOST 1048576: true; the input reads as it did. -/
def spanAnswersUptoRow : OpenClaim := { program := "ytippkbgeeeimjaa", sum := "bb437ebf5dfdfffa4313633ee3bbe8ae79e7e82ae0a0d4b30e369e129577e528", func := "caesura/caesuralaw01.SpanAnswers", spec := "spanAnswers", unfollowed := true, recurses := true, apart := false, narrowed := true }
def SpanAnswersUptoSaid : Prop := spanAnswersUptoRow.holds Try.pinned (OpenSpec.upto spanAnswersSpec)

/-- 'caesuralaw01.SpanLaws', WHERE WHAT IT READS IS OF BULK AT MOST 1048576: true; the input reads as it did. -/
def spanLawsUptoRow : OpenClaim := { program := "ytippkbgeeeimjaa", sum := "bb437ebf5dfdfffa4313633ee3bbe8ae79e7e82ae0a0d4b30e369e129577e528", func := "caesura/caesuralaw01.SpanLaws", spec := "spanLaws", unfollowed := true, recurses := true, apart := false, narrowed := true }
def SpanLawsUptoSaid : Prop := spanLawsUptoRow.holds Try.pinned (OpenSpec.upto spanLawsSpec)

/-- 'caesuralaw01.SpanOrders', WHERE WHAT IT READS IS OF BULK AT MOST 1048576: true; the input reads as it did. -/
def spanOrdersUptoRow : OpenClaim := { program := "ytippkbgeeeimjaa", sum := "bb437ebf5dfdfffa4313633ee3bbe8ae79e7e82ae0a0d4b30e369e129577e528", func := "caesura/caesuralaw01.SpanOrders", spec := "spanOrders", unfollowed := true, recurses := true, apart := false, narrowed := true }
def SpanOrdersUptoSaid : Prop := spanOrdersUptoRow.holds Try.pinned (OpenSpec.upto spanOrdersSpec)

/-- 'caesuralaw01.SpanFirsts', WHERE WHAT IT READS IS OF BULK AT MOST 1048576: true; the input reads as it did. -/
def spanFirstsUptoRow : OpenClaim := { program := "ytippkbgeeeimjaa", sum := "bb437ebf5dfdfffa4313633ee3bbe8ae79e7e82ae0a0d4b30e369e129577e528", func := "caesura/caesuralaw01.SpanFirsts", spec := "spanFirsts", unfollowed := true, recurses := true, apart := false, narrowed := true }
def SpanFirstsUptoSaid : Prop := spanFirstsUptoRow.holds Try.pinned (OpenSpec.upto spanFirstsSpec)

/-- 'caesuralaw02.AtomParts', WHERE WHAT IT READS IS OF BULK AT MOST 1048576: true; the input reads as it did. -/
def atomPartsUptoRow : OpenClaim := { program := "ytippkbgeeeimjaa", sum := "bb437ebf5dfdfffa4313633ee3bbe8ae79e7e82ae0a0d4b30e369e129577e528", func := "caesura/caesuralaw02.AtomParts", spec := "atomParts", unfollowed := true, recurses := true, apart := false, narrowed := true }
def AtomPartsUptoSaid : Prop := atomPartsUptoRow.holds Try.pinned (OpenSpec.upto atomPartsSpec)

/-- 'caesuralaw02.AtomMore', WHERE WHAT IT READS IS OF BULK AT MOST 1048576: true; the input reads as it did. -/
def atomMoreUptoRow : OpenClaim := { program := "ytippkbgeeeimjaa", sum := "bb437ebf5dfdfffa4313633ee3bbe8ae79e7e82ae0a0d4b30e369e129577e528", func := "caesura/caesuralaw02.AtomMore", spec := "atomMore", unfollowed := true, recurses := true, apart := false, narrowed := true }
def AtomMoreUptoSaid : Prop := atomMoreUptoRow.holds Try.pinned (OpenSpec.upto atomMoreSpec)

/-- 'caesuralaw02.AtomTurned', WHERE WHAT IT READS IS OF BULK AT MOST 1048576: true; the input reads as it did. -/
def atomTurnedUptoRow : OpenClaim := { program := "ytippkbgeeeimjaa", sum := "bb437ebf5dfdfffa4313633ee3bbe8ae79e7e82ae0a0d4b30e369e129577e528", func := "caesura/caesuralaw02.AtomTurned", spec := "atomTurned", unfollowed := true, recurses := true, apart := false, narrowed := true }
def AtomTurnedUptoSaid : Prop := atomTurnedUptoRow.holds Try.pinned (OpenSpec.upto atomTurnedSpec)

/-- 'caesuralaw02.AtomWithin', WHERE WHAT IT READS IS OF BULK AT MOST 1048576: true; the input reads as it did. -/
def atomWithinUptoRow : OpenClaim := { program := "ytippkbgeeeimjaa", sum := "bb437ebf5dfdfffa4313633ee3bbe8ae79e7e82ae0a0d4b30e369e129577e528", func := "caesura/caesuralaw02.AtomWithin", spec := "atomWithin", unfollowed := true, recurses := true, apart := false, narrowed := true }
def AtomWithinUptoSaid : Prop := atomWithinUptoRow.holds Try.pinned (OpenSpec.upto atomWithinSpec)

end Rows
end Go.Proofs.Ytippkbgeeeimjaa
