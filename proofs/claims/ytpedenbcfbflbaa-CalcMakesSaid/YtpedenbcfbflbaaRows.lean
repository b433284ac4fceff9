/-
  No cell of these rows narrows 'for every input' (looked for: loops, veiled, ifaces, maps, wideKeys, modest, calm, conditions, laid).
  DERIVED. THE GIVEN ROWS OF THIS SEAT. 9 by the template 'for every input the law returns true; each argument reads behind the call as it read before'; 0 by the template 'total and deterministic' (their statements: YtpedenbcfbflbaaTotals.lean).
  GIVEN WITH THE SEED: the statements are not yours to turn. If you find one false, say at which input.
  Laid BY PROGRAM, IN A SANDBOX (cutbox-rows.mjs): the forced cells as the released guide's own fill.sh prints them over the translation dd75de218738f5d3… (all of the seat's roots in one cut). By AI agents, Wed Nov 11 2026. No macro, syntax, notation, axiom, sorry.
-/
import Derived.Test.YtpedenbcfbflbaaChecked
import GoSem.Claim
import GoSem.ClaimJoined
import GoSem.ClaimMapViews
import Derived.JoinedTies
import Derived.KernelRfl
namespace Go.Proofs.Ytpedenbcfbflbaa
/- THE CELL 'sum', in the pinned program and in every row, IS THE sha256 OF THE DUMP (.gsa) THAT YtpedenbcfbflbaaProg.lean LOADS. Nothing in Lean hashes anything: it is a label: what it is worth is what the hold of that sum in a sandbox is worth. -/
noncomputable def Try.pinned : Pinned := { name := "ytpedenbcfbflbaa", sum := "dd75de218738f5d3afbe28bb7237d74fddace88800dc92d51c609acbe565d62e", checked := Try.checked }
namespace Rows
def none {H : Type} : Left H := { results := [], args := [] }

/-- 'caesuralaw19.MarkMakes': WHATEVER THE INPUT: true; the input reads as it did. -/
def markMakesSpec : ChangeSpec := { name := "markMakes", fn := fun _ => fun
  | [d1, d2, d3] => { results := [.lit (.bool true)], args := [d1, d2, d3] }
  | _ => none }
def markMakesRow : OpenClaim := { program := "ytpedenbcfbflbaa", sum := "dd75de218738f5d3afbe28bb7237d74fddace88800dc92d51c609acbe565d62e", func := "caesura/caesuralaw19.MarkMakes", spec := "markMakes", unfollowed := true, recurses := true, plainKeys := false, apart := false }
def MarkMakesSaid : Prop := markMakesRow.holds Try.pinned (OpenSpec.ofChange markMakesSpec)

/-- ITS FALSE NEIGHBOUR: 'it returns false'. Refute it at one input. -/
def markMakesWrong : ChangeSpec := { name := "markMakes", fn := fun _ => fun
  | [d1, d2, d3] => { results := [.lit (.bool false)], args := [d1, d2, d3] }
  | _ => none }
def MarkMakesWrongFalsely : Prop := markMakesRow.holds Try.pinned (OpenSpec.ofChange markMakesWrong)

/-- 'caesuralaw19.MarkAnswers': WHATEVER THE INPUT: true; the input reads as it did. -/
def markAnswersSpec : ChangeSpec := { name := "markAnswers", fn := fun _ => fun
  | [d1, d2] => { results := [.lit (.bool true)], args := [d1, d2] }
  | _ => none }
def markAnswersRow : OpenClaim := { program := "ytpedenbcfbflbaa", sum := "dd75de218738f5d3afbe28bb7237d74fddace88800dc92d51c609acbe565d62e", func := "caesura/caesuralaw19.MarkAnswers", spec := "markAnswers", unfollowed := true, recurses := true, plainKeys := false, apart := false }
def MarkAnswersSaid : Prop := markAnswersRow.holds Try.pinned (OpenSpec.ofChange markAnswersSpec)

/-- ITS FALSE NEIGHBOUR: 'it returns false'. Refute it at one input. -/
def markAnswersWrong : ChangeSpec := { name := "markAnswers", fn := fun _ => fun
  | [d1, d2] => { results := [.lit (.bool false)], args := [d1, d2] }
  | _ => none }
def MarkAnswersWrongFalsely : Prop := markAnswersRow.holds Try.pinned (OpenSpec.ofChange markAnswersWrong)

/-- 'caesuralaw19.MarkSides': WHATEVER THE INPUT: true; the input reads as it did. -/
def markSidesSpec : ChangeSpec := { name := "markSides", fn := fun _ => fun
  | [d1, d2, d3] => { results := [.lit (.bool true)], args := [d1, d2, d3] }
  | _ => none }
def markSidesRow : OpenClaim := { program := "ytpedenbcfbflbaa", sum := "dd75de218738f5d3afbe28bb7237d74fddace88800dc92d51c609acbe565d62e", func := "caesura/caesuralaw19.MarkSides", spec := "markSides", unfollowed := true, recurses := true, plainKeys := false, apart := false }
def MarkSidesSaid : Prop := markSidesRow.holds Try.pinned (OpenSpec.ofChange markSidesSpec)

/-- ITS FALSE NEIGHBOUR: 'it returns false'. Refute it at one input. -/
def markSidesWrong : ChangeSpec := { name := "markSides", fn := fun _ => fun
  | [d1, d2, d3] => { results := [.lit (.bool false)], args := [d1, d2, d3] }
  | _ => none }
def MarkSidesWrongFalsely : Prop := markSidesRow.holds Try.pinned (OpenSpec.ofChange markSidesWrong)

/-- 'caesuralaw19.MarkWrites': WHATEVER THE INPUT: true; the input reads as it did. -/
def markWritesSpec : ChangeSpec := { name := "markWrites", fn := fun _ => fun
  | [d1, d2, d3] => { results := [.lit (.bool true)], args := [d1, d2, d3] }
  | _ => none }
def markWritesRow : OpenClaim := { program := "ytpedenbcfbflbaa", sum := "dd75de218738f5d3afbe28bb7237d74fddace88800dc92d51c609acbe565d62e", func := "caesura/caesuralaw19.MarkWrites", spec := "markWrites", unfollowed := true, recurses := true, plainKeys := false, apart := false }
def MarkWritesSaid : Prop := markWritesRow.holds Try.pinned (OpenSpec.ofChange markWritesSpec)

/-- ITS FALSE NEIGHBOUR: 'it returns false'. Refute it at one input. -/
def markWritesWrong : ChangeSpec := { name := "markWrites", fn := fun _ => fun
  | [d1, d2, d3] => { results := [.lit (.bool false)], args := [d1, d2, d3] }
  | _ => none }
def MarkWritesWrongFalsely : Prop := markWritesRow.holds Try.pinned (OpenSpec.ofChange markWritesWrong)

/-- 'caesuralaw19.MarkOne': WHATEVER THE INPUT: true; the input reads as it did. -/
def markOneSpec : ChangeSpec := { name := "markOne", fn := fun _ => fun
  | [d1, d2] => { results := [.lit (.bool true)], args := [d1, d2] }
  | _ => none }
def markOneRow : OpenClaim := { program := "ytpedenbcfbflbaa", sum := "dd75de218738f5d3afbe28bb7237d74fddace88800dc92d51c609acbe565d62e", func := "caesura/caesuralaw19.MarkOne", spec := "markOne", unfollowed := true, recurses := true, plainKeys := false, apart := false }
def MarkOneSaid : Prop := markOneRow.holds Try.pinned (OpenSpec.ofChange markOneSpec)

/-- ITS FALSE NEIGHBOUR: 'it returns false'. Refute it at one input. -/
def markOneWrong : ChangeSpec := { name := "markOne", fn := fun _ => fun
  | [d1, d2] => { results := [.lit (.bool false)], args := [d1, d2] }
  | _ => none }
def MarkOneWrongFalsely : Prop := markOneRow.holds Try.pinned (OpenSpec.ofChange markOneWrong)

/-- 'caesuralaw16.CalcMakes': WHATEVER THE INPUT: true; the input reads as it did. -/
def calcMakesSpec : ChangeSpec := { name := "calcMakes", fn := fun _ => fun
  | [d1, d2, d3] => { results := [.lit (.bool true)], args := [d1, d2, d3] }
  | _ => none }
def calcMakesRow : OpenClaim := { program := "ytpedenbcfbflbaa", sum := "dd75de218738f5d3afbe28bb7237d74fddace88800dc92d51c609acbe565d62e", func := "caesura/caesuralaw16.CalcMakes", spec := "calcMakes", unfollowed := true, recurses := true, plainKeys := false, apart := false }
def CalcMakesSaid : Prop := calcMakesRow.holds Try.pinned (OpenSpec.ofChange calcMakesSpec)

/-- ITS FALSE NEIGHBOUR: 'it returns false'. Refute it at one input. -/
def calcMakesWrong : ChangeSpec := { name := "calcMakes", fn := fun _ => fun
  | [d1, d2, d3] => { results := [.lit (.bool false)], args := [d1, d2, d3] }
  | _ => none }
def CalcMakesWrongFalsely : Prop := calcMakesRow.holds Try.pinned (OpenSpec.ofChange calcMakesWrong)

/-- 'caesuralaw16.CalcAnswers': WHATEVER THE INPUT: true; the input reads as it did. -/
def calcAnswersSpec : ChangeSpec := { name := "calcAnswers", fn := fun _ => fun
  | [d1, d2] => { results := [.lit (.bool true)], args := [d1, d2] }
  | _ => none }
def calcAnswersRow : OpenClaim := { program := "ytpedenbcfbflbaa", sum := "dd75de218738f5d3afbe28bb7237d74fddace88800dc92d51c609acbe565d62e", func := "caesura/caesuralaw16.CalcAnswers", spec := "calcAnswers", unfollowed := true, recurses := true, plainKeys := false, apart := false }
def CalcAnswersSaid : Prop := calcAnswersRow.holds Try.pinned (OpenSpec.ofChange calcAnswersSpec)

/-- ITS FALSE NEIGHBOUR: 'it returns false'. Refute it at one input. -/
def calcAnswersWrong : ChangeSpec := { name := "calcAnswers", fn := fun _ => fun
  | [d1, d2] => { results := [.lit (.bool false)], args := [d1, d2] }
  | _ => none }
def CalcAnswersWrongFalsely : Prop := calcAnswersRow.holds Try.pinned (OpenSpec.ofChange calcAnswersWrong)

/-- 'caesuralaw16.CalcSets': WHATEVER THE INPUT: true; the input reads as it did. -/
def calcSetsSpec : ChangeSpec := { name := "calcSets", fn := fun _ => fun
  | [d1, d2, d3] => { results := [.lit (.bool true)], args := [d1, d2, d3] }
  | _ => none }
def calcSetsRow : OpenClaim := { program := "ytpedenbcfbflbaa", sum := "dd75de218738f5d3afbe28bb7237d74fddace88800dc92d51c609acbe565d62e", func := "caesura/caesuralaw16.CalcSets", spec := "calcSets", unfollowed := true, recurses := true, plainKeys := false, apart := false }
def CalcSetsSaid : Prop := calcSetsRow.holds Try.pinned (OpenSpec.ofChange calcSetsSpec)

/-- ITS FALSE NEIGHBOUR: 'it returns false'. Refute it at one input. -/
def calcSetsWrong : ChangeSpec := { name := "calcSets", fn := fun _ => fun
  | [d1, d2, d3] => { results := [.lit (.bool false)], args := [d1, d2, d3] }
  | _ => none }
def CalcSetsWrongFalsely : Prop := calcSetsRow.holds Try.pinned (OpenSpec.ofChange calcSetsWrong)

/-- 'caesuralaw16.CalcLaws': WHATEVER THE INPUT: true; the input reads as it did. -/
def calcLawsSpec : ChangeSpec := { name := "calcLaws", fn := fun _ => fun
  | [d1, d2] => { results := [.lit (.bool true)], args := [d1, d2] }
  | _ => none }
def calcLawsRow : OpenClaim := { program := "ytpedenbcfbflbaa", sum := "dd75de218738f5d3afbe28bb7237d74fddace88800dc92d51c609acbe565d62e", func := "caesura/caesuralaw16.CalcLaws", spec := "calcLaws", unfollowed := true, recurses := true, plainKeys := false, apart := false }
def CalcLawsSaid : Prop := calcLawsRow.holds Try.pinned (OpenSpec.ofChange calcLawsSpec)

/-- ITS FALSE NEIGHBOUR: 'it returns false'. Refute it at one input. -/
def calcLawsWrong : ChangeSpec := { name := "calcLaws", fn := fun _ => fun
  | [d1, d2] => { results := [.lit (.bool false)], args := [d1, d2] }
  | _ => none }
def CalcLawsWrongFalsely : Prop := calcLawsRow.holds Try.pinned (OpenSpec.ofChange calcLawsWrong)

/- THE SECOND FORM. 'bulk': how many values and letters a reading holds, each counted each time it is reached (what is shared counts as often as it is met; a slice's spare places count too). A statement '..UptoSaid' is the law's where the arguments, and the package variables that the reading takes, are together of bulk at most 1048576: NARROWER than '..Said'. Prove '..Said' where nothing that the law and all that it calls make is longer than what came in: it says more and counts as full. Else prove '..UptoSaid'. A law counts once. -/
mutual
def uptoBulk {H : Type} : DataW H → Nat
  | .lit (.string bytes) => bytes.length + 1
  | .lit _ => 1
  | .nil => 1
  | .ptr d => uptoBulk d + 1
  | .slice elems spare => uptoBulkAll elems + uptoBulkAll spare + 1
  | .agg parts => uptoBulkAll parts + 1
  | .iface _ d => uptoBulk d + 1
  | .map entries => uptoBulkEntries entries + 1
  | .held _ => 1
def uptoBulkAll {H : Type} : List (DataW H) → Nat
  | [] => 0
  | d :: r => uptoBulk d + uptoBulkAll r
def uptoBulkEntries {H : Type} : List (Lit × DataW H) → Nat
  | [] => 0
  | x :: r => uptoBulkEntry x + uptoBulkEntries r
def uptoBulkEntry {H : Type} : Lit × DataW H → Nat
  | (.string bytes, d) => bytes.length + uptoBulk d + 1
  | (_, d) => uptoBulk d + 1
 end
def uptoSmall : (H : Type) → List (DataW H) → Bool := fun _ ds => decide (uptoBulkAll ds ≤ 1048576)
def OpenSpec.upto (s : _root_.Go.ChangeSpec) : _root_.Go.OpenSpec := { _root_.Go.OpenSpec.ofChange s with cond := some uptoSmall }

/-- 'caesuralaw19.MarkMakes', WHERE WHAT IT READS IS OF BULK AT MOST 1048576: true; the input reads as it did. -/
def markMakesUptoRow : OpenClaim := { program := "ytpedenbcfbflbaa", sum := "dd75de218738f5d3afbe28bb7237d74fddace88800dc92d51c609acbe565d62e", func := "caesura/caesuralaw19.MarkMakes", spec := "markMakes", unfollowed := true, recurses := true, plainKeys := false, apart := false, narrowed := true }
def MarkMakesUptoSaid : Prop := markMakesUptoRow.holds Try.pinned (OpenSpec.upto markMakesSpec)

/-- 'caesuralaw19.MarkAnswers', WHERE WHAT IT READS IS OF BULK AT MOST 1048576: true; the input reads as it did. -/
def markAnswersUptoRow : OpenClaim := { program := "ytpedenbcfbflbaa", sum := "dd75de218738f5d3afbe28bb7237d74fddace88800dc92d51c609acbe565d62e", func := "caesura/caesuralaw19.MarkAnswers", spec := "markAnswers", unfollowed := true, recurses := true, plainKeys := false, apart := false, narrowed := true }
def MarkAnswersUptoSaid : Prop := markAnswersUptoRow.holds Try.pinned (OpenSpec.upto markAnswersSpec)

/-- 'caesuralaw19.MarkSides', WHERE WHAT IT READS IS OF BULK AT MOST 1048576: true; the input reads as it did. -/
def markSidesUptoRow : OpenClaim := { program := "ytpedenbcfbflbaa", sum := "dd75de218738f5d3afbe28bb7237d74fddace88800dc92d51c609acbe565d62e", func := "caesura/caesuralaw19.MarkSides", spec := "markSides", unfollowed := true, recurses := true, plainKeys := false, apart := false, narrowed := true }
def MarkSidesUptoSaid : Prop := markSidesUptoRow.holds Try.pinned (OpenSpec.upto markSidesSpec)

/-- 'caesuralaw19.MarkWrites', WHERE WHAT IT READS IS OF BULK AT MOST 1048576: true; the input reads as it did. -/
def markWritesUptoRow : OpenClaim := { program := "ytpedenbcfbflbaa", sum := "dd75de218738f5d3afbe28bb7237d74fddace88800dc92d51c609acbe565d62e", func := "caesura/caesuralaw19.MarkWrites", spec := "markWrites", unfollowed := true, recurses := true, plainKeys := false, apart := false, narrowed := true }
def MarkWritesUptoSaid : Prop := markWritesUptoRow.holds Try.pinned (OpenSpec.upto markWritesSpec)

/-- 'caesuralaw19.MarkOne', WHERE WHAT IT READS IS OF BULK AT MOST 1048576: true; the input reads as it did. -/
def markOneUptoRow : OpenClaim := { program := "ytpedenbcfbflbaa", sum := "dd75de218738f5d3afbe28bb7237d74fddace88800dc92d51c609acbe565d62e", func := "caesura/caesuralaw19.MarkOne", spec := "markOne", unfollowed := true, recurses := true, plainKeys := false, apart := false, narrowed := true }
def MarkOneUptoSaid : Prop := markOneUptoRow.holds Try.pinned (OpenSpec.upto markOneSpec)

/-- 'caesuralaw16.CalcMakes', WHERE WHAT IT READS IS OF BULK AT MOST 1048576: true; the input reads as it did. -/
def calcMakesUptoRow : OpenClaim := { program := "ytpedenbcfbflbaa", sum := "dd75de218738f5d3afbe28bb7237d74fddace88800dc92d51c609acbe565d62e", func := "caesura/caesuralaw16.CalcMakes", spec := "calcMakes", unfollowed := true, recurses := true, plainKeys := false, apart := false, narrowed := true }
def CalcMakesUptoSaid : Prop := calcMakesUptoRow.holds Try.pinned (OpenSpec.upto calcMakesSpec)

/-- 'caesuralaw16.CalcAnswers', WHERE WHAT IT READS IS OF BULK AT MOST 1048576: true; the input reads as it did. -/
def calcAnswersUptoRow : OpenClaim := { program := "ytpedenbcfbflbaa", sum := "dd75de218738f5d3afbe28bb7237d74fddace88800dc92d51c609acbe565d62e", func := "caesura/caesuralaw16.CalcAnswers", spec := "calcAnswers", unfollowed := true, recurses := true, plainKeys := false, apart := false, narrowed := true }
def CalcAnswersUptoSaid : Prop := calcAnswersUptoRow.holds Try.pinned (OpenSpec.upto calcAnswersSpec)

/-- 'caesuralaw16.CalcSets', WHERE WHAT IT READS IS OF BULK AT MOST 1048576: true; the input reads as it did. -/
def calcSetsUptoRow : OpenClaim := { program := "ytpedenbcfbflbaa", sum := "dd75de218738f5d3afbe28bb7237d74fddace88800dc92d51c609acbe565d62e", func := "caesura/caesuralaw16.CalcSets", spec := "calcSets", unfollowed := true, recurses := true, plainKeys := false, apart := false, narrowed := true }
def CalcSetsUptoSaid : Prop := calcSetsUptoRow.holds Try.pinned (OpenSpec.upto calcSetsSpec)

/-- 'caesuralaw16.CalcLaws', WHERE WHAT IT READS IS OF BULK AT MOST 1048576: true; the input reads as it did. -/
def calcLawsUptoRow : OpenClaim := { program := "ytpedenbcfbflbaa", sum := "dd75de218738f5d3afbe28bb7237d74fddace88800dc92d51c609acbe565d62e", func := "caesura/caesuralaw16.CalcLaws", spec := "calcLaws", unfollowed := true, recurses := true, plainKeys := false, apart := false, narrowed := true }
def CalcLawsUptoSaid : Prop := calcLawsUptoRow.holds Try.pinned (OpenSpec.upto calcLawsSpec)

end Rows
end Go.Proofs.Ytpedenbcfbflbaa
