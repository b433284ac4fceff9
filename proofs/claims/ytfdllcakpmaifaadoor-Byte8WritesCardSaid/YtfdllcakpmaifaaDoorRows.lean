/-
  NARROWER THAN 'FOR EVERY INPUT', by the rows' own cells (each row's printed sentence says how): Byte8Reads: laid · Byte8Writes: laid · Byte8Back: laid · Byte8Lines: laid · Byte8Joins: laid.
  DERIVED. THE GIVEN ROWS OF THIS SEAT. 5 by the template 'for every input the law returns true; each argument reads behind the call as it read before'; 0 by the template 'total and deterministic' (their statements: YtfdllcakpmaifaaDoorTotals.lean).
  GIVEN WITH THE SEED: the statements are not yours to turn. If you find one false, say at which input.
  Laid BY PROGRAM, IN A SANDBOX (cutbox-rows.mjs): the forced cells as the released guide's own fill.sh prints them over the translation cae41a6695751e24… (all of the seat's roots in one cut). By AI agents, Wed Nov 11 2026. No macro, syntax, notation, axiom, sorry.
-/
import Derived.Test.YtfdllcakpmaifaaDoorChecked
import GoSem.PinnedTables
import GoSem.Claim
import GoSem.ClaimJoined
import GoSem.ClaimMapViews
import Derived.JoinedTies
import Derived.KernelRfl
namespace Go.Proofs.YtfdllcakpmaifaaDoor
/- THE CELL 'sum', in the pinned program and in every row, IS THE sha256 OF THE DUMP (.gsa) THAT YtfdllcakpmaifaaDoorProg.lean LOADS. Nothing in Lean hashes anything: it is a label: what it is worth is what the hold of that sum in a sandbox is worth. -/
noncomputable def Tryd.pinned : Pinned := { name := "ytfdllcakpmaifaadoor", sum := "cae41a6695751e24766216485decfa78315e09260d74e3e905f5d707961c4e7e", checked := Tryd.checked }
namespace Rows
def none {H : Type} : Left H := { results := [], args := [] }

/- WHAT THE LISTED PACKAGE-LEVEL VARIABLES READ AS WHEN THE CALL BEGINS. Each datum BY PROGRAM (the guide's laid-datum.mjs) off the statement by which the dump's own 'gosem.cut.vars' lays the variable. In a bare row this is a premise. The card (YtfdllcakpmaifaaDoorCards.lean) ties it to the program's text. -/
def laid_unicode_utf8_acceptRanges {H : Type} : DataW H := .agg [.agg [.lit (.int .u8 128), .lit (.int .u8 191)], .agg [.lit (.int .u8 160), .lit (.int .u8 191)], .agg [.lit (.int .u8 128), .lit (.int .u8 159)], .agg [.lit (.int .u8 144), .lit (.int .u8 191)], .agg [.lit (.int .u8 128), .lit (.int .u8 143)], .agg [.lit (.int .u8 0), .lit (.int .u8 0)], .agg [.lit (.int .u8 0), .lit (.int .u8 0)], .agg [.lit (.int .u8 0), .lit (.int .u8 0)], .agg [.lit (.int .u8 0), .lit (.int .u8 0)], .agg [.lit (.int .u8 0), .lit (.int .u8 0)], .agg [.lit (.int .u8 0), .lit (.int .u8 0)], .agg [.lit (.int .u8 0), .lit (.int .u8 0)], .agg [.lit (.int .u8 0), .lit (.int .u8 0)], .agg [.lit (.int .u8 0), .lit (.int .u8 0)], .agg [.lit (.int .u8 0), .lit (.int .u8 0)], .agg [.lit (.int .u8 0), .lit (.int .u8 0)]]
/-- One of Go's own tables, pinned by name: the form's constant. -/
def laid_unicode_utf8_first : DataW Unit := Go.Pinned.utf8First

/-- 'caesuralaw03.Byte8Reads': WHATEVER THE INPUT: true; the input reads as it did. -/
def byte8ReadsSpec : ChangeSpec := { name := "byte8Reads", fn := fun _ => fun
  | [d1, d2] => { results := [.lit (.bool true)], args := [d1, d2] }
  | _ => none }
def byte8ReadsRow : OpenClaim := { program := "ytfdllcakpmaifaadoor", sum := "cae41a6695751e24766216485decfa78315e09260d74e3e905f5d707961c4e7e", func := "caesura/caesuralaw03.Byte8Reads", spec := "byte8Reads", inPlace := ["internal/bytealg.Count", "internal/bytealg.IndexByte", "internal/bytealg.Index"], named := ["unicode/utf8.first", "unicode/utf8.acceptRanges", "internal/bytealg.MaxLen"], apart := false, laid := [("unicode/utf8.acceptRanges", laid_unicode_utf8_acceptRanges), ("unicode/utf8.first", laid_unicode_utf8_first)] }
def Byte8ReadsSaid : Prop := byte8ReadsRow.holds Tryd.pinned (OpenSpec.ofChange byte8ReadsSpec)

/-- ITS FALSE NEIGHBOUR: 'it returns false'. Refute it at one input. -/
def byte8ReadsWrong : ChangeSpec := { name := "byte8Reads", fn := fun _ => fun
  | [d1, d2] => { results := [.lit (.bool false)], args := [d1, d2] }
  | _ => none }
def Byte8ReadsWrongFalsely : Prop := byte8ReadsRow.holds Tryd.pinned (OpenSpec.ofChange byte8ReadsWrong)

/-- 'caesuralaw03.Byte8Writes': WHATEVER THE INPUT: true; the input reads as it did. -/
def byte8WritesSpec : ChangeSpec := { name := "byte8Writes", fn := fun _ => fun
  | [d] => { results := [.lit (.bool true)], args := [d] }
  | _ => none }
def byte8WritesRow : OpenClaim := { program := "ytfdllcakpmaifaadoor", sum := "cae41a6695751e24766216485decfa78315e09260d74e3e905f5d707961c4e7e", func := "caesura/caesuralaw03.Byte8Writes", spec := "byte8Writes", inPlace := ["internal/bytealg.Count", "internal/bytealg.IndexByte", "internal/bytealg.Index"], named := ["unicode/utf8.first", "unicode/utf8.acceptRanges", "internal/bytealg.MaxLen"], apart := false, laid := [("unicode/utf8.acceptRanges", laid_unicode_utf8_acceptRanges), ("unicode/utf8.first", laid_unicode_utf8_first)] }
def Byte8WritesSaid : Prop := byte8WritesRow.holds Tryd.pinned (OpenSpec.ofChange byte8WritesSpec)

/-- ITS FALSE NEIGHBOUR: 'it returns false'. Refute it at one input. -/
def byte8WritesWrong : ChangeSpec := { name := "byte8Writes", fn := fun _ => fun
  | [d] => { results := [.lit (.bool false)], args := [d] }
  | _ => none }
def Byte8WritesWrongFalsely : Prop := byte8WritesRow.holds Tryd.pinned (OpenSpec.ofChange byte8WritesWrong)

/-- 'caesuralaw03.Byte8Back': WHATEVER THE INPUT: true; the input reads as it did. -/
def byte8BackSpec : ChangeSpec := { name := "byte8Back", fn := fun _ => fun
  | [d1, d2] => { results := [.lit (.bool true)], args := [d1, d2] }
  | _ => none }
def byte8BackRow : OpenClaim := { program := "ytfdllcakpmaifaadoor", sum := "cae41a6695751e24766216485decfa78315e09260d74e3e905f5d707961c4e7e", func := "caesura/caesuralaw03.Byte8Back", spec := "byte8Back", inPlace := ["internal/bytealg.Count", "internal/bytealg.IndexByte", "internal/bytealg.Index"], named := ["unicode/utf8.first", "unicode/utf8.acceptRanges", "internal/bytealg.MaxLen"], apart := false, laid := [("unicode/utf8.acceptRanges", laid_unicode_utf8_acceptRanges), ("unicode/utf8.first", laid_unicode_utf8_first)] }
def Byte8BackSaid : Prop := byte8BackRow.holds Tryd.pinned (OpenSpec.ofChange byte8BackSpec)

/-- ITS FALSE NEIGHBOUR: 'it returns false'. Refute it at one input. -/
def byte8BackWrong : ChangeSpec := { name := "byte8Back", fn := fun _ => fun
  | [d1, d2] => { results := [.lit (.bool false)], args := [d1, d2] }
  | _ => none }
def Byte8BackWrongFalsely : Prop := byte8BackRow.holds Tryd.pinned (OpenSpec.ofChange byte8BackWrong)

/-- 'caesuralaw03.Byte8Lines': WHATEVER THE INPUT: true; the input reads as it did. -/
def byte8LinesSpec : ChangeSpec := { name := "byte8Lines", fn := fun _ => fun
  | [d1, d2] => { results := [.lit (.bool true)], args := [d1, d2] }
  | _ => none }
def byte8LinesRow : OpenClaim := { program := "ytfdllcakpmaifaadoor", sum := "cae41a6695751e24766216485decfa78315e09260d74e3e905f5d707961c4e7e", func := "caesura/caesuralaw03.Byte8Lines", spec := "byte8Lines", inPlace := ["internal/bytealg.Count", "internal/bytealg.IndexByte", "internal/bytealg.Index"], named := ["unicode/utf8.first", "unicode/utf8.acceptRanges", "internal/bytealg.MaxLen"], apart := false, laid := [("unicode/utf8.acceptRanges", laid_unicode_utf8_acceptRanges), ("unicode/utf8.first", laid_unicode_utf8_first)] }
def Byte8LinesSaid : Prop := byte8LinesRow.holds Tryd.pinned (OpenSpec.ofChange byte8LinesSpec)

/-- ITS FALSE NEIGHBOUR: 'it returns false'. Refute it at one input. -/
def byte8LinesWrong : ChangeSpec := { name := "byte8Lines", fn := fun _ => fun
  | [d1, d2] => { results := [.lit (.bool false)], args := [d1, d2] }
  | _ => none }
def Byte8LinesWrongFalsely : Prop := byte8LinesRow.holds Tryd.pinned (OpenSpec.ofChange byte8LinesWrong)

/-- 'caesuralaw03.Byte8Joins': WHATEVER THE INPUT: true; the input reads as it did. -/
def byte8JoinsSpec : ChangeSpec := { name := "byte8Joins", fn := fun _ => fun
  | [d1, d2] => { results := [.lit (.bool true)], args := [d1, d2] }
  | _ => none }
def byte8JoinsRow : OpenClaim := { program := "ytfdllcakpmaifaadoor", sum := "cae41a6695751e24766216485decfa78315e09260d74e3e905f5d707961c4e7e", func := "caesura/caesuralaw03.Byte8Joins", spec := "byte8Joins", inPlace := ["internal/bytealg.Count", "internal/bytealg.IndexByte", "internal/bytealg.Index"], named := ["unicode/utf8.first", "unicode/utf8.acceptRanges", "internal/bytealg.MaxLen"], apart := false, laid := [("unicode/utf8.acceptRanges", laid_unicode_utf8_acceptRanges), ("unicode/utf8.first", laid_unicode_utf8_first)] }
def Byte8JoinsSaid : Prop := byte8JoinsRow.holds Tryd.pinned (OpenSpec.ofChange byte8JoinsSpec)

/-- ITS FALSE NEIGHBOUR: 'it returns false'. Refute it at one input. -/
def byte8JoinsWrong : ChangeSpec := { name := "byte8Joins", fn := fun _ => fun
  | [d1, d2] => { results := [.lit (.bool false)], args := [d1, d2] }
  | _ => none }
def Byte8JoinsWrongFalsely : Prop := byte8JoinsRow.holds Tryd.pinned (OpenSpec.ofChange byte8JoinsWrong)

/- THE SECOND FORM. 'bulk': how many values and letters a reading holds, each counted each time it is reached (what is shared counts as often as it is met; a slice's spare places count too). A statement '..UptoSaid' is the law's where the arguments, and the package variables that the reading takes, are together of bulk at most 1048576: NARROWER than '..Said'. Prove '..Said' where nothing that the law and all that it calls make is longer than what came in: it says more and counts as full. Else prove '..UptoSaid'. A law counts once. -/
mutual
def uptoBulk {H : Type} : DataW H → Nat
  | .lit (.string bytes) => bytes.length + 1
  | .lit _ => 1
  | .nil => 1
  | .ptr d => uptoBulk d + 1
  | .slice elems spare => uptoBulkAll elems + uptoBulkAll spare + 1
  | .agg parts => uptoBulkAll parts + 1
  | .iface _ d => uptoBulk d + 1
  | .map entries => uptoBulkEntries entries + 1
  | .held _ => 1
def uptoBulkAll {H : Type} : List (DataW H) → Nat
  | [] => 0
  | d :: r => uptoBulk d + uptoBulkAll r
def uptoBulkEntries {H : Type} : List (Lit × DataW H) → Nat
  | [] => 0
  | x :: r => uptoBulkEntry x + uptoBulkEntries r
def uptoBulkEntry {H : Type} : Lit × DataW H → Nat
  | (.string bytes, d) => bytes.length + uptoBulk d + 1
  | (_, d) => uptoBulk d + 1
 end
def uptoSmall : (H : Type) → List (DataW H) → Bool := fun _ ds => decide (uptoBulkAll ds ≤ 1048576)
def OpenSpec.upto (s : _root_.Go.ChangeSpec) : _root_.Go.OpenSpec := { _root_.Go.OpenSpec.ofChange s with cond := some uptoSmall }

/-- 'caesuralaw03.Byte8Reads', WHERE WHAT IT READS IS OF BULK AT MOST 1048576: true; the input reads as it did. -/
def byte8ReadsUptoRow : OpenClaim := { program := "ytfdllcakpmaifaadoor", sum := "cae41a6695751e24766216485decfa78315e09260d74e3e905f5d707961c4e7e", func := "caesura/caesuralaw03.Byte8Reads", spec := "byte8Reads", inPlace := ["internal/bytealg.Count", "internal/bytealg.IndexByte", "internal/bytealg.Index"], named := ["unicode/utf8.first", "unicode/utf8.acceptRanges", "internal/bytealg.MaxLen"], apart := false, laid := [("unicode/utf8.acceptRanges", laid_unicode_utf8_acceptRanges), ("unicode/utf8.first", laid_unicode_utf8_first)], narrowed := true }
def Byte8ReadsUptoSaid : Prop := byte8ReadsUptoRow.holds Tryd.pinned (OpenSpec.upto byte8ReadsSpec)

/-- 'caesuralaw03.Byte8Writes', WHERE WHAT IT READS IS OF BULK AT MOST 1048576: true; the input reads as it did. -/
def byte8WritesUptoRow : OpenClaim := { program := "ytfdllcakpmaifaadoor", sum := "cae41a6695751e24766216485decfa78315e09260d74e3e905f5d707961c4e7e", func := "caesura/caesuralaw03.Byte8Writes", spec := "byte8Writes", inPlace := ["internal/bytealg.Count", "internal/bytealg.IndexByte", "internal/bytealg.Index"], named := ["unicode/utf8.first", "unicode/utf8.acceptRanges", "internal/bytealg.MaxLen"], apart := false, laid := [("unicode/utf8.acceptRanges", laid_unicode_utf8_acceptRanges), ("unicode/utf8.first", laid_unicode_utf8_first)], narrowed := true }
def Byte8WritesUptoSaid : Prop := byte8WritesUptoRow.holds Tryd.pinned (OpenSpec.upto byte8WritesSpec)

/-- 'caesuralaw03.Byte8Back', WHERE WHAT IT READS IS OF BULK AT MOST 1048576: true; the input reads as it did. -/
def byte8BackUptoRow : OpenClaim := { program := "ytfdllcakpmaifaadoor", sum := "cae41a6695751e24766216485decfa78315e09260d74e3e905f5d707961c4e7e", func := "caesura/caesuralaw03.Byte8Back", spec := "byte8Back", inPlace := ["internal/bytealg.Count", "internal/bytealg.IndexByte", "internal/bytealg.Index"], named := ["unicode/utf8.first", "unicode/utf8.acceptRanges", "internal/bytealg.MaxLen"], apart := false, laid := [("unicode/utf8.acceptRanges", laid_unicode_utf8_acceptRanges), ("unicode/utf8.first", laid_unicode_utf8_first)], narrowed := true }
def Byte8BackUptoSaid : Prop := byte8BackUptoRow.holds Tryd.pinned (OpenSpec.upto byte8BackSpec)

/-- 'caesuralaw03.Byte8Lines', WHERE WHAT IT READS IS OF BULK AT MOST 1048576: true; the input reads as it did. -/
def byte8LinesUptoRow : OpenClaim := { program := "ytfdllcakpmaifaadoor", sum := "cae41a6695751e24766216485decfa78315e09260d74e3e905f5d707961c4e7e", func := "caesura/caesuralaw03.Byte8Lines", spec := "byte8Lines", inPlace := ["internal/bytealg.Count", "internal/bytealg.IndexByte", "internal/bytealg.Index"], named := ["unicode/utf8.first", "unicode/utf8.acceptRanges", "internal/bytealg.MaxLen"], apart := false, laid := [("unicode/utf8.acceptRanges", laid_unicode_utf8_acceptRanges), ("unicode/utf8.first", laid_unicode_utf8_first)], narrowed := true }
def Byte8LinesUptoSaid : Prop := byte8LinesUptoRow.holds Tryd.pinned (OpenSpec.upto byte8LinesSpec)

/-- 'caesuralaw03.Byte8Joins', WHERE WHAT IT READS IS OF BULK AT MOST 1048576: true; the input reads as it did. -/
def byte8JoinsUptoRow : OpenClaim := { program := "ytfdllcakpmaifaadoor", sum := "cae41a6695751e24766216485decfa78315e09260d74e3e905f5d707961c4e7e", func := "caesura/caesuralaw03.Byte8Joins", spec := "byte8Joins", inPlace := ["internal/bytealg.Count", "internal/bytealg.IndexByte", "internal/bytealg.Index"], named := ["unicode/utf8.first", "unicode/utf8.acceptRanges", "internal/bytealg.MaxLen"], apart := false, laid := [("unicode/utf8.acceptRanges", laid_unicode_utf8_acceptRanges), ("unicode/utf8.first", laid_unicode_utf8_first)], narrowed := true }
def Byte8JoinsUptoSaid : Prop := byte8JoinsUptoRow.holds Tryd.pinned (OpenSpec.upto byte8JoinsSpec)

end Rows
end Go.Proofs.YtfdllcakpmaifaaDoor
