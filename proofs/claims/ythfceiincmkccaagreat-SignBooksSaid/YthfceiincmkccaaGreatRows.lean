/-
  NARROWER THAN 'FOR EVERY INPUT', by the rows' own cells (each row's printed sentence says how): SignBooks: loops · SignTold: loops · VarsSames: loops · SignAnswers: loops · SignMembers: loops.
  DERIVED. THE GIVEN ROWS OF THIS SEAT. 6 by the template 'for every input the law returns true; each argument reads behind the call as it read before'; 0 by the template 'total and deterministic' (their statements: YthfceiincmkccaaGreatTotals.lean).
  GIVEN WITH THE SEED: the statements are not yours to turn. If you find one false, say at which input.
  Laid BY PROGRAM, IN A SANDBOX (cutbox-rows.mjs): the forced cells as the released guide's own fill.sh prints them over the translation 5cd0a98d6df7b9ea… (all of the seat's roots in one cut). By AI agents, Wed Nov 11 2026. No macro, syntax, notation, axiom, sorry.
-/
import Derived.Test.YthfceiincmkccaaGreatChecked
import GoSem.Claim
import GoSem.ClaimJoined
import GoSem.ClaimMapViews
import Derived.JoinedTies
import Derived.KernelRfl
namespace Go.Proofs.YthfceiincmkccaaGreat
/- THE CELL 'sum', in the pinned program and in every row, IS THE sha256 OF THE DUMP (.gsa) THAT YthfceiincmkccaaGreatProg.lean LOADS. Nothing in Lean hashes anything: it is a label: what it is worth is what the hold of that sum in a sandbox is worth. -/
noncomputable def Tryz.pinned : Pinned := { name := "ythfceiincmkccaagreat", sum := "5cd0a98d6df7b9eaa0e2bbd4f6cc7f77386224591d462db86c094e4ff2e6019f", checked := Tryz.checked }
namespace Rows
def none {H : Type} : Left H := { results := [], args := [] }

/-- 'caesuralaw10.SignBooks': WHATEVER THE INPUT: true; the input reads as it did. -/
def signBooksSpec : ChangeSpec := { name := "signBooks", fn := fun _ => fun
  | [d1, d2] => { results := [.lit (.bool true)], args := [d1, d2] }
  | _ => none }
def signBooksRow : OpenClaim := { program := "ythfceiincmkccaagreat", sum := "5cd0a98d6df7b9eaa0e2bbd4f6cc7f77386224591d462db86c094e4ff2e6019f", func := "caesura/caesuralaw10.SignBooks", spec := "signBooks", unfollowed := true, recurses := true, loops := true, apart := false }
def SignBooksSaid : Prop := signBooksRow.holds Tryz.pinned (OpenSpec.ofChange signBooksSpec)

/-- ITS FALSE NEIGHBOUR: 'it returns false'. Refute it at one input. -/
def signBooksWrong : ChangeSpec := { name := "signBooks", fn := fun _ => fun
  | [d1, d2] => { results := [.lit (.bool false)], args := [d1, d2] }
  | _ => none }
def SignBooksWrongFalsely : Prop := signBooksRow.holds Tryz.pinned (OpenSpec.ofChange signBooksWrong)

/-- 'caesuralaw10.SignTold': WHATEVER THE INPUT: true; the input reads as it did. -/
def signToldSpec : ChangeSpec := { name := "signTold", fn := fun _ => fun
  | [d1, d2] => { results := [.lit (.bool true)], args := [d1, d2] }
  | _ => none }
def signToldRow : OpenClaim := { program := "ythfceiincmkccaagreat", sum := "5cd0a98d6df7b9eaa0e2bbd4f6cc7f77386224591d462db86c094e4ff2e6019f", func := "caesura/caesuralaw10.SignTold", spec := "signTold", unfollowed := true, recurses := true, loops := true, apart := false }
def SignToldSaid : Prop := signToldRow.holds Tryz.pinned (OpenSpec.ofChange signToldSpec)

/-- ITS FALSE NEIGHBOUR: 'it returns false'. Refute it at one input. -/
def signToldWrong : ChangeSpec := { name := "signTold", fn := fun _ => fun
  | [d1, d2] => { results := [.lit (.bool false)], args := [d1, d2] }
  | _ => none }
def SignToldWrongFalsely : Prop := signToldRow.holds Tryz.pinned (OpenSpec.ofChange signToldWrong)

/-- 'caesuralaw08.VarsSames': WHATEVER THE INPUT: true; the input reads as it did. -/
def varsSamesSpec : ChangeSpec := { name := "varsSames", fn := fun _ => fun
  | [d1, d2] => { results := [.lit (.bool true)], args := [d1, d2] }
  | _ => none }
def varsSamesRow : OpenClaim := { program := "ythfceiincmkccaagreat", sum := "5cd0a98d6df7b9eaa0e2bbd4f6cc7f77386224591d462db86c094e4ff2e6019f", func := "caesura/caesuralaw08.VarsSames", spec := "varsSames", unfollowed := true, recurses := true, loops := true, apart := false }
def VarsSamesSaid : Prop := varsSamesRow.holds Tryz.pinned (OpenSpec.ofChange varsSamesSpec)

/-- ITS FALSE NEIGHBOUR: 'it returns false'. Refute it at one input. -/
def varsSamesWrong : ChangeSpec := { name := "varsSames", fn := fun _ => fun
  | [d1, d2] => { results := [.lit (.bool false)], args := [d1, d2] }
  | _ => none }
def VarsSamesWrongFalsely : Prop := varsSamesRow.holds Tryz.pinned (OpenSpec.ofChange varsSamesWrong)

/-- 'caesuralaw10.SignAnswers': WHATEVER THE INPUT: true; the input reads as it did. -/
def signAnswersSpec : ChangeSpec := { name := "signAnswers", fn := fun _ => fun
  | [d1, d2, d3] => { results := [.lit (.bool true)], args := [d1, d2, d3] }
  | _ => none }
def signAnswersRow : OpenClaim := { program := "ythfceiincmkccaagreat", sum := "5cd0a98d6df7b9eaa0e2bbd4f6cc7f77386224591d462db86c094e4ff2e6019f", func := "caesura/caesuralaw10.SignAnswers", spec := "signAnswers", unfollowed := true, recurses := true, loops := true, apart := false }
def SignAnswersSaid : Prop := signAnswersRow.holds Tryz.pinned (OpenSpec.ofChange signAnswersSpec)

/-- ITS FALSE NEIGHBOUR: 'it returns false'. Refute it at one input. -/
def signAnswersWrong : ChangeSpec := { name := "signAnswers", fn := fun _ => fun
  | [d1, d2, d3] => { results := [.lit (.bool false)], args := [d1, d2, d3] }
  | _ => none }
def SignAnswersWrongFalsely : Prop := signAnswersRow.holds Tryz.pinned (OpenSpec.ofChange signAnswersWrong)

/-- 'caesuralaw10.SignWords': WHATEVER THE INPUT: true; the input reads as it did. -/
def signWordsSpec : ChangeSpec := { name := "signWords", fn := fun _ => fun
  | [d1, d2, d3] => { results := [.lit (.bool true)], args := [d1, d2, d3] }
  | _ => none }
def signWordsRow : OpenClaim := { program := "ythfceiincmkccaagreat", sum := "5cd0a98d6df7b9eaa0e2bbd4f6cc7f77386224591d462db86c094e4ff2e6019f", func := "caesura/caesuralaw10.SignWords", spec := "signWords", unfollowed := true, recurses := true, apart := false }
def SignWordsSaid : Prop := signWordsRow.holds Tryz.pinned (OpenSpec.ofChange signWordsSpec)

/-- ITS FALSE NEIGHBOUR: 'it returns false'. Refute it at one input. -/
def signWordsWrong : ChangeSpec := { name := "signWords", fn := fun _ => fun
  | [d1, d2, d3] => { results := [.lit (.bool false)], args := [d1, d2, d3] }
  | _ => none }
def SignWordsWrongFalsely : Prop := signWordsRow.holds Tryz.pinned (OpenSpec.ofChange signWordsWrong)

/-- 'caesuralaw10.SignMembers': WHATEVER THE INPUT: true; the input reads as it did. -/
def signMembersSpec : ChangeSpec := { name := "signMembers", fn := fun _ => fun
  | [d1, d2] => { results := [.lit (.bool true)], args := [d1, d2] }
  | _ => none }
def signMembersRow : OpenClaim := { program := "ythfceiincmkccaagreat", sum := "5cd0a98d6df7b9eaa0e2bbd4f6cc7f77386224591d462db86c094e4ff2e6019f", func := "caesura/caesuralaw10.SignMembers", spec := "signMembers", unfollowed := true, recurses := true, loops := true, apart := false }
def SignMembersSaid : Prop := signMembersRow.holds Tryz.pinned (OpenSpec.ofChange signMembersSpec)

/-- ITS FALSE NEIGHBOUR: 'it returns false'. Refute it at one input. -/
def signMembersWrong : ChangeSpec := { name := "signMembers", fn := fun _ => fun
  | [d1, d2] => { results := [.lit (.bool false)], args := [d1, d2] }
  | _ => none }
def SignMembersWrongFalsely : Prop := signMembersRow.holds Tryz.pinned (OpenSpec.ofChange signMembersWrong)

/- THE SECOND FORM. 'bulk': how many values and letters a reading holds, each counted each time it is reached (what is shared counts as often as it is met; a slice's spare places count too). A statement '..UptoSaid' is the law's where the arguments, and the package variables that the reading takes, are together of bulk at most 1048576: NARROWER than '..Said'. Prove '..Said' where nothing that the law and all that it calls make is longer than what came in: it says more and counts as full. Else prove '..UptoSaid'. A law counts once. -/
mutual
def uptoBulk {H : Type} : DataW H → Nat
  | .lit (.string bytes) => bytes.length + 1
  | .lit _ => 1
  | .nil => 1
  | .ptr d => uptoBulk d + 1
  | .slice elems spare => uptoBulkAll elems + uptoBulkAll spare + 1
  | .agg parts => uptoBulkAll parts + 1
  | .iface _ d => uptoBulk d + 1
  | .map entries => uptoBulkEntries entries + 1
  | .held _ => 1
def uptoBulkAll {H : Type} : List (DataW H) → Nat
  | [] => 0
  | d :: r => uptoBulk d + uptoBulkAll r
def uptoBulkEntries {H : Type} : List (Lit × DataW H) → Nat
  | [] => 0
  | x :: r => uptoBulkEntry x + uptoBulkEntries r
def uptoBulkEntry {H : Type} : Lit × DataW H → Nat
  | (.string bytes, d) => bytes.length + uptoBulk d + 1
  | (_, d) => uptoBulk d + 1
 end
def uptoSmall : (H : Type) → List (DataW H) → Bool := fun _ ds => decide (uptoBulkAll ds ≤ 1048576)
def OpenSpec.upto (s : _root_.Go.ChangeSpec) : _root_.Go.OpenSpec := { _root_.Go.OpenSpec.ofChange s with cond := some uptoSmall }

/-- 'caesuralaw10.SignBooks', WHERE WHAT IT READS IS OF BULK AT MOST 1048576: true; the input reads as it did. -/
def signBooksUptoRow : OpenClaim := { program := "ythfceiincmkccaagreat", sum := "5cd0a98d6df7b9eaa0e2bbd4f6cc7f77386224591d462db86c094e4ff2e6019f", func := "caesura/caesuralaw10.SignBooks", spec := "signBooks", unfollowed := true, recurses := true, loops := true, apart := false, narrowed := true }
def SignBooksUptoSaid : Prop := signBooksUptoRow.holds Tryz.pinned (OpenSpec.upto signBooksSpec)

/-- 'caesuralaw10.SignTold', WHERE WHAT IT READS IS OF BULK AT MOST 1048576: true; the input reads as it did. -/
def signToldUptoRow : OpenClaim := { program := "ythfceiincmkccaagreat", sum := "5cd0a98d6df7b9eaa0e2bbd4f6cc7f77386224591d462db86c094e4ff2e6019f", func := "caesura/caesuralaw10.SignTold", spec := "signTold", unfollowed := true, recurses := true, loops := true, apart := false, narrowed := true }
def SignToldUptoSaid : Prop := signToldUptoRow.holds Tryz.pinned (OpenSpec.upto signToldSpec)

/-- 'caesuralaw08.VarsSames', WHERE WHAT IT READS IS OF BULK AT MOST 1048576: true; the input reads as it did. -/
def varsSamesUptoRow : OpenClaim := { program := "ythfceiincmkccaagreat", sum := "5cd0a98d6df7b9eaa0e2bbd4f6cc7f77386224591d462db86c094e4ff2e6019f", func := "caesura/caesuralaw08.VarsSames", spec := "varsSames", unfollowed := true, recurses := true, loops := true, apart := false, narrowed := true }
def VarsSamesUptoSaid : Prop := varsSamesUptoRow.holds Tryz.pinned (OpenSpec.upto varsSamesSpec)

/-- 'caesuralaw10.SignAnswers', WHERE WHAT IT READS IS OF BULK AT MOST 1048576: true; the input reads as it did. -/
def signAnswersUptoRow : OpenClaim := { program := "ythfceiincmkccaagreat", sum := "5cd0a98d6df7b9eaa0e2bbd4f6cc7f77386224591d462db86c094e4ff2e6019f", func := "caesura/caesuralaw10.SignAnswers", spec := "signAnswers", unfollowed := true, recurses := true, loops := true, apart := false, narrowed := true }
def SignAnswersUptoSaid : Prop := signAnswersUptoRow.holds Tryz.pinned (OpenSpec.upto signAnswersSpec)

/-- 'caesuralaw10.SignWords', WHERE WHAT IT READS IS OF BULK AT MOST 1048576: true; the input reads as it did. -/
def signWordsUptoRow : OpenClaim := { program := "ythfceiincmkccaagreat", sum := "5cd0a98d6df7b9eaa0e2bbd4f6cc7f77386224591d462db86c094e4ff2e6019f", func := "caesura/caesuralaw10.SignWords", spec := "signWords", unfollowed := true, recurses := true, apart := false, narrowed := true }
def SignWordsUptoSaid : Prop := signWordsUptoRow.holds Tryz.pinned (OpenSpec.upto signWordsSpec)

/-- 'caesuralaw10.SignMembers', WHERE WHAT IT READS IS OF BULK AT MOST 1048576: true; the input reads as it did. -/
def signMembersUptoRow : OpenClaim := { program := "ythfceiincmkccaagreat", sum := "5cd0a98d6df7b9eaa0e2bbd4f6cc7f77386224591d462db86c094e4ff2e6019f", func := "caesura/caesuralaw10.SignMembers", spec := "signMembers", unfollowed := true, recurses := true, loops := true, apart := false, narrowed := true }
def SignMembersUptoSaid : Prop := signMembersUptoRow.holds Tryz.pinned (OpenSpec.upto signMembersSpec)

end Rows
end Go.Proofs.YthfceiincmkccaaGreat
