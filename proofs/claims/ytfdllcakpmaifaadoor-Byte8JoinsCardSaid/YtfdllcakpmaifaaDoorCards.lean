/-
  DERIVED. GIVEN WITH THE SEED: THE CARDS: each row of YtfdllcakpmaifaaDoorRows.lean that lists a variable, with what it lists TIED to the program's text (the seventh form; the later family's looks); each row that meets fmt, with fmt's text TOLD by the authors' own Lean function (tested against real Go, not proved from fmt's source: count such statements apart). THE CARD IS WHAT COUNTS. Prove the row's statement (the work); the ties are given (YtfdllcakpmaifaaDoorTie.lean); close each card by the builder's one call (the guide's Derived/Test/ToyasCard.lean, 'card_holds'). Laid BY PROGRAM, IN A SANDBOX (cutbox-door.mjs). By AI agents, Wed Nov 11 2026. No macro, syntax, notation, axiom, sorry.
-/
import Derived.Test.YtfdllcakpmaifaaDoorRows
import GoSem.ClaimSeven
namespace Go.Proofs.YtfdllcakpmaifaaDoor
namespace Rows

/-- THE TIED CARD OF 'caesuralaw03.Byte8Reads'. -/
def byte8ReadsCard : Claim7 := { stood := { row := byte8ReadsRow, standIns := [], harness := (true, "778e2db4fb85d4bfcf806f9bd5cc85d51ff8debdaa18cf5da5419d9e29167d96"), looks := false }, kinds := [], alts := [], laidByText := true, laidKinds := [.data, .pinned], laidTests := true, laidLooks := .later }
def Byte8ReadsCardSaid : Prop := Claim7.holds Tryd.pinned (.plain (OpenSpec.ofChange byte8ReadsSpec)) byte8ReadsCard

/-- THE TIED CARD OF 'caesuralaw03.Byte8Writes'. -/
def byte8WritesCard : Claim7 := { stood := { row := byte8WritesRow, standIns := [], harness := (true, "778e2db4fb85d4bfcf806f9bd5cc85d51ff8debdaa18cf5da5419d9e29167d96"), looks := false }, kinds := [], alts := [], laidByText := true, laidKinds := [.data, .pinned], laidTests := true, laidLooks := .later }
def Byte8WritesCardSaid : Prop := Claim7.holds Tryd.pinned (.plain (OpenSpec.ofChange byte8WritesSpec)) byte8WritesCard

/-- THE TIED CARD OF 'caesuralaw03.Byte8Back'. -/
def byte8BackCard : Claim7 := { stood := { row := byte8BackRow, standIns := [], harness := (true, "778e2db4fb85d4bfcf806f9bd5cc85d51ff8debdaa18cf5da5419d9e29167d96"), looks := false }, kinds := [], alts := [], laidByText := true, laidKinds := [.data, .pinned], laidTests := true, laidLooks := .later }
def Byte8BackCardSaid : Prop := Claim7.holds Tryd.pinned (.plain (OpenSpec.ofChange byte8BackSpec)) byte8BackCard

/-- THE TIED CARD OF 'caesuralaw03.Byte8Lines'. -/
def byte8LinesCard : Claim7 := { stood := { row := byte8LinesRow, standIns := [], harness := (true, "778e2db4fb85d4bfcf806f9bd5cc85d51ff8debdaa18cf5da5419d9e29167d96"), looks := false }, kinds := [], alts := [], laidByText := true, laidKinds := [.data, .pinned], laidTests := true, laidLooks := .later }
def Byte8LinesCardSaid : Prop := Claim7.holds Tryd.pinned (.plain (OpenSpec.ofChange byte8LinesSpec)) byte8LinesCard

/-- THE TIED CARD OF 'caesuralaw03.Byte8Joins'. -/
def byte8JoinsCard : Claim7 := { stood := { row := byte8JoinsRow, standIns := [], harness := (true, "778e2db4fb85d4bfcf806f9bd5cc85d51ff8debdaa18cf5da5419d9e29167d96"), looks := false }, kinds := [], alts := [], laidByText := true, laidKinds := [.data, .pinned], laidTests := true, laidLooks := .later }
def Byte8JoinsCardSaid : Prop := Claim7.holds Tryd.pinned (.plain (OpenSpec.ofChange byte8JoinsSpec)) byte8JoinsCard

/-- THE SECOND FORM's CARD OF 'caesuralaw03.Byte8Reads'. -/
def byte8ReadsUptoCard : Claim7 := { stood := { row := byte8ReadsUptoRow, standIns := [], harness := (true, "778e2db4fb85d4bfcf806f9bd5cc85d51ff8debdaa18cf5da5419d9e29167d96"), looks := false }, kinds := [], alts := [], laidByText := true, laidKinds := [.data, .pinned], laidTests := true, laidLooks := .later }
def Byte8ReadsUptoCardSaid : Prop := Claim7.holds Tryd.pinned (.plain (OpenSpec.upto byte8ReadsSpec)) byte8ReadsUptoCard

/-- THE SECOND FORM's CARD OF 'caesuralaw03.Byte8Writes'. -/
def byte8WritesUptoCard : Claim7 := { stood := { row := byte8WritesUptoRow, standIns := [], harness := (true, "778e2db4fb85d4bfcf806f9bd5cc85d51ff8debdaa18cf5da5419d9e29167d96"), looks := false }, kinds := [], alts := [], laidByText := true, laidKinds := [.data, .pinned], laidTests := true, laidLooks := .later }
def Byte8WritesUptoCardSaid : Prop := Claim7.holds Tryd.pinned (.plain (OpenSpec.upto byte8WritesSpec)) byte8WritesUptoCard

/-- THE SECOND FORM's CARD OF 'caesuralaw03.Byte8Back'. -/
def byte8BackUptoCard : Claim7 := { stood := { row := byte8BackUptoRow, standIns := [], harness := (true, "778e2db4fb85d4bfcf806f9bd5cc85d51ff8debdaa18cf5da5419d9e29167d96"), looks := false }, kinds := [], alts := [], laidByText := true, laidKinds := [.data, .pinned], laidTests := true, laidLooks := .later }
def Byte8BackUptoCardSaid : Prop := Claim7.holds Tryd.pinned (.plain (OpenSpec.upto byte8BackSpec)) byte8BackUptoCard

/-- THE SECOND FORM's CARD OF 'caesuralaw03.Byte8Lines'. -/
def byte8LinesUptoCard : Claim7 := { stood := { row := byte8LinesUptoRow, standIns := [], harness := (true, "778e2db4fb85d4bfcf806f9bd5cc85d51ff8debdaa18cf5da5419d9e29167d96"), looks := false }, kinds := [], alts := [], laidByText := true, laidKinds := [.data, .pinned], laidTests := true, laidLooks := .later }
def Byte8LinesUptoCardSaid : Prop := Claim7.holds Tryd.pinned (.plain (OpenSpec.upto byte8LinesSpec)) byte8LinesUptoCard

/-- THE SECOND FORM's CARD OF 'caesuralaw03.Byte8Joins'. -/
def byte8JoinsUptoCard : Claim7 := { stood := { row := byte8JoinsUptoRow, standIns := [], harness := (true, "778e2db4fb85d4bfcf806f9bd5cc85d51ff8debdaa18cf5da5419d9e29167d96"), looks := false }, kinds := [], alts := [], laidByText := true, laidKinds := [.data, .pinned], laidTests := true, laidLooks := .later }
def Byte8JoinsUptoCardSaid : Prop := Claim7.holds Tryd.pinned (.plain (OpenSpec.upto byte8JoinsSpec)) byte8JoinsUptoCard
end Rows
end Go.Proofs.YtfdllcakpmaifaaDoor
