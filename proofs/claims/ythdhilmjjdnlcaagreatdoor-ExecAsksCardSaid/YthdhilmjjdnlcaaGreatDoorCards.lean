/-
  DERIVED. GIVEN WITH THE SEED: THE CARDS: each row of YthdhilmjjdnlcaaGreatDoorRows.lean that lists a variable, with what it lists TIED to the program's text (the seventh form; the later family's looks); each row that meets fmt, with fmt's text TOLD by the authors' own Lean function (tested against real Go, not proved from fmt's source: count such statements apart). THE CARD IS WHAT COUNTS. Prove the row's statement (the work); the ties are given (YthdhilmjjdnlcaaGreatDoorTie.lean); close each card by the builder's one call (the guide's Derived/Test/ToyasCard.lean, 'card_holds'). Laid BY PROGRAM, IN A SANDBOX (cutbox-door.mjs). By AI agents, Wed Nov 11 2026. No macro, syntax, notation, axiom, sorry.
-/
import Derived.Test.YthdhilmjjdnlcaaGreatDoorRows
import GoSem.ClaimSeven
namespace Go.Proofs.YthdhilmjjdnlcaaGreatDoor
namespace Rows

/-- THE TIED CARD OF 'mulliganlaw22.ExecAsks'. -/
def execAsksCard : Claim7 := { stood := { row := execAsksRow, standIns := [], harness := (true, "b7159932853284fb5e5e843fae646a478ea83e3cc47991680f540f7caa2d268b"), looks := true }, kinds := [], alts := [], laidByText := true, laidKinds := [.data, .data, .widerDeep, .data], laidTests := true, laidLooks := .later }
def ExecAsksCardSaid : Prop := Claim7.holds Tryz.pinned (.plain (OpenSpec.ofChange execAsksSpec)) execAsksCard

/-- THE TIED CARD OF 'mulliganlaw22.ExecRight'. -/
def execRightCard : Claim7 := { stood := { row := execRightRow, standIns := [], harness := (true, "b7159932853284fb5e5e843fae646a478ea83e3cc47991680f540f7caa2d268b"), looks := true }, kinds := [], alts := [], laidByText := true, laidKinds := [.data, .data, .widerDeep, .data], laidTests := true, laidLooks := .later }
def ExecRightCardSaid : Prop := Claim7.holds Tryz.pinned (.plain (OpenSpec.ofChange execRightSpec)) execRightCard

/-- THE TIED CARD OF 'mulliganlaw22.ExecSeq'. -/
def execSeqCard : Claim7 := { stood := { row := execSeqRow, standIns := [], harness := (true, "b7159932853284fb5e5e843fae646a478ea83e3cc47991680f540f7caa2d268b"), looks := true }, kinds := [], alts := [], laidByText := true, laidKinds := [.data, .data, .widerDeep, .data], laidTests := true, laidLooks := .later }
def ExecSeqCardSaid : Prop := Claim7.holds Tryz.pinned (.plain (OpenSpec.ofChange execSeqSpec)) execSeqCard

/-- THE TIED CARD OF 'mulliganlaw22.ExecDoes'. -/
def execDoesCard : Claim7 := { stood := { row := execDoesRow, standIns := [], harness := (true, "b7159932853284fb5e5e843fae646a478ea83e3cc47991680f540f7caa2d268b"), looks := true }, kinds := [], alts := [], laidByText := true, laidKinds := [.data, .data, .widerDeep, .data], laidTests := true, laidLooks := .later }
def ExecDoesCardSaid : Prop := Claim7.holds Tryz.pinned (.plain (OpenSpec.ofChange execDoesSpec)) execDoesCard

/-- THE SECOND FORM's CARD OF 'mulliganlaw22.ExecAsks'. -/
def execAsksUptoCard : Claim7 := { stood := { row := execAsksUptoRow, standIns := [], harness := (true, "b7159932853284fb5e5e843fae646a478ea83e3cc47991680f540f7caa2d268b"), looks := true }, kinds := [], alts := [], laidByText := true, laidKinds := [.data, .data, .widerDeep, .data], laidTests := true, laidLooks := .later }
def ExecAsksUptoCardSaid : Prop := Claim7.holds Tryz.pinned (.plain (OpenSpec.upto execAsksSpec)) execAsksUptoCard

/-- THE SECOND FORM's CARD OF 'mulliganlaw22.ExecRight'. -/
def execRightUptoCard : Claim7 := { stood := { row := execRightUptoRow, standIns := [], harness := (true, "b7159932853284fb5e5e843fae646a478ea83e3cc47991680f540f7caa2d268b"), looks := true }, kinds := [], alts := [], laidByText := true, laidKinds := [.data, .data, .widerDeep, .data], laidTests := true, laidLooks := .later }
def ExecRightUptoCardSaid : Prop := Claim7.holds Tryz.pinned (.plain (OpenSpec.upto execRightSpec)) execRightUptoCard

/-- THE SECOND FORM's CARD OF 'mulliganlaw22.ExecSeq'. -/
def execSeqUptoCard : Claim7 := { stood := { row := execSeqUptoRow, standIns := [], harness := (true, "b7159932853284fb5e5e843fae646a478ea83e3cc47991680f540f7caa2d268b"), looks := true }, kinds := [], alts := [], laidByText := true, laidKinds := [.data, .data, .widerDeep, .data], laidTests := true, laidLooks := .later }
def ExecSeqUptoCardSaid : Prop := Claim7.holds Tryz.pinned (.plain (OpenSpec.upto execSeqSpec)) execSeqUptoCard

/-- THE SECOND FORM's CARD OF 'mulliganlaw22.ExecDoes'. -/
def execDoesUptoCard : Claim7 := { stood := { row := execDoesUptoRow, standIns := [], harness := (true, "b7159932853284fb5e5e843fae646a478ea83e3cc47991680f540f7caa2d268b"), looks := true }, kinds := [], alts := [], laidByText := true, laidKinds := [.data, .data, .widerDeep, .data], laidTests := true, laidLooks := .later }
def ExecDoesUptoCardSaid : Prop := Claim7.holds Tryz.pinned (.plain (OpenSpec.upto execDoesSpec)) execDoesUptoCard
end Rows
end Go.Proofs.YthdhilmjjdnlcaaGreatDoor
