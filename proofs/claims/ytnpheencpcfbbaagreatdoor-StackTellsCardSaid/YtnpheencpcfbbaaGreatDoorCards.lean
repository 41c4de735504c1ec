/-
  DERIVED. GIVEN WITH THE SEED: THE CARDS: each row of YtnpheencpcfbbaaGreatDoorRows.lean that lists a variable, with what it lists TIED to the program's text (the seventh form; the later family's looks); each row that meets fmt, with fmt's text TOLD by the authors' own Lean function (tested against real Go, not proved from fmt's source: count such statements apart). THE CARD IS WHAT COUNTS. Prove the row's statement (the work); the ties are given (YtnpheencpcfbbaaGreatDoorTie.lean); close each card by the builder's one call (the guide's Derived/Test/ToyasCard.lean, 'card_holds'). Laid BY PROGRAM, IN A SANDBOX (cutbox-door.mjs). By AI agents, Wed Nov 11 2026. No macro, syntax, notation, axiom, sorry.
-/
import Derived.Test.YtnpheencpcfbbaaGreatDoorRows
import GoSem.ClaimSeven
namespace Go.Proofs.YtnpheencpcfbbaaGreatDoor
namespace Rows

/-- THE TIED CARD OF 'mulliganlaw22.ExecRight'. -/
def execRightCard : Claim7 := { stood := { row := execRightRow, standIns := [], harness := (true, "b8f6ba2d829053ef94ca53900ce70465913590ff2bf4f254f2d74349c885f74f"), looks := true }, kinds := [], alts := [], laidByText := true, laidKinds := [.data, .data, .widerDeep, .data], laidTests := true, laidLooks := .later }
def ExecRightCardSaid : Prop := Claim7.holds Tryz.pinned (.plain (OpenSpec.ofChange execRightSpec)) execRightCard

/-- THE TIED CARD OF 'mulliganlaw22.ExecSeq'. -/
def execSeqCard : Claim7 := { stood := { row := execSeqRow, standIns := [], harness := (true, "b8f6ba2d829053ef94ca53900ce70465913590ff2bf4f254f2d74349c885f74f"), looks := true }, kinds := [], alts := [], laidByText := true, laidKinds := [.data, .data, .widerDeep, .data], laidTests := true, laidLooks := .later }
def ExecSeqCardSaid : Prop := Claim7.holds Tryz.pinned (.plain (OpenSpec.ofChange execSeqSpec)) execSeqCard

/-- THE TIED CARD OF 'mulliganlaw22.ExecDoes'. -/
def execDoesCard : Claim7 := { stood := { row := execDoesRow, standIns := [], harness := (true, "b8f6ba2d829053ef94ca53900ce70465913590ff2bf4f254f2d74349c885f74f"), looks := true }, kinds := [], alts := [], laidByText := true, laidKinds := [.data, .data, .widerDeep, .data], laidTests := true, laidLooks := .later }
def ExecDoesCardSaid : Prop := Claim7.holds Tryz.pinned (.plain (OpenSpec.ofChange execDoesSpec)) execDoesCard

/-- THE TIED CARD OF 'mulliganlaw23.StackTells'. -/
def stackTellsCard : Claim7 := { stood := { row := stackTellsRow, standIns := [], harness := (true, "b8f6ba2d829053ef94ca53900ce70465913590ff2bf4f254f2d74349c885f74f"), looks := true }, kinds := [], alts := [], laidByText := true, laidKinds := [.data, .data, .widerDeep, .data], laidTests := true, laidLooks := .later }
def StackTellsCardSaid : Prop := Claim7.holds Tryz.pinned (.plain (OpenSpec.ofChange stackTellsSpec)) stackTellsCard

/-- THE TIED CARD OF 'mulliganlaw23.StackRight'. -/
def stackRightCard : Claim7 := { stood := { row := stackRightRow, standIns := [], harness := (true, "b8f6ba2d829053ef94ca53900ce70465913590ff2bf4f254f2d74349c885f74f"), looks := true }, kinds := [], alts := [], laidByText := true, laidKinds := [.data, .data, .widerDeep, .data], laidTests := true, laidLooks := .later }
def StackRightCardSaid : Prop := Claim7.holds Tryz.pinned (.plain (OpenSpec.ofChange stackRightSpec)) stackRightCard

/-- THE TIED CARD OF 'mulliganlaw23.StackPlays'. -/
def stackPlaysCard : Claim7 := { stood := { row := stackPlaysRow, standIns := [], harness := (true, "b8f6ba2d829053ef94ca53900ce70465913590ff2bf4f254f2d74349c885f74f"), looks := true }, kinds := [], alts := [], laidByText := true, laidKinds := [.data, .data, .widerDeep, .data], laidTests := true, laidLooks := .later }
def StackPlaysCardSaid : Prop := Claim7.holds Tryz.pinned (.plain (OpenSpec.ofChange stackPlaysSpec)) stackPlaysCard

/-- THE TIED CARD OF 'mulliganlaw23.StackOne'. -/
def stackOneCard : Claim7 := { stood := { row := stackOneRow, standIns := [], harness := (true, "b8f6ba2d829053ef94ca53900ce70465913590ff2bf4f254f2d74349c885f74f"), looks := true }, kinds := [], alts := [], laidByText := true, laidKinds := [.data, .data, .widerDeep, .data], laidTests := true, laidLooks := .later }
def StackOneCardSaid : Prop := Claim7.holds Tryz.pinned (.plain (OpenSpec.ofChange stackOneSpec)) stackOneCard

/-- THE SECOND FORM's CARD OF 'mulliganlaw22.ExecRight'. -/
def execRightUptoCard : Claim7 := { stood := { row := execRightUptoRow, standIns := [], harness := (true, "b8f6ba2d829053ef94ca53900ce70465913590ff2bf4f254f2d74349c885f74f"), looks := true }, kinds := [], alts := [], laidByText := true, laidKinds := [.data, .data, .widerDeep, .data], laidTests := true, laidLooks := .later }
def ExecRightUptoCardSaid : Prop := Claim7.holds Tryz.pinned (.plain (OpenSpec.upto execRightSpec)) execRightUptoCard

/-- THE SECOND FORM's CARD OF 'mulliganlaw22.ExecSeq'. -/
def execSeqUptoCard : Claim7 := { stood := { row := execSeqUptoRow, standIns := [], harness := (true, "b8f6ba2d829053ef94ca53900ce70465913590ff2bf4f254f2d74349c885f74f"), looks := true }, kinds := [], alts := [], laidByText := true, laidKinds := [.data, .data, .widerDeep, .data], laidTests := true, laidLooks := .later }
def ExecSeqUptoCardSaid : Prop := Claim7.holds Tryz.pinned (.plain (OpenSpec.upto execSeqSpec)) execSeqUptoCard

/-- THE SECOND FORM's CARD OF 'mulliganlaw22.ExecDoes'. -/
def execDoesUptoCard : Claim7 := { stood := { row := execDoesUptoRow, standIns := [], harness := (true, "b8f6ba2d829053ef94ca53900ce70465913590ff2bf4f254f2d74349c885f74f"), looks := true }, kinds := [], alts := [], laidByText := true, laidKinds := [.data, .data, .widerDeep, .data], laidTests := true, laidLooks := .later }
def ExecDoesUptoCardSaid : Prop := Claim7.holds Tryz.pinned (.plain (OpenSpec.upto execDoesSpec)) execDoesUptoCard

/-- THE SECOND FORM's CARD OF 'mulliganlaw23.StackTells'. -/
def stackTellsUptoCard : Claim7 := { stood := { row := stackTellsUptoRow, standIns := [], harness := (true, "b8f6ba2d829053ef94ca53900ce70465913590ff2bf4f254f2d74349c885f74f"), looks := true }, kinds := [], alts := [], laidByText := true, laidKinds := [.data, .data, .widerDeep, .data], laidTests := true, laidLooks := .later }
def StackTellsUptoCardSaid : Prop := Claim7.holds Tryz.pinned (.plain (OpenSpec.upto stackTellsSpec)) stackTellsUptoCard

/-- THE SECOND FORM's CARD OF 'mulliganlaw23.StackRight'. -/
def stackRightUptoCard : Claim7 := { stood := { row := stackRightUptoRow, standIns := [], harness := (true, "b8f6ba2d829053ef94ca53900ce70465913590ff2bf4f254f2d74349c885f74f"), looks := true }, kinds := [], alts := [], laidByText := true, laidKinds := [.data, .data, .widerDeep, .data], laidTests := true, laidLooks := .later }
def StackRightUptoCardSaid : Prop := Claim7.holds Tryz.pinned (.plain (OpenSpec.upto stackRightSpec)) stackRightUptoCard

/-- THE SECOND FORM's CARD OF 'mulliganlaw23.StackPlays'. -/
def stackPlaysUptoCard : Claim7 := { stood := { row := stackPlaysUptoRow, standIns := [], harness := (true, "b8f6ba2d829053ef94ca53900ce70465913590ff2bf4f254f2d74349c885f74f"), looks := true }, kinds := [], alts := [], laidByText := true, laidKinds := [.data, .data, .widerDeep, .data], laidTests := true, laidLooks := .later }
def StackPlaysUptoCardSaid : Prop := Claim7.holds Tryz.pinned (.plain (OpenSpec.upto stackPlaysSpec)) stackPlaysUptoCard

/-- THE SECOND FORM's CARD OF 'mulliganlaw23.StackOne'. -/
def stackOneUptoCard : Claim7 := { stood := { row := stackOneUptoRow, standIns := [], harness := (true, "b8f6ba2d829053ef94ca53900ce70465913590ff2bf4f254f2d74349c885f74f"), looks := true }, kinds := [], alts := [], laidByText := true, laidKinds := [.data, .data, .widerDeep, .data], laidTests := true, laidLooks := .later }
def StackOneUptoCardSaid : Prop := Claim7.holds Tryz.pinned (.plain (OpenSpec.upto stackOneSpec)) stackOneUptoCard
end Rows
end Go.Proofs.YtnpheencpcfbbaaGreatDoor
