/-
  DERIVED. GIVEN WITH THE SEED: THE CARDS: each row of YteaepjamgkgngaaGreatDoorRows.lean that lists a variable, with what it lists TIED to the program's text (the seventh form; the later family's looks); each row that meets fmt, with fmt's text TOLD by the authors' own Lean function (tested against real Go, not proved from fmt's source: count such statements apart). THE CARD IS WHAT COUNTS. Prove the row's statement (the work); the ties are given (YteaepjamgkgngaaGreatDoorTie.lean); close each card by the builder's one call (the guide's Derived/Test/ToyasCard.lean, 'card_holds'). Laid BY PROGRAM, IN A SANDBOX (cutbox-door.mjs). By AI agents, Wed Nov 11 2026. No macro, syntax, notation, axiom, sorry.
-/
import Derived.Test.YteaepjamgkgngaaGreatDoorRows
import GoSem.ClaimSeven
namespace Go.Proofs.YteaepjamgkgngaaGreatDoor
namespace Rows

/-- THE TIED CARD OF 'mulliganlaw26.DecideSame'. -/
def decideSameCard : Claim7 := { stood := { row := decideSameRow, standIns := [], harness := (true, "e9b510d98e75dfeeec7d66612bce0ee2cbd9e94c539e668c0ddc649ce885f7d5"), looks := false }, kinds := [], alts := [], laidByText := true, laidKinds := [.data, .data, .widerDeep, .data, .data], laidTests := true, laidLooks := .later }
def DecideSameCardSaid : Prop := Claim7.holds Tryz.pinned (.plain (OpenSpec.ofChange decideSameSpec)) decideSameCard

/-- THE SECOND FORM's CARD OF 'mulliganlaw26.DecideSame'. -/
def decideSameUptoCard : Claim7 := { stood := { row := decideSameUptoRow, standIns := [], harness := (true, "e9b510d98e75dfeeec7d66612bce0ee2cbd9e94c539e668c0ddc649ce885f7d5"), looks := false }, kinds := [], alts := [], laidByText := true, laidKinds := [.data, .data, .widerDeep, .data, .data], laidTests := true, laidLooks := .later }
def DecideSameUptoCardSaid : Prop := Claim7.holds Tryz.pinned (.plain (OpenSpec.upto decideSameSpec)) decideSameUptoCard
end Rows
end Go.Proofs.YteaepjamgkgngaaGreatDoor
