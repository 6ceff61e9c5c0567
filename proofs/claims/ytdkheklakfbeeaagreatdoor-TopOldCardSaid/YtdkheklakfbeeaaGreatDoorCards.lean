/-
  DERIVED. GIVEN WITH THE SEED: THE CARDS: each row of YtdkheklakfbeeaaGreatDoorRows.lean that lists a variable, with what it lists TIED to the program's text (the seventh form; the later family's looks); each row that meets fmt, with fmt's text TOLD by the authors' own Lean function (tested against real Go, not proved from fmt's source: count such statements apart). THE CARD IS WHAT COUNTS. Prove the row's statement (the work); the ties are given (YtdkheklakfbeeaaGreatDoorTie.lean); close each card by the builder's one call (the guide's Derived/Test/ToyasCard.lean, 'card_holds'). Laid BY PROGRAM, IN A SANDBOX (cutbox-door.mjs). By AI agents, Wed Nov 11 2026. No macro, syntax, notation, axiom, sorry.
-/
import Derived.Test.YtdkheklakfbeeaaGreatDoorRows
import GoSem.ClaimSeven
namespace Go.Proofs.YtdkheklakfbeeaaGreatDoor
namespace Rows

/-- THE TIED CARD OF 'cofferdamtop.TopLost'. -/
def topLostCard : Claim7 := { stood := { row := topLostRow, standIns := [], harness := (true, "0d98da8ab76e0b27464a6a49c77c299958157883d428431ae47bf2de1f79fb92"), looks := false }, kinds := [], alts := [], laidByText := true, laidKinds := [.data, .data, .widerDeep, .data, .data], laidTests := true, laidLooks := .later }
def TopLostCardSaid : Prop := Claim7.holds Tryz.pinned (.plain (OpenSpec.ofChange topLostSpec)) topLostCard

/-- THE TIED CARD OF 'cofferdamtop.TopOld'. -/
def topOldCard : Claim7 := { stood := { row := topOldRow, standIns := [], harness := (true, "0d98da8ab76e0b27464a6a49c77c299958157883d428431ae47bf2de1f79fb92"), looks := false }, kinds := [], alts := [], laidByText := true, laidKinds := [.data, .data, .widerDeep, .data, .data], laidTests := true, laidLooks := .later }
def TopOldCardSaid : Prop := Claim7.holds Tryz.pinned (.plain (OpenSpec.ofChange topOldSpec)) topOldCard

/-- THE SECOND FORM's CARD OF 'cofferdamtop.TopLost'. -/
def topLostUptoCard : Claim7 := { stood := { row := topLostUptoRow, standIns := [], harness := (true, "0d98da8ab76e0b27464a6a49c77c299958157883d428431ae47bf2de1f79fb92"), looks := false }, kinds := [], alts := [], laidByText := true, laidKinds := [.data, .data, .widerDeep, .data, .data], laidTests := true, laidLooks := .later }
def TopLostUptoCardSaid : Prop := Claim7.holds Tryz.pinned (.plain (OpenSpec.upto topLostSpec)) topLostUptoCard

/-- THE SECOND FORM's CARD OF 'cofferdamtop.TopOld'. -/
def topOldUptoCard : Claim7 := { stood := { row := topOldUptoRow, standIns := [], harness := (true, "0d98da8ab76e0b27464a6a49c77c299958157883d428431ae47bf2de1f79fb92"), looks := false }, kinds := [], alts := [], laidByText := true, laidKinds := [.data, .data, .widerDeep, .data, .data], laidTests := true, laidLooks := .later }
def TopOldUptoCardSaid : Prop := Claim7.holds Tryz.pinned (.plain (OpenSpec.upto topOldSpec)) topOldUptoCard
end Rows
end Go.Proofs.YtdkheklakfbeeaaGreatDoor
