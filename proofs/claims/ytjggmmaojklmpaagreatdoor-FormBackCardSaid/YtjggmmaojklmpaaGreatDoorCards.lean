/-
  DERIVED. GIVEN WITH THE SEED: THE CARDS: each row of YtjggmmaojklmpaaGreatDoorRows.lean that lists a variable, with what it lists TIED to the program's text (the seventh form; the later family's looks); each row that meets fmt, with fmt's text TOLD by the authors' own Lean function (tested against real Go, not proved from fmt's source: count such statements apart). THE CARD IS WHAT COUNTS. Prove the row's statement (the work); the ties are given (YtjggmmaojklmpaaGreatDoorTie.lean); close each card by the builder's one call (the guide's Derived/Test/ToyasCard.lean, 'card_holds'). Laid BY PROGRAM, IN A SANDBOX (cutbox-door.mjs). By AI agents, Wed Nov 11 2026. No macro, syntax, notation, axiom, sorry.
-/
import Derived.Test.YtjggmmaojklmpaaGreatDoorRows
import GoSem.ClaimSeven
namespace Go.Proofs.YtjggmmaojklmpaaGreatDoor
namespace Rows

/-- THE TIED CARD OF 'gimletlaw19.FormTells'. -/
def formTellsCard : Claim7 := { stood := { row := formTellsRow, standIns := [], harness := (true, "5a0b2225f3ae2b64b2cd4a9b1df201a2ba48e950ff19afe4fa1afbc0a51db11b"), looks := false }, kinds := [], alts := [], laidByText := true, laidKinds := [.data, .data, .data], laidTests := true, laidLooks := .later }
def FormTellsCardSaid : Prop := Claim7.holds Tryz.pinned (.plain (OpenSpec.ofChange formTellsSpec)) formTellsCard

/-- THE TIED CARD OF 'gimletlaw19.FormBack'. -/
def formBackCard : Claim7 := { stood := { row := formBackRow, standIns := [], harness := (true, "5a0b2225f3ae2b64b2cd4a9b1df201a2ba48e950ff19afe4fa1afbc0a51db11b"), looks := false }, kinds := [], alts := [], laidByText := true, laidKinds := [.data, .data, .data], laidTests := true, laidLooks := .later }
def FormBackCardSaid : Prop := Claim7.holds Tryz.pinned (.plain (OpenSpec.ofChange formBackSpec)) formBackCard

/-- THE SECOND FORM's CARD OF 'gimletlaw19.FormTells'. -/
def formTellsUptoCard : Claim7 := { stood := { row := formTellsUptoRow, standIns := [], harness := (true, "5a0b2225f3ae2b64b2cd4a9b1df201a2ba48e950ff19afe4fa1afbc0a51db11b"), looks := false }, kinds := [], alts := [], laidByText := true, laidKinds := [.data, .data, .data], laidTests := true, laidLooks := .later }
def FormTellsUptoCardSaid : Prop := Claim7.holds Tryz.pinned (.plain (OpenSpec.upto formTellsSpec)) formTellsUptoCard

/-- THE SECOND FORM's CARD OF 'gimletlaw19.FormBack'. -/
def formBackUptoCard : Claim7 := { stood := { row := formBackUptoRow, standIns := [], harness := (true, "5a0b2225f3ae2b64b2cd4a9b1df201a2ba48e950ff19afe4fa1afbc0a51db11b"), looks := false }, kinds := [], alts := [], laidByText := true, laidKinds := [.data, .data, .data], laidTests := true, laidLooks := .later }
def FormBackUptoCardSaid : Prop := Claim7.holds Tryz.pinned (.plain (OpenSpec.upto formBackSpec)) formBackUptoCard
end Rows
end Go.Proofs.YtjggmmaojklmpaaGreatDoor
