/-
  DERIVED. GIVEN WITH THE SEED: THE CARDS: each row of YtdcnncgpomcaaaaGreatDoorRows.lean that lists a variable, with what it lists TIED to the program's text (the seventh form; the later family's looks); each row that meets fmt, with fmt's text TOLD by the authors' own Lean function (tested against real Go, not proved from fmt's source: count such statements apart). THE CARD IS WHAT COUNTS. Prove the row's statement (the work); the ties are given (YtdcnncgpomcaaaaGreatDoorTie.lean); close each card by the builder's one call (the guide's Derived/Test/ToyasCard.lean, 'card_holds'). Laid BY PROGRAM, IN A SANDBOX (cutbox-door.mjs). By AI agents, Wed Nov 11 2026. No macro, syntax, notation, axiom, sorry.
-/
import Derived.Test.YtdcnncgpomcaaaaGreatDoorRows
import GoSem.ClaimSeven
namespace Go.Proofs.YtdcnncgpomcaaaaGreatDoor
namespace Rows

/-- THE TIED CARD OF 'gimletlaw22.SshowBack'. -/
def sshowBackCard : Claim7 := { stood := { row := sshowBackRow, standIns := [], harness := (true, "6ccc8dd9904a22ed87d4ef755a0fc7812339f1b37f16df896b99fb3eb74e957e"), looks := false }, kinds := [], alts := [], laidByText := true, laidKinds := [.data, .data, .data], laidTests := true, laidLooks := .later }
def SshowBackCardSaid : Prop := Claim7.holds Tryz.pinned (.plain (OpenSpec.ofChange sshowBackSpec)) sshowBackCard

/-- THE TIED CARD OF 'gimletlaw22.SshowAgain'. -/
def sshowAgainCard : Claim7 := { stood := { row := sshowAgainRow, standIns := [], harness := (true, "6ccc8dd9904a22ed87d4ef755a0fc7812339f1b37f16df896b99fb3eb74e957e"), looks := false }, kinds := [], alts := [], laidByText := true, laidKinds := [.data, .data, .data], laidTests := true, laidLooks := .later }
def SshowAgainCardSaid : Prop := Claim7.holds Tryz.pinned (.plain (OpenSpec.ofChange sshowAgainSpec)) sshowAgainCard

/-- THE TIED CARD OF 'gimletlaw22.SshowWithin'. -/
def sshowWithinCard : Claim7 := { stood := { row := sshowWithinRow, standIns := [], harness := (true, "6ccc8dd9904a22ed87d4ef755a0fc7812339f1b37f16df896b99fb3eb74e957e"), looks := false }, kinds := [], alts := [], laidByText := true, laidKinds := [.data, .data, .data], laidTests := true, laidLooks := .later }
def SshowWithinCardSaid : Prop := Claim7.holds Tryz.pinned (.plain (OpenSpec.ofChange sshowWithinSpec)) sshowWithinCard

/-- THE TIED CARD OF 'gimletlaw22.SshowUnlike'. -/
def sshowUnlikeCard : Claim7 := { stood := { row := sshowUnlikeRow, standIns := [], harness := (true, "6ccc8dd9904a22ed87d4ef755a0fc7812339f1b37f16df896b99fb3eb74e957e"), looks := false }, kinds := [], alts := [], laidByText := true, laidKinds := [.data, .data, .data], laidTests := true, laidLooks := .later }
def SshowUnlikeCardSaid : Prop := Claim7.holds Tryz.pinned (.plain (OpenSpec.ofChange sshowUnlikeSpec)) sshowUnlikeCard

/-- THE TIED CARD OF 'gimletlaw22.SshowAhead'. -/
def sshowAheadCard : Claim7 := { stood := { row := sshowAheadRow, standIns := [], harness := (true, "6ccc8dd9904a22ed87d4ef755a0fc7812339f1b37f16df896b99fb3eb74e957e"), looks := false }, kinds := [], alts := [], laidByText := true, laidKinds := [.data, .data, .data], laidTests := true, laidLooks := .later }
def SshowAheadCardSaid : Prop := Claim7.holds Tryz.pinned (.plain (OpenSpec.ofChange sshowAheadSpec)) sshowAheadCard

/-- THE SECOND FORM's CARD OF 'gimletlaw22.SshowBack'. -/
def sshowBackUptoCard : Claim7 := { stood := { row := sshowBackUptoRow, standIns := [], harness := (true, "6ccc8dd9904a22ed87d4ef755a0fc7812339f1b37f16df896b99fb3eb74e957e"), looks := false }, kinds := [], alts := [], laidByText := true, laidKinds := [.data, .data, .data], laidTests := true, laidLooks := .later }
def SshowBackUptoCardSaid : Prop := Claim7.holds Tryz.pinned (.plain (OpenSpec.upto sshowBackSpec)) sshowBackUptoCard

/-- THE SECOND FORM's CARD OF 'gimletlaw22.SshowAgain'. -/
def sshowAgainUptoCard : Claim7 := { stood := { row := sshowAgainUptoRow, standIns := [], harness := (true, "6ccc8dd9904a22ed87d4ef755a0fc7812339f1b37f16df896b99fb3eb74e957e"), looks := false }, kinds := [], alts := [], laidByText := true, laidKinds := [.data, .data, .data], laidTests := true, laidLooks := .later }
def SshowAgainUptoCardSaid : Prop := Claim7.holds Tryz.pinned (.plain (OpenSpec.upto sshowAgainSpec)) sshowAgainUptoCard

/-- THE SECOND FORM's CARD OF 'gimletlaw22.SshowWithin'. -/
def sshowWithinUptoCard : Claim7 := { stood := { row := sshowWithinUptoRow, standIns := [], harness := (true, "6ccc8dd9904a22ed87d4ef755a0fc7812339f1b37f16df896b99fb3eb74e957e"), looks := false }, kinds := [], alts := [], laidByText := true, laidKinds := [.data, .data, .data], laidTests := true, laidLooks := .later }
def SshowWithinUptoCardSaid : Prop := Claim7.holds Tryz.pinned (.plain (OpenSpec.upto sshowWithinSpec)) sshowWithinUptoCard

/-- THE SECOND FORM's CARD OF 'gimletlaw22.SshowUnlike'. -/
def sshowUnlikeUptoCard : Claim7 := { stood := { row := sshowUnlikeUptoRow, standIns := [], harness := (true, "6ccc8dd9904a22ed87d4ef755a0fc7812339f1b37f16df896b99fb3eb74e957e"), looks := false }, kinds := [], alts := [], laidByText := true, laidKinds := [.data, .data, .data], laidTests := true, laidLooks := .later }
def SshowUnlikeUptoCardSaid : Prop := Claim7.holds Tryz.pinned (.plain (OpenSpec.upto sshowUnlikeSpec)) sshowUnlikeUptoCard

/-- THE SECOND FORM's CARD OF 'gimletlaw22.SshowAhead'. -/
def sshowAheadUptoCard : Claim7 := { stood := { row := sshowAheadUptoRow, standIns := [], harness := (true, "6ccc8dd9904a22ed87d4ef755a0fc7812339f1b37f16df896b99fb3eb74e957e"), looks := false }, kinds := [], alts := [], laidByText := true, laidKinds := [.data, .data, .data], laidTests := true, laidLooks := .later }
def SshowAheadUptoCardSaid : Prop := Claim7.holds Tryz.pinned (.plain (OpenSpec.upto sshowAheadSpec)) sshowAheadUptoCard
end Rows
end Go.Proofs.YtdcnncgpomcaaaaGreatDoor
