/-
  DERIVED. GIVEN WITH THE SEED: THE CARDS: each row of YtbmakifbppocaaaGreatDoorRows.lean that lists a variable, with what it lists TIED to the program's text (the seventh form; the later family's looks); each row that meets fmt, with fmt's text TOLD by the authors' own Lean function (tested against real Go, not proved from fmt's source: count such statements apart). THE CARD IS WHAT COUNTS. Prove the row's statement (the work); the ties are given (YtbmakifbppocaaaGreatDoorTie.lean); close each card by the builder's one call (the guide's Derived/Test/ToyasCard.lean, 'card_holds'). Laid BY PROGRAM, IN A SANDBOX (cutbox-door.mjs). By AI agents, Wed Nov 11 2026. No macro, syntax, notation, axiom, sorry.
-/
import Derived.Test.YtbmakifbppocaaaGreatDoorRows
import GoSem.ClaimSeven
namespace Go.Proofs.YtbmakifbppocaaaGreatDoor
namespace Rows

/-- THE TIED CARD OF 'gimletlaw22.SshowTells'. -/
def sshowTellsCard : Claim7 := { stood := { row := sshowTellsRow, standIns := [], harness := (true, "f1de8e5056078fe559e095a0486abd8faed921f1efcc8ecb3c69c75f95f4a0a1"), looks := false }, kinds := [], alts := [], laidByText := true, laidKinds := [.data, .data, .data], laidTests := true, laidLooks := .later }
def SshowTellsCardSaid : Prop := Claim7.holds Tryz.pinned (.plain (OpenSpec.ofChange sshowTellsSpec)) sshowTellsCard

/-- THE SECOND FORM's CARD OF 'gimletlaw22.SshowTells'. -/
def sshowTellsUptoCard : Claim7 := { stood := { row := sshowTellsUptoRow, standIns := [], harness := (true, "f1de8e5056078fe559e095a0486abd8faed921f1efcc8ecb3c69c75f95f4a0a1"), looks := false }, kinds := [], alts := [], laidByText := true, laidKinds := [.data, .data, .data], laidTests := true, laidLooks := .later }
def SshowTellsUptoCardSaid : Prop := Claim7.holds Tryz.pinned (.plain (OpenSpec.upto sshowTellsSpec)) sshowTellsUptoCard
end Rows
end Go.Proofs.YtbmakifbppocaaaGreatDoor
