/-
  DERIVED. GIVEN WITH THE SEED: THE CARDS: each row of YtpggnfpjjppbmaaDoorRows.lean that lists a variable, with what it lists TIED to the program's text (the seventh form; the later family's looks); each row that meets fmt, with fmt's text TOLD by the authors' own Lean function (tested against real Go, not proved from fmt's source: count such statements apart). THE CARD IS WHAT COUNTS. Prove the row's statement (the work); the ties are given (YtpggnfpjjppbmaaDoorTie.lean); close each card by the builder's one call (the guide's Derived/Test/ToyasCard.lean, 'card_holds'). Laid BY PROGRAM, IN A SANDBOX (cutbox-door.mjs). By AI agents, Wed Nov 11 2026. No macro, syntax, notation, axiom, sorry.
-/
import Derived.Test.YtpggnfpjjppbmaaDoorRows
import GoSem.ClaimSeven
namespace Go.Proofs.YtpggnfpjjppbmaaDoor
namespace Rows

/-- THE TIED CARD OF 'gimletlaw15.ShowTells'. -/
def showTellsCard : Claim7 := { stood := { row := showTellsRow, standIns := [], harness := (true, "eef43b314067c87e917ba8713f30f905b771d83d54a7a7567ca21e1acec91c23"), looks := false }, kinds := [], alts := [], laidByText := true, laidKinds := [.data, .data, .data], laidTests := true, laidLooks := .later }
def ShowTellsCardSaid : Prop := Claim7.holds Tryd.pinned (.plain (OpenSpec.ofChange showTellsSpec)) showTellsCard

/-- THE TIED CARD OF 'gimletlaw15.ShowParts'. -/
def showPartsCard : Claim7 := { stood := { row := showPartsRow, standIns := [], harness := (true, "eef43b314067c87e917ba8713f30f905b771d83d54a7a7567ca21e1acec91c23"), looks := false }, kinds := [], alts := [], laidByText := true, laidKinds := [.data, .data, .data], laidTests := true, laidLooks := .later }
def ShowPartsCardSaid : Prop := Claim7.holds Tryd.pinned (.plain (OpenSpec.ofChange showPartsSpec)) showPartsCard

/-- THE TIED CARD OF 'gimletlaw15.ShowChars'. -/
def showCharsCard : Claim7 := { stood := { row := showCharsRow, standIns := [], harness := (true, "eef43b314067c87e917ba8713f30f905b771d83d54a7a7567ca21e1acec91c23"), looks := false }, kinds := [], alts := [], laidByText := true, laidKinds := [.data, .data, .data], laidTests := true, laidLooks := .later }
def ShowCharsCardSaid : Prop := Claim7.holds Tryd.pinned (.plain (OpenSpec.ofChange showCharsSpec)) showCharsCard

/-- THE TIED CARD OF 'gimletlaw15.ShowBack'. -/
def showBackCard : Claim7 := { stood := { row := showBackRow, standIns := [], harness := (true, "eef43b314067c87e917ba8713f30f905b771d83d54a7a7567ca21e1acec91c23"), looks := false }, kinds := [], alts := [], laidByText := true, laidKinds := [.data, .data, .data], laidTests := true, laidLooks := .later }
def ShowBackCardSaid : Prop := Claim7.holds Tryd.pinned (.plain (OpenSpec.ofChange showBackSpec)) showBackCard

/-- THE TIED CARD OF 'gimletlaw15.ShowRead'. -/
def showReadCard : Claim7 := { stood := { row := showReadRow, standIns := [], harness := (true, "eef43b314067c87e917ba8713f30f905b771d83d54a7a7567ca21e1acec91c23"), looks := false }, kinds := [], alts := [], laidByText := true, laidKinds := [.data, .data, .data], laidTests := true, laidLooks := .later }
def ShowReadCardSaid : Prop := Claim7.holds Tryd.pinned (.plain (OpenSpec.ofChange showReadSpec)) showReadCard

/-- THE TIED CARD OF 'gimletlaw15.ShowUnlike'. -/
def showUnlikeCard : Claim7 := { stood := { row := showUnlikeRow, standIns := [], harness := (true, "eef43b314067c87e917ba8713f30f905b771d83d54a7a7567ca21e1acec91c23"), looks := false }, kinds := [], alts := [], laidByText := true, laidKinds := [.data, .data, .data], laidTests := true, laidLooks := .later }
def ShowUnlikeCardSaid : Prop := Claim7.holds Tryd.pinned (.plain (OpenSpec.ofChange showUnlikeSpec)) showUnlikeCard

/-- THE SECOND FORM's CARD OF 'gimletlaw15.ShowTells'. -/
def showTellsUptoCard : Claim7 := { stood := { row := showTellsUptoRow, standIns := [], harness := (true, "eef43b314067c87e917ba8713f30f905b771d83d54a7a7567ca21e1acec91c23"), looks := false }, kinds := [], alts := [], laidByText := true, laidKinds := [.data, .data, .data], laidTests := true, laidLooks := .later }
def ShowTellsUptoCardSaid : Prop := Claim7.holds Tryd.pinned (.plain (OpenSpec.upto showTellsSpec)) showTellsUptoCard

/-- THE SECOND FORM's CARD OF 'gimletlaw15.ShowParts'. -/
def showPartsUptoCard : Claim7 := { stood := { row := showPartsUptoRow, standIns := [], harness := (true, "eef43b314067c87e917ba8713f30f905b771d83d54a7a7567ca21e1acec91c23"), looks := false }, kinds := [], alts := [], laidByText := true, laidKinds := [.data, .data, .data], laidTests := true, laidLooks := .later }
def ShowPartsUptoCardSaid : Prop := Claim7.holds Tryd.pinned (.plain (OpenSpec.upto showPartsSpec)) showPartsUptoCard

/-- THE SECOND FORM's CARD OF 'gimletlaw15.ShowChars'. -/
def showCharsUptoCard : Claim7 := { stood := { row := showCharsUptoRow, standIns := [], harness := (true, "eef43b314067c87e917ba8713f30f905b771d83d54a7a7567ca21e1acec91c23"), looks := false }, kinds := [], alts := [], laidByText := true, laidKinds := [.data, .data, .data], laidTests := true, laidLooks := .later }
def ShowCharsUptoCardSaid : Prop := Claim7.holds Tryd.pinned (.plain (OpenSpec.upto showCharsSpec)) showCharsUptoCard

/-- THE SECOND FORM's CARD OF 'gimletlaw15.ShowBack'. -/
def showBackUptoCard : Claim7 := { stood := { row := showBackUptoRow, standIns := [], harness := (true, "eef43b314067c87e917ba8713f30f905b771d83d54a7a7567ca21e1acec91c23"), looks := false }, kinds := [], alts := [], laidByText := true, laidKinds := [.data, .data, .data], laidTests := true, laidLooks := .later }
def ShowBackUptoCardSaid : Prop := Claim7.holds Tryd.pinned (.plain (OpenSpec.upto showBackSpec)) showBackUptoCard

/-- THE SECOND FORM's CARD OF 'gimletlaw15.ShowRead'. -/
def showReadUptoCard : Claim7 := { stood := { row := showReadUptoRow, standIns := [], harness := (true, "eef43b314067c87e917ba8713f30f905b771d83d54a7a7567ca21e1acec91c23"), looks := false }, kinds := [], alts := [], laidByText := true, laidKinds := [.data, .data, .data], laidTests := true, laidLooks := .later }
def ShowReadUptoCardSaid : Prop := Claim7.holds Tryd.pinned (.plain (OpenSpec.upto showReadSpec)) showReadUptoCard

/-- THE SECOND FORM's CARD OF 'gimletlaw15.ShowUnlike'. -/
def showUnlikeUptoCard : Claim7 := { stood := { row := showUnlikeUptoRow, standIns := [], harness := (true, "eef43b314067c87e917ba8713f30f905b771d83d54a7a7567ca21e1acec91c23"), looks := false }, kinds := [], alts := [], laidByText := true, laidKinds := [.data, .data, .data], laidTests := true, laidLooks := .later }
def ShowUnlikeUptoCardSaid : Prop := Claim7.holds Tryd.pinned (.plain (OpenSpec.upto showUnlikeSpec)) showUnlikeUptoCard
end Rows
end Go.Proofs.YtpggnfpjjppbmaaDoor
