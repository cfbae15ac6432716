/- Closing steps of one statement's walk. -/
import Derived.Test.YtdcnncgpomcaaaaGreatDoorRc0
set_option maxRecDepth 100000
namespace Go.Proofs.YtdcnncgpomcaaaaGreatDoor
open Go.RowKit
theorem cU {p:Prop} (h:p:=by
 clear hb12';have hbw12:=bel2 HB11.out hb12;go_wp2_with (go_at_call 9;refine(HAW.out _ (HT.out.keep hbw12)).mono ?_;rintro e w9 ⟨rfl,hb9⟩)
 go_ret
 exact⟨rfl,bel2 hbw12 hb9⟩):p:=h
end Go.Proofs.YtdcnncgpomcaaaaGreatDoor
