/- What is read of a short text as a snippet is tiny: plain. -/
import Derived.Test.YtdcnncgpomcaaaaGreatDoorRc29
set_option maxRecDepth 100000
namespace Go.Proofs.YtdcnncgpomcaaaaGreatDoor
open Go.RowKit
theorem sZ:tf0.tiny:=⟨tL,by simp [tf0],fun g hg=>by simp [tf0] at hg,by decide,by simp [tf0,mN]⟩
end Go.Proofs.YtdcnncgpomcaaaaGreatDoor
