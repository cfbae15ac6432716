/- What is read of a short text as a snippet is tiny: plain. -/
import Derived.Test.YtdcnncgpomcaaaaGreatDoorSc34
set_option maxRecDepth 100000
namespace Go.Proofs.YtdcnncgpomcaaaaGreatDoor
open Go.RowKit
theorem sq:tf0.tiny:=⟨sn,by simp [tf0],fun g hg=>by simp [tf0] at hg,by decide,by simp [tf0,mt]⟩
end Go.Proofs.YtdcnncgpomcaaaaGreatDoor
