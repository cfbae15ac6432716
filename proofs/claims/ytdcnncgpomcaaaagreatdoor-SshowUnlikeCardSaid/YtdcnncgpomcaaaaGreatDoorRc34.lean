/- Plain laws on snippets: may a tree be; what is read may be, and is no larger than the text. -/
import Derived.Test.YtdcnncgpomcaaaaGreatDoorRc21
set_option maxRecDepth 100000
namespace Go.Proofs.YtdcnncgpomcaaaaGreatDoor
namespace Sn
end Sn
theorem Bu (r:Str):adjS false (nn r)=true∧Sn.wfL (nn r)=true∧Sn.partsL (nn r)≤r.length∧Sn.deepL (nn r)≤cnt r:=by
 obtain⟨a,b,c,d⟩:=(r8 r.length).2 false [] r (Ju _);rw [oz];exact⟨a,b,by simp [tl] at c;omega,by omega⟩
end Go.Proofs.YtdcnncgpomcaaaaGreatDoor
