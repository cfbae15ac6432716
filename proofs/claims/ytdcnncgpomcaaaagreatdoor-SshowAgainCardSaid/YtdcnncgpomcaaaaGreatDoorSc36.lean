/- Plain laws on snippets: may a tree be; what is read may be, and is no larger than the text. -/
import Derived.Test.YtdcnncgpomcaaaaGreatDoorSc21
set_option maxRecDepth 100000
namespace Go.Proofs.YtdcnncgpomcaaaaGreatDoor
namespace Sn
end Sn
theorem zy (r:Str):adjS false (mG r)=true∧Sn.wfL (mG r)=true∧Sn.partsL (mG r)≤r.length∧Sn.deepL (mG r)≤cnt r:=by
 obtain⟨a,b,c,d⟩:=(re r.length).2 false [] r (Ia _);rw [nW];exact⟨a,b,by simp [tl] at c;omega,by omega⟩
end Go.Proofs.YtdcnncgpomcaaaaGreatDoor
