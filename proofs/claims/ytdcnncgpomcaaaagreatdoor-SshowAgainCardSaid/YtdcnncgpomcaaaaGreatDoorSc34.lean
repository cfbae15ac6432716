/- What a snippet is told as, and how that is read: plain laws. -/
import Derived.Test.YtdcnncgpomcaaaaGreatDoorSc33
set_option maxRecDepth 100000
namespace Go.Proofs.YtdcnncgpomcaaaaGreatDoor
namespace Sn
end Sn
theorem FN {l:List Sn} (ha:adjS false l=true) (hw:Sn.wfL l=true) (hs:Sn.shortL l=true):mG (Sn.tellL l)=l:=by
 have h:=Cs hw hs false [] [] [];rw [IK,lW,t8 l [] [] ha hw] at h;rw [nW,h];simp [lw]
open Go.RowKit
theorem sL {l:List Sn} (hm:oB l=true) (hs:Sn.shortL l=true) (hl:(Sn.tellL l).length≤8192):qp (Sn.tellL l)=.ok l:=by
 unfold oB at hm;simp only [Ie,Hs] at hm;exact xI (FN hm.1.1 hm.1.2 hs) hl hm.2
end Go.Proofs.YtdcnncgpomcaaaaGreatDoor
