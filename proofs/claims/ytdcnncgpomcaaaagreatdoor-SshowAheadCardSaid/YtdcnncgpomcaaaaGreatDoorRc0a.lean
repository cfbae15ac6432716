/- Closing steps of one statement's walk. -/
import Derived.Test.YtdcnncgpomcaaaaGreatDoorRc0
set_option maxRecDepth 100000
namespace Go.Proofs.YtdcnncgpomcaaaaGreatDoor
open Go.RowKit
theorem ee {p:Prop} (h:p:=by
 injection h with h;injection h with h _;subst h;exact hx):p:=h
theorem eF {p:Prop} (h:p:=by
 unfold dolM at he;split at he
 ·exact⟨(BP he).length_le,IY he⟩
 ·cases he):p:=h
theorem gv {p:Prop} (h:p:=by
 clear hneg hL hm ht hx;go_enter Tryz.func7,Tryz.ntmps7
 go_wp2_with (go_at_call 8;refine HLB.out.mono ?_)
 exact bF):p:=h
end Go.Proofs.YtdcnncgpomcaaaaGreatDoor
