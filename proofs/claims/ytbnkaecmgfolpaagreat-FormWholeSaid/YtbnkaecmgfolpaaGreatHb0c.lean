/- Closing steps of one statement's walk. -/
import Derived.Test.YtbnkaecmgfolpaaGreatHb0
set_option maxRecDepth 100000
namespace Go.Proofs.YtbnkaecmgfolpaaGreat
open Go.RowKit
theorem gL {p:Prop} (h:p:=by simp [jn,nK,h,Rx.chr,Rx.neg,Rx.rows,Rx.lo,Rx.hi,Rx.lazy]):p:=h
theorem iH {p:Prop} (h:p:=by simp only [Rx.deepL];omega):p:=h
theorem bm {p:Prop} (h:p:=by
 go_enter Tryz.func6,Tryz.ntmps6
 go_wp2_with (first|(go_at_call 20;refine H1.out.mono ?_;rintro e w1 ⟨ak,ach,ang,aa,an,acp,alo,ahi,alz,aka,akn,akc,rfl,hb1,hv1⟩)|(go_at_call 11;refine(lA _).mono ?_;rintro e w9 ⟨rfl,hb9⟩))
 go_ret
 exact⟨rfl,bel2 (hb1.trans ((Below.refl _ _).alloc hb1.size _)) hb9⟩):p:=h
theorem dL {p:Prop} (h:p:=by
 rw [e];simp only [Rx.wfL,zH] at hw;exact⟨hw,by simp only [Rx.partsL];omega⟩):p:=h
end Go.Proofs.YtbnkaecmgfolpaaGreat
