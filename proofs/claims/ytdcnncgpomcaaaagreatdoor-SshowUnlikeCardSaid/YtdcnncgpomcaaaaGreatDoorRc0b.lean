/- Closing steps of one statement's walk. -/
import Derived.Test.YtdcnncgpomcaaaaGreatDoorRc0
set_option maxRecDepth 100000
namespace Go.Proofs.YtdcnncgpomcaaaaGreatDoor
open Go.RowKit
theorem kK {p:Prop} (h:p:=by rw [←hZ];exact hzl):p:=h
theorem bR {p:Prop} (h:p:=by
 go_enter Tryz.func6,Tryz.ntmps6
 go_wp2_with (go_at_call 8;refine(HA1.out _ (Below.refl _ _)).mono ?_)
 first|rintro e w1 rfl hb1|rintro e w1 ⟨rfl,hb1⟩
 go_wp2_with (go_at_call 8;refine(HB1.out _ hb1).mono ?_)
 first|rintro e w2 rfl hb2|rintro e w2 ⟨rfl,hb2⟩
 have hbw2:=bel2 hb1 hb2;go_wp2_with (go_at_call 9;refine(HAW.out _ (HT.out.keep hbw2)).mono ?_;rintro e w9 ⟨rfl,hb9⟩)
 go_ret
 exact⟨rfl,bel2 hbw2 hb9⟩):p:=h
theorem ck {p:Prop} (h:p:=by
 obtain⟨a1,a2,a3⟩:=readM_ok.1 h;have h1:=G7 _ _ _ _ _ a3;have h2:=yN _ s (Ju _);simp only [Wc] at h1;obtain⟨h3,_,_⟩:=zN h;have hwf:x.wf=true:=by
  have h:=h3;simp only [mayB,okB,Jy] at h;exact h.1.1
 have h4:=uV _ x (Ju _) hwf;omega):p:=h
theorem cm {p:Prop} (h:p:=by
 split at h
 ·rename_i heq
  have:=qe _ _ _ heq
  injection h with h;injection h with h h';subst h;subst h';simp at this ⊢;omega
 ·cases h):p:=h
theorem dC {p:Prop} (h:p:=by
 go_wp2_with (go_at_call 9;refine(HAW.out _ (HT.out.keep hbw11)).mono ?_;rintro e w9 ⟨rfl,hb9⟩)
 go_ret
 exact⟨rfl,bel2 hbw11 hb9⟩):p:=h
theorem dG {p:Prop} (h:p:=by
 have g:=vX n _ _ h;rw [uh] at g;simp only [rwt] at g;omega):p:=h
theorem eA {p:Prop} (h:p:=by
 exact mS _ _ _ _ _ gN gN (fun _ _=>rfl) (fun t x s _ h=>xH h)):p:=h
theorem fY {p:Prop} (h:p:=by
 have HS11:=ab (HSM.out _ _ a b c d w11 (HSX.out.later hbw11) (HSY.out.later hbw11));go_wp2_with (go_at_call 14;refine HS11.out.mono ?_)
 exact bu):p:=h
end Go.Proofs.YtdcnncgpomcaaaaGreatDoor
