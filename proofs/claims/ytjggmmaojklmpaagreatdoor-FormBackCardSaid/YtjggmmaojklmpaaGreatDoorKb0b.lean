/- Closing steps of one statement's walk. -/
import Derived.Test.YtjggmmaojklmpaaGreatDoorKb0
set_option maxRecDepth 100000
namespace Go.Proofs.YtjggmmaojklmpaaGreatDoor
open Go.RowKit
theorem iB {p:Prop} (h:p:=by simp only [DE] at hl;omega):p:=h
theorem iW {p:Prop} (h:p:=by have:=lT hs;omega):p:=h
theorem i7 {p:Prop} (h:p:=by have:=lT q;omega):p:=h
theorem js {p:Prop} (h:p:=by simp only [Rx.deepL];omega):p:=h
theorem aT {p:Prop} (h:p:=by
 clear hneg hL hbad;go_enter Tryz.func4,Tryz.ntmps4
 go_upto_region 1 with fail
 rw [←HW0.out];clear HW0;go_wp2_with (first
  | (refine jI rfl 28 (.tmp 3) rfl w.heap.size 0 rfl [.int .i64 rk,.string ⟨(rch).toArray⟩,.bool rng,.slice ra rrs.length rcp,.int .i64 rlo,.int .i64 rhi,.bool rlz,.slice rka rks.length rkc,.slice fa fs.length fcp,.bool fd,.bool al] _ (jK (ds:=[]) HB1.out) j0 rfl gG ?_)
  | (go_at_call 5;refine HLF.out.mono ?_;first|rintro e w1 rfl hb1|rintro e w1 ⟨rfl,hb1⟩)
  | (go_at_call 6;refine(qi _).mono ?_;first|rintro e w9 rfl hb9|rintro e w9 ⟨rfl,hb9⟩))
 go_ret
 exact⟨rfl,bel2 (bel2 HB0.out hb1) hb9⟩):p:=h
theorem dn {p:Prop} (h:p:=by
 rintro rfl;have e0:r0=[]:=List.suffix_nil.1 ks;subst e0;rcases hnil (d+1) with e|⟨e,he⟩
 ·simp only [e,jQ] at h;cases h
 ·simp only [he] at h;cases h):p:=h
theorem dq {p:Prop} (h:p:=by
 injection h with h;injection h with h3 h;injection h with h4 h5
 subst h3 h4 h5;rfl):p:=h
theorem dv {p:Prop} (h:p:=by
 rw [Dr h1] at h ⊢;injection h with h;injection h with ha hb;subst ha hb;rfl):p:=h
theorem dZ {p:Prop} (h:p:=by
 go_wp2
 go_quiet (fail)
 go_wp2
 exact⟨⟨i+1,by omega,by go_num,below_drewN hb _⟩,by simp [intOf];omega⟩):p:=h
theorem ec {p:Prop} (h:p:=by
 injection h with h;injection h with ha hb;subst ha hb;rfl):p:=h
end Go.Proofs.YtjggmmaojklmpaaGreatDoor
