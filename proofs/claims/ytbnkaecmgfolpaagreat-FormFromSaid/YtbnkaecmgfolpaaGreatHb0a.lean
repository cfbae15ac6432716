/- Closing steps of one statement's walk. -/
import Derived.Test.YtbnkaecmgfolpaaGreatHb0
set_option maxRecDepth 100000
namespace Go.Proofs.YtbnkaecmgfolpaaGreat
open Go.RowKit
theorem aA {p:Prop} (h:p:=by
 clear e3 e4;go_enter Tryz.func8,Tryz.ntmps8
 go_wp2_with (go_at_call 14;refine H1.out.mono ?_)
 rintro e w1 ⟨ak,ach,ang,aa,an,acp,alo,ahi,alz,aka,akn,akc,afa,afn,afcp,afd,aal,rfl,hv1,hb1⟩;obtain⟨W1,hW⟩:∃W,W=(w1).alloc (.cells #[.int .i64 ak,.string ⟨(ach).toArray⟩,.bool ang,.slice aa an acp,.int .i64 alo,.int .i64 ahi,.bool alz,.slice aka akn akc,.slice afa afn afcp,.bool afd,.bool aal] 28):=⟨_,rfl⟩;have hbW:Below (w1).heap.size w1 W1:=by rw [hW];exact(Below.refl _ _).alloc (zP _) _
 have hlW:(W1).heap[(w1).heap.size]?=some (.cells #[.int .i64 ak,.string ⟨(ach).toArray⟩,.bool ang,.slice aa an acp,.int .i64 alo,.int .i64 ahi,.bool alz,.slice aka akn akc,.slice afa afn afcp,.bool afd,.bool aal] 28 (0,0)):=by rw [hW];exact heap_alloc_new w1 _
 have HV1:=ab (hv1.later hbW);have HL1:=ab hlW;have HB1:=ab (bel2 hb1 hbW);have HW1:=ab hW;clear hv1 hb1 hW hbW hlW H1;go_upto_region 4 with fail
 rw [←HW1.out];clear HW1;go_wp2_with (go_at_call 14;refine(H2.out _).mono ?_)
 rintro e w2 ⟨bk,bch,bng,ba,bn,bcp,blo,bhi,blz,bka,bkn,bkc,bfa,bfn,bfcp,bfd,bal,rfl,hv2,hb2⟩;obtain⟨W2,hW⟩:∃W,W=(w2).alloc (.cells #[.int .i64 bk,.string ⟨(bch).toArray⟩,.bool bng,.slice ba bn bcp,.int .i64 blo,.int .i64 bhi,.bool blz,.slice bka bkn bkc,.slice bfa bfn bfcp,.bool bfd,.bool bal] 28):=⟨_,rfl⟩;have hbW:Below (w2).heap.size w2 W2:=by rw [hW];exact(Below.refl _ _).alloc (zP _) _
 have hlW:(W2).heap[(w2).heap.size]?=some (.cells #[.int .i64 bk,.string ⟨(bch).toArray⟩,.bool bng,.slice ba bn bcp,.int .i64 blo,.int .i64 bhi,.bool blz,.slice bka bkn bkc,.slice bfa bfn bfcp,.bool bfd,.bool bal] 28 (0,0)):=by rw [hW];exact heap_alloc_new w2 _
 have HL1':=ab (((bel2 hb2 hbW).block _ (iN HL1.out)).trans HL1.out);have HSF:=ab (tz _ _ F HSM.out _ _ W2 (HV1.out.later (bel2 hb2 hbW)) (hv2.later hbW));have HL2:=ab hlW;have HB2:=ab (bel2 HB1.out (bel2 hb2 hbW));have HW2:=ab hW;clear hv2 hb2 hW hbW hlW H2 HL1 HV1 HSM;go_upto_region 5 with fail
 rw [←HW2.out];clear HW2;go_wp2_with (first
  | (refine qV (by rfl) 28 (.tmp 5) rfl w1.heap.size 0 rfl [.int .i64 ak,.string ⟨(ach).toArray⟩,.bool ang,.slice aa an acp,.int .i64 alo,.int .i64 ahi,.bool alz,.slice aka akn akc,.slice afa afn afcp,.bool afd,.bool aal] _ (jt (ds:=[]) HL1'.out) jJ rfl fT ?_)
  | (refine qV (by rfl) 28 (.tmp 8) rfl w2.heap.size 0 rfl [.int .i64 bk,.string ⟨(bch).toArray⟩,.bool bng,.slice ba bn bcp,.int .i64 blo,.int .i64 bhi,.bool blz,.slice bka bkn bkc,.slice bfa bfn bfcp,.bool bfd,.bool bal] _ (jt (ds:=[]) HL2.out) jJ rfl fT ?_)
  | (go_at_call 17;refine HSF.out.mono ?_;rintro e w3 ⟨rfl,hb3⟩;have hbw3:=bel2 HB2.out hb3)
  | (go_at_call 11;refine(lA _).mono ?_;rintro e w9 ⟨rfl,hb9⟩))
 go_ret
 exact⟨rfl,bel2 hbw3 hb9⟩):p:=h
theorem dv {p:Prop} (h:p:=by
 go_wp2
 go_quiet (fail)
 go_wp2
 exact⟨⟨i+1,by omega,by go_num,below_drewN hb _⟩,by simp [intOf];omega⟩):p:=h
end Go.Proofs.YtbnkaecmgfolpaaGreat
