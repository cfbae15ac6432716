/- walk of gimletref20.SameForm: of equal forms -/
import Derived.Test.YtjggmmaojklmpaaGreatDoorKb27
import Derived.Test.YtjggmmaojklmpaaGreatDoorKb25
set_option maxRecDepth 100000
set_option maxHeartbeats 4000000
namespace Go.Proofs.YtjggmmaojklmpaaGreatDoor
open Go.RowKit
theorem we (S S':Nat→Prop) (f:Tf) (hsm:f.small) (fc fc':List Value) (w:World) (hv:TfV w S fc f) (hv':TfV w S' fc' f) :
  Calls Tryz.prog 13 #[.agg fc.toArray,.agg fc'.toArray] w fun e w'=>e=.returned (.bool true)∧Below w.heap.size w w':=by
 obtain⟨rk,rch,rng,rrs,rlo,rhi,rlz,rks,ra,rcp,rka,rkc,fa,fcp,hc⟩:=hv.open_;obtain⟨rk',rch',rng',rrs',rlo',rhi',rlz',rks',ra',rcp',rka',rkc',fa',fcp',hc'⟩:=hv'.open_;obtain⟨X,fs,fd,al⟩:=f;have hx1:X=.mk rk rch rng rrs rlo rhi rlz rks:=hc.rx;have hx2:X=.mk rk' rch' rng' rrs' rlo' rhi' rlz' rks':=hc'.rx;have hxe:=hx1.symm.trans hx2;injection hxe with q1 q2 q3 q4 q5 q6 q7 q8
 subst q1 q2 q3 q4 q5 q6 q7 q8;have hfce:fc=[.int .i64 rk,.string ⟨rch.toArray⟩,.bool rng,.slice ra rrs.length rcp,.int .i64 rlo,.int .i64 rhi,.bool rlz,.slice rka rks.length rkc,.slice fa fs.length fcp,.bool fd,.bool al]:=hc.eq;have hfce':fc'=[.int .i64 rk,.string ⟨rch.toArray⟩,.bool rng,.slice ra' rrs.length rcp',.int .i64 rlo,.int .i64 rhi,.bool rlz,.slice rka' rks.length rkc',.slice fa' fs.length fcp',.bool fd,.bool al]:=hc'.eq;obtain⟨W0,hW0⟩:∃W0,W0=(w.alloc (.cells fc.toArray 28)).alloc (.cells fc'.toArray 28):=⟨_,rfl⟩;have hb0:Below w.heap.size w W0:=by rw [hW0];exact((Below.refl _ _).alloc (Dv _) _).alloc fX _
 have HB1:Hid (W0.heap[w.heap.size]?=some (.cells fc.toArray 28 (0,0))):=ab (by rw [hW0,Below.heap_alloc _ _ _ fX];exact heap_alloc_new w _);have HB2:Hid (W0.heap[w.heap.size+1]?=some (.cells fc'.toArray 28 (0,0))):=ab (by
  have:=heap_alloc_new (w.alloc (.cells fc.toArray 28)) (.cells fc'.toArray 28)
  rw [hW0];simpa using this)
 have hXV:RxV W0 S [.int .i64 rk,.string ⟨rch.toArray⟩,.bool rng,.slice ra rrs.length rcp,.int .i64 rlo,.int .i64 rhi,.bool rlz,.slice rka rks.length rkc] X:=hx1▸hc.rv.later hb0;have hXV':RxV W0 S' [.int .i64 rk,.string ⟨rch.toArray⟩,.bool rng,.slice ra' rrs.length rcp',.int .i64 rlo,.int .i64 rhi,.bool rlz,.slice rka' rks.length rkc'] X:=hx1▸hc'.rv.later hb0;have HXS:=ab (rF _ X (Dv _) hsm.1 S S' _ _ W0 hXV hXV');have HF:=ab ((SlS.sl hc.fv).keep hb0 |>.mono hb0.size);have HF':=ab ((SlS.sl hc'.fv).keep hb0 |>.mono hb0.size);have hfl:fs.length≤1000000:=hsm.2.2;subst hfce hfce';have HW0:=ab hW0;have HB0:=ab hb0;clear hv hv' hc hc' hx1 hx2 hW0 hb0 hXV hXV' hsm;go_enter Tryz.func13,Tryz.ntmps13
 go_upto_region 1 with fail
 rw [←HW0.out];clear HW0;go_wp2_with (first
  | (refine jI rfl 25 (.tmp 6) rfl w.heap.size 0 rfl [.int .i64 rk,.string ⟨rch.toArray⟩,.bool rng,.slice ra rrs.length rcp,.int .i64 rlo,.int .i64 rhi,.bool rlz,.slice rka rks.length rkc] _ (jK (ds:=[.slice fa fs.length fcp,.bool fd,.bool al]) HB1.out) kG rfl gH ?_)
  | (refine jI rfl 25 (.tmp 8) rfl (w.heap.size+1) 0 rfl [.int .i64 rk,.string ⟨rch.toArray⟩,.bool rng,.slice ra' rrs.length rcp',.int .i64 rlo,.int .i64 rhi,.bool rlz,.slice rka' rks.length rkc'] _ (jK (ds:=[.slice fa' fs.length fcp',.bool fd,.bool al]) HB2.out) kG rfl gH ?_)
  | (go_at_call 29;refine HXS.out.mono ?_))
 first|rintro e w1 rfl hb1|rintro e w1 ⟨rfl,hb1⟩
 have hx1:=(hb1.block _ (jA HB1.out)).trans HB1.out;have hx2:=(hb1.block _ (jA HB2.out)).trans HB2.out;have z8:=jC hx1 8 rfl;have y8:w1.cell? ⟨w.heap.size+1,8,none⟩=some (.slice fa' fs.length fcp'):=jC hx2 8 rfl;have z9:=jC hx1 9 rfl;have y9:w1.cell? ⟨w.heap.size+1,9,none⟩=some (.bool fd):=jC hx2 9 rfl;have z10:=jC hx1 10 rfl;have y10:w1.cell? ⟨w.heap.size+1,10,none⟩=some (.bool al):=jC hx2 10 rfl;have HX1:=ab hx1;have HX2:=ab hx2;have HF1:=ab ((HF.out.keep hb1).mono hb1.size);have HF2:=ab ((HF'.out.keep hb1).mono hb1.size);have HBW:=ab (bel2 HB0.out hb1);clear hx1 hx2 hb1 HF HF' HXS;go_wp2
 clear z8 y8 z9 y9 z10 y10;go_loopw [5] (fun q wr=>EqRel fs.length w1 q wr) (fun q _=>fs.length-(intOf q).toNat)
 case atStart=>exact⟨0,by omega,rfl,Below.refl _ _⟩
 case round =>
  obtain⟨i,hi,rfl,hb⟩:=hrel;have z8:=jC ((hb.block _ (jA HX1.out)).trans HX1.out) 8 rfl;have y8:wr.cell? ⟨w.heap.size+1,8,none⟩=some (.slice fa' fs.length fcp'):=jC ((hb.block _ (jA HX2.out)).trans HX2.out) 8 rfl;cases hd:fs[i]? with
  | none =>
   have h2:fs.length≤i:=gm;clear hd;go_wp2
   go_ret
   exact⟨rfl,bel2 HBW.out hb⟩
  | some g =>
   have h2:=(Dw.1 hd).1;obtain⟨b,o,rfl,hb1,c0,c1,c2,c3,c4⟩:=(HF1.out.keep hb).fm hd;obtain⟨b',o',rfl,hb1',d0,d1,d2,d3,d4⟩:=(HF2.out.keep hb).fm hd;obtain⟨fk,fn,fcs,ft,fe⟩:=g;simp only at c0 c1 c2 c3 c4 d0 d1 d2 d3 d4
   clear hd;exact dZ
def rdF (s:Str) (i:Nat):Tf:=match pS (s.drop i) with|none=>tf0|some (f,_)=>f
def rdJ (s:Str) (i:Nat):Int:=match pS (s.drop i) with|none=>0|some (_,r)=>((s.length-1-r.length:Nat):Int)
def rdB (s:Str) (i:Nat):Bool:=(pS (s.drop i)).isSome
theorem ReadsU (s:Str) (i:Nat) (w:World) (hi:i≤s.length) (hs:s.length≤600000) :
  Calls Tryz.prog 12 #[.string ⟨s.toArray⟩,.int .i64 i] w fun e w'=>∃(rk:Int) (rch:Str) (rng:Bool) (ra:Option Addr) (rn rcp:Nat) (rlo rhi:Int) (rlz:Bool) (rka:Option Addr) (kn rkc:Nat) (fa:Option Addr) (fn fcp:Nat) (fd al:Bool),
   e=.returned (.tuple #[.agg #[.int .i64 rk,.string ⟨rch.toArray⟩,.bool rng,.slice ra rn rcp,.int .i64 rlo,.int .i64 rhi,.bool rlz,.slice rka kn rkc,.slice fa fn fcp,.bool fd,.bool al],.int .i64 (rdJ s i),.bool (rdB s i)]) ∧
   TfV w' (fun b=>w.heap.size≤b) [.int .i64 rk,.string ⟨rch.toArray⟩,.bool rng,.slice ra rn rcp,.int .i64 rlo,.int .i64 rhi,.bool rlz,.slice rka kn rkc,.slice fa fn fcp,.bool fd,.bool al] (rdF s i)∧Below w.heap.size w w':=by
 refine(wz s i w hi hs).mono fun e w'=>?_
 rintro⟨hb,hp⟩;unfold rdF rdJ rdB;cases hf:pS (s.drop i) with
 | none =>
  rw [hf] at hp;exact⟨0,[],false,none,0,0,0,0,false,none,0,0,none,0,0,false,false,hp,TfV.zero w' _,hb⟩
 | some q =>
  obtain⟨f,r⟩:=q;rw [hf] at hp;obtain⟨fc,j,he,hv,h1,h2,h3⟩:=hp;have hj:j=s.length-1-r.length:=by
   have:=DQ List.length h3
   rw [D3] at this;omega
  subst hj;obtain⟨rk,rch,rng,rrs,rlo,rhi,rlz,rks,ra,rcp,rka,rkc,fa,fcp,hc⟩:=hv.open_;have hfc:=hc.eq;subst hfc;exact⟨rk,rch,rng,ra,rrs.length,rcp,rlo,rhi,rlz,rka,rks.length,rkc,fa,f.fs.length,fcp,f.fold,f.all,he,hv,hb⟩
theorem rd_told {f:Tf} (hm:mP f=true) (hl:f.rx.tell.length≤256) (p r:Str):rdF (p++(oD f++125::r)) p.length=f∧rdB (p++(oD f++125::r)) p.length=true∧rdJ (p++(oD f++125::r)) p.length=(p.length:Int)+((oD f).length:Int):=by
 unfold rdF rdB rdJ;rw [List.drop_left,BS hm hl r];refine⟨rfl,rfl,?_⟩;simp only [DE,Dx];omega
theorem ux (fc:List Value) (f:Tf) (p r:Str) (w:World) (ht:Tab w) (hv:TfV w Any fc f) (hmm:f.mem) (hp:p.length≤maxLen) (hr:r.length≤maxLen) :
  Calls Tryz.prog 4 #[.agg fc.toArray,.string ⟨p.toArray⟩,.string ⟨r.toArray⟩] w fun e w'=>e=.returned (.bool true)∧Below w.heap.size w w':=by
 unfold maxLen at hp hr;obtain⟨rk,rch,rng,rrs,rlo,rhi,rlz,rks,ra,rcp,rka,rkc,fa,fcp,hc⟩:=hv.open_;obtain⟨X,fs,fd,al⟩:=f;have hx1:X=.mk rk rch rng rrs rlo rhi rlz rks:=hc.rx;have hfce:fc=[.int .i64 rk,.string ⟨rch.toArray⟩,.bool rng,.slice ra rrs.length rcp,.int .i64 rlo,.int .i64 rhi,.bool rlz,.slice rka rks.length rkc,.slice fa fs.length fcp,.bool fd,.bool al]:=hc.eq;subst hfce;obtain⟨W0,hW0⟩:∃W0,W0=w.alloc (.cells ([.int .i64 rk,.string ⟨rch.toArray⟩,.bool rng,.slice ra rrs.length rcp,.int .i64 rlo,.int .i64 rhi,.bool rlz,.slice rka rks.length rkc,.slice fa fs.length fcp,.bool fd,.bool al]).toArray 28):=⟨_,rfl⟩;have hb0:Below w.heap.size w W0:=by rw [hW0];exact(Below.refl _ _).alloc (Dv _) _
 have HB1:Hid (W0.heap[w.heap.size]?=some (.cells ([.int .i64 rk,.string ⟨rch.toArray⟩,.bool rng,.slice ra rrs.length rcp,.int .i64 rlo,.int .i64 rhi,.bool rlz,.slice rka rks.length rkc,.slice fa fs.length fcp,.bool fd,.bool al]).toArray 28 (0,0))):=ab gE;have HXV:Hid (RxV W0 Any [.int .i64 rk,.string ⟨rch.toArray⟩,.bool rng,.slice ra rrs.length rcp,.int .i64 rlo,.int .i64 rhi,.bool rlz,.slice rka rks.length rkc] X):=ab (hx1▸hc.rv.later hb0);have HV:=ab (hv.keep (Kept.all hb0));have HT:=ab (ht.keep hb0);have HLF:=ab (sn Any ⟨X,fs,fd,al⟩ hmm _ W0 120 HV.out fU fU);obtain⟨L,hL⟩:∃L,wy ⟨X,fs,fd,al⟩ 120=L:=⟨_,rfl⟩;rw [hL] at HLF;have HW0:=ab hW0;have HB0:=ab hb0;clear hv ht hmm hW0 hb0 hc hx1;by_cases hbad:L<0∨30<p.length∨30<r.length
 ·by_cases hneg:L<0
  ·have hge:decide (L<0)=true:=DN hneg
   exact aT
  ·have hge:decide (L<0)=false:=DU hneg
   by_cases h1:30<p.length
   ·have g1:decide ((30:Int)<(p.length:Int))=true:=DN fR
    exact aT
   ·have g1:decide ((30:Int)<(p.length:Int))=false:=DU fR
    have g2:decide ((30:Int)<(r.length:Int))=true:=DN fR;exact aT
 ·have hneg:¬L<0:=fun h=>hbad (.inl h)
  have hp3:p.length≤30:=fR;have hr3:r.length≤30:=fR;have hge:decide (L<0)=false:=DU hneg;have g1:decide ((30:Int)<(p.length:Int))=false:=DU fR;have g2:decide ((30:Int)<(r.length:Int))=false:=DU fR;have hw:uu ⟨X,fs,fd,al⟩≤120:=by have:=yo ⟨X,fs,fd,al⟩ 120 fR;omega
  have hsm:=qp (f:=⟨X,fs,fd,al⟩) fR;have HMX:=ab (fun W (h:TfV W Any [.int .i64 rk,.string ⟨rch.toArray⟩,.bool rng,.slice ra rrs.length rcp,.int .i64 rlo,.int .i64 rhi,.bool rlz,.slice rka rks.length rkc,.slice fa fs.length fcp,.bool fd,.bool al] ⟨X,fs,fd,al⟩)=>qb Any ⟨X,fs,fd,al⟩ hsm _ W h);have HSM:=ab hsm;cases hm:mP ⟨X,fs,fd,al⟩ with
  | false =>
   rw [hm] at HMX;have HSX:=ab (fun W (h:TfV W Any [.int .i64 rk,.string ⟨rch.toArray⟩,.bool rng,.slice ra rrs.length rcp,.int .i64 rlo,.int .i64 rhi,.bool rlz,.slice rka rks.length rkc,.slice fa fs.length fcp,.bool fd,.bool al] ⟨X,fs,fd,al⟩)=>yV Any ⟨X,fs,fd,al⟩ hsm hm _ W h);clear hneg hL hw hsm hm hbad;go_enter Tryz.func4,Tryz.ntmps4
   go_upto_region 1 with fail
   rw [←HW0.out];clear HW0;go_wp2_with (first
    | (refine jI rfl 28 (.tmp 3) rfl w.heap.size 0 rfl [.int .i64 rk,.string ⟨rch.toArray⟩,.bool rng,.slice ra rrs.length rcp,.int .i64 rlo,.int .i64 rhi,.bool rlz,.slice rka rks.length rkc,.slice fa fs.length fcp,.bool fd,.bool al] _ (jK (ds:=[]) HB1.out) j0 rfl gG ?_)
    | (go_at_call 5;refine HLF.out.mono ?_))
   first|rintro e w1 rfl hb1|rintro e w1 ⟨rfl,hb1⟩
   have HB2:=ab ((hb1.block _ (jA HB1.out)).trans HB1.out);have HV1:=ab (HV.out.keep (Kept.all hb1));have HS1:=ab (HSX.out w1 HV1.out);have HBA:=ab (bel2 HB0.out hb1);clear hb1 HB1 HV HT HSX HLF HB0;go_wp2_with (first
    | (refine jI rfl 28 (.tmp 3) rfl w.heap.size 0 rfl [.int .i64 rk,.string ⟨rch.toArray⟩,.bool rng,.slice ra rrs.length rcp,.int .i64 rlo,.int .i64 rhi,.bool rlz,.slice rka rks.length rkc,.slice fa fs.length fcp,.bool fd,.bool al] _ (jK (ds:=[]) HB2.out) j0 rfl gG ?_)
    | (go_at_call 7;refine HS1.out.mono ?_))
   first|rintro e w2 rfl hb2|rintro e w2 ⟨rfl,hb2⟩
   have HB3:=ab ((hb2.block _ (jA HB2.out)).trans HB2.out);have HM1:=ab (HMX.out w2 (HV1.out.keep (Kept.all hb2)));have HBB:=ab (bel2 HBA.out hb2);clear hb2 HB2 HV1 HS1 HBA HMX;go_wp2_with (first
    | (refine jI rfl 28 (.tmp 3) rfl w.heap.size 0 rfl [.int .i64 rk,.string ⟨rch.toArray⟩,.bool rng,.slice ra rrs.length rcp,.int .i64 rlo,.int .i64 rhi,.bool rlz,.slice rka rks.length rkc,.slice fa fs.length fcp,.bool fd,.bool al] _ (jK (ds:=[]) HB3.out) j0 rfl gG ?_)
    | (go_at_call 9;refine HM1.out.mono ?_;first|rintro e w3 rfl hb3|rintro e w3 ⟨rfl,hb3⟩)
    | (go_at_call 6;refine(qi _).mono ?_;first|rintro e w9 rfl hb9|rintro e w9 ⟨rfl,hb9⟩))
   go_ret
   exact⟨rfl,bel2 (bel2 HBB.out hb3) hb9⟩
  | true =>
   rw [hm] at HMX;obtain⟨hti,hfl⟩:=sN hm fR;have HSX:=ab (fun W (h:TfV W Any [.int .i64 rk,.string ⟨rch.toArray⟩,.bool rng,.slice ra rrs.length rcp,.int .i64 rlo,.int .i64 rhi,.bool rlz,.slice rka rks.length rkc,.slice fa fs.length fcp,.bool fd,.bool al] ⟨X,fs,fd,al⟩) t=>vQ Any ⟨X,fs,fd,al⟩ hti hm _ W h t);have hmx:mayB X=true:=by unfold mP at hm;rw [Dy] at hm;exact hm.1
   have HRX:=ab (fun W (h:RxV W Any [.int .i64 rk,.string ⟨rch.toArray⟩,.bool rng,.slice ra rrs.length rcp,.int .i64 rlo,.int .i64 rhi,.bool rlz,.slice rka rks.length rkc] X) t=>pZ Any X _ W hti.1.2.1 hti.1.1 h t hmx (by have:=hti.2.2.2.1;show X.tell.length≤10000000;have h9:X.tell.length≤1000000:=this;omega));have HMM:=ab hm;obtain⟨T,hT⟩:∃T,oD ⟨X,fs,fd,al⟩=T:=⟨_,rfl⟩;obtain⟨U,hU⟩:∃U,X.tell=U:=⟨_,rfl⟩;have hul:U.length≤1000000:=by rw [←hU];exact hti.2.2.2.1
   rw [hT] at HSX hfl;rw [hU] at HRX;have HTE:=ab hT;have HUE:=ab hU;clear hneg hL hw hsm hm hti hmx hT hU hbad;go_enter Tryz.func4,Tryz.ntmps4
   go_upto_region 1 with fail
   rw [←HW0.out];clear HW0;go_wp2_with (first
    | (refine jI rfl 28 (.tmp 3) rfl w.heap.size 0 rfl [.int .i64 rk,.string ⟨rch.toArray⟩,.bool rng,.slice ra rrs.length rcp,.int .i64 rlo,.int .i64 rhi,.bool rlz,.slice rka rks.length rkc,.slice fa fs.length fcp,.bool fd,.bool al] _ (jK (ds:=[]) HB1.out) j0 rfl gG ?_)
    | (go_at_call 5;refine HLF.out.mono ?_))
   first|rintro e w1 rfl hb1|rintro e w1 ⟨rfl,hb1⟩
   have HB2:=ab ((hb1.block _ (jA HB1.out)).trans HB1.out);have HV1:=ab (HV.out.keep (Kept.all hb1));have HT1:=ab (HT.out.keep hb1);have HS1:=ab (HSX.out w1 HV1.out HT1.out);have HX1:=ab (HXV.out.later hb1);have HBA:=ab (bel2 HB0.out hb1);clear hb1 HB1 HV HT HSX HLF HB0 HXV;go_wp2_with (first
    | (refine jI rfl 28 (.tmp 3) rfl w.heap.size 0 rfl [.int .i64 rk,.string ⟨rch.toArray⟩,.bool rng,.slice ra rrs.length rcp,.int .i64 rlo,.int .i64 rhi,.bool rlz,.slice rka rks.length rkc,.slice fa fs.length fcp,.bool fd,.bool al] _ (jK (ds:=[]) HB2.out) j0 rfl gG ?_)
    | (go_at_call 7;refine HS1.out.mono ?_))
   first|rintro e w2 rfl hb2|rintro e w2 ⟨rfl,hb2⟩
   have HB3:=ab ((hb2.block _ (jA HB2.out)).trans HB2.out);have HV2:=ab (HV1.out.keep (Kept.all hb2));have HT2:=ab (HT1.out.keep hb2);have HX2:=ab (HX1.out.later hb2);have HM1:=ab (HMX.out w2 HV2.out);have HBB:=ab (bel2 HBA.out hb2);clear hb2 HB2 HV1 HS1 HBA HMX HT1 HX1;go_wp2_with (first
    | (refine jI rfl 28 (.tmp 3) rfl w.heap.size 0 rfl [.int .i64 rk,.string ⟨rch.toArray⟩,.bool rng,.slice ra rrs.length rcp,.int .i64 rlo,.int .i64 rhi,.bool rlz,.slice rka rks.length rkc,.slice fa fs.length fcp,.bool fd,.bool al] _ (jK (ds:=[]) HB3.out) j0 rfl gG ?_)
    | (go_at_call 9;refine HM1.out.mono ?_))
   first|rintro e w3 rfl hb3|rintro e w3 ⟨rfl,hb3⟩
   have HB4:=ab ((hb3.block _ (jA HB3.out)).trans HB3.out);have HV3:=ab (HV2.out.keep (Kept.all hb3));have HR1:=ab (HRX.out w3 (HX2.out.later hb3) (HT2.out.keep hb3));have HBC:=ab (bel2 HBB.out hb3);clear hb3 HB3 HV2 HT2 HX2 HM1 HBB HRX;go_wp2_with (first
    | (refine jI rfl 25 (.tmp 46) rfl w.heap.size 0 rfl [.int .i64 rk,.string ⟨rch.toArray⟩,.bool rng,.slice ra rrs.length rcp,.int .i64 rlo,.int .i64 rhi,.bool rlz,.slice rka rks.length rkc] _ (jK (ds:=[.slice fa fs.length fcp,.bool fd,.bool al]) HB4.out) kG rfl gH ?_)
    | (go_at_call 11;refine HR1.out.mono ?_))
   first|rintro e w4 rfl hb4|rintro e w4 ⟨rfl,hb4⟩
   have HB5:=ab ((hb4.block _ (jA HB4.out)).trans HB4.out);have HV4:=ab (HV3.out.keep (Kept.all hb4));have HBD:=ab (bel2 HBC.out hb4);clear hb4 HB4 HV3 HBC HR1;by_cases hlong:256<U.length
   ·have g3:decide ((256:Int)<(U.length:Int))=true:=DN fR
    go_wp2_with (go_at_call 6;refine(qi _).mono ?_;first|rintro e w9 rfl hb9|rintro e w9 ⟨rfl,hb9⟩)
    go_ret
    exact⟨rfl,bel2 HBD.out hb9⟩
   ·have g3:decide ((256:Int)<(U.length:Int))=false:=DU fR
    obtain⟨q1,q2,q3⟩:=rd_told (f:=⟨X,fs,fd,al⟩) HMM.out (by show X.tell.length≤256;rw [HUE.out];omega) p r;rw [HTE.out] at q1 q2 q3;have hru:=ReadsU (p++(T++125::r)) p.length w4 fX (by simp only [DE,Dx];omega);rw [q1,q2,q3] at hru;have HRU:=ab hru;clear q1 q2 q3 hru hlong;go_wp2_with (go_at_call 12;refine HRU.out.mono ?_)
    rintro e w5 ⟨ak,ach,ang,aa,an,acp,alo,ahi,alz,aka,akn,akc,afa,afn,afcp,afd,aal,rfl,hv5,hb5⟩;obtain⟨W6,hW6⟩:∃W6,W6=w5.alloc (.cells #[.int .i64 ak,.string ⟨ach.toArray⟩,.bool ang,.slice aa an acp,.int .i64 alo,.int .i64 ahi,.bool alz,.slice aka akn akc,.slice afa afn afcp,.bool afd,.bool aal] 28):=⟨_,rfl⟩;have hb6:Below w5.heap.size w5 W6:=by rw [hW6];exact(Below.refl _ _).alloc (Dv _) _
    have HL6:Hid (W6.heap[w5.heap.size]?=some (.cells #[.int .i64 ak,.string ⟨ach.toArray⟩,.bool ang,.slice aa an acp,.int .i64 alo,.int .i64 ahi,.bool alz,.slice aka akn akc,.slice afa afn afcp,.bool afd,.bool aal] 28 (0,0))):=ab (by rw [hW6];exact heap_alloc_new w5 _);have HB6:=ab (((bel2 hb5 hb6).block _ (jA HB5.out)).trans HB5.out);have HSF:=ab (we _ _ ⟨X,fs,fd,al⟩ HSM.out _ _ W6 (hv5.keep (Kept.all hb6)) (HV4.out.keep (Kept.all (bel2 hb5 hb6))));have HBE:=ab (bel2 HBD.out (bel2 hb5 hb6));have HW6:=ab hW6;clear hv5 hb5 hb6 hW6 HRU HB5 HV4 HBD;go_upto_region 10 with fail
    rw [←HW6.out];clear HW6;go_wp2_with (first
     | (refine tF (by rfl) 28 (.tmp 11) rfl w5.heap.size 0 rfl [.int .i64 ak,.string ⟨ach.toArray⟩,.bool ang,.slice aa an acp,.int .i64 alo,.int .i64 ahi,.bool alz,.slice aka akn akc,.slice afa afn afcp,.bool afd,.bool aal] _ (jK (ds:=[]) HL6.out) j0 rfl gG ?_)
     | (refine tF (by rfl) 28 (.tmp 3) rfl w.heap.size 0 rfl [.int .i64 rk,.string ⟨rch.toArray⟩,.bool rng,.slice ra rrs.length rcp,.int .i64 rlo,.int .i64 rhi,.bool rlz,.slice rka rks.length rkc,.slice fa fs.length fcp,.bool fd,.bool al] _ (jK (ds:=[]) HB6.out) j0 rfl gG ?_)
     | (go_at_call 13;refine HSF.out.mono ?_;first|rintro e w7 rfl hb7|rintro e w7 ⟨rfl,hb7⟩)
     | (go_at_call 6;refine(qi _).mono ?_;first|rintro e w9 rfl hb9|rintro e w9 ⟨rfl,hb9⟩))
    go_ret
    exact⟨rfl,bel2 (bel2 HBE.out hb7) hb9⟩
end Go.Proofs.YtjggmmaojklmpaaGreatDoor
