/- walk of gimletlaw19.FormTells -/
import Derived.Test.YtjggmmaojklmpaaGreatDoorKb30
import Derived.Test.YtjggmmaojklmpaaGreatDoorKb25
set_option maxRecDepth 100000
set_option maxHeartbeats 4000000
namespace Go.Proofs.YtjggmmaojklmpaaGreatDoor
open Go.RowKit
theorem sR (fc:List Value) (f:Tf) (w:World) (ht:Tab w) (hv:TfV w Any fc f) (hmm:f.mem) :
  Calls Tryz.prog 3 #[.agg fc.toArray] w fun e w'=>e=.returned (.bool true)∧Below w.heap.size w w':=by
 obtain⟨rk,rch,rng,rrs,rlo,rhi,rlz,rks,ra,rcp,rka,rkc,fa,fcp,hc⟩:=hv.open_;obtain⟨X,fs,fd,al⟩:=f;have hfce:fc=[.int .i64 rk,.string ⟨rch.toArray⟩,.bool rng,.slice ra rrs.length rcp,.int .i64 rlo,.int .i64 rhi,.bool rlz,.slice rka rks.length rkc,.slice fa fs.length fcp,.bool fd,.bool al]:=hc.eq;subst hfce;obtain⟨W0,hW0⟩:∃W0,W0=w.alloc (.cells ([.int .i64 rk,.string ⟨rch.toArray⟩,.bool rng,.slice ra rrs.length rcp,.int .i64 rlo,.int .i64 rhi,.bool rlz,.slice rka rks.length rkc,.slice fa fs.length fcp,.bool fd,.bool al]).toArray 28):=⟨_,rfl⟩;have hb0:Below w.heap.size w W0:=by rw [hW0];exact(Below.refl _ _).alloc (Dv _) _
 have HB1:Hid (W0.heap[w.heap.size]?=some (.cells ([.int .i64 rk,.string ⟨rch.toArray⟩,.bool rng,.slice ra rrs.length rcp,.int .i64 rlo,.int .i64 rhi,.bool rlz,.slice rka rks.length rkc,.slice fa fs.length fcp,.bool fd,.bool al]).toArray 28 (0,0))):=ab gE;have HV:=ab (hv.keep (Kept.all hb0));have HT:=ab (ht.keep hb0);have HLF:=ab (sn Any ⟨X,fs,fd,al⟩ hmm _ W0 120 HV.out fU fU);obtain⟨L,hL⟩:∃L,wy ⟨X,fs,fd,al⟩ 120=L:=⟨_,rfl⟩;rw [hL] at HLF;have HW0:=ab hW0;have HB0:=ab hb0;clear hv ht hmm hW0 hb0 hc;by_cases hneg:L<0
 ·have hge:decide (L<0)=true:=DN hneg
  clear hneg hL;go_enter Tryz.func3,Tryz.ntmps3
  go_upto_region 1 with fail
  rw [←HW0.out];clear HW0;go_wp2_with (first
   | (refine jI rfl 28 (.tmp 1) rfl w.heap.size 0 rfl [.int .i64 rk,.string ⟨rch.toArray⟩,.bool rng,.slice ra rrs.length rcp,.int .i64 rlo,.int .i64 rhi,.bool rlz,.slice rka rks.length rkc,.slice fa fs.length fcp,.bool fd,.bool al] _ (jK (ds:=[]) HB1.out) j0 rfl gG ?_)
   | (go_at_call 5;refine HLF.out.mono ?_;first|rintro e w1 rfl hb1|rintro e w1 ⟨rfl,hb1⟩)
   | (go_at_call 6;refine(qi _).mono ?_;rintro e w9 ⟨rfl,hb9⟩))
  go_ret
  exact⟨rfl,bel2 (bel2 HB0.out hb1) hb9⟩
 ·have hge:decide (L<0)=false:=DU hneg
  have hw:uu ⟨X,fs,fd,al⟩≤120:=by have:=yo ⟨X,fs,fd,al⟩ 120 fR;omega
  have hsm:=qp (f:=⟨X,fs,fd,al⟩) fR;have HMX:=ab (fun W (h:TfV W Any [.int .i64 rk,.string ⟨rch.toArray⟩,.bool rng,.slice ra rrs.length rcp,.int .i64 rlo,.int .i64 rhi,.bool rlz,.slice rka rks.length rkc,.slice fa fs.length fcp,.bool fd,.bool al] ⟨X,fs,fd,al⟩)=>qb Any ⟨X,fs,fd,al⟩ hsm _ W h);have HMR:=ab (fun W (h:TfV W Any [.int .i64 rk,.string ⟨rch.toArray⟩,.bool rng,.slice ra rrs.length rcp,.int .i64 rlo,.int .i64 rhi,.bool rlz,.slice rka rks.length rkc,.slice fa fs.length fcp,.bool fd,.bool al] ⟨X,fs,fd,al⟩)=>qy Any ⟨X,fs,fd,al⟩ hsm _ W h);obtain⟨T,E,HSX,HSR⟩:∃(T:Str) (E:Int),Hid (∀W,TfV W Any [.int .i64 rk,.string ⟨rch.toArray⟩,.bool rng,.slice ra rrs.length rcp,.int .i64 rlo,.int .i64 rhi,.bool rlz,.slice rka rks.length rkc,.slice fa fs.length fcp,.bool fd,.bool al] ⟨X,fs,fd,al⟩→Tab W→Calls Tryz.prog 7 #[.agg ([.int .i64 rk,.string ⟨rch.toArray⟩,.bool rng,.slice ra rrs.length rcp,.int .i64 rlo,.int .i64 rhi,.bool rlz,.slice rka rks.length rkc,.slice fa fs.length fcp,.bool fd,.bool al]).toArray] W fun e w'=>e=.returned (.tuple #[.string ⟨T.toArray⟩,.int .i64 E])∧Below W.heap.size W w') ∧
    Hid (∀W,TfV W Any [.int .i64 rk,.string ⟨rch.toArray⟩,.bool rng,.slice ra rrs.length rcp,.int .i64 rlo,.int .i64 rhi,.bool rlz,.slice rka rks.length rkc,.slice fa fs.length fcp,.bool fd,.bool al] ⟨X,fs,fd,al⟩→Calls Tryz.prog 8 #[.agg ([.int .i64 rk,.string ⟨rch.toArray⟩,.bool rng,.slice ra rrs.length rcp,.int .i64 rlo,.int .i64 rhi,.bool rlz,.slice rka rks.length rkc,.slice fa fs.length fcp,.bool fd,.bool al]).toArray] W fun e w'=>e=.returned (.tuple #[.string ⟨T.toArray⟩,.int .i64 E])∧Below W.heap.size W w'):=by
   cases hm:mP ⟨X,fs,fd,al⟩ with
   | false=>exact⟨[],10,ab fun W h _=>yV Any _ hsm hm _ W h,ab fun W h=>Al Any _ hsm hm _ W h⟩
   | true=>exact⟨oD ⟨X,fs,fd,al⟩,0,ab fun W h t=>vQ Any _ (sN hm fR).1 hm _ W h t,ab fun W h=>xK Any _ (sN hm fR).1 hm _ W h⟩
  obtain⟨M,hM⟩:∃M,mP ⟨X,fs,fd,al⟩=M:=⟨_,rfl⟩;rw [hM] at HMX HMR;clear hneg hL hw hsm hM;go_enter Tryz.func3,Tryz.ntmps3
  go_upto_region 1 with fail
  rw [←HW0.out];clear HW0;go_wp2_with (first
   | (refine jI rfl 28 (.tmp 1) rfl w.heap.size 0 rfl [.int .i64 rk,.string ⟨rch.toArray⟩,.bool rng,.slice ra rrs.length rcp,.int .i64 rlo,.int .i64 rhi,.bool rlz,.slice rka rks.length rkc,.slice fa fs.length fcp,.bool fd,.bool al] _ (jK (ds:=[]) HB1.out) j0 rfl gG ?_)
   | (go_at_call 5;refine HLF.out.mono ?_))
  first|rintro e w1 rfl hb1|rintro e w1 ⟨rfl,hb1⟩
  have HB2:=ab ((hb1.block _ (jA HB1.out)).trans HB1.out);have HV1:=ab (HV.out.keep (Kept.all hb1));have HS1:=ab (HSX.out w1 HV1.out (HT.out.keep hb1));have HBA:=ab (bel2 HB0.out hb1);clear hb1 HB1 HV HT HSX HLF HB0;go_wp2_with (first
   | (refine jI rfl 28 (.tmp 1) rfl w.heap.size 0 rfl [.int .i64 rk,.string ⟨rch.toArray⟩,.bool rng,.slice ra rrs.length rcp,.int .i64 rlo,.int .i64 rhi,.bool rlz,.slice rka rks.length rkc,.slice fa fs.length fcp,.bool fd,.bool al] _ (jK (ds:=[]) HB2.out) j0 rfl gG ?_)
   | (go_at_call 7;refine HS1.out.mono ?_))
  first|rintro e w2 rfl hb2|rintro e w2 ⟨rfl,hb2⟩
  have HB3:=ab ((hb2.block _ (jA HB2.out)).trans HB2.out);have HV2:=ab (HV1.out.keep (Kept.all hb2));have HS2:=ab (HSR.out w2 HV2.out);have HBB:=ab (bel2 HBA.out hb2);clear hb2 HB2 HV1 HS1 HSR HBA;go_wp2_with (first
   | (refine jI rfl 28 (.tmp 1) rfl w.heap.size 0 rfl [.int .i64 rk,.string ⟨rch.toArray⟩,.bool rng,.slice ra rrs.length rcp,.int .i64 rlo,.int .i64 rhi,.bool rlz,.slice rka rks.length rkc,.slice fa fs.length fcp,.bool fd,.bool al] _ (jK (ds:=[]) HB3.out) j0 rfl gG ?_)
   | (go_at_call 8;refine HS2.out.mono ?_))
  first|rintro e w3 rfl hb3|rintro e w3 ⟨rfl,hb3⟩
  have hb4:=(hb3.block _ (jA HB3.out)).trans HB3.out;have HV3:=ab (HV2.out.keep (Kept.all hb3));have HBC:=ab (bel2 HBB.out hb3);have e0:∀x:ExtOf w3,x.val.cell? ⟨w.heap.size,0,none⟩=some (.int .i64 rk):=ExtOf.cell (jC hb4 0 rfl);have e1:∀x:ExtOf w3,x.val.cell? ⟨w.heap.size,1,none⟩=some (.string ⟨rch.toArray⟩):=ExtOf.cell (jC hb4 1 rfl);have e2:∀x:ExtOf w3,x.val.cell? ⟨w.heap.size,2,none⟩=some (.bool rng):=ExtOf.cell (jC hb4 2 rfl);have e3:∀x:ExtOf w3,x.val.cell? ⟨w.heap.size,3,none⟩=some (.slice ra rrs.length rcp):=ExtOf.cell (jC hb4 3 rfl);have e4:∀x:ExtOf w3,x.val.cell? ⟨w.heap.size,4,none⟩=some (.int .i64 rlo):=ExtOf.cell (jC hb4 4 rfl);have e5:∀x:ExtOf w3,x.val.cell? ⟨w.heap.size,5,none⟩=some (.int .i64 rhi):=ExtOf.cell (jC hb4 5 rfl);have e6:∀x:ExtOf w3,x.val.cell? ⟨w.heap.size,6,none⟩=some (.bool rlz):=ExtOf.cell (jC hb4 6 rfl);have e7:∀x:ExtOf w3,x.val.cell? ⟨w.heap.size,7,none⟩=some (.slice rka rks.length rkc):=ExtOf.cell (jC hb4 7 rfl);have e8:∀x:ExtOf w3,x.val.cell? ⟨w.heap.size,8,none⟩=some (.slice fa fs.length fcp):=ExtOf.cell (jC hb4 8 rfl);have e9:∀x:ExtOf w3,x.val.cell? ⟨w.heap.size,9,none⟩=some (.bool fd):=ExtOf.cell (jC hb4 9 rfl);have e10:∀x:ExtOf w3,x.val.cell? ⟨w.heap.size,10,none⟩=some (.bool al):=ExtOf.cell (jC hb4 10 rfl);have HM1:Hid (∀x:ExtOf w3,Calls Tryz.prog 9 #[.agg ([.int .i64 rk,.string ⟨rch.toArray⟩,.bool rng,.slice ra rrs.length rcp,.int .i64 rlo,.int .i64 rhi,.bool rlz,.slice rka rks.length rkc,.slice fa fs.length fcp,.bool fd,.bool al]).toArray] x.val fun e w'=>e=.returned (.bool M)∧Below x.val.heap.size x.val w'):=ab fun x=>HMX.out _ (HV3.out.keep (Kept.all x.ext))
  have HM2:Hid (∀x:ExtOf w3,Calls Tryz.prog 10 #[.agg ([.int .i64 rk,.string ⟨rch.toArray⟩,.bool rng,.slice ra rrs.length rcp,.int .i64 rlo,.int .i64 rhi,.bool rlz,.slice rka rks.length rkc,.slice fa fs.length fcp,.bool fd,.bool al]).toArray] x.val fun e w'=>e=.returned (.bool M)∧Below x.val.heap.size x.val w'):=ab fun x=>HMR.out _ (HV3.out.keep (Kept.all x.ext))
  have HAW:Hid (∀x:ExtOf w3,Calls Tryz.prog 6 #[] x.val fun e w'=>e=.returned (.bool true)∧Below x.val.heap.size x.val w'):=ab fun x=>qi x.val
  clear hb3 hb4 HB3 HV2 HS2 HMX HMR HV3 HBB;go_wp2
  refine jF fW fW ?_;repeat (go_big_quiet_step ((first|(go_at_call 9;exact kg (HM1.out _))|(go_at_call 10;exact kg (HM2.out _))|(go_at_call 6;exact kg (HAW.out _)))))
  refine wpQuiet_nil ?_;rintro _ ⟨xq,rfl⟩;go_wp2
  go_ret
  exact⟨rfl,bel2 HBC.out xq.ext⟩
end Go.Proofs.YtjggmmaojklmpaaGreatDoor
