/- walk of xform.Apply -/
import Derived.Test.YtjggmmaojklmpaaGreatLb30
set_option maxRecDepth 100000
set_option maxHeartbeats 4000000
namespace Go.Proofs.YtjggmmaojklmpaaGreat
open Go.RowKit
theorem mayB_wf {x:Rx} (h:mayB x=true):x.wf=true∧x.parts≤512:=by
 exact ec
theorem zK {f:Fm} {ps:List Str} {m:Nat} (h:∀p∈ps,p.length≤m) (h1:f.thn.length≤m∧f.els.length≤m):(ld [f] ps).length≤m:=by
 unfold ld;split
 ·simp only [Cx,List.flatMap_nil,C2]
  exact pL h h1.1 h1.2
 ·simp
theorem TfV.later {w w':World} {S:Nat→Prop} {c:List Value} {f:Tf} (h:TfV w S c f) (hb:Below w.heap.size w w'):TfV w' S c f:=h.keep (Kept.all hb)
set_option maxRecDepth 100000 in
theorem qh (S:Nat→Prop) (f:Tf) (fc:List Value) (w:World) (hv:TfV w S fc f) {s:Str} {z:Int} {R:Str × Int × Int} (hR:vf f.rx f.fs f.fold f.all s z=R) (hsm:f.small) (hfs:f.fs.length≤1000) {mf:Nat} (hmf:mf≤10000)
  (hf:∀g∈f.fs,g.thn.length≤mf∧g.els.length≤mf) (hs:s.length≤1000000) (hps:∀m∈(kQ f.rx f.fold f.all s z).1,∀p∈lx s (rcM f.fold s).offs m,p.length≤mf) :
  Calls Tryz.prog 7 #[.agg fc.toArray,.string ⟨s.toArray⟩,.int .i64 z] w fun e w'=>e=.returned (.tuple #[.string ⟨(R.1).toArray⟩,.int .i64 R.2.1,.int .i64 R.2.2])∧Below w.heap.size w w':=by
 obtain⟨rk,rch,rng,rrs,rlo,rhi,rlz,rks,ra,rcp,rka,rkc,fa,fcp,hc⟩:=hv.open_;obtain⟨X,fs,fd,al⟩:=f;have hfce:fc=[.int .i64 rk,.string ⟨rch.toArray⟩,.bool rng,.slice ra rrs.length rcp,.int .i64 rlo,.int .i64 rhi,.bool rlz,.slice rka rks.length rkc,.slice fa fs.length fcp,.bool fd,.bool al]:=hc.eq;subst hfce;replace hfs:fs.length≤1000:=hfs;obtain⟨W0,hW0⟩:∃W0,W0=w.alloc (.cells #[.int .i64 rk,.string ⟨rch.toArray⟩,.bool rng,.slice ra rrs.length rcp,.int .i64 rlo,.int .i64 rhi,.bool rlz,.slice rka rks.length rkc,.slice fa fs.length fcp,.bool fd,.bool al] 28):=⟨_,rfl⟩;have hb0:Below w.heap.size w W0:=by rw [hW0];exact(Below.refl _ _).alloc (Cp _) _
 have hl0:W0.heap[w.heap.size]?=some (.cells #[.int .i64 rk,.string ⟨rch.toArray⟩,.bool rng,.slice ra rrs.length rcp,.int .i64 rlo,.int .i64 rhi,.bool rlz,.slice rka rks.length rkc,.slice fa fs.length fcp,.bool fd,.bool al] 28 (0,0)):=by rw [hW0];exact heap_alloc_new w _
 have HM:=ab (XMay_any S ⟨X,fs,fd,al⟩ hsm _ W0 (hv.later hb0));have HV:=ab hv;have HSF:=ab (SlS.sl hc.fv);have HL0:=ab hl0;have HW0:=ab hW0;have HB0:=ab hb0;have HR:=ab hR;have HS:=ab hsm;have HF:=ab hf;have HPS:=ab hps;clear hv hc hW0 hb0 hl0 hR hsm hf hps;go_enter Tryz.func7,Tryz.ntmps7
 go_upto_region 1 with fail
 rw [←HW0.out];clear HW0;go_wp2_with (first
  | (refine kF rfl 28 (.tmp 3) rfl w.heap.size 0 rfl [.int .i64 rk,.string ⟨rch.toArray⟩,.bool rng,.slice ra rrs.length rcp,.int .i64 rlo,.int .i64 rhi,.bool rlz,.slice rka rks.length rkc,.slice fa fs.length fcp,.bool fd,.bool al] _ (kJ (ds:=[]) HL0.out) lm rfl iq ?_)
  | (go_at_call 15;refine HM.out.mono ?_))
 first|rintro e w1 rfl hb1|rintro e w1 ⟨rfl,hb1⟩
 have hl1:=(hb1.block _ (jO HL0.out)).trans HL0.out;have HB1:=ab (bel2 HB0.out hb1);have HL1:=ab hl1;have HV1:=ab (HV.out.later (bel2 HB0.out hb1));clear hb1 hl1 HM;cases hmay:sf ⟨X,fs,fd,al⟩ with
 | false =>
  exact du
 | true =>
  have hmx:mayB X=true:=by unfold sf at hmay;simp only [Cs] at hmay;exact hmay.1
  have hwf:=mayB_wf hmx;have HRE:Hid (R=if (kQ X fd al s z).2.out=true then([],0,9) else Bl fs s (rcM fd s).offs (kQ X fd al s z).1 (kQ X fd al s z).2.fuel):=ab (by
   rw [←HR.out];unfold sf at hmay;exact Co (by rw [hmay];decide))
  have HFO:=ab (AO S ⟨X,fs,fd,al⟩ (s:=s) (z:=z) _ w1 HV1.out (by have:=hwf.2;show X.parts≤1000000;omega) HS.out.1 hwf.1 hs (by have:=Rx.groups_parts X;show X.groups≤1000;omega));have HMX:=ab hmx;have hgr:X.groups≤512:=Ct (Rx.groups_parts X) hwf.2;clear hmay hmx hwf HR;go_wp2_with (first
   | (refine kF rfl 28 (.tmp 3) rfl w.heap.size 0 rfl [.int .i64 rk,.string ⟨rch.toArray⟩,.bool rng,.slice ra rrs.length rcp,.int .i64 rlo,.int .i64 rhi,.bool rlz,.slice rka rks.length rkc,.slice fa fs.length fcp,.bool fd,.bool al] _ (kJ (ds:=[]) HL1.out) lm rfl iq ?_)
   | (go_at_call 16;refine HFO.out.mono ?_))
  rintro e w2 ⟨hb2,hfo⟩;have hl2:=(hb2.block _ (jO HL1.out)).trans HL1.out;have HB2:=ab (bel2 HB1.out hb2);have HL2:=ab hl2;have HSF2:=ab (HSF.out.keep HB2.out);clear hb2 hl2 HFO HSF;rcases hfo with⟨h1,_⟩|⟨_,h2,u,rfl⟩|⟨_,h2,v,rfl,h3⟩
  ·exact eI
  ·have HR2:Hid (R=([],0,9)):=ab jD
   clear h2 HRE;go_wp2
   go_ret3
   exact⟨by rw [HR2.out];rfl,HB2.out⟩
  ·replace h2:(kQ X fd al s z).2.out=false:=h2
   obtain⟨ms,hms⟩:∃ms,(kQ X fd al s z).1=ms:=⟨_,rfl⟩;obtain⟨left,hleft⟩:∃left,(kQ X fd al s z).2.fuel=left:=⟨_,rfl⟩;have hask:=uA (nW X fd al s z);have hfl:((kQ (Tf.rx ⟨X,fs,fd,al⟩) (Tf.fold ⟨X,fs,fd,al⟩) (Tf.all ⟨X,fs,fd,al⟩) s z).2.fuel:Int)=(left:Int):=by rw [←hleft]
   replace h3:OwnM w2 w1.heap.size (rcM fd s).offs X.groups v ms:=by rw [←hms];exact h3
   have hRE:=HRE.out;have hps:=HPS.out;rw [Co (by rw [h2];decide),hms,hleft] at hRE;replace hps:∀m∈ms,∀p∈lx s (rcM fd s).offs m,p.length≤mf:=by rw [←hms];exact hps
   have hml:ms.length≤1000001:=by
    by_cases h:ms=[]
    ·rw [h];simp
    ·have h1:=(hms▸nW X fd al s z:Chain (rcM fd s) 0 ms).len h
     have h2:(rcM fd s).cs.length≤s.length:=pZ s;omega
   rw [hms] at hask;rw [hfl];obtain⟨offs,hoffs⟩:∃offs,(rcM fd s).offs=offs:=⟨_,rfl⟩;obtain⟨n,hn⟩:∃n,X.groups=n:=⟨_,rfl⟩;rw [hoffs] at hask hRE hps h3;rw [hn] at h3 hgr;obtain⟨va,vc,rfl,hvc⟩:=h3.form;clear HPS HRE hleft hms h2 hfl hoffs HMX;cases hms0:ms with
   | nil =>
    subst hms0;have HR2:Hid (R=(s,(left:Int),0)):=ab (by rw [hRE];rfl);clear hRE hps hask h3 hvc;go_wp2
    go_ret3
    exact⟨by rw [HR2.out];rfl,HB2.out⟩
   | cons m0 mr =>
    have hmp:0<ms.length:=by rw [hms0];simp
    have hRG:R=endG s left (goM s offs fs ms 0 []):=by rw [hRE];exact sg (by rw [hms0];simp)
    obtain⟨b0,c0,_,_,hv0,hb0,_⟩:=h3.rd (k:=0) (m:=m0) (by rw [hms0];rfl);injection hv0 with hv0 _ _
    subst hv0;rw [←hms0] at *;clear hms0;have hgz:((ms.length:Int)==0)=false:=by rw [CM];omega
    obtain⟨G,hG⟩:∃G,goM s offs fs ms 0 []=G:=⟨_,rfl⟩;rw [hG] at hRG;have HRG:=ab hRG;have HG:=ab hG;have HASK:=ab hask;have HPS:=ab hps;have HOM:=ab h3;have HVC:=ab hvc;clear hRE hask hps h3 hRG hG hvc;have HI8:=ab (info_parts qi);have HIS:=ab (info_parts uN);go_wp2
    go_loopw [12,13,42] (fun v12 v13 q wr=>AlyRel s offs fs ms w2 G v12 v13 q wr) (fun _ _ q _=>ms.length-(intOf q).toNat)
    case atStart=>exact⟨0,0,[],Nat.zero_le _,rfl,rfl,World.ownsRow_nil _ _ _ _,Below.refl _ _,Nat.zero_le _,by simp,ab (fun _ _=>Nat.zero_le _),ab (by rw [C0];exact HG.out)⟩
    case round =>
     obtain⟨wo,rfl⟩:∃wo:World,wo=wr:=⟨_,rfl⟩;obtain⟨k,at_,out,hk,rfl,rfl,hown,hb,hat,hol,HAT,HGK⟩:=hrel;obtain⟨oa,oc,rfl⟩:=j7 hown;have HOWN:=ab hown;have HB:=ab hb;have hz2:=HB2.out.size;clear HG hown hb;by_cases hlt:k<ms.length
     ·obtain⟨m,hm⟩:∃m,ms[k]?=some m:=⟨_,Cn hlt⟩
      obtain⟨b9,c9,aa,cp,hv9,hb9,c0,c1,c2,hsl,hmn⟩:=(HOM.out.later HB.out).rd hm;injection hv9 with hv9 _ _
      injection hv9 with hv9
      injection hv9 with hv9 _ _
      subst hv9;obtain⟨hu1,hu2,hu3,hu4⟩:=HASK.out k m hm;have hu5:=HAT.out m hm;have hgo:goM s offs fs (ms.drop k) at_ out=if 65536<(putM (lx s offs m) fs (out++kZ s at_ (offs.getD m.1 0))).length then none else goM s offs fs (ms.drop (k+1)) (offs.getD m.2.1 0) (putM (lx s offs m) fs (out++kZ s at_ (offs.getD m.1 0))):=by
       have e:ms.drop k=m::ms.drop (k+1):=by
        rw [List.drop_eq_getElem_cons hlt];rw [Cn hlt] at hm;injection hm with hm;rw [hm]
       rw [e,goM]
      rw [hgo] at HGK;have hpl:=HPS.out m (CF hm);have hpm:lx s offs m=kZ s (offs.getD m.1 0) (offs.getD m.2.1 0)::m.2.2.map (lZ s):=rfl;obtain⟨m1,m2,sp⟩:=m;simp only at c0 c1 hsl hmn hu1 hu2 hu3 hu4 hu5 HGK hpl hpm
      generalize hou:offs.getD m1 0=u at c0 hu1 hu5 HGK hpm
      generalize hov:offs.getD m2 0=u2 at c1 hu1 hu2 hu4 HGK hpm
      rw [hpm] at HGK hpl;obtain⟨p0,hp0⟩:∃p,kZ s u u2=p:=⟨_,rfl⟩;rw [hp0] at HGK hpl;have hp0t:lZ s ((u:Int),(u2:Int))=p0:=by rw [←hp0];unfold lZ;rw [Co gu];rfl
      obtain⟨W2,hW2⟩:∃W2,W2=wo.alloc (.cells #[.int .i64 (u:Int),.int .i64 (u2:Int),.slice aa n cp] 51):=⟨_,rfl⟩;have hb3:Below wo.heap.size wo W2:=by rw [hW2];exact(Below.refl _ _).alloc (Cp _) _
      have hl3:W2.heap[wo.heap.size]?=some (.cells #[.int .i64 (u:Int),.int .i64 (u2:Int),.slice aa n cp] 51 (0,0)):=by rw [hW2];exact heap_alloc_new wo _
      have HT1:=ab (yF s (u:Int) (u2:Int) W2 (.inr ⟨u,u2,hu1,hu2,rfl,rfl⟩));rw [hp0t] at HT1;have d0:=jT hl3 0 rfl;have d1:=jT hl3 1 rfl;have HU3:=ab hu3;have HU4:=ab hu4;have HPL:=ab hpl;have HSL:=ab hsl;have HMN:=ab hmn;have HW2:=ab hW2;have HB3:=ab hb3;have HL3:=ab hl3;clear hm hou hov hpm hp0 hp0t hgo hu3 hu4 hpl hsl hmn hW2 hb3 hl3 HAT;go_upto_region 13 with fail
      rw [←HW2.out];clear HW2 c0 c1 c2;go_wp2_with (go_at_call 17;refine HT1.out.mono ?_)
      first|rintro e w3 rfl hb4|rintro e w3 ⟨rfl,hb4⟩
      obtain⟨W4,hW4⟩:∃W4,W4=w3.alloc (.cells #[.string ⟨p0.toArray⟩] 9):=⟨_,rfl⟩;have hb5:Below w3.heap.size w3 W4:=by rw [hW4];exact(Below.refl _ _).alloc (Cp _) _
      have hbr3:Below wo.heap.size wo w3:=bel2 HB3.out hb4;have hl4:=((bel2 hb4 hb5).block _ (jO HL3.out)).trans HL3.out;have ho4:W4.ownsRow w3.heap.size 9 1 (.slice (some ⟨w3.heap.size,0,none⟩) 1 1) 1 (kv [p0]):=by
       rw [hW4];exact World.ownsRow_lit w3 #[.string ⟨p0.toArray⟩] 1 (Cp _) gD rfl
      have x2:=jT hl4 2 rfl;have HO4:=ab ho4;have HL4:=ab hl4;have HW4:=ab hW4;have HBR3:=ab hbr3;have HB5:=ab hb5;have HB4:=ab hb4;clear hW4 hb4 hb5 hbr3 hl4 ho4 d0 d1 HT1;go_upto_region 14 with fail
      rw [←HW4.out];clear HW4;go_wp2
      go_loopw [16,54] (fun v q wq=>PtRel s p0 sp w3 v q wq) (fun _ q _=>n-(intOf q).toNat)
      case atStart=>exact⟨0,Nat.zero_le _,rfl,HO4.out,HB5.out⟩
      case round =>
       obtain⟨j,hj,rfl,hpo,hpb⟩:=hrel;obtain⟨pa,pc,rfl⟩:=j7 hpo;rw [HMN.out] at hj;have HPO:=ab hpo;have HPB:=ab hpb;have hzq:=hpb.size;clear hpo hpb HO4 HB5;by_cases hjl:j<n
       ·obtain⟨vv,hvv⟩:∃vv,sp[j]?=some vv:=⟨_,Cn (by rw [HMN.out];exact hjl)⟩
        have hslq:=(((HSL.out.keep HBR3.out).mono HBR3.out.size).keep HPB.out);obtain⟨b5,o5,rfl,hb5,k0,k1⟩:=SlP.at_ hslq hvv;have htk:=HU3.out vv (CF hvv);have htl:=HPL.out (lZ s vv) (CC _ (List.mem_map_of_mem (CF hvv)));have hsn:(sp.take (j+1)).map (lZ s)=(sp.take j).map (lZ s)++[lZ s vv]:=by
         rw [List.take_add_one,hvv];simp
        obtain⟨v1,v2⟩:=vv;simp only at k0 k1 htk
        obtain⟨pv,hpv⟩:∃pv,lZ s (v1,v2)=pv:=⟨_,rfl⟩;rw [hpv] at hsn htl;obtain⟨W5,hW5⟩:∃W5,W5=wr.alloc (.cells #[.int .i64 v1,.int .i64 v2] 48):=⟨_,rfl⟩;have hb6:Below wr.heap.size wr W5:=by rw [hW5];exact(Below.refl _ _).alloc (Cp _) _
        have hl6:W5.heap[wr.heap.size]?=some (.cells #[.int .i64 v1,.int .i64 v2] 48 (0,0)):=by rw [hW5];exact heap_alloc_new wr _
        have HT2:=ab (yF s v1 v2 W5 htk);rw [hpv] at HT2;have e0:=jT hl6 0 rfl;have e1:=jT hl6 1 rfl;have HSN:=ab hsn;have HTL:=ab htl;have HB6:=ab hb6;have HW5:=ab hW5;clear hvv hslq htk htl hsn hpv hW5 hb6 hl6;go_upto_region 17 with fail
        rw [←HW5.out];clear HW5 k0 k1;go_wp2_with (go_at_call 17;refine HT2.out.mono ?_)
        first|rintro e w6 rfl hb7|rintro e w6 ⟨rfl,hb7⟩
        have hbq6:=bel2 HB6.out hb7;have ho6:=jZ HPO.out hbq6;have hb8:Below w6.heap.size w6 (w6.alloc (.cells #[.string ⟨pv.toArray⟩] 9)):=(Below.refl _ _).alloc (Cp _) _;have HO6:=ab (jZ ho6 hb8);have HSL6:=ab (Sl.lit (n:=1) (sz:=1) (heap_alloc_new w6 (.cells #[.string ⟨pv.toArray⟩] 9)) rfl);have hz6:w3.heap.size≤(w6.alloc (.cells #[.string ⟨pv.toArray⟩] 9)).heap.size:=by have:=hbq6.size;rw [CL];omega
        have HBA:=ab ((HPB.out.trans (hbq6.mono hzq)).trans (hb8.mono (Ct hzq hbq6.size)));clear ho6 hb8 hbq6 hb7 HT2 e0 e1;obtain⟨iis,hiis⟩:=HIS.out;go_wp2_with (at_builtin;refine ke w3.heap.size 9 rfl _ _ 53 rfl Tryz.underlying53 hiis rfl gD rfl HO6.out rfl HSL6.out gG gu gu gD hz6 ?_)
        intro v7 w7 ho7 hg7 hb7 hmv;have HB7:=ab (HBA.out.trans hb7);have ho8:w7.ownsRow w3.heap.size 9 1 v7 (j+1+1) (kv (p0::(sp.take (j+1)).map (lZ s))):=by
         rw [HSN.out,←CZ,rV];rw [←List.map_take] at ho7;exact ho7
        have HO8:=ab ho8;clear ho7 ho8 hg7 hb7 hmv;go_wp2
        go_roundw
        case rel=>exact⟨j+1,by rw [HMN.out];omega,by go_num,HO8.out,HB7.out⟩
        case measure=>simp [intOf];omega
       ·have hjn:j=n:=gu
        subst hjn;obtain⟨PS,hPS⟩:∃PS,p0::sp.map (lZ s)=PS:=⟨_,rfl⟩;have hpsl:PS.length=j+1:=by rw [←hPS,Cr,CX,HMN.out]
        have hpo:=HPO.out;rw [List.take_of_length_le (by rw [HMN.out];exact Cp _),hPS,←hpsl] at hpo;have hgk:=HGK.out;have hplm:=HPL.out;rw [hPS] at hgk hplm;have hown2:=l9 (l9 HOWN.out HBR3.out) HPB.out;have hl7:=(HPB.out.block _ (jO (((HB4.out).block _ (jO HL3.out)).trans HL3.out))).trans (((HB4.out).block _ (jO HL3.out)).trans HL3.out);have hb7:Below w2.heap.size w2 wr:=(HB.out.trans (HBR3.out.mono HB.out.size)).trans (HPB.out.mono (Ct HB.out.size HBR3.out.size));have f0:=jT hl7 0 rfl;have hzz:w2.heap.size≤wr.heap.size:=hb7.size;have HPO2:=ab hpo;have HGK2:=ab hgk;have HPL2:=ab hplm;have HPSL:=ab hpsl;have HOW2:=ab hown2;have HL7:=ab hl7;have HB7:=ab hb7;have hsll:(kZ s at_ u).length=u-at_:=by unfold kZ;rw [CK,CS];omega
        have HSLL:=ab hsll;have hsl2:((s.drop at_).take (u-at_)).length≤1000000:=by rw [CK,CS];omega
        clear hpo hgk hplm hpsl hown2 hl7 hb7 hsll hjl HPO HOWN HGK HPL;obtain⟨i8,hi8,hz0,hz1,hz9⟩:=HI8.out;go_upto_region 19 with fail
        go_wp2_with (at_builtin;refine Lib.wpList_append_own_string _ rfl _ _ 46 9 rfl w2.heap.size 5 i8 Tryz.underlying46 Tryz.underlying9 hi8 hz0 hz1 hz9 _ _ _ rfl HOW2.out _ rfl iT jr hzz ?_)
        intro v8 w8 ho8 hg8 _;have hout1:out.length+min (u-at_) (s.length-at_)=(out++kZ s at_ u).length:=by
         rw [Cy,HSLL.out];omega
        have ho9:w8.ownsRow w2.heap.size 5 1 v8 (out++kZ s at_ u).length (kR (out++kZ s at_ u)):=by
         rw [←hout1];simpa [kR,Lib.strCells,kZ] using ho8
        have hb8:Below w2.heap.size w2 w8:=HB7.out.grown hg8 hzz fun k hk=>(HOW2.out.lt k hk).1
        have hp8:=HPO2.out.kept hg8 (tl HPO2.out HOW2.out gD);have hl8:=(hg8.block wo.heap.size (jO HL7.out) (fun e=>lB HOW2.out HL7.out gD e.symm)).trans HL7.out;have y8:=jT ((hb8.block _ (jO HL2.out)).trans HL2.out) 8 rfl;rw [HPSL.out] at hp8;obtain⟨out1,hou1⟩:∃o,out++kZ s at_ u=o:=⟨_,rfl⟩;have ho1l:out1.length≤2000000:=by rw [←hou1,Cy,HSLL.out];omega
        have hgk3:=HGK2.out;rw [hou1] at ho9 hgk3;obtain⟨PO,hPO⟩:∃o,putM PS fs out1=o:=⟨_,rfl⟩;rw [hPO] at hgk3;have HGK3:=ab hgk3;have HPOE:=ab hPO;have HO9:=ab ho9;have HB8:=ab hb8;have HP8:=ab hp8;have HL8:=ab hl8;clear ho8 hg8 hout1 ho9 hb8 hp8 hl8 hou1 hgk3 hPO HGK2 f0 hsl2 HSLL HOW2 HB7 HL7 HPO2 x2;go_wp2
        clear y8;go_loopw [12,76] (fun v q wq=>FoRel fs PS w2 w3.heap.size (.slice pa (j+1) pc) (j+1) wo.heap.size (.cells #[.int .i64 (u:Int),.int .i64 (u2:Int),.slice aa j cp] 51 (0,0)) PO v q wq) (fun _ q _=>fs.length-(intOf q).toNat)
        case atStart=>exact⟨0,out1,Nat.zero_le _,rfl,HO9.out,HP8.out,HL8.out,HB8.out,ho1l,ab (by rw [C0];exact HPOE.out)⟩
        case round =>
         obtain⟨i,o2,hi,rfl,ho,hp,hl,hb,hol2,HP⟩:=hrel;obtain⟨xa,xc,rfl⟩:=j7 ho;clear HPOE HO9 HP8 HL8 HB8;have HBQ:=ab hb;have HO:=ab ho;have HPP:=ab hp;have HLL:=ab hl;have hzw:w2.heap.size≤wr.heap.size:=hb.size;clear ho hp hl hb;by_cases hil:i<fs.length
         ·obtain⟨g,hg⟩:∃g,fs[i]?=some g:=⟨_,Cn hil⟩
          have hst:putM PS (fs.drop i) o2=putM PS (fs.drop (i+1)) (if o2.length≤65536 then o2++ld [g] PS else o2):=by
           have e:fs.drop i=g::fs.drop (i+1):=by
            rw [List.drop_eq_getElem_cons hil];rw [Cn hil] at hg;injection hg with hg;rw [hg]
           rw [e,putM]
          rw [hst] at HP;obtain⟨b3,o3,rfl,hb3,k0,k1,k2,k3,k4⟩:=(HSF2.out.keep (HBQ.out.mono hz2)).fm hg;have hgl:=HF.out g (CF hg);have hal:=zK (f:=g) HPL2.out hgl;obtain⟨gk,gn,gc,gt,ge⟩:=g;simp only at k0 k1 k2 k3 k4
          obtain⟨W9,hW9⟩:∃W9,W9=wr.alloc (.cells #[.int .i64 gk,.int .i64 gn,.int .i64 gc,.string ⟨gt.toArray⟩,.string ⟨ge.toArray⟩] 55):=⟨_,rfl⟩;have hb9:Below wr.heap.size wr W9:=by rw [hW9];exact(Below.refl _ _).alloc (Cp _) _
          have hl9:W9.heap[wr.heap.size]?=some (.cells #[.int .i64 gk,.int .i64 gn,.int .i64 gc,.string ⟨gt.toArray⟩,.string ⟨ge.toArray⟩] 55 (0,0)):=by rw [hW9];exact heap_alloc_new wr _
          have g0:=jT hl9 0 rfl;have g1:=jT hl9 1 rfl;have g2:=jT hl9 2 rfl;have g3:=jT hl9 3 rfl;have g4:=jT hl9 4 rfl;have hbA:Below W9.heap.size W9 (W9.alloc (.cells #[.int .i64 gk,.int .i64 gn,.int .i64 gc,.string ⟨gt.toArray⟩,.string ⟨ge.toArray⟩] 55)):=(Below.refl _ _).alloc (Cp _) _;have hbB:=bel2 hb9 hbA;have hslp:Sl (W9.alloc (.cells #[.int .i64 gk,.int .i64 gn,.int .i64 gc,.string ⟨gt.toArray⟩,.string ⟨ge.toArray⟩] 55)) (W9.alloc (.cells #[.int .i64 gk,.int .i64 gn,.int .i64 gc,.string ⟨gt.toArray⟩,.string ⟨ge.toArray⟩] 55)).heap.size pa 1 (j+1) (kv PS):=Sl.of_own (l9 HPP.out hbB);have hsll:Sl (W9.alloc (.cells #[.int .i64 gk,.int .i64 gn,.int .i64 gc,.string ⟨gt.toArray⟩,.string ⟨ge.toArray⟩] 55)) (W9.alloc (.cells #[.int .i64 gk,.int .i64 gn,.int .i64 gc,.string ⟨gt.toArray⟩,.string ⟨ge.toArray⟩] 55)).heap.size (some ⟨W9.heap.size,0,none⟩) 5 1 (lA [⟨gk,gn,gc,gt,ge⟩]):=Sl.lit (n:=1) (sz:=5) (heap_alloc_new W9 (.cells #[.int .i64 gk,.int .i64 gn,.int .i64 gc,.string ⟨gt.toArray⟩,.string ⟨ge.toArray⟩] 55)) rfl;have HAP:=ab (Cf (some ⟨W9.heap.size,0,none⟩) pa 1 (j+1) pc mf [⟨gk,gn,gc,gt,ge⟩] PS _ hsll hslp (by simpa using hgl) HPL2.out hmf gF gu);have HW9:=ab hW9;have HB9:=ab hbB;have HAL:=ab hal;clear hst hg hgl hal hW9 hb9 hl9 hbA hbB hslp hsll;by_cases hle:o2.length≤65536
          ·rw [Cl hle] at HP
           go_upto_region 23 with fail
           rw [←HW9.out];clear HW9 k0 k1 k2 k3 k4;go_wp2_with (go_at_call 18;refine HAP.out.mono ?_)
           first|rintro e wA rfl hbA|rintro e wA ⟨rfl,hbA⟩
           obtain⟨AP,hAP⟩:∃A,ld [⟨gk,gn,gc,gt,ge⟩] PS=A:=⟨_,rfl⟩;have hal:=HAL.out;rw [hAP] at hal HP;rw [hAP];have hbC:=bel2 HB9.out hbA;have HOC:=ab (l9 HO.out hbC);have HPC:=ab (l9 HPP.out hbC);have HLC:=ab ((hbC.block _ (jO HLL.out)).trans HLL.out);have HBC:=ab (HBQ.out.trans (hbC.mono hzw));have hzC:w2.heap.size≤wA.heap.size:=Ct hzw hbC.size;clear hAP hbC hbA HAP HB9 HAL g0 g1 g2 g3 g4 HO HPP HLL HBQ;obtain⟨i8,hi8,hz0,hz1,hz2'⟩:=HI8.out;go_wp2_with (at_builtin;refine Lib.wpList_append_own_string _ rfl _ _ 46 9 rfl w2.heap.size 5 i8 Tryz.underlying46 Tryz.underlying9 hi8 hz0 hz1 hz2' _ _ _ rfl HOC.out _ rfl iT jr hzC ?_)
           intro vD wD hoD hgD _;have hoE:wD.ownsRow w2.heap.size 5 1 vD (o2++AP).length (kR (o2++AP)):=by
            rw [Cy];simpa [kR,Lib.strCells] using hoD
           have HOE:=ab hoE;have HBD:=ab (HBC.out.grown hgD hzC fun k hk=>(HOC.out.lt k hk).1);have HPD:=ab (HPC.out.kept hgD (tl HPC.out HOC.out gD));have HLD:=ab ((hgD.block wo.heap.size (jO HLC.out) (fun e=>lB HOC.out HLC.out gD e.symm)).trans HLC.out);have hlE:(o2++AP).length≤2000000:=by rw [Cy];omega
           have HLE:=ab hlE;clear hoD hgD hoE HOC HPC HLC HBC hlE;go_wp2
           go_roundw
           case rel=>exact⟨i+1,o2++AP,by omega,by go_num,HOE.out,HPD.out,HLD.out,HBD.out,HLE.out,HP⟩
           case measure=>simp [intOf];omega
          ·rw [Co hle] at HP
           have HBE:=ab (bel2 (Below.refl wr.heap.size wr) (Below.refl wr.heap.size wr));have hbX:Below wr.heap.size wr W9:=by rw [HW9.out];exact(Below.refl _ _).alloc (Cp _) _
           have HOC:=ab (l9 HO.out hbX);have HPC:=ab (l9 HPP.out hbX);have HLC:=ab ((hbX.block _ (jO HLL.out)).trans HLL.out);have HBC:=ab (HBQ.out.trans (hbX.mono hzw));clear hbX HBE HO HPP HLL HBQ HAP HAL HB9;go_upto_region 23 with fail
           rw [←HW9.out];clear HW9 k0 k1 k2 k3 k4 g0 g1 g2 g3 g4;go_wp2
           go_roundw
           case rel=>exact⟨i+1,o2,by omega,by go_num,HOC.out,HPC.out,HLC.out,HBC.out,hol2,HP⟩
           case measure=>simp [intOf];omega
         ·have hin:i=fs.length:=gu
          subst hin;have hpo2:o2=PO:=by rw [←HP.out,List.drop_length];rfl
          have hgk4:=HGK3.out;rw [←hpo2] at hgk4;have HGK4:=ab hgk4;have n1:=jT HLL.out 1 rfl;clear hpo2 hgk4 HGK3 HP hil;by_cases hbig:65536<o2.length
          ·have HRE2:Hid (R=([],0,4)):=ab (by
            have h:=HGK4.out;rw [Cl hbig] at h;rw [HRG.out,←h];rfl)
           clear HGK4;go_wp2
           go_ret3
           exact⟨by rw [HRE2.out];rfl,HB2.out.trans (HBQ.out.mono hz2)⟩
          ·have HGK5:Hid (goM s offs fs (ms.drop (k+1)) u2 o2=G):=ab (by
            have h:=HGK4.out;rw [Co hbig] at h;exact h)
           clear HGK4;go_wp2
           go_roundw
           case rel=>exact⟨k+1,u2,o2,by omega,by go_num,rfl,HO.out,HBQ.out,hu2,by omega,HU4,HGK5⟩
           case measure=>simp [intOf];omega
     ·have hkm:k=ms.length:=gu
      subst hkm;have hGe:G=some (at_,out):=by rw [←HGK.out,List.drop_length];rfl
      have hRE:=HRG.out;rw [hGe] at hRE;have hown:=HOWN.out;clear hGe HGK HAT hlt;by_cases hbig:65536<out.length+(s.length-at_)
      ·have HRE2:Hid (R=([],0,4)):=ab (by rw [hRE];exact Cl hbig)
       have hbi:(65536:Int)-out.length<(s.length:Int)-at_:=gu;clear hRE hown;go_wp2
       go_ret3
       exact⟨by rw [HRE2.out];rfl,HB2.out.trans (HB.out.mono hz2)⟩
      ·have HRE2:Hid (R=(out++s.drop at_,(left:Int),0)):=ab (by rw [hRE];exact Co hbig)
       have hbi:¬(65536:Int)-out.length<(s.length:Int)-at_:=gu;have hsl2:(s.drop at_).length≤1000000:=by rw [CS];omega
       obtain⟨i8,hi8,hz0,hz1,hz9⟩:=HI8.out;have hzo:w2.heap.size≤wo.heap.size:=HB.out.size;clear hRE hown;go_wp2_with (at_builtin;refine Lib.wpList_append_own_string _ rfl _ _ 46 9 rfl w2.heap.size 5 i8 Tryz.underlying46 Tryz.underlying9 hi8 hz0 hz1 hz9 _ _ _ rfl HOWN.out _ rfl iT jr hzo ?_)
       intro v8 w8 ho8 hg8 _;have ho9:w8.ownsRow w2.heap.size 5 1 v8 (out++s.drop at_).length (kR (out++s.drop at_)):=by
        rw [Cy];simpa [kR,Lib.strCells] using ho8
       have hcv:=qS (P:=Tryz.prog) (src:=46) (dst:=9) Tryz.underlying46 Tryz.underlying5 Tryz.underlying9 ho9;have HBE:=ab (HB2.out.trans ((HB.out.grown hg8 hzo fun k hk=>(HOWN.out.lt k hk).1).mono hz2));clear ho8 ho9 hg8;go_wp2
       go_ret3
       exact⟨by rw [HRE2.out];rfl,HBE.out⟩
open Go.RowKit
def awF1:Str:=[47,97,47,36,123,48,58,47,117,112,99,97,115,101,125,47,125]
def awF2:Str:=[47,98,47,120,47,103,125]
def awT1:Tf:=⟨.mk 2 [97] false [] 0 0 false [],[⟨2,0,1,[],[]⟩],false,false⟩
def awT2:Tf:=⟨.mk 2 [98] false [] 0 0 false [],[⟨0,0,0,[120],[]⟩],false,true⟩
theorem Ay:uJ awF1=some (awT1,[]):=by kernel_rfl
theorem Al:uJ awF2=some (awT2,[]):=by kernel_rfl
theorem vi {s:Str} {c:UInt8} {f:Fm} {al:Bool} {n:Int} (hn:((s.length-1:Nat):Int)=n) (hs:s.length≤600000) (h:uJ s=some (⟨.mk 2 [c] false [] 0 0 false [],[f],false,al⟩,[])) (w:World) :
  Calls Tryz.prog 9 #[.string ⟨s.toArray⟩,.int .i64 0] w fun e w'=>∃(ra:Option Addr) (rcp:Nat) (rka:Option Addr) (rkc:Nat) (fa:Option Addr) (fcp:Nat),
   e=.returned (.tuple #[.agg #[.int .i64 2,.string ⟨([c]).toArray⟩,.bool false,.slice ra 0 rcp,.int .i64 0,.int .i64 0,.bool false,.slice rka 0 rkc,.slice fa 1 fcp,.bool false,.bool al],.int .i64 n,.bool true]) ∧
   TfV w' (fun b=>w.heap.size≤b) [.int .i64 2,.string ⟨([c]).toArray⟩,.bool false,.slice ra 0 rcp,.int .i64 0,.int .i64 0,.bool false,.slice rka 0 rkc,.slice fa 1 fcp,.bool false,.bool al] ⟨.mk 2 [c] false [] 0 0 false [],[f],false,al⟩∧Below w.heap.size w w':=by
 refine(Aa s 0 w (Nat.zero_le _) hs).mono fun e w'=>?_
 rintro⟨hb,hp⟩;rw [C0,h] at hp;obtain⟨fc,j,he,hv,h1,h2,h3⟩:=hp;have hj:j=s.length-1:=by
  have:=CR List.length h3
  rw [CS,CW] at this;omega
 subst hj;rw [hn] at he;obtain⟨rk,rch,rng,rrs,rlo,rhi,rlz,rks,ra,rcp,rka,rkc,fa,fcp,hc⟩:=hv.open_;have hx:=hc.rx;injection hx with q1 q2 q3 q4 q5 q6 q7 q8
 subst q1 q2 q3 q4 q5 q6 q7 q8;have hfc:=hc.eq;subst hfc;exact⟨ra,rcp,rka,rkc,fa,fcp,he,hv,hb⟩
theorem zv:awT1.small:=⟨⟨⟨by decide,by decide,by simp,by decide⟩,trivial⟩,by decide,by decide⟩
theorem zh:awT2.small:=⟨⟨⟨by decide,by decide,by simp,by decide⟩,trivial⟩,by decide,by decide⟩
theorem BI (w:World):Calls Tryz.prog 6 #[] w fun e w'=>e=.returned (.bool true)∧Below w.heap.size w w':=by
 have H1:=ab (fun w=>vi (s:=awF1) (n:=16) gD gD Ay w);have H2:=ab (fun w=>vi (s:=awF2) (n:=6) gD gD Al w);have H3:Hid (∀(S:Nat→Prop) (fc:List Value) (w:World),TfV w S fc awT1→Calls Tryz.prog 7 #[.agg fc.toArray,.string ⟨([98,97,98]).toArray⟩,.int .i64 100] w fun e w'=>e=.returned (.tuple #[.string ⟨([98,65,98]).toArray⟩,.int .i64 98,.int .i64 0])∧Below w.heap.size w w'):=ab fun S fc w hv =>
  qh S awT1 fc w hv aw19a zv gD (mf:=10) gD (by simp [awT1]) gD (fun m _ p hp=>Ct (xd _ _ m p hp) gD)
 have H4:Hid (∀(S:Nat→Prop) (fc:List Value) (w:World),TfV w S fc awT2→Calls Tryz.prog 7 #[.agg fc.toArray,.string ⟨([97,98,98]).toArray⟩,.int .i64 100] w fun e w'=>e=.returned (.tuple #[.string ⟨([97,120,120]).toArray⟩,.int .i64 96,.int .i64 0])∧Below w.heap.size w w'):=ab fun S fc w hv =>
  qh S awT2 fc w hv aw19b zh gD (mf:=10) gD (by simp [awT2]) gD (fun m _ p hp=>Ct (xd _ _ m p hp) gD)
 unfold awF1 at H1;unfold awF2 at H2;go_enter Tryz.func6,Tryz.ntmps6
 go_wp2_with (go_at_call 9;refine(H1.out _).mono ?_)
 rintro e w1 ⟨ra,rcp,rka,rkc,fa,fcp,rfl,hv1,hb1⟩;obtain⟨W1,hW1⟩:∃W1,W1=w1.alloc (.cells #[.int .i64 2,.string ⟨([97]).toArray⟩,.bool false,.slice ra 0 rcp,.int .i64 0,.int .i64 0,.bool false,.slice rka 0 rkc,.slice fa 1 fcp,.bool false,.bool false] 28):=⟨_,rfl⟩;have hbW1:Below w1.heap.size w1 W1:=by rw [hW1];exact(Below.refl _ _).alloc (Cp _) _
 have hl1:W1.heap[w1.heap.size]?=some (.cells #[.int .i64 2,.string ⟨([97]).toArray⟩,.bool false,.slice ra 0 rcp,.int .i64 0,.int .i64 0,.bool false,.slice rka 0 rkc,.slice fa 1 fcp,.bool false,.bool false] 28 (0,0)):=by rw [hW1];exact heap_alloc_new w1 _
 have HA1:=ab (H3.out _ _ W1 (hv1.later hbW1));have HW1:=ab hW1;have HL1:=ab hl1;have HB1:=ab (bel2 hb1 hbW1);clear hv1 hb1 hW1 hbW1 hl1 H1 H3;go_upto_region 2 with fail
 rw [←HW1.out];clear HW1;go_wp2_with (first
  | (refine kF rfl 28 (.tmp 1) rfl w1.heap.size 0 rfl [.int .i64 2,.string ⟨([97]).toArray⟩,.bool false,.slice ra 0 rcp,.int .i64 0,.int .i64 0,.bool false,.slice rka 0 rkc,.slice fa 1 fcp,.bool false,.bool false] _ (kJ (ds:=[]) HL1.out) lm rfl iq ?_)
  | (go_at_call 7;refine HA1.out.mono ?_))
 first|rintro e w2 rfl hb2|rintro e w2 ⟨rfl,hb2⟩
 have HB2:=ab (bel2 HB1.out hb2);clear hb2 HA1 HL1;go_wp2_with (go_at_call 9;refine(H2.out _).mono ?_)
 rintro e w3 ⟨ra2,rcp2,rka2,rkc2,fa2,fcp2,rfl,hv3,hb3⟩;obtain⟨W3,hW3⟩:∃W3,W3=w3.alloc (.cells #[.int .i64 2,.string ⟨([98]).toArray⟩,.bool false,.slice ra2 0 rcp2,.int .i64 0,.int .i64 0,.bool false,.slice rka2 0 rkc2,.slice fa2 1 fcp2,.bool false,.bool true] 28):=⟨_,rfl⟩;have hbW3:Below w3.heap.size w3 W3:=by rw [hW3];exact(Below.refl _ _).alloc (Cp _) _
 have hl3:W3.heap[w3.heap.size]?=some (.cells #[.int .i64 2,.string ⟨([98]).toArray⟩,.bool false,.slice ra2 0 rcp2,.int .i64 0,.int .i64 0,.bool false,.slice rka2 0 rkc2,.slice fa2 1 fcp2,.bool false,.bool true] 28 (0,0)):=by rw [hW3];exact heap_alloc_new w3 _
 have HA3:=ab (H4.out _ _ W3 (hv3.later hbW3));have HW3:=ab hW3;have HL3:=ab hl3;have HB3:=ab (bel2 (bel2 HB2.out hb3) hbW3);clear hv3 hb3 hW3 hbW3 hl3 H2 H4;go_upto_region 4 with fail
 rw [←HW3.out];clear HW3;go_wp2_with (first
  | (refine kF rfl 28 (.tmp 7) rfl w3.heap.size 0 rfl [.int .i64 2,.string ⟨([98]).toArray⟩,.bool false,.slice ra2 0 rcp2,.int .i64 0,.int .i64 0,.bool false,.slice rka2 0 rkc2,.slice fa2 1 fcp2,.bool false,.bool true] _ (kJ (ds:=[]) HL3.out) lm rfl iq ?_)
  | (go_at_call 7;refine HA3.out.mono ?_))
 first|rintro e w4 rfl hb4|rintro e w4 ⟨rfl,hb4⟩
 have HB4:=ab (bel2 HB3.out hb4);clear hb4 HA3 HL3;go_wp2
 go_ret
 exact⟨rfl,HB4.out⟩
def rwt:List (Str × Str)→Nat
 | []=>0
 | r::rs=>1+r.1.length+r.2.length+rwt rs
namespace Rx
mutual
def wt:Rx→Nat
 | mk _ c _ rs _ _ _ ks=>1+c.length+rwt rs+wtL ks
def wtL:List Rx→Nat
 | []=>0
 | x::r=>wt x+wtL r
end
end Rx
theorem x9:∀(rs:List (Str × Str)) (n m:Int),pA rs n=some m→m=n-rwt rs
 | [],n,m,h=>by simp only [pA] at h;injection h with h;subst h;simp [rwt]
 | r::rs,n,m,h=>by
  simp only [pA] at h;split at h
  ·cases h
  ·have:=x9 rs _ m h
   simp only [rwt];omega
theorem A8:∀(N:Nat) (x:Rx) (n:Int),x.parts≤N→0≤x.left n→x.left n=n-x.wt
 | 0,x,_,h,_=>by have:=Rx.parts_pos x;omega
 | N+1,.mk k c ng rs lo hi lz ks,n,h,h0=>by
  simp only [Rx.parts] at h;have hk:∀(l:List Rx) (m:Int),Rx.partsL l≤N→0≤Rx.leftK l m→Rx.leftK l m=m-Rx.wtL l:=by
   intro l;induction l with
   | nil=>intro m _ _;simp [Rx.leftK,Rx.wtL]
   | cons x r ih =>
    intro m hm a;simp only [Rx.partsL] at hm;simp only [Rx.leftK] at a ⊢;split at a
    ·omega
    ·rename_i hneg
     rw [Co hneg];have h1:=ih _ gu a;by_cases hx:0≤x.left m
     ·have:=A8 N x m gu hx
      simp only [Rx.wtL];omega
     ·exfalso
      cases r with
      | nil=>simp only [Rx.leftK] at a;omega
      | cons y r =>
       simp only [Rx.leftK] at a;rw [Cl gu] at a;omega
  simp only [Rx.left] at h0 ⊢;split at h0
  ·omega
  ·rename_i hc
   rw [Co hc];split at h0
   ·omega
   ·rename_i m hm
    have h2:=x9 rs _ m hm;have h3:=hk ks m gu h0;simp only [Rx.wt];show Rx.leftK ks m=_
    omega
theorem uh:∀(N:Nat) (x:Rx),x.parts≤N→x.parts≤x.wt
 | 0,x,h=>by have:=Rx.parts_pos x;omega
 | N+1,.mk k c ng rs lo hi lz ks,h=>by
  simp only [Rx.parts] at h;have hk:∀(l:List Rx),Rx.partsL l≤N→Rx.partsL l≤Rx.wtL l:=by
   intro l;induction l with
   | nil=>intro _;simp [Rx.partsL,Rx.wtL]
   | cons x r ih =>
    intro hm;simp only [Rx.partsL] at hm;simp only [Rx.partsL,Rx.wtL];have:=uh N x gu
    have:=ih gu
    omega
  have:=hk ks gu
  simp only [Rx.parts,Rx.wt];omega
theorem BM:∀{rs:List (Str × Str)},rs.length≤rwt rs∧∀r∈rs,r.1.length≤rwt rs∧r.2.length≤rwt rs
 | []=>by simp [rwt]
 | r::rs=>by
  obtain⟨h1,h2⟩:=BM (rs:=rs);simp only [rwt,Cr];exact dZ
theorem xS:∀(N:Nat) (x:Rx),x.parts≤N→x.wt≤1000000→x.small
 | 0,x,h,_=>by have:=Rx.parts_pos x;omega
 | N+1,.mk k c ng rs lo hi lz ks,h,hw=>by
  simp only [Rx.parts] at h;simp only [Rx.wt] at hw;have hk:∀(l:List Rx),Rx.partsL l≤N→Rx.wtL l≤1000000→Rx.smallL l:=by
   intro l;induction l with
   | nil=>intro _ _;simp [Rx.smallL]
   | cons x r ih =>
    intro hm hw;simp only [Rx.partsL] at hm;simp only [Rx.wtL] at hw;simp only [Rx.smallL];exact⟨xS N x gu gu,ih gu gu⟩
  obtain⟨r1,r2⟩:=BM (rs:=rs);have hl:=Rx.len_parts ks;have hp:Rx.partsL ks≤Rx.wtL ks:=by
   have:=uh _ (.mk k [] ng [] lo hi lz ks) (Cp _)
   simp only [Rx.parts,Rx.wt,rwt,CW] at this;omega
  simp only [Rx.small,Rx.small1];refine⟨⟨by omega,by omega,fun r hr=>?_,by omega⟩,hk ks gu gu⟩;have:=r2 r hr;omega
def fwt:List Fm→Nat
 | []=>0
 | f::r=>1+f.thn.length+f.els.length+fwt r
def zI (f:Tf):Nat:=f.rx.wt+fwt f.fs
theorem xR:∀(fs:List Fm) (m:Int),0≤o6 fs m→o6 fs m=m-fwt fs
 | [],m,_=>by simp [o6,fwt]
 | f::r,m,h=>by
  simp only [o6] at h ⊢;split at h
  ·omega
  ·rename_i hc
   rw [Co hc];have:=xR r _ h
   simp only [fwt];omega
theorem formL_eq (f:Tf) (n:Int) (h:0≤yP f n):yP f n=n-zI f:=by
 unfold yP at h ⊢;split at h
 ·omega
 ·rename_i hc
  rw [Co hc];have h1:=A8 _ f.rx n (Cp _) gu;have h2:=xR _ _ h;unfold zI;omega
theorem xt:∀{fs:List Fm},fs.length≤fwt fs∧∀f∈fs,f.thn.length≤fwt fs∧f.els.length≤fwt fs
 | []=>by simp [fwt]
 | f::r=>by
  obtain⟨h1,h2⟩:=xt (fs:=r);simp only [fwt,Cr];exact dZ
theorem zj {f:Tf} (h:zI f≤1000000):f.small:=by
 unfold zI at h;have h1:=uh _ f.rx (Cp _);have h2:=(xt (fs:=f.fs)).1;exact⟨xS _ f.rx (Cp _) gu,by omega,by omega⟩
open Go.RowKit
theorem qO (fc:List Value) (f:Tf) (s:Str) (z:Int) (w:World) (hv:TfV w Any fc f) (hmm:f.mem) (hp:s.length≤maxLen) :
  Calls Tryz.prog 3 #[.agg fc.toArray,.string ⟨s.toArray⟩,.int .i64 z] w fun e w'=>e=.returned (.bool true)∧Below w.heap.size w w':=by
 unfold maxLen at hp;obtain⟨rk,rch,rng,rrs,rlo,rhi,rlz,rks,ra,rcp,rka,rkc,fa,fcp,hc⟩:=hv.open_;obtain⟨X,fs,fd,al⟩:=f;have hfce:fc=[.int .i64 rk,.string ⟨rch.toArray⟩,.bool rng,.slice ra rrs.length rcp,.int .i64 rlo,.int .i64 rhi,.bool rlz,.slice rka rks.length rkc,.slice fa fs.length fcp,.bool fd,.bool al]:=hc.eq;subst hfce;obtain⟨W0,hW0⟩:∃W0,W0=w.alloc (.cells ([.int .i64 rk,.string ⟨rch.toArray⟩,.bool rng,.slice ra rrs.length rcp,.int .i64 rlo,.int .i64 rhi,.bool rlz,.slice rka rks.length rkc,.slice fa fs.length fcp,.bool fd,.bool al]).toArray 28):=⟨_,rfl⟩;have hb0:Below w.heap.size w W0:=by rw [hW0];exact(Below.refl _ _).alloc (Cp _) _
 have HB1:Hid (W0.heap[w.heap.size]?=some (.cells ([.int .i64 rk,.string ⟨rch.toArray⟩,.bool rng,.slice ra rrs.length rcp,.int .i64 rlo,.int .i64 rhi,.bool rlz,.slice rka rks.length rkc,.slice fa fs.length fcp,.bool fd,.bool al]).toArray 28 (0,0))):=ab iE;have HV:=ab (hv.keep (Kept.all hb0));have HLF:=ab (vU Any ⟨X,fs,fd,al⟩ hmm _ W0 60 HV.out gD gD);obtain⟨L,hL⟩:∃L,yP ⟨X,fs,fd,al⟩ 60=L:=⟨_,rfl⟩;rw [hL] at HLF;have HW0:=ab hW0;have HB0:=ab hb0;clear hv hmm hW0 hb0 hc;by_cases hneg:L<0
 ·have hge:decide (L<0)=true:=CO hneg
  exact bu
 ·have hge:decide (L<0)=false:=CP hneg
  by_cases h1:50<s.length
  ·have g1:decide ((50:Int)<(s.length:Int))=true:=CO gu
   exact bu
  ·have hs5:s.length≤50:=gu
   have g1:decide ((50:Int)<(s.length:Int))=false:=CP gu;have hw:zI ⟨X,fs,fd,al⟩≤60:=by have:=formL_eq ⟨X,fs,fd,al⟩ 60 gu;omega
   have hsm:=zj (f:=⟨X,fs,fd,al⟩) gu;obtain⟨q1,q2⟩:=xt (fs:=fs);have hwf:fwt fs≤60:=by have:zI ⟨X,fs,fd,al⟩=X.wt+fwt fs:=rfl;omega
   obtain⟨⟨T,N,E⟩,hR⟩:∃R,vf X fs fd al s z=R:=⟨_,rfl⟩;have hfl:fs.length≤1000:=gu;have hff:∀g∈fs,g.thn.length≤60∧g.els.length≤60:=fun g hg=>by have:=q2 g hg;omega
   have hpp:∀m∈(kQ X fd al s z).1,∀p∈lx s (rcM fd s).offs m,p.length≤60:=fun m _ p h=>by have:=xd _ _ _ _ h;omega
   have HX:=ab (fun W (h:TfV W Any [.int .i64 rk,.string ⟨rch.toArray⟩,.bool rng,.slice ra rrs.length rcp,.int .i64 rlo,.int .i64 rhi,.bool rlz,.slice rka rks.length rkc,.slice fa fs.length fcp,.bool fd,.bool al] ⟨X,fs,fd,al⟩)=>qh Any ⟨X,fs,fd,al⟩ _ W h (s:=s) (z:=z) hR hsm hfl (mf:=60) gD hff gu hpp);have HY:=ab (fun W (h:TfV W Any [.int .i64 rk,.string ⟨rch.toArray⟩,.bool rng,.slice ra rrs.length rcp,.int .i64 rlo,.int .i64 rhi,.bool rlz,.slice rka rks.length rkc,.slice fa fs.length fcp,.bool fd,.bool al] ⟨X,fs,fd,al⟩)=>uX Any ⟨X,fs,fd,al⟩ _ W h (s:=s) (z:=z) hR hsm hfl (mf:=60) gD hff gu hpp);clear hneg hL hw hsm q1 q2 hwf hR hfl hff hpp h1;go_enter Tryz.func3,Tryz.ntmps3
   go_upto_region 1 with fail
   rw [←HW0.out];clear HW0;go_wp2_with (first
    | (refine kF rfl 28 (.tmp 3) rfl w.heap.size 0 rfl [.int .i64 rk,.string ⟨rch.toArray⟩,.bool rng,.slice ra rrs.length rcp,.int .i64 rlo,.int .i64 rhi,.bool rlz,.slice rka rks.length rkc,.slice fa fs.length fcp,.bool fd,.bool al] _ (kJ (ds:=[]) HB1.out) lm rfl iq ?_)
    | (go_at_call 5;refine HLF.out.mono ?_))
   first|rintro e w1 rfl hb1|rintro e w1 ⟨rfl,hb1⟩
   have HB2:=ab ((hb1.block _ (jO HB1.out)).trans HB1.out);have HV1:=ab (HV.out.keep (Kept.all hb1));have HS1:=ab (HX.out w1 HV1.out);have HBA:=ab (bel2 HB0.out hb1);clear hb1 HB1 HV HX HLF HB0;go_wp2_with (first
    | (refine kF rfl 28 (.tmp 3) rfl w.heap.size 0 rfl [.int .i64 rk,.string ⟨rch.toArray⟩,.bool rng,.slice ra rrs.length rcp,.int .i64 rlo,.int .i64 rhi,.bool rlz,.slice rka rks.length rkc,.slice fa fs.length fcp,.bool fd,.bool al] _ (kJ (ds:=[]) HB2.out) lm rfl iq ?_)
    | (go_at_call 7;refine HS1.out.mono ?_))
   first|rintro e w2 rfl hb2|rintro e w2 ⟨rfl,hb2⟩
   have HB3:=ab ((hb2.block _ (jO HB2.out)).trans HB2.out);have HS2:=ab (HY.out w2 (HV1.out.keep (Kept.all hb2)));have HBB:=ab (bel2 HBA.out hb2);clear hb2 HB2 HV1 HS1 HBA HY;go_wp2_with (first
    | (refine kF rfl 28 (.tmp 3) rfl w.heap.size 0 rfl [.int .i64 rk,.string ⟨rch.toArray⟩,.bool rng,.slice ra rrs.length rcp,.int .i64 rlo,.int .i64 rhi,.bool rlz,.slice rka rks.length rkc,.slice fa fs.length fcp,.bool fd,.bool al] _ (kJ (ds:=[]) HB3.out) lm rfl iq ?_)
    | (go_at_call 8;refine HS2.out.mono ?_;first|rintro e w3 rfl hb3|rintro e w3 ⟨rfl,hb3⟩)
    | (go_at_call 6;refine(BI _).mono ?_;first|rintro e w9 rfl hb9|rintro e w9 ⟨rfl,hb9⟩))
   go_ret
   exact⟨rfl,bel2 (bel2 HBB.out hb3) hb9⟩
end Go.Proofs.YtjggmmaojklmpaaGreat
