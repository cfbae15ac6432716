/- Closing steps of one statement's walk. -/
import Derived.Test.YtjggmmaojklmpaaGreatDoorKb0
set_option maxRecDepth 100000
namespace Go.Proofs.YtjggmmaojklmpaaGreatDoor
open Go.RowKit
theorem gu {p:Prop} (h:p:=by rw [Hr.out,HQ.out];clear HQ HK HSl Hr HP c0 c1 c2 c3 c4;(try unfold mayF kJ);simp;first|done|omega|(simp_all;done)|(simp_all;omega)):p:=h
theorem iP {p:Prop} (h:p:=by rw [HP.out];exact hm):p:=h
theorem iR {p:Prop} (h:p:=by rw [hw0];simp):p:=h
theorem iY {p:Prop} (h:p:=by rw [HE.out,←hF2];cases bb<;>simp [Bool.and_comm]<;>rfl):p:=h
theorem jw {p:Prop} (h:p:=by rw [HW0.out];simp):p:=h
theorem aD {p:Prop} (h:p:=by
 obtain⟨k,ac,hk,rfl,rfl,hb,hacl,HF⟩:=hrel;clear HT0;have hB:=hb.size;have hbb:=hb0.trans (hb.mono hb0.size);have z3:=jH hb _ _ Z3.out;cases hd:rs.drop k with
 | nil =>
  have h2:rs.length≤k:=gm;have HE:Hid (ac=T):=ab (by rw [←HF.out,hd];simp);clear hd HF;go_wp2
  go_ret
  exact⟨kQ (by rw [HE.out,←HTT.out];simp [setS]),hbb⟩
 | cons r0 r =>
  obtain⟨h2,h3,hr0⟩:=jO hd;obtain⟨n1,n2⟩:=HNE.out r0 (DL h3);obtain⟨b,o,rfl,hbB,c0,c1⟩:=(HR1.out.keep hbb).row h3;obtain⟨f,t⟩:=r0;replace n1:f≠[]:=n1;replace n2:t≠[]:=n2;replace c0:wr.cell? ⟨b,o+k*2,none⟩=some (.string ⟨(f).toArray⟩):=c0;replace c1:wr.cell? ⟨b,o+k*2+1,none⟩=some (.string ⟨(t).toArray⟩):=c1;have HE:Hid (ac++(rowS (f,t)++r.flatMap rowS)=T):=ab gC;have Hr:=ab hr0;have hsl:ac.length+(escL th2 f).length+(if t=f then 0 else(escL th2 t).length+1)≤10000000:=by
   exact fF
  obtain⟨l1,l2⟩:=HSZ.out (f,t) (DL h3);replace l1:f.length≤1000000:=l1;replace l2:t.length≤1000000:=l2;have N1:=ab n1;have N2:=ab n2;clear hd HF hr0 h3 n1 n2;go_wp2_with (go_at_call 64;refine(wX _ N1.out l1 fU).mono ?_;rintro e w2 ⟨rfl,hb2⟩;rw [show [94,45,92,91,93,47]=th2 from rfl];have hbr2:=bel2 hb hb2;have y3:=jH hb2 _ _ z3;have y0:=jH hb2 _ _ c0;have y1:=jH hb2 _ _ c1)
  by_cases htf:t=f
  ·have HT2:=ab htf
   subst htf;go_wp2
   go_quiet (fail)
   go_wp2
   go_roundw
   case rel=>exact⟨k+1,ac++escL th2 t,by omega,by go_num,rfl,below_drewN hbr2 _,by simp only [DE];simp at hsl;omega,ab (by rw [Hr.out,←HE.out];simp [rowS])⟩
   case measure=>simp [intOf];omega
  ·have hne:(t==f)=false:=by simpa using htf
   have HT2:=ab htf;rw [Du htf] at hsl;clear htf;go_wp2
   go_quiet (fail)
   go_wp2_with (go_at_call 64;refine(wX _ N2.out l2 fU).mono ?_;rintro e w3 ⟨rfl,hb3⟩;rw [show [94,45,92,91,93,47]=th2 from rfl])
   go_roundw
   case rel=>exact⟨k+1,ac++escL th2 f++[45]++escL th2 t,by omega,by go_num,by simp,bel2 (below_drewN hbr2 _) hb3,by simp only [DE,Dx,DP];omega,ab (by rw [Hr.out,←HE.out];simp [rowS,HT2.out])⟩
   case measure=>simp [intOf];omega):p:=h
theorem aH {p:Prop} (h:p:=by
 first|rintro e w2 rfl hb2|rintro e w2 ⟨rfl,hb2⟩
 have HX2:=ab ((hb2.block _ (jA HX1.out)).trans HX1.out);have z8:=jC (HFCE.out▸HX2.out) 8 rfl;have hbw2:=bel2 (bel2 hb0 hb1) hb2;have HFS2:=ab (Bt fa fcp 10000 fs w2 (HFS.out.keep (Kept.all ((hb1.trans (hb2.mono hb1.size))))).sl HG.out fR HFN.out HMF.out);go_wp2_with (go_at_call 19;refine HFS2.out.mono ?_)
 first|rintro e w3 rfl hb3|rintro e w3 ⟨rfl,hb3⟩
 have HX3:=ab ((hb3.block _ (jA HX2.out)).trans HX2.out);have z10:=jC (HFCE.out▸HX3.out) 10 rfl;have z9:=jC (HFCE.out▸HX3.out) 9 rfl;have hbw3:=bel2 hbw2 hb3;clear z8;go_wp2
 go_ret2
 exact⟨by rw [HFO.out];simp,hbw3⟩):p:=h
theorem aL {p:Prop} (h:p:=by
 clear HF';go_wp2
 all_goals first
  | (go_ret;refine⟨jG ?_,hb.alloc hB _⟩;rw [HQ.out];clear HQ HK HSl Hr HP c0 c1 c2 c3 c4;(try unfold mayF kJ);simp;first|done|omega|(simp_all;done)|(simp_all;omega))
  | (go_roundw;(case rel=>exact⟨k+1,false,by omega,by go_num,hb.alloc hB _,ab ⟨fun h=>by omega,fun _ g hg=>by rw [show k+1-1=k from rfl,HK.out] at hg;injection hg with hg;subst hg;rfl⟩,ab gu⟩);(case measure=>simp [intOf];omega))):p:=h
theorem aW {p:Prop} (h:p:=by
 go_enter Tryz.func64,Tryz.ntmps64
 go_wp2
 go_loopw [5] (fun q wr=>SgRel th a q∧∃n,wr=w.drewN n) (fun q _=>th.length-(intOf q).toNat)
 case atStart=>exact⟨⟨0,by omega,rfl,HM0⟩,0,rfl⟩
 case round =>
  obtain⟨⟨k,hk,rfl,HF⟩,nd,rfl⟩:=hrel;clear HM0;cases hd:th.drop k with
  | nil =>
   have hge:th.length≤k:=kN hd;have HN:Hid (th.contains a=false):=ab gC;clear hd HF;go_wp2
   go_ret
   exact⟨kQ (by rw [HE.out,HN.out];rfl),nd,rfl⟩
  | cons x s =>
   obtain⟨g2,g3,hr⟩:=kh hd;have HF2:Hid ((x::s).contains a=th.contains a):=ab iZ;have Hr:=ab hr;clear hd HF hr;by_cases hx:a=x
   ·have HN:Hid (th.contains a=true):=ab (by rw [←HF2.out,List.contains_cons];simp [hx])
    subst hx;go_wp2
    go_quiet (fail)
    go_wp2
    go_ret
    exact⟨kQ (by rw [HE.out,HN.out];rfl),_,rfl⟩
   ·have hx2:((a.toNat:Int)==x.toNat)=false:=by
     rw [DV];intro e;exact hx (Dq.1 fR)
    have HX:=ab hx;clear hx;go_wp2
    go_quiet (fail)
    go_wp2
    go_roundw
    case rel=>exact⟨⟨k+1,by omega,by go_num,ab (by rw [Hr.out,←HF2.out,List.contains_cons];simp [HX.out])⟩,_,rfl⟩
    case measure=>simp [intOf];omega):p:=h
theorem bj {p:Prop} (h:p:=by
 go_enter Tryz.func66,Tryz.ntmps66
 go_wp2_with (go_at_call 38;refine(rP _ fR fR).mono ?_)
 first|rintro e w1 rfl hb1|rintro e w1 ⟨rfl,hb1⟩
 go_wp2_with (go_at_call 38;refine(rP _ fR fR).mono ?_)
 first|rintro e w2 rfl hb2|rintro e w2 ⟨rfl,hb2⟩
 go_wp2
 go_ret
 exact⟨kQ jt,hb1.trans (hb2.mono hb1.size)⟩):p:=h
theorem bq {p:Prop} (h:p:=by
 go_wp2
 refine jF fW fW ?_;repeat (go_big_quiet_step (((go_at_call 71;first|exact kg (mc _ HP1.out fR)|exact kg (mc _ HP2.out fR)))))
 refine wpQuiet_nil ?_;rintro _ ⟨xq,rfl⟩;go_wp2
 go_ret
 exact⟨jG HE.out.symm,(hb.alloc hB _).trans (xq.ext.mono fY)⟩):p:=h
theorem bB {p:Prop} (h:p:=by
 go_wp2
 all_goals first
  | (go_ret;refine⟨jG ?_,hb.alloc hB _⟩;rw [HQ.out];clear HQ HK HSl Hr HP c0 c1 c2 c3 c4;(try unfold mayF kJ);simp;first|done|omega|(simp_all;done)|(simp_all;omega))
  | (go_roundw;(case rel=>exact⟨k+1,true,by omega,by go_num,hb.alloc hB _,ab ⟨fun h=>by omega,fun _ g hg=>by rw [show k+1-1=k from rfl,HK.out] at hg;injection hg with hg;subst hg;rfl⟩,ab gu⟩);(case measure=>simp [intOf];omega))):p:=h
theorem bG {p:Prop} (h:p:=by
 go_enter Tryz.func66,Tryz.ntmps66
 go_wp2_with (go_at_call 38;refine(rP _ fR fR).mono ?_;rintro e w1 ⟨rfl,hb1⟩)
 go_ret
 exact⟨kQ jt,hb1⟩):p:=h
theorem bW {p:Prop} (h:p:=by
 have hge:ks.length≤j:=gm;have HE:Hid (R=F2):=ab (by rw [←HG.out,hd];rfl);clear hd HG;have hbw:=hbbk;cases bb
 all_goals
  go_wp2_with (go_at_call 70;refine(nH _ HB.out).mono ?_;rintro e w1 ⟨rfl,hb1,_⟩)
  go_ret
  refine⟨jG ?_,hbw.trans (hb1.mono hbw.size)⟩;rw [HE.out,←HF2.out];first|rfl|(clear HE HF2;simp;done)|(clear HE HF2;rw [Bool.eq_iff_iff];simp;omega)):p:=h
theorem bX {p:Prop} (h:p:=by
 go_enter Tryz.func64,Tryz.ntmps64
 go_wp2
 go_ret
 exact⟨kQ (by rw [←HR.out];rfl),⟨0,rfl⟩⟩):p:=h
theorem bY {p:Prop} (h:p:=by
 go_enter Tryz.func37,Tryz.ntmps37
 go_wp2
 rw [←hw0];go_ret
 exact⟨kQ (by simp [Rx.tell]),hb0⟩):p:=h
theorem b8 {p:Prop} (h:p:=by
 rw [HT.out] at hlen ⊢;simp only [DE,Dx,DP] at hlen;rw [hw0] at c0 c1 c2 c3 c4 c5 c6 c7 HYV;clear hf;go_enter Tryz.func37,Tryz.ntmps37
 go_wp2_with (go_at_call 37;refine(IHY.out _ _ HYV.out fR).mono ?_;rintro e w1 ⟨rfl,hb1⟩)
 rw [←hw0] at hb1;go_ret
 exact⟨kQ fX,bel2 hb0 (hb1.mono iR)⟩):p:=h
theorem cd {p:Prop} (h:p:=by
 first|(simp [lH];done)|(simp [lH,five];done)|(simp [lH,five,four];done)):p:=h
theorem cj {p:Prop} (h:p:=by
 have e3:(hi==-1)=false:=by rw [DV];exact g3
 have e4:(hi != -1)=true:=by rw [bne_iff_ne];exact g3
 have G3:=ab g3;clear g3;go_enter Tryz.func73,Tryz.ntmps73
 go_wp2_with fail
 all_goals first
  | (go_ret;exact⟨jG HS.out.symm,HQ.out⟩)
  | (exfalso;have:=G3.out;omega)
  | (exfalso;have:=G3.out;simp_all;omega)):p:=h
theorem cC {p:Prop} (h:p:=by
 cases bb
 all_goals
  go_wp2_with (go_at_call 70;refine(nH _ HB.out).mono ?_;rintro e w1 ⟨rfl,hb1,_⟩)
  go_ret
  refine⟨jG ?_,bel2 hbb hb1⟩;rw [HE.out];first|rfl|(clear HE;rw [Bool.eq_iff_iff];simp;done)|(clear HE;rw [Bool.eq_iff_iff];simp;omega)):p:=h
theorem cV {p:Prop} (h:p:=by
 go_wp2_with (go_at_call 70;refine(nH _ HB.out).mono ?_;rintro e w1 ⟨rfl,hb1,_⟩)
 go_ret
 exact⟨jG HE2.out.symm,bel2 ((hbb.setCell fX _).setCell fX _) hb1⟩):p:=h
theorem dh {p:Prop} (h:p:=by
 rw [Hr.out,D6,←HRR2.out]):p:=h
theorem di {p:Prop} (h:p:=by
 go_wp2_with (go_at_call 70;refine(nH _ HB.out).mono ?_;rintro e w1 ⟨rfl,hb1,_⟩)
 go_ret
 exact⟨jG HE2.out.symm,bel2 (hbb.setCell fX _) hb1⟩):p:=h
theorem dj {p:Prop} (h:p:=by
 go_enter Tryz.func73,Tryz.ntmps73
 go_wp2
 go_ret
 exact⟨jG HS.out.symm,HQ.out⟩):p:=h
theorem dA {p:Prop} (h:p:=by
 clear HG2;go_wp2
 go_roundw
 case rel=>exact⟨j+1,by omega,by go_num,hbk,ab ju⟩
 case measure=>simp [intOf];omega):p:=h
theorem dK {p:Prop} (h:p:=by
 have HE3:Hid (R=false):=ab (by rw [←HG2.out];simp [p01,Rx.kind]);go_wp2
 go_ret
 exact⟨jG HE3.out.symm,hbbk⟩):p:=h
end Go.Proofs.YtjggmmaojklmpaaGreatDoor
