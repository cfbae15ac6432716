/- walk of gimletlaw22.SshowAhead -/
import Derived.Test.YtdcnncgpomcaaaaGreatDoorRc37
set_option maxRecDepth 100000
set_option maxHeartbeats 4000000
namespace Go.Proofs.YtdcnncgpomcaaaaGreatDoor
open Go.RowKit
theorem IE:∀l:List Sn,tsum l≤Sn.wtL l
 | []=>by simp [tsum,Sn.wtL]
 | .mk k t n h u f o ks::r=>by
  have:=IE r
  simp only [tsum,Sn.wtL,Sn.wt,Sn.text];split<;>omega
theorem IA {w:World} {B sz:Nat} {e:TypeId} {v:Value} {n:Nat} {xs:List Value} (h:w.ownsRow B e sz v n xs) {b:Nat} (hb:v.ownBlock=some b):B≤b:=by
 rcases h.2 with⟨rfl,_⟩|⟨g,cap,cur,rfl,hg,_⟩
 ·cases hb
 ·simp [Value.ownBlock] at hb;omega
theorem wD (a:Option Addr) (c:Nat) (xs:List Sn) (t:Str) (w:World) (ht:Tab w) (hx:SnSl w Any a xs.length xs) (hm:Sn.memL xs) (hl:xs.length≤maxLen) (htl0:t.length≤maxLen) :
  Calls Tryz.prog 7 #[.slice a xs.length c,.string ⟨t.toArray⟩] w fun e w'=>e=.returned (.bool true)∧Below w.heap.size w w':=by
 obtain⟨L,hL⟩:∃L,Sn.leftL xs 100=L:=⟨_,rfl⟩;have HLB:=ab (mU (Sn.partsL xs+1) xs gN hm hl Any a c w 100 hx gR gR);rw [hL] at HLB;have HAW:=ab nc;have HT:=ab ht;have HX:=ab hx;unfold maxLen at hl htl0;by_cases hneg:L<0
 ·have hge:decide (L<0)=true:=JR hneg
  exact gv
 ·have hge:decide (L<0)=false:=JT hneg
  by_cases h60:t.length≤60
  ·have dt:decide ((60:Int)<(t.length:Int))=false:=JT gN
   have h1:=qW xs 100 kI;have hw:Sn.wtL xs≤100:=gN;have hp:=nu xs;have hn:=Sn.len_parts xs;have hsm:=nt xs gN;have HM:=ab (fun w' hb=>pS Any xs hsm gN a c w' (HX.out.later hb:SnSl w' Any a xs.length xs));cases hmay:nM xs with
   | false =>
    rw [hmay] at HM;clear hneg hL hm ht hx h1 hw hp hn hsm hmay;go_enter Tryz.func7,Tryz.ntmps7
    go_wp2_with (go_at_call 8;refine HLB.out.mono ?_)
    first|rintro e w1 rfl hb1|rintro e w1 ⟨rfl,hb1⟩
    go_wp2_with (go_at_call 11;refine(HM.out _ hb1).mono ?_)
    first|rintro e w3 rfl hb3|rintro e w3 ⟨rfl,hb3⟩
    have hbw3:=bel2 hb1 hb3;exact cw
   | true =>
    rw [hmay] at HM;have hwf:=pN hmay;have htl:=nJ xs hwf;have hti:=nS xs hwf gN;have hkl:xs.length≤1000000:=gN;have hS:=fun(w':World) (hb:Below w.heap.size w w')=>mH (fun b=>b<w'.heap.size) xs hti hkl hmay gN a c w' (fun _ h=>h) (ht.keep hb) ((hx.later hb).mono (fun _ _ h=>h))
    have HSH:=ab (fun(w':World) (hb:Below w.heap.size w w')=>py Any (Sn.partsL xs+1) xs gN hti hkl hwf a c w' (hx.later hb) (ht.keep hb));cases hsh:Sn.shortL xs with
    | false =>
     rw [hsh] at HSH;clear hneg hL hm ht hx h1 hw hp hn hsm hmay hwf htl hti hS hsh;go_enter Tryz.func7,Tryz.ntmps7
     go_wp2_with (go_at_call 8;refine HLB.out.mono ?_)
     first|rintro e w1 rfl hb1|rintro e w1 ⟨rfl,hb1⟩
     go_wp2_with (go_at_call 11;refine(HM.out _ hb1).mono ?_)
     first|rintro e w3 rfl hb3|rintro e w3 ⟨rfl,hb3⟩
     have hbw3:=bel2 hb1 hb3;go_wp2_with (go_at_call 12;refine(HSH.out _ hbw3).mono ?_)
     exact bU
    | true =>
     rw [hsh] at HSH;have hdl:Sn.deepL xs≤32:=by unfold nM at hmay;simp only [Jy,Jj] at hmay;exact hmay.2
     obtain⟨iN,hiN⟩:=info_parts px;have hd2:=Ex t;have hsmt:=sr (s:=t) gN;have hgt:=Bu t;have htst:=IC t;have hnt:=Sn.len_parts (nn t);have hjn:=Fn hwf hsh t;have hjd:=sF (xs++nn t) [];rw [Sn.deepL_app] at hjd;have hr1:pz t=.ok (nn t):=yZ rfl gN gN;have hr2:pz (Sn.tellL xs++t)=.ok (oy (xs++nn t) []):=yZ hjn iZ gN;have hsj:=sr (s:=Sn.tellL xs++t) iZ;rw [hjn] at hsj;obtain⟨T,hT⟩:∃T,Sn.tellL xs=T:=⟨_,rfl⟩;obtain⟨B,hB⟩:∃B,nn t=B:=⟨_,rfl⟩;have hts:tsum (xs++B)≤1000000:=by rw [←hB,yJ];have:=IE xs;omega
     have hxb:(xs++B).length≤1000000:=by rw [←hB,JA];omega
     have hsb:Sn.smallL (xs++B):=by rw [←hB];exact Sn.smallL_app.2 ⟨hsm,hsmt.1⟩
     have HJ:Hid (∀(n:Nat) (_:n=(xs++B).length) (a:Option Addr) (c:Nat) (w:World),SnSl w (fun _=>True) a n (xs++B)→Calls Tryz.prog 18 #[.slice a n c] w fun e w'=>∃a' c',e=.returned (.slice a' (oy (xs++B) []).length c')∧SnSl w' (fun b=>w.heap.size≤b) a' (oy (xs++B) []).length (oy (xs++B) [])∧Below w.heap.size w w'):=ab (fun n hn a c w h=>by subst hn;exact Join_any (fun _=>True) (xs++B) hsb hxb hts a c w h);rw [hB] at hr1 hr2 hsj hnt;obtain⟨J,hJ⟩:∃J,oy (xs++B) []=J:=⟨_,rfl⟩;rw [hT] at htl;have hTl:T.length≤6000:=gN;have hBl:B.length≤1000:=by rw [←hB];have:=Sn.len_parts (nn t);omega
     have hxl:xs.length≤1000:=gN;rw [hT,hJ] at hr2;rw [hJ] at hsj HJ;rw [hT] at hS;have H1:=ab (uH hr1 gN);have H2:=ab (uH hr2 iZ);have HSM:=ab (nsame hsj.1 hsj.2.1);have HS:=ab hS;clear hneg hL hm ht hx h1 hw hp hn hsm hmay hwf htl hti hS hsh hdl hd2 hsmt hgt htst hnt hjn hjd hr1 hr2 hsj hT hB hts hxb hsb hJ;go_enter Tryz.func7,Tryz.ntmps7
     go_wp2_with (go_at_call 8;refine HLB.out.mono ?_)
     first|rintro e w1 rfl hb1|rintro e w1 ⟨rfl,hb1⟩
     go_wp2_with (go_at_call 11;refine(HM.out _ hb1).mono ?_)
     first|rintro e w3 rfl hb3|rintro e w3 ⟨rfl,hb3⟩
     have hbw3:=bel2 hb1 hb3;go_wp2_with (go_at_call 12;refine(HSH.out _ hbw3).mono ?_)
     first|rintro e w4 rfl hb4|rintro e w4 ⟨rfl,hb4⟩
     have hbw4:=bel2 hbw3 hb4;clear hb1 hb3 hb4 hbw3;go_wp2_with (go_at_call 10;refine(HS.out _ hbw4).mono ?_)
     first|rintro e w5 rfl hb5|rintro e w5 ⟨rfl,hb5⟩
     have hbw5:=bel2 hbw4 hb5;clear hb5 hbw4;go_wp2_with (go_at_call 13;refine(H1.out _ _ rfl).mono ?_)
     rintro e w6 ⟨a6,c6,rfl,hb6,hs6⟩;have hbw6:=bel2 hbw5 hb6;clear hb6 hbw5;go_wp2_with (go_at_call 13;refine(H2.out _ _ gU).mono ?_)
     rintro e w7 ⟨a7,c7,rfl,hb7,hs7⟩;have hbw7:=bel2 hbw6 hb7;obtain⟨W8,hW8⟩:∃W8,W8=w7.alloc (.cells #[] 44):=⟨_,rfl⟩;have hb8:Below w7.heap.size w7 W8:=by rw [hW8];exact(Below.refl _ _).alloc (Ju _) _
     have hz8:w7.heap.size<W8.heap.size:=by rw [hW8];simp
     have hxs8:=((HX.out.later hbw7).mono (S':=fun b=>b<w7.heap.size) (fun b _ hlt=>hlt)).later hb8;have hbs8:=(((hs6.later hb7)).mono (S':=fun b=>b<w7.heap.size) (fun b _ hlt=>hlt)).later hb8;obtain⟨css,hsl,hvs⟩:=hxs8;have HSL:=ab hsl.sl;have HVS:=ab hvs;have HONE:=ab hvs.one;have HOE:Hid (W8.ownsRow w7.heap.size 44 18 (.slice (some ⟨w7.heap.size,0,none⟩) 0 0) 0 []):=ab (by rw [hW8];exact own_lit0 w7);have HBS:=ab hbs8;have HS7R:=ab hs7;have HBW7:=ab hbw7;have HB8:=ab hb8;clear hb7 hs6 hs7 hb8 hbs8 hsl hvs hbw6 hbw7;go_upto_region 8 with fail
     go_wp2_with (at_builtin;rw [←hW8];refine vu kQ w7.heap.size 44 _ _ 22 rfl Tryz.underlying22 hiN rfl gR rfl HOE.out rfl HSL.out HONE.out gN gN gR gN ?_)
     intro v9 w9 ho9 hg9 hb9 hmv9;rw [←hW8] at hg9 hb9 hmv9;clear hW8;obtain⟨a9,c9,rfl⟩:=lD ho9;have HVB:=ab ((HBS.out).keep (S:=fun b=>b<w7.heap.size) ⟨hg9.size,fun b hb _=>hb9.block b hb⟩);have hv9:SnVs w9 (fun b=>b<w7.heap.size∧(Value.slice a9 xs.length c9).ownBlock≠some b) css xs:=(SnVs.keep (S:=fun b=>b<w7.heap.size) ⟨hg9.size,fun b hb _=>hb9.block b hb⟩ HVS.out).mono (fun b hb _=>⟨hb,fun e=>by have:=IA ho9 e;omega⟩);obtain⟨csb,hslb,hvsb⟩:=HVB.out;have HSLB:=ab hslb.sl;have HONEB:=ab hvsb.one;have HO9:=ab ho9;have HV9:=ab hv9;have HVB9:=ab (hvsb.mono (S':=fun b=>b<w7.heap.size∧(Value.slice a9 xs.length c9).ownBlock≠some b) (fun b hb _=>⟨hb,fun e=>by have:=IA ho9 e;omega⟩));have HB9:=ab (HB8.out.trans (hb9.mono (Ju _)));have hz9:w7.heap.size≤w9.heap.size:=HB9.out.size;clear ho9 hg9 hb9 hmv9 hv9 hslb hvsb;go_wp2_with (at_builtin;refine vu kQ w7.heap.size 44 _ _ 22 rfl Tryz.underlying22 hiN rfl gR rfl HO9.out rfl HSLB.out HONEB.out gN gN gR gN ?_)
     intro v10 w10 ho10 hg10 hb10 hmv10;obtain⟨a10,c10,rfl⟩:=lD ho10;have how:=OwnN.app (css:=css) (S:=fun b=>b<w7.heap.size) (v:=Value.slice a9 xs.length c9) (xs:=xs) (m:=B.length) HV9.out HVB9.out rfl ho10 hg10 hmv10;have hs10:SnSl w10 (fun _=>True) a10 (xs.length+B.length) (xs++B):=by
      have:=how.sl.2.mono (S':=fun _=>True) (fun _ _ _=>trivial)
      rw [JA] at this;exact this
     have HB10:=ab (HB9.out.trans hb10);have HJ10:=ab (HJ.out (xs.length+B.length) gU a10 c10 w10 hs10);clear ho10 hg10 hb10 hmv10 how hs10;go_wp2_with (go_at_call 18;refine HJ10.out.mono ?_)
     rintro e w11 ⟨a11,c11,rfl,hs11,hb11⟩;have hb711:=HB10.out.trans (hb11.mono HB10.out.size);have HSa:=ab (HSM.out _ _ a7 a11 c7 c11 w11 (HS7R.out.later hb711) hs11);have hbw11:=HBW7.out.trans (hb711.mono HBW7.out.size);clear hs11 hb11 hb711;go_wp2_with (go_at_call 14;refine HSa.out.mono ?_)
     exact bu
  ·have dt:decide ((60:Int)<(t.length:Int))=true:=JR gN
   exact gv
end Go.Proofs.YtdcnncgpomcaaaaGreatDoor
