/- walk of sshow.Show -/
import Derived.Test.YtdcnncgpomcaaaaGreatDoorSc35
import Derived.Test.YtdcnncgpomcaaaaGreatDoorSc34
set_option maxRecDepth 100000
set_option maxHeartbeats 4000000
namespace Go.Proofs.YtdcnncgpomcaaaaGreatDoor
open Go.RowKit
theorem G1 (S:Nat→Prop) (ks:List Sn) (hsm:Sn.smallL ks) (hkl:ks.length≤1000000) (hm:oB ks=false) (a:Option Addr) (c:Nat) (w:World) (hx:SnSl w S a ks.length ks) :
  Calls Tryz.prog 10 #[.slice a ks.length c] w fun e w'=>e=.returned (.tuple #[.string ⟨[].toArray⟩,.int .i64 10])∧Below w.heap.size w w':=by
 have HM:=ab (oG S ks hsm hkl a c w hx);rw [hm] at HM;clear hx hm hsm;go_enter Tryz.func10,Tryz.ntmps10
 go_wp2_with (go_at_call 11;refine HM.out.mono ?_)
 first|rintro e w1 rfl hb1|rintro e w1 ⟨rfl,hb1⟩
 go_wp2
 go_ret2
 exact⟨rfl,hb1⟩
theorem vX (a:Option Addr) (c:Nat) (xs:List Sn) (w:World) (ht:Tab w) (hx:SnSl w Any a xs.length xs) (hm:Sn.memL xs) (hl:xs.length≤maxLen) :
  Calls Tryz.prog 3 #[.slice a xs.length c] w fun e w'=>e=.returned (.bool true)∧Below w.heap.size w w':=by
 obtain⟨L,hL⟩:∃L,Sn.leftL xs 150=L:=⟨_,rfl⟩;have HLB:=ab (mm (Sn.partsL xs+1) xs gj hm hl Any a c w 150 hx gv gv);rw [hL] at HLB;have HAW:=ab qf;have HT:=ab ht;have HX:=ab hx;unfold maxLen at hl;by_cases hneg:L<0
 ·have hge:decide (L<0)=true:=Iw hneg
  clear hneg hL hm ht hx;go_enter Tryz.func3,Tryz.ntmps3
  exact bm
 ·have hge:decide (L<0)=false:=Ix hneg
  have h1:=pK xs 150 jW;have hw:Sn.wtL xs≤150:=gj;have hp:=mN xs;have hn:=Sn.len_parts xs;have hsm:=m7 xs gj;have HM:=ab (fun w' hb=>oG Any xs hsm gj a c w' (HX.out.later hb:SnSl w' Any a xs.length xs));cases hmay:oB xs with
  | false =>
   rw [hmay] at HM;have HS:=ab (fun w' hb=>G1 Any xs hsm gj hmay a c w' (HX.out.later hb:SnSl w' Any a xs.length xs));clear hneg hL hm ht hx h1 hw hp hn hsm hmay;go_enter Tryz.func3,Tryz.ntmps3
   go_wp2_with (go_at_call 8;refine HLB.out.mono ?_)
   first|rintro e w1 rfl hb1|rintro e w1 ⟨rfl,hb1⟩
   go_wp2_with (go_at_call 10;refine(HS.out _ hb1).mono ?_)
   first|rintro e w2 rfl hb2|rintro e w2 ⟨rfl,hb2⟩
   have hbw2:=bel2 hb1 hb2;go_wp2_with (go_at_call 11;refine(HM.out _ hbw2).mono ?_)
   exact fX
  | true =>
   rw [hmay] at HM;have hwf:=rp hmay;have htl:=no xs hwf;have hti:=nB xs hwf gj;have hkl:xs.length≤1000000:=gj;have hS:=fun(w':World) (hb:Below w.heap.size w w')=>np (fun b=>b<w'.heap.size) xs hti hkl hmay gj a c w' (fun _ h=>h) (ht.keep hb) ((hx.later hb).mono (fun _ _ h=>h))
   have HSH:=ab (fun(w':World) (hb:Below w.heap.size w w')=>n9 Any (Sn.partsL xs+1) xs gj hti hkl hwf a c w' (hx.later hb) (ht.keep hb));have hrd:Sn.shortL xs=true→qp (Sn.tellL xs)=.ok xs:=fun h=>sL hmay h gj
   obtain⟨T,hT⟩:∃T,Sn.tellL xs=T:=⟨_,rfl⟩;rw [hT] at hS hrd htl;have hTl:T.length≤6000:=gj;have HS:=ab hS;have dg:decide ((8192:Int)<(T.length:Int))=false:=Ix gj;cases hsh:Sn.shortL xs with
   | false =>
    rw [hsh] at HSH;clear hneg hL hm ht hx h1 hw hp hn hsm hmay hwf htl hti hS hT hrd hsh;go_enter Tryz.func3,Tryz.ntmps3
    go_wp2_with (go_at_call 8;refine HLB.out.mono ?_)
    first|rintro e w1 rfl hb1|rintro e w1 ⟨rfl,hb1⟩
    go_wp2_with (go_at_call 10;refine(HS.out _ hb1).mono ?_)
    first|rintro e w2 rfl hb2|rintro e w2 ⟨rfl,hb2⟩
    have hbw2:=bel2 hb1 hb2;go_wp2_with (go_at_call 11;refine(HM.out _ hbw2).mono ?_)
    first|rintro e w3 rfl hb3|rintro e w3 ⟨rfl,hb3⟩
    have hbw3:=bel2 hbw2 hb3;go_wp2_with (go_at_call 12;refine(HSH.out _ hbw3).mono ?_)
    exact bR
   | true =>
    rw [hsh] at HSH;have HRD:=ab (uD (hrd hsh) gj);have HSM:=ab (Hh hsm hkl);clear hneg hL hm ht hx h1 hw hp hn hsm hmay hwf htl hti hS hT hrd hsh;go_enter Tryz.func3,Tryz.ntmps3
    go_wp2_with (go_at_call 8;refine HLB.out.mono ?_)
    first|rintro e w1 rfl hb1|rintro e w1 ⟨rfl,hb1⟩
    go_wp2_with (go_at_call 10;refine(HS.out _ hb1).mono ?_)
    first|rintro e w2 rfl hb2|rintro e w2 ⟨rfl,hb2⟩
    have hbw2:=bel2 hb1 hb2;go_wp2_with (go_at_call 11;refine(HM.out _ hbw2).mono ?_)
    first|rintro e w3 rfl hb3|rintro e w3 ⟨rfl,hb3⟩
    have hbw3:=bel2 hbw2 hb3;go_wp2_with (go_at_call 12;refine(HSH.out _ hbw3).mono ?_)
    first|rintro e w4 rfl hb4|rintro e w4 ⟨rfl,hb4⟩
    have hbw4:=bel2 hbw3 hb4;clear hb1 hb2 hb3 hb4 hbw2 hbw3;go_wp2_with (go_at_call 13;refine(HRD.out _ _ rfl).mono ?_)
    rintro e w5 ⟨a5,c5,rfl,hb5,hs5⟩;have hbw5:=bel2 hbw4 hb5;have HS5:=ab (HSM.out _ _ a a5 c c5 w5 (HX.out.later hbw5) hs5);clear hs5 hb5 hbw4;go_wp2_with (go_at_call 14;refine HS5.out.mono ?_)
    first|rintro e w6 rfl hb6|rintro e w6 ⟨rfl,hb6⟩
    have hbw6:=bel2 hbw5 hb6;go_wp2_with (go_at_call 9;refine(HAW.out _ (HT.out.keep hbw6)).mono ?_;rintro e w9 ⟨rfl,hb9⟩)
    go_ret
    exact⟨rfl,bel2 hbw6 hb9⟩
end Go.Proofs.YtdcnncgpomcaaaaGreatDoor
