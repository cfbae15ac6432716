/- walk of gimletlaw19.FormPlain -/
import Derived.Test.YtbnkaecmgfolpaaGreatHb29
import Derived.Test.YtbnkaecmgfolpaaGreatHb26
import Derived.Deep.Slices
set_option maxRecDepth 100000
set_option maxHeartbeats 4000000
namespace Go.Proofs.YtbnkaecmgfolpaaGreat
open Go.RowKit
def FpRel (n:Nat) (w:World) (v9 v10 q:Value) (wr:World):Prop :=
 ∃(i:Nat) (p:Str),i≤n∧p.length=i∧q=.int .i64 i∧v9=.string ⟨p.toArray⟩∧OwnX wr w.heap.size v10 (p.map ko)∧Below w.heap.size w wr∧Hid (∀c∈p,iU c=false)
theorem pick3 {k:Nat} (h:k≤2):∃d:UInt8,List.take 1 (List.drop k ([97,98,99]:Str))=[d]∧iU d=false:=by
 rcases(by omega:k=0∨k=1∨k=2) with rfl|rfl|rfl
 all_goals exact⟨_,rfl,by decide⟩
theorem tN {w:World} {S:Nat→Prop} {cc:List Value} {x:Rx} (h:RxV w S cc x) :
  ∃(rk:Int) (rch:Str) (rng:Bool) (ra:Option Addr) (rn rcp:Nat) (rlo rhi:Int) (rlz:Bool) (rka:Option Addr) (kn rkc:Nat),cc=[.int .i64 rk,.string ⟨rch.toArray⟩,.bool rng,.slice ra rn rcp,.int .i64 rlo,.int .i64 rhi,.bool rlz,.slice rka kn rkc]:=by
 obtain⟨k,c,ng,rs,lo,hi,lz,ks⟩:=x;obtain⟨ra,rc,ka,kc,rfl,_,_⟩:=h.open_;exact⟨k,c,ng,ra,rs.length,rc,lo,hi,lz,ka,ks.length,kc,rfl⟩
theorem yU (w:World) (S:Nat→Prop) (d:UInt8):RxV w S [.int .i64 2,.string ⟨([d]).toArray⟩,.bool false,.slice none 0 0,.int .i64 0,.int .i64 0,.bool false,.slice none 0 0] (ko d) :=
 RxV.close (rs:=[]) (ks:=[]) (SlS.none_ _ _ _ _) ⟨[],SlS.none_ _ _ _ _,.nil⟩
def WnRel (cs:List Str) (p by_:Str) (all:Bool) (R:Str) (w7:World) (v14 v15 q:Value) (wr:World):Prop :=
 ∃(i many:Nat) (want:Str),i≤cs.length∧many≤i∧v14=.string ⟨want.toArray⟩∧v15=.int .i64 many∧q=.int .i64 i∧Below w7.heap.size w7 wr∧Hid (want++jE cs (jD cs p) (fun _=>by_) p.length all (cs.length+1) i (decide (0<many))=R)
def FiRel (cs:List Str) (p:Str) (i:Nat) (w7:World) (v18 v19:Value) (wr:World):Prop :=
 ∃j:Nat,j≤p.length∧v18=.bool (mL cs p i j)∧v19=.int .i64 j∧Below w7.heap.size w7 wr
theorem pA {w:World} {B:Nat} {b o n:Nat} {ps:List Str} (h:Sl w B (some ⟨b,o,none⟩) 1 n (j7 ps)) {w':World} (hb:Below B w w') {k:Nat} {d:Str} (hk:ps[k]?=some d):w'.cell? ⟨b,o+k,none⟩=some (.string ⟨d.toArray⟩):=by
 obtain⟨b',o',e,_,hc⟩:=(h.keep hb).str hk;injection e with e
 injection e with e1 e2 _
 subst e1 e2;exact hc
def SqP (x:Rx) (w:World) (e:Ending) (w':World):Prop:=∃cc',e=.returned (.agg cc'.toArray)∧RxV w' (fun b=>w.heap.size≤b) cc' x∧Below w.heap.size w w'
set_option maxRecDepth 100000 in
theorem uo (a:Option Addr) (n c:Nat) (ns:List Int) (by_ s:Str) (w:World) (h:Sl w w.heap.size a 1 n (kX ns)) (h1:0<n) (h2:n≤8) (h3:by_.length≤10) (h4:s.length≤60) :
  Calls Tryz.prog 5 #[.slice a n c,.string ⟨by_.toArray⟩,.string ⟨s.toArray⟩,.bool true] w fun e w'=>e=.returned (.bool true)∧Below w.heap.size w w':=by
 have Hno:=ab (h.int_len:n=ns.length);have HSl:=ab h;have g1:((n:Int)==0)=false:=by rw [Aj];omega
 have g2:decide ((8:Int)<(n:Int))=false:=Ah fg;have g3:decide ((10:Int)<(by_.length:Int))=false:=Ah fg;have g4:decide ((60:Int)<(s.length:Int))=false:=Ah fg;have HIX:=ab (info_parts pG);clear h;go_enter Tryz.func5,Tryz.ntmps5
 go_wp2
 clear g1 g2 g3 g4;go_loopw [9,10,11] (fun v9 v10 q wr=>FpRel n w v9 v10 q wr) (fun _ _ q _=>n-(intOf q).toNat)
 case atStart=>exact dU
 case round =>
  obtain⟨i,p,hi,hpl,rfl,rfl,hox,hb,HIN⟩:=hrel;by_cases hin:i<n
  ·exact aE
  ·obtain rfl:i=n:=fg
   have hp0:p≠[]:=by rintro rfl;simp at hpl;omega
   have hplb:p.length≤8:=fg;obtain⟨css,hown,hrv⟩:=hox;rw [Ab] at hown;obtain⟨va,vc,rfl⟩:=ja hown;have hox:OwnX wr w.heap.size (.slice va p.length vc) (p.map ko):=⟨css,by rw [Ab];exact hown,hrv⟩;clear hown hrv;have hxs:=(OwnX.sl hox).2;have hcw:=po HIN.out;have hsq:=ue _ va vc (p.map ko) wr hxs (by rw [hcw.2.1];omega) hcw.2.2.2.2;rw [Ab,qX] at hsq;have HSQ:Hid (Calls Tryz.prog 18 #[.slice va p.length vc] wr fun e w'=>SqP (j0 p) wr e w'):=ab (hsq.mono fun e w' h=>h);have HP0:=ab hp0;have HB:=ab hb;clear hox hxs hcw hsq hp0 hb hpl hin HSl;go_wp2_with (go_at_call 18;refine HSQ.out.mono ?_)
   rintro e w2 ⟨cc2,rfl,hv2,hb2⟩;obtain⟨ak,ach,ang,aa,an,acp,alo,ahi,alz,aka,akn,akc,rfl⟩:=tN hv2;obtain⟨W3,hW3⟩:∃W3,W3=w2.alloc (.cells #[.int .i64 ak,.string ⟨ach.toArray⟩,.bool ang,.slice aa an acp,.int .i64 alo,.int .i64 ahi,.bool alz,.slice aka akn akc,.slice none 0 0,.bool false,.bool true] 28):=⟨_,rfl⟩;have hbW3:Below w2.heap.size w2 W3:=by rw [hW3];exact(Below.refl _ _).alloc (zP _) _
   have hl3:W3.heap[w2.heap.size]?=some (.cells #[.int .i64 ak,.string ⟨ach.toArray⟩,.bool ang,.slice aa an acp,.int .i64 alo,.int .i64 ahi,.bool alz,.slice aka akn akc,.slice none 0 0,.bool false,.bool true] 28 (0,0)):=by rw [hW3];exact heap_alloc_new w2 _
   have hv3:=(hv2.mono (S':=fun b=>b<w2.heap.size) fun b _ hlt=>hlt).later hbW3;have HV3:=ab hv3;have HL3:=ab hl3;have HB3:=ab (bel2 (bel2 HB.out hb2) hbW3);have HB2:=ab (bel2 HB.out hb2);have HW3:=ab hW3;have hz3:w2.heap.size<W3.heap.size:=iN hl3;clear hW3 hbW3 hl3 hv3 hv2 hb2 HSQ;go_upto_region 12 with fail
   rw [←HW3.out];clear HW3;by_cases hby:by_=[]
   ·subst hby
    have HTF:Hid (TfV W3 (fun b=>b<w2.heap.size) [.int .i64 ak,.string ⟨ach.toArray⟩,.bool ang,.slice aa an acp,.int .i64 alo,.int .i64 ahi,.bool alz,.slice aka akn akc,.slice none 0 0,.bool false,.bool true] ⟨j0 p,byFs [],false,true⟩):=ab ⟨_,none,0,HV3.out,SlS.none_ _ _ _ _,rfl⟩;have HL6:=ab HL3.out;have HB6:=ab HB3.out;obtain⟨cs,hcs⟩:∃cs,iP s=cs:=⟨_,rfl⟩;have hcl:cs.length≤60:=by rw [←hcs];have:=kV s;omega
    have HSP:=ab (hcs▸lT s W3 fg);have HCS:=ab hcs;obtain⟨left,hap⟩:=mC (p:=p) (by_:=([]:Str)) (s:=s) (all:=true) (z:=5000) HP0.out (kw HIN.out HP0.out hplb).1 hplb iI h4 fo;rw [hcs] at hap;obtain⟨R,hR⟩:∃R,jE cs (jD cs p) (fun _=>([]:Str)) p.length true (cs.length+1) 0 false=R:=⟨_,rfl⟩;rw [hR] at hap;have hRl:R.length≤700:=by
     rw [←hR];have h9:=mB (cs:=cs) (here:=jD cs p) (F:=fun _=>([]:Str)) (L:=p.length) (all:=true) (D:=10) (fun _=> iC) (cs.length+1) 0 false;exact cH
    have HAP:=ab hap;have HRR:=ab hR;clear hcs hap hR;go_wp2_with (go_at_call 19;refine HSP.out.mono ?_)
    rintro e w7 ⟨sa,sc,rfl,hss,hb7⟩;have HSC:=ab (SlS.sl hss);have HB7:=ab hb7;have hp1:1≤p.length:=by have:=HP0.out;cases p with|nil=>exact absurd rfl this|cons _ _=>simp
    clear hss hb7 HSP;go_wp2
    go_loopw [14,15,17] (fun v14 v15 q wr=>WnRel cs p ([]:Str) true R w7 v14 v15 q wr) (fun _ _ q _=>cs.length-(intOf q).toNat)
    case atStart=>exact cu
    case round =>
     obtain⟨i,many,want,hi,hmi,rfl,rfl,rfl,hbw,HW⟩:=hrel;have hwl:want.length≤700:=by
      exact cA
     have HBW:=ab hbw;clear hbw HRR;by_cases hic:i<cs.length
     ·obtain⟨ci,hci⟩:∃c,cs[i]?=some c:=⟨_,zN hic⟩
      have hcil:ci.length≤60:=by
       exact cx
      obtain⟨b,o,rfl,_,c0⟩:=(HSC.out.keep HBW.out).str hci;have HCELL:=ab (fun wr hb k d hk=>pA HSC.out (w':=wr) hb (k:=k) (d:=d) hk);obtain⟨b0,hb0⟩:∃b,decide ((i:Int)+(p.length:Int)≤(cs.length:Int))=b:=⟨_,rfl⟩;have HB0:Hid (mL cs p i 0=b0):=ab fC;have HCI:=ab hci;have HBW2:=ab HBW.out;clear hci c0;go_wp2
      clear hb0;go_loopw [18,19] (fun v18 v19 wq=>FiRel cs p i w7 v18 v19 wq) (fun _ q _=>p.length-(intOf q).toNat)
      case atStart=>exact cZ
      case round =>
       obtain⟨j,hj,rfl,rfl,hbq⟩:=hrel;have c0:=HCELL.out _ hbq i ci HCI.out;cases hh:mL cs p i j with
       | false =>
        have hno:=nD HP0.out hh;have HW2:=ab (HW.out);rw [nC hp1 HCI.out (by rw [hno];rfl)] at HW2;have HW3:Hid ((want++ci)++jE cs (jD cs p) (fun _=>([]:Str)) p.length true (cs.length+1) (i+1) (decide (0<many))=R):=ab fU;clear hno HW2 hh HB0;exact bl
       | true =>
        have hlen:i+p.length≤cs.length:=by
         exact cl
        by_cases hjl:j<p.length
        ·exact aC
        ·have hjp:j=p.length:=fg
         have hyes:jD cs p i=true:=by rw [←oy (i:=i) HP0.out,←hjp];exact hh
         clear hh HB0;by_cases hm0:many=0
         ·have gm:((many:Int)==0)=true:=by rw [zI];omega
          have hd0:decide (0<many)=false:=Ah fg;exact bH
         ·have gm:((many:Int)==0)=false:=by rw [Aj];omega
          have hd0:decide (0<many)=true:=Av fg;exact bH
     ·obtain rfl:i=cs.length:=fg
      have hRe:want=R:=by have:=HW.out;rw [nX,AB] at this;exact this
      have HRE:=ab hRe;have hmx:=kw HIN.out HP0.out hplb;have HA:=ab (jQ _ ⟨j0 p,byFs ([]:Str),false,true⟩ _ wr (HTF.out.later (bel2 HB7.out HBW.out)) (s:=s) (z:=5000) HAP.out ⟨hmx.2.1,zR hmx.2.2 fo,by unfold byFs;split<;>simp⟩ iw (mf:=60) fo gK fg (fun m _ q hq=>zR (mZ s _ m q hq) h4));have HL9:=ab (((bel2 HB7.out HBW.out).block _ (iN HL6.out)).trans HL6.out);have HB9:=ab (bel2 HB6.out (bel2 HB7.out HBW.out));subst hRe;clear hmx hic HW HRE;go_wp2_with (first
       | (refine jr rfl 28 (.tmp 13) rfl w2.heap.size 0 rfl [.int .i64 ak,.string ⟨ach.toArray⟩,.bool ang,.slice aa an acp,.int .i64 alo,.int .i64 ahi,.bool alz,.slice aka akn akc,.slice none 0 0,.bool false,.bool true] _ (jt (ds:=[]) HL9.out) jJ rfl fT ?_)
       | (go_at_call 12;refine HA.out.mono ?_;first|rintro e w8 rfl hb8|rintro e w8 ⟨rfl,hb8⟩)
       | (go_at_call 11;refine(lA _).mono ?_;rintro e w9 ⟨rfl,hb9⟩))
      exact de
   ·have g1:(by_==[])=false:=by rw [Aj];exact hby
    have g2:(by_ != [])=true:=by rw [bne_iff_ne];exact hby
    have g3:List.isEmpty by_=false:=ig;have HBY:=ab hby;have f8:=lg HL3.out 8;have c8:=iQ HL3.out 8 rfl;obtain⟨W5,hW5⟩:∃W5,W5=W3.setCell ⟨w2.heap.size,8,none⟩ (.slice (some ⟨W3.heap.size,0,none⟩) 1 1):=⟨_,rfl⟩;have hz5:W5.heap.size=W3.heap.size:=by rw [hW5];simp [World.setCell]
    obtain⟨W6,hW6⟩:∃W6,W6=W5.alloc (.cells #[.int .i64 0,.int .i64 0,.int .i64 0,.string ⟨by_.toArray⟩,.string ⟨[].toArray⟩] 43):=⟨_,rfl⟩;have hb56:Below W5.heap.size W5 W6:=by rw [hW6];exact(Below.refl _ _).alloc (zP _) _
    have hl5:W5.heap[w2.heap.size]?=some (.cells #[.int .i64 ak,.string ⟨ach.toArray⟩,.bool ang,.slice aa an acp,.int .i64 alo,.int .i64 ahi,.bool alz,.slice aka akn akc,.slice (some ⟨W3.heap.size,0,none⟩) 1 1,.bool false,.bool true] 28 (0,0)):=by
     rw [hW5];simp [World.setCell,Array.getElem?_modify,HL3.out]
    have HL6:=ab ((hb56.block _ (iN hl5)).trans hl5);have hlg:W6.heap[W3.heap.size]?=some (.cells #[.int .i64 0,.int .i64 0,.int .i64 0,.string ⟨by_.toArray⟩,.string ⟨[].toArray⟩] 43 (0,0)):=by
     rw [hW6,←hz5];exact heap_alloc_new W5 _
    have hv5:RxV W5 (fun b=>b<w2.heap.size) [.int .i64 ak,.string ⟨ach.toArray⟩,.bool ang,.slice aa an acp,.int .i64 alo,.int .i64 ahi,.bool alz,.slice aka akn akc] (j0 p):=HV3.out.keep ⟨by omega,fun b hb _=>by
     rw [hW5];exact heap_setCell_other _ _ _ _ (by have hb:b<w2.heap.size:=hb;simp;omega)⟩
    have hv6:RxV W6 (fun b=>b<w2.heap.size∨b=W3.heap.size) [.int .i64 ak,.string ⟨ach.toArray⟩,.bool ang,.slice aa an acp,.int .i64 alo,.int .i64 ahi,.bool alz,.slice aka akn akc] (j0 p):=(hv5.later hb56).mono fun b hb _=>.inl hb
    have hbf:byFs by_=[⟨0,0,0,by_,[]⟩]:=zO hby;have HTF:Hid (TfV W6 (fun b=>b<w2.heap.size∨b=W3.heap.size) [.int .i64 ak,.string ⟨ach.toArray⟩,.bool ang,.slice aa an acp,.int .i64 alo,.int .i64 ahi,.bool alz,.slice aka akn akc,.slice (some ⟨W3.heap.size,0,none⟩) 1 1,.bool false,.bool true] ⟨j0 p,byFs by_,false,true⟩):=ab (by
     rw [hbf];exact TfV.lit (fs:=[⟨0,0,0,by_,[]⟩]) hv6 hlg (.inr rfl) rfl)
    have HB6:Hid (Below w.heap.size w W6):=ab (by
     refine Below.trans (b:=W5) ?_ (hb56.mono (by have:=HB3.out.size;omega));rw [hW5];exact HB3.out.setCell (by have:=HB2.out.size;simp;omega) _)
    have HW5:=ab hW5;have HW6:=ab hW6;clear hW5 hW6 hz5 hb56 hl5 hlg hv5 hv6 hbf hby;go_upto_region 14 with fail
    rw [←HW5.out,←HW6.out];clear HW5 HW6 f8 c8 g1 g2 g3;obtain⟨cs,hcs⟩:∃cs,iP s=cs:=⟨_,rfl⟩;have hcl:cs.length≤60:=by rw [←hcs];have:=kV s;omega
    have HSP:=ab (hcs▸lT s W6 fg);have HCS:=ab hcs;obtain⟨left,hap⟩:=mC (p:=p) (by_:=by_) (s:=s) (all:=true) (z:=5000) HP0.out (kw HIN.out HP0.out hplb).1 hplb iI h4 fo;rw [hcs] at hap;obtain⟨R,hR⟩:∃R,jE cs (jD cs p) (fun _=>by_) p.length true (cs.length+1) 0 false=R:=⟨_,rfl⟩;rw [hR] at hap;have hRl:R.length≤700:=by
     rw [←hR];have h9:=mB (cs:=cs) (here:=jD cs p) (F:=fun _=>by_) (L:=p.length) (all:=true) (D:=10) (fun _=> iC) (cs.length+1) 0 false;exact cH
    have HAP:=ab hap;have HRR:=ab hR;clear hcs hap hR;go_wp2_with (go_at_call 19;refine HSP.out.mono ?_)
    rintro e w7 ⟨sa,sc,rfl,hss,hb7⟩;have HSC:=ab (SlS.sl hss);have HB7:=ab hb7;have hp1:1≤p.length:=by have:=HP0.out;cases p with|nil=>exact absurd rfl this|cons _ _=>simp
    clear hss hb7 HSP;go_wp2
    go_loopw [14,15,17] (fun v14 v15 q wr=>WnRel cs p by_ true R w7 v14 v15 q wr) (fun _ _ q _=>cs.length-(intOf q).toNat)
    case atStart=>exact cu
    case round =>
     obtain⟨i,many,want,hi,hmi,rfl,rfl,rfl,hbw,HW⟩:=hrel;have hwl:want.length≤700:=by
      exact cA
     have HBW:=ab hbw;clear hbw HRR;by_cases hic:i<cs.length
     ·obtain⟨ci,hci⟩:∃c,cs[i]?=some c:=⟨_,zN hic⟩
      have hcil:ci.length≤60:=by
       exact cx
      obtain⟨b,o,rfl,_,c0⟩:=(HSC.out.keep HBW.out).str hci;have HCELL:=ab (fun wr hb k d hk=>pA HSC.out (w':=wr) hb (k:=k) (d:=d) hk);obtain⟨b0,hb0⟩:∃b,decide ((i:Int)+(p.length:Int)≤(cs.length:Int))=b:=⟨_,rfl⟩;have HB0:Hid (mL cs p i 0=b0):=ab fC;have HCI:=ab hci;have HBW2:=ab HBW.out;clear hci c0;go_wp2
      clear hb0;go_loopw [18,19] (fun v18 v19 wq=>FiRel cs p i w7 v18 v19 wq) (fun _ q _=>p.length-(intOf q).toNat)
      case atStart=>exact cZ
      case round =>
       obtain⟨j,hj,rfl,rfl,hbq⟩:=hrel;have c0:=HCELL.out _ hbq i ci HCI.out;cases hh:mL cs p i j with
       | false =>
        have hno:=nD HP0.out hh;have HW2:=ab (HW.out);rw [nC hp1 HCI.out (by rw [hno];rfl)] at HW2;have HW3:Hid ((want++ci)++jE cs (jD cs p) (fun _=>by_) p.length true (cs.length+1) (i+1) (decide (0<many))=R):=ab fU;clear hno HW2 hh HB0;exact bl
       | true =>
        have hlen:i+p.length≤cs.length:=by
         exact cl
        by_cases hjl:j<p.length
        ·exact aC
        ·have hjp:j=p.length:=fg
         have hyes:jD cs p i=true:=by rw [←oy (i:=i) HP0.out,←hjp];exact hh
         clear hh HB0;by_cases hm0:many=0
         ·have gm:((many:Int)==0)=true:=by rw [zI];omega
          have hd0:decide (0<many)=false:=Ah fg;exact bJ
         ·have gm:((many:Int)==0)=false:=by rw [Aj];omega
          have hd0:decide (0<many)=true:=Av fg;exact bJ
     ·obtain rfl:i=cs.length:=fg
      have hRe:want=R:=by have:=HW.out;rw [nX,AB] at this;exact this
      have HRE:=ab hRe;have hmx:=kw HIN.out HP0.out hplb;have HA:=ab (jQ _ ⟨j0 p,byFs by_,false,true⟩ _ wr (HTF.out.later (bel2 HB7.out HBW.out)) (s:=s) (z:=5000) HAP.out ⟨hmx.2.1,zR hmx.2.2 fo,by unfold byFs;split<;>simp⟩ iw (mf:=60) fo gK fg (fun m _ q hq=>zR (mZ s _ m q hq) h4));have HL9:=ab (((bel2 HB7.out HBW.out).block _ (iN HL6.out)).trans HL6.out);have HB9:=ab (bel2 HB6.out (bel2 HB7.out HBW.out));subst hRe;clear hmx hic HW HRE;go_wp2_with (first
       | (refine jr rfl 28 (.tmp 13) rfl w2.heap.size 0 rfl [.int .i64 ak,.string ⟨ach.toArray⟩,.bool ang,.slice aa an acp,.int .i64 alo,.int .i64 ahi,.bool alz,.slice aka akn akc,.slice (some ⟨W3.heap.size,0,none⟩) 1 1,.bool false,.bool true] _ (jt (ds:=[]) HL9.out) jJ rfl fT ?_)
       | (go_at_call 12;refine HA.out.mono ?_;first|rintro e w8 rfl hb8|rintro e w8 ⟨rfl,hb8⟩)
       | (go_at_call 11;refine(lA _).mono ?_;rintro e w9 ⟨rfl,hb9⟩))
      exact de
set_option maxRecDepth 100000 in
      set_option maxHeartbeats 4000000 in
      theorem FormPlain_f (a:Option Addr) (n c:Nat) (ns:List Int) (by_ s:Str) (w:World) (h:Sl w w.heap.size a 1 n (kX ns)) (h1:0<n) (h2:n≤8) (h3:by_.length≤10) (h4:s.length≤60) :
        Calls Tryz.prog 5 #[.slice a n c,.string ⟨by_.toArray⟩,.string ⟨s.toArray⟩,.bool false] w fun e w'=>e=.returned (.bool true)∧Below w.heap.size w w':=by
       have Hno:=ab (h.int_len:n=ns.length);have HSl:=ab h;have g1:((n:Int)==0)=false:=by rw [Aj];omega
       have g2:decide ((8:Int)<(n:Int))=false:=Ah fg;have g3:decide ((10:Int)<(by_.length:Int))=false:=Ah fg;have g4:decide ((60:Int)<(s.length:Int))=false:=Ah fg;have HIX:=ab (info_parts pG);clear h;go_enter Tryz.func5,Tryz.ntmps5
       go_wp2
       clear g1 g2 g3 g4;go_loopw [9,10,11] (fun v9 v10 q wr=>FpRel n w v9 v10 q wr) (fun _ _ q _=>n-(intOf q).toNat)
       case atStart=>exact dU
       case round =>
        obtain⟨i,p,hi,hpl,rfl,rfl,hox,hb,HIN⟩:=hrel;by_cases hin:i<n
        ·exact aE
        ·obtain rfl:i=n:=fg
         have hp0:p≠[]:=by rintro rfl;simp at hpl;omega
         have hplb:p.length≤8:=fg;obtain⟨css,hown,hrv⟩:=hox;rw [Ab] at hown;obtain⟨va,vc,rfl⟩:=ja hown;have hox:OwnX wr w.heap.size (.slice va p.length vc) (p.map ko):=⟨css,by rw [Ab];exact hown,hrv⟩;clear hown hrv;have hxs:=(OwnX.sl hox).2;have hcw:=po HIN.out;have hsq:=ue _ va vc (p.map ko) wr hxs (by rw [hcw.2.1];omega) hcw.2.2.2.2;rw [Ab,qX] at hsq;have HSQ:Hid (Calls Tryz.prog 18 #[.slice va p.length vc] wr fun e w'=>SqP (j0 p) wr e w'):=ab (hsq.mono fun e w' h=>h);have HP0:=ab hp0;have HB:=ab hb;clear hox hxs hcw hsq hp0 hb hpl hin HSl;go_wp2_with (go_at_call 18;refine HSQ.out.mono ?_)
         rintro e w2 ⟨cc2,rfl,hv2,hb2⟩;obtain⟨ak,ach,ang,aa,an,acp,alo,ahi,alz,aka,akn,akc,rfl⟩:=tN hv2;obtain⟨W3,hW3⟩:∃W3,W3=w2.alloc (.cells #[.int .i64 ak,.string ⟨ach.toArray⟩,.bool ang,.slice aa an acp,.int .i64 alo,.int .i64 ahi,.bool alz,.slice aka akn akc,.slice none 0 0,.bool false,.bool false] 28):=⟨_,rfl⟩;have hbW3:Below w2.heap.size w2 W3:=by rw [hW3];exact(Below.refl _ _).alloc (zP _) _
         have hl3:W3.heap[w2.heap.size]?=some (.cells #[.int .i64 ak,.string ⟨ach.toArray⟩,.bool ang,.slice aa an acp,.int .i64 alo,.int .i64 ahi,.bool alz,.slice aka akn akc,.slice none 0 0,.bool false,.bool false] 28 (0,0)):=by rw [hW3];exact heap_alloc_new w2 _
         have hv3:=(hv2.mono (S':=fun b=>b<w2.heap.size) fun b _ hlt=>hlt).later hbW3;have HV3:=ab hv3;have HL3:=ab hl3;have HB3:=ab (bel2 (bel2 HB.out hb2) hbW3);have HB2:=ab (bel2 HB.out hb2);have HW3:=ab hW3;have hz3:w2.heap.size<W3.heap.size:=iN hl3;clear hW3 hbW3 hl3 hv3 hv2 hb2 HSQ;go_upto_region 12 with fail
         rw [←HW3.out];clear HW3;by_cases hby:by_=[]
         ·subst hby
          have HTF:Hid (TfV W3 (fun b=>b<w2.heap.size) [.int .i64 ak,.string ⟨ach.toArray⟩,.bool ang,.slice aa an acp,.int .i64 alo,.int .i64 ahi,.bool alz,.slice aka akn akc,.slice none 0 0,.bool false,.bool false] ⟨j0 p,byFs [],false,false⟩):=ab ⟨_,none,0,HV3.out,SlS.none_ _ _ _ _,rfl⟩;have HL6:=ab HL3.out;have HB6:=ab HB3.out;obtain⟨cs,hcs⟩:∃cs,iP s=cs:=⟨_,rfl⟩;have hcl:cs.length≤60:=by rw [←hcs];have:=kV s;omega
          have HSP:=ab (hcs▸lT s W3 fg);have HCS:=ab hcs;obtain⟨left,hap⟩:=mC (p:=p) (by_:=([]:Str)) (s:=s) (all:=false) (z:=5000) HP0.out (kw HIN.out HP0.out hplb).1 hplb iI h4 fo;rw [hcs] at hap;obtain⟨R,hR⟩:∃R,jE cs (jD cs p) (fun _=>([]:Str)) p.length false (cs.length+1) 0 false=R:=⟨_,rfl⟩;rw [hR] at hap;have hRl:R.length≤700:=by
           rw [←hR];have h9:=mB (cs:=cs) (here:=jD cs p) (F:=fun _=>([]:Str)) (L:=p.length) (all:=false) (D:=10) (fun _=> iC) (cs.length+1) 0 false;exact cH
          have HAP:=ab hap;have HRR:=ab hR;clear hcs hap hR;go_wp2_with (go_at_call 19;refine HSP.out.mono ?_)
          rintro e w7 ⟨sa,sc,rfl,hss,hb7⟩;have HSC:=ab (SlS.sl hss);have HB7:=ab hb7;have hp1:1≤p.length:=by have:=HP0.out;cases p with|nil=>exact absurd rfl this|cons _ _=>simp
          clear hss hb7 HSP;go_wp2
          go_loopw [14,15,17] (fun v14 v15 q wr=>WnRel cs p ([]:Str) false R w7 v14 v15 q wr) (fun _ _ q _=>cs.length-(intOf q).toNat)
          case atStart=>exact cu
          case round =>
           obtain⟨i,many,want,hi,hmi,rfl,rfl,rfl,hbw,HW⟩:=hrel;have hwl:want.length≤700:=by
            exact cA
           have HBW:=ab hbw;clear hbw HRR;by_cases hic:i<cs.length
           ·obtain⟨ci,hci⟩:∃c,cs[i]?=some c:=⟨_,zN hic⟩
            have hcil:ci.length≤60:=by
             exact cx
            obtain⟨b,o,rfl,_,c0⟩:=(HSC.out.keep HBW.out).str hci;have HCELL:=ab (fun wr hb k d hk=>pA HSC.out (w':=wr) hb (k:=k) (d:=d) hk);obtain⟨b0,hb0⟩:∃b,decide ((i:Int)+(p.length:Int)≤(cs.length:Int))=b:=⟨_,rfl⟩;have HB0:Hid (mL cs p i 0=b0):=ab fC;have HCI:=ab hci;have HBW2:=ab HBW.out;clear hci c0;go_wp2
            clear hb0;go_loopw [18,19] (fun v18 v19 wq=>FiRel cs p i w7 v18 v19 wq) (fun _ q _=>p.length-(intOf q).toNat)
            case atStart=>exact cZ
            case round =>
             obtain⟨j,hj,rfl,rfl,hbq⟩:=hrel;have c0:=HCELL.out _ hbq i ci HCI.out;cases hh:mL cs p i j with
             | false =>
              have hno:=nD HP0.out hh;have HW2:=ab (HW.out);rw [nC hp1 HCI.out (by rw [hno];rfl)] at HW2;have HW3:Hid ((want++ci)++jE cs (jD cs p) (fun _=>([]:Str)) p.length false (cs.length+1) (i+1) (decide (0<many))=R):=ab fU;clear hno HW2 hh HB0;exact bl
             | true =>
              have hlen:i+p.length≤cs.length:=by
               exact cl
              by_cases hjl:j<p.length
              ·exact aC
              ·have hjp:j=p.length:=fg
               have hyes:jD cs p i=true:=by rw [←oy (i:=i) HP0.out,←hjp];exact hh
               clear hh HB0;by_cases hm0:many=0
               ·have gm:((many:Int)==0)=true:=by rw [zI];omega
                have hd0:decide (0<many)=false:=Ah fg;have HW2:=ab HW.out;rw [nY hp1 hic il] at HW2;have HW3:Hid ((want++([]:Str))++jE cs (jD cs p) (fun _=>([]:Str)) p.length false (cs.length+1) (i+p.length) (decide (0<many+1))=R):=ab fL;clear HW2 hyes hd0 hm0;go_wp2
                go_roundw
                case rel=>exact⟨i+p.length,many+1,want++([]:Str),by omega,by omega,by first|rfl|simp,by go_num,by go_num,hbq,HW3⟩
                case measure=>simp [intOf];omega
               ·have gm:((many:Int)==0)=false:=by rw [Aj];omega
                have hd0:decide (0<many)=true:=Av fg;have HW2:=ab HW.out;rw [nC hp1 HCI.out il] at HW2;have HW3:Hid ((want++ci)++jE cs (jD cs p) (fun _=>([]:Str)) p.length false (cs.length+1) (i+1) (decide (0<many))=R):=ab fU;clear HW2 hyes hd0 hm0;exact bl
           ·obtain rfl:i=cs.length:=fg
            have hRe:want=R:=by have:=HW.out;rw [nX,AB] at this;exact this
            have HRE:=ab hRe;have hmx:=kw HIN.out HP0.out hplb;have HA:=ab (jQ _ ⟨j0 p,byFs ([]:Str),false,false⟩ _ wr (HTF.out.later (bel2 HB7.out HBW.out)) (s:=s) (z:=5000) HAP.out ⟨hmx.2.1,zR hmx.2.2 fo,by unfold byFs;split<;>simp⟩ iw (mf:=60) fo gK fg (fun m _ q hq=>zR (mZ s _ m q hq) h4));have HL9:=ab (((bel2 HB7.out HBW.out).block _ (iN HL6.out)).trans HL6.out);have HB9:=ab (bel2 HB6.out (bel2 HB7.out HBW.out));subst hRe;clear hmx hic HW HRE;go_wp2_with (first
             | (refine jr rfl 28 (.tmp 13) rfl w2.heap.size 0 rfl [.int .i64 ak,.string ⟨ach.toArray⟩,.bool ang,.slice aa an acp,.int .i64 alo,.int .i64 ahi,.bool alz,.slice aka akn akc,.slice none 0 0,.bool false,.bool false] _ (jt (ds:=[]) HL9.out) jJ rfl fT ?_)
             | (go_at_call 12;refine HA.out.mono ?_;first|rintro e w8 rfl hb8|rintro e w8 ⟨rfl,hb8⟩)
             | (go_at_call 11;refine(lA _).mono ?_;rintro e w9 ⟨rfl,hb9⟩))
            exact de
         ·have g1:(by_==[])=false:=by rw [Aj];exact hby
          have g2:(by_ != [])=true:=by rw [bne_iff_ne];exact hby
          have g3:List.isEmpty by_=false:=ig;have HBY:=ab hby;have f8:=lg HL3.out 8;have c8:=iQ HL3.out 8 rfl;obtain⟨W5,hW5⟩:∃W5,W5=W3.setCell ⟨w2.heap.size,8,none⟩ (.slice (some ⟨W3.heap.size,0,none⟩) 1 1):=⟨_,rfl⟩;have hz5:W5.heap.size=W3.heap.size:=by rw [hW5];simp [World.setCell]
          obtain⟨W6,hW6⟩:∃W6,W6=W5.alloc (.cells #[.int .i64 0,.int .i64 0,.int .i64 0,.string ⟨by_.toArray⟩,.string ⟨[].toArray⟩] 43):=⟨_,rfl⟩;have hb56:Below W5.heap.size W5 W6:=by rw [hW6];exact(Below.refl _ _).alloc (zP _) _
          have hl5:W5.heap[w2.heap.size]?=some (.cells #[.int .i64 ak,.string ⟨ach.toArray⟩,.bool ang,.slice aa an acp,.int .i64 alo,.int .i64 ahi,.bool alz,.slice aka akn akc,.slice (some ⟨W3.heap.size,0,none⟩) 1 1,.bool false,.bool false] 28 (0,0)):=by
           rw [hW5];simp [World.setCell,Array.getElem?_modify,HL3.out]
          have HL6:=ab ((hb56.block _ (iN hl5)).trans hl5);have hlg:W6.heap[W3.heap.size]?=some (.cells #[.int .i64 0,.int .i64 0,.int .i64 0,.string ⟨by_.toArray⟩,.string ⟨[].toArray⟩] 43 (0,0)):=by
           rw [hW6,←hz5];exact heap_alloc_new W5 _
          have hv5:RxV W5 (fun b=>b<w2.heap.size) [.int .i64 ak,.string ⟨ach.toArray⟩,.bool ang,.slice aa an acp,.int .i64 alo,.int .i64 ahi,.bool alz,.slice aka akn akc] (j0 p):=HV3.out.keep ⟨by omega,fun b hb _=>by
           rw [hW5];exact heap_setCell_other _ _ _ _ (by have hb:b<w2.heap.size:=hb;simp;omega)⟩
          have hv6:RxV W6 (fun b=>b<w2.heap.size∨b=W3.heap.size) [.int .i64 ak,.string ⟨ach.toArray⟩,.bool ang,.slice aa an acp,.int .i64 alo,.int .i64 ahi,.bool alz,.slice aka akn akc] (j0 p):=(hv5.later hb56).mono fun b hb _=>.inl hb
          have hbf:byFs by_=[⟨0,0,0,by_,[]⟩]:=zO hby;have HTF:Hid (TfV W6 (fun b=>b<w2.heap.size∨b=W3.heap.size) [.int .i64 ak,.string ⟨ach.toArray⟩,.bool ang,.slice aa an acp,.int .i64 alo,.int .i64 ahi,.bool alz,.slice aka akn akc,.slice (some ⟨W3.heap.size,0,none⟩) 1 1,.bool false,.bool false] ⟨j0 p,byFs by_,false,false⟩):=ab (by
           rw [hbf];exact TfV.lit (fs:=[⟨0,0,0,by_,[]⟩]) hv6 hlg (.inr rfl) rfl)
          have HB6:Hid (Below w.heap.size w W6):=ab (by
           refine Below.trans (b:=W5) ?_ (hb56.mono (by have:=HB3.out.size;omega));rw [hW5];exact HB3.out.setCell (by have:=HB2.out.size;simp;omega) _)
          have HW5:=ab hW5;have HW6:=ab hW6;clear hW5 hW6 hz5 hb56 hl5 hlg hv5 hv6 hbf hby;go_upto_region 14 with fail
          rw [←HW5.out,←HW6.out];clear HW5 HW6 f8 c8 g1 g2 g3;obtain⟨cs,hcs⟩:∃cs,iP s=cs:=⟨_,rfl⟩;have hcl:cs.length≤60:=by rw [←hcs];have:=kV s;omega
          have HSP:=ab (hcs▸lT s W6 fg);have HCS:=ab hcs;obtain⟨left,hap⟩:=mC (p:=p) (by_:=by_) (s:=s) (all:=false) (z:=5000) HP0.out (kw HIN.out HP0.out hplb).1 hplb iI h4 fo;rw [hcs] at hap;obtain⟨R,hR⟩:∃R,jE cs (jD cs p) (fun _=>by_) p.length false (cs.length+1) 0 false=R:=⟨_,rfl⟩;rw [hR] at hap;have hRl:R.length≤700:=by
           rw [←hR];have h9:=mB (cs:=cs) (here:=jD cs p) (F:=fun _=>by_) (L:=p.length) (all:=false) (D:=10) (fun _=> iC) (cs.length+1) 0 false;exact cH
          have HAP:=ab hap;have HRR:=ab hR;clear hcs hap hR;go_wp2_with (go_at_call 19;refine HSP.out.mono ?_)
          rintro e w7 ⟨sa,sc,rfl,hss,hb7⟩;have HSC:=ab (SlS.sl hss);have HB7:=ab hb7;have hp1:1≤p.length:=by have:=HP0.out;cases p with|nil=>exact absurd rfl this|cons _ _=>simp
          clear hss hb7 HSP;go_wp2
          go_loopw [14,15,17] (fun v14 v15 q wr=>WnRel cs p by_ false R w7 v14 v15 q wr) (fun _ _ q _=>cs.length-(intOf q).toNat)
          case atStart=>exact cu
          case round =>
           obtain⟨i,many,want,hi,hmi,rfl,rfl,rfl,hbw,HW⟩:=hrel;have hwl:want.length≤700:=by
            exact cA
           have HBW:=ab hbw;clear hbw HRR;by_cases hic:i<cs.length
           ·obtain⟨ci,hci⟩:∃c,cs[i]?=some c:=⟨_,zN hic⟩
            have hcil:ci.length≤60:=by
             exact cx
            obtain⟨b,o,rfl,_,c0⟩:=(HSC.out.keep HBW.out).str hci;have HCELL:=ab (fun wr hb k d hk=>pA HSC.out (w':=wr) hb (k:=k) (d:=d) hk);obtain⟨b0,hb0⟩:∃b,decide ((i:Int)+(p.length:Int)≤(cs.length:Int))=b:=⟨_,rfl⟩;have HB0:Hid (mL cs p i 0=b0):=ab fC;have HCI:=ab hci;have HBW2:=ab HBW.out;clear hci c0;go_wp2
            clear hb0;go_loopw [18,19] (fun v18 v19 wq=>FiRel cs p i w7 v18 v19 wq) (fun _ q _=>p.length-(intOf q).toNat)
            case atStart=>exact cZ
            case round =>
             obtain⟨j,hj,rfl,rfl,hbq⟩:=hrel;have c0:=HCELL.out _ hbq i ci HCI.out;cases hh:mL cs p i j with
             | false =>
              have hno:=nD HP0.out hh;have HW2:=ab (HW.out);rw [nC hp1 HCI.out (by rw [hno];rfl)] at HW2;have HW3:Hid ((want++ci)++jE cs (jD cs p) (fun _=>by_) p.length false (cs.length+1) (i+1) (decide (0<many))=R):=ab fU;clear hno HW2 hh HB0;exact bl
             | true =>
              have hlen:i+p.length≤cs.length:=by
               exact cl
              by_cases hjl:j<p.length
              ·exact aC
              ·have hjp:j=p.length:=fg
               have hyes:jD cs p i=true:=by rw [←oy (i:=i) HP0.out,←hjp];exact hh
               clear hh HB0;by_cases hm0:many=0
               ·have gm:((many:Int)==0)=true:=by rw [zI];omega
                have hd0:decide (0<many)=false:=Ah fg;have HW2:=ab HW.out;rw [nY hp1 hic il] at HW2;have HW3:Hid ((want++by_)++jE cs (jD cs p) (fun _=>by_) p.length false (cs.length+1) (i+p.length) (decide (0<many+1))=R):=ab fL;clear HW2 hyes hd0 hm0;go_wp2
                go_roundw
                case rel=>exact⟨i+p.length,many+1,want++by_,by omega,by omega,by first|rfl|simp,by go_num,by go_num,hbq,HW3⟩
                case measure=>simp [intOf];omega
               ·have gm:((many:Int)==0)=false:=by rw [Aj];omega
                have hd0:decide (0<many)=true:=Av fg;have HW2:=ab HW.out;rw [nC hp1 HCI.out il] at HW2;have HW3:Hid ((want++ci)++jE cs (jD cs p) (fun _=>by_) p.length false (cs.length+1) (i+1) (decide (0<many))=R):=ab fU;clear HW2 hyes hd0 hm0;exact bl
           ·obtain rfl:i=cs.length:=fg
            have hRe:want=R:=by have:=HW.out;rw [nX,AB] at this;exact this
            have HRE:=ab hRe;have hmx:=kw HIN.out HP0.out hplb;have HA:=ab (jQ _ ⟨j0 p,byFs by_,false,false⟩ _ wr (HTF.out.later (bel2 HB7.out HBW.out)) (s:=s) (z:=5000) HAP.out ⟨hmx.2.1,zR hmx.2.2 fo,by unfold byFs;split<;>simp⟩ iw (mf:=60) fo gK fg (fun m _ q hq=>zR (mZ s _ m q hq) h4));have HL9:=ab (((bel2 HB7.out HBW.out).block _ (iN HL6.out)).trans HL6.out);have HB9:=ab (bel2 HB6.out (bel2 HB7.out HBW.out));subst hRe;clear hmx hic HW HRE;go_wp2_with (first
             | (refine jr rfl 28 (.tmp 13) rfl w2.heap.size 0 rfl [.int .i64 ak,.string ⟨ach.toArray⟩,.bool ang,.slice aa an acp,.int .i64 alo,.int .i64 ahi,.bool alz,.slice aka akn akc,.slice (some ⟨W3.heap.size,0,none⟩) 1 1,.bool false,.bool false] _ (jt (ds:=[]) HL9.out) jJ rfl fT ?_)
             | (go_at_call 12;refine HA.out.mono ?_;first|rintro e w8 rfl hb8|rintro e w8 ⟨rfl,hb8⟩)
             | (go_at_call 11;refine(lA _).mono ?_;rintro e w9 ⟨rfl,hb9⟩))
            exact de
theorem qT (a:Option Addr) (n c:Nat) (ns:List Int) (by_ s:Str) (all:Bool) (w:World) (h:Sl w w.heap.size a 1 n (kX ns)) (hn:n≤maxLen) (hb:by_.length≤maxLen) (hs:s.length≤maxLen) :
  Calls Tryz.prog 5 #[.slice a n c,.string ⟨by_.toArray⟩,.string ⟨s.toArray⟩,.bool all] w fun e w'=>e=.returned (.bool true)∧Below w.heap.size w w':=by
 unfold maxLen at hn hb hs;by_cases hx:n=0∨9≤n∨11≤by_.length∨61≤s.length
 ·clear h
  by_cases h0:n=0
  ·subst h0
   exact bL
  ·have g1:((n:Int)==0)=false:=by rw [Aj];omega
   by_cases h1:9≤n
   ·have g2:decide ((8:Int)<(n:Int))=true:=Av fg
    exact bL
   ·have g2:decide ((8:Int)<(n:Int))=false:=Ah fg
    by_cases h2:11≤by_.length
    ·have g3:decide ((10:Int)<(by_.length:Int))=true:=Av fg
     exact bL
    ·have g3:decide ((10:Int)<(by_.length:Int))=false:=Ah fg
     have g4:decide ((60:Int)<(s.length:Int))=true:=Av fg;exact bL
 ·cases all with
  | true=>exact uo a n c ns by_ s w h fg fg fg fg
  | false=>exact FormPlain_f a n c ns by_ s w h fg fg fg fg
open Go.ChangeShapes Go.WideShapes Go.RowKit
section
variable {H:Type} {enc:TypeId × Value→H} {P:Program} {w:World} {spare:Nat→Bool} {held:Bool}
theorem pU {C:Nat}:∀{css:List (List Value)},(∀c∈css,c.length=C)→∀{j:Nat} {u:Value},css.flatten[j]?=some u→∃i k c,css[i]?=some c∧k<C∧j=i*C+k∧c[k]?=some u
 | [],_,j,u,h=>by simp at h
 | c::css,hC,j,u,h=>by
  have hc:=hC c (Ao ..);rw [List.flatten_cons] at h;by_cases hj:j<c.length
  ·rw [zZ hj] at h
   exact⟨0,j,c,rfl,by omega,by omega,h⟩
  ·rw [Aa fg] at h
   obtain⟨i,k,c',h1,h2,h3,h4⟩:=pU (fun x hx=>hC x (Ap _ hx)) h;exact⟨i+1,k,c',by simpa using h1,h2,by rw [Nat.succ_mul];omega,h4⟩
theorem pN {C:Nat}:∀{css:List (List Value)},(∀c∈css,c.length=C)→css.flatten.length=css.length*C
 | [],_=>by simp
 | c::css,hC=>by
  rw [List.flatten_cons,zX,pN (fun x hx=>hC x (Ap _ hx)),hC c (Ao ..),zW,Nat.succ_mul];omega
theorem uf {t e:TypeId} {C fuel:Nat} {cs:List Value} {x:DataW H × List MemPlace} (ht:P.underlying t=some (.slice e)) (hC:P.cellsOf e=C) (hC0:0<C)
  (h:DataW.trod enc P w 0 spare held fuel t cs=some x) (Q:List Value→Prop)
  (hQ:∀n c y,n<fuel→c.length=C→DataW.trod enc P w 0 spare held n e c=some y→Q c) :
  ∃(a:Option Addr) (len cap:Nat) (css:List (List Value)),cs=[.slice a len cap]∧len≤maxLen∧css.length=len∧(∀c∈css,Q c∧c.length=C)∧Sl w w.heap.size a C len css.flatten:=by
 rcases DataW.trod_slice ht h with⟨rfl,_⟩|⟨a,len,cap,elems,rest,n,hf,rfl,_,_,hl,hm,hlen,hel,_,_⟩
 ·exact⟨none,0,0,[],rfl,by simp [maxLen],rfl,by simp,Sl.none_ _ _ _ _⟩
 ·have each:∀i,i<len→∃c,c.length=C∧Q c∧∀j,j<C→w.cell? ((a.add (i*C)).add j)=c[j]?:=by
   intro i hi;have h1:=hel i hi;have hlt:i<elems.length:=fg;rw [zN hlt,Option.bind_eq_some_iff] at h1;obtain⟨c,hc,hy⟩:=h1;obtain⟨_,h2,h3⟩:=World.cells?_some hc;rw [hC] at h2 h3;exact⟨c,h2,hQ n c _ fg h2 hy,h3⟩
  have all:∃css:List (List Value),css.length=len∧∀i c,css[i]?=some c→c.length=C∧Q c∧∀j,j<C→w.cell? ((a.add (i*C)).add j)=c[j]?:=by
   have:∀m,m≤len→∃css:List (List Value),css.length=m∧∀i c,css[i]?=some c→c.length=C∧Q c∧∀j,j<C→w.cell? ((a.add (i*C)).add j)=c[j]?:=by
    intro m;induction m with
    | zero=>intro _;exact⟨[],rfl,by simp⟩
    | succ m ih =>
     intro hm;obtain⟨css,h1,h2⟩:=ih fg;obtain⟨c,hc⟩:=each m fg;refine⟨css++[c],by simp [h1],fun i d hd=>?_⟩;by_cases hi:i<css.length
     ·rw [zZ hi] at hd;exact h2 i d hd
     ·rw [Aa fg] at hd
      have hi0:i-css.length=0:=by
       rcases Nat.eq_zero_or_pos (i-css.length) with h0|h0
       ·exact h0
       ·rw [List.getElem?_eq_none fr] at hd;cases hd
      rw [hi0] at hd;simp at hd;subst hd
      rw [show i=m by omega];exact hc
   exact this len (zP _)
  obtain⟨css,h1,h2⟩:=all;have h3:∀c∈css,Q c∧c.length=C:=fun c hc=>by
   obtain⟨i,hi⟩:=List.getElem?_of_mem hc;exact⟨(h2 i c hi).2.1,(h2 i c hi).1⟩
  refine⟨some a,len,cap,css,rfl,by omega,h1,h3,by rw [pN (fun c hc=>(h3 c hc).2),h1],fun hn=>?_⟩;have h0:w.cell? a≠none:=by
   obtain⟨c,hc⟩:∃c,css[0]?=some c:=⟨_,zN fg⟩;obtain⟨hc1,_,hc2⟩:=h2 0 c hc;have:=hc2 0 hC0
   rw [show (a.add (0*C)).add 0=a by simp [Addr.add],zN fg] at this;rw [this];simp
  obtain⟨b,off,spot⟩:=a;have hspot:spot=none:=by
   cases spot with
   | none=>rfl
   | some s=>exfalso;apply h0;unfold World.cell?;split<;>simp
  subst hspot;have hb:b<w.heap.size:=by
   rcases Nat.lt_or_ge b w.heap.size with h4|h4
   ·exact h4
   ·exfalso;apply h0;simp [World.cell?,Array.getElem?_eq_none h4]
  refine⟨b,off,rfl,hb,fun j u hu=>?_⟩;obtain⟨i,k,c,g1,g2,rfl,g4⟩:=pU (fun c hc=>(h3 c hc).2) hu;have:=(h2 i c g1).2.2 k g2
  rw [g4] at this;rw [←this];congr 1;unfold Addr.add;(repeat' split)<;>simp_all<;>omega
theorem rJ {X:Type} (f:X→List Value) (K:X→Prop):∀{css:List (List Value)},(∀c∈css,∃x,c=f x∧K x)→∃xs:List X,css=xs.map f∧∀x∈xs,K x
 | [],_=>⟨[],rfl,by simp⟩
 | c::css,h=>by
  obtain⟨x,rfl,hx⟩:=h c (Ao ..);obtain⟨xs,rfl,hxs⟩:=rJ f K (fun d hd=>h d (Ap _ hd));exact⟨x::xs,rfl,fun y hy=>by
   rcases An.1 hy with rfl|hy
   ·exact hx
   ·exact hxs y hy⟩
theorem zr {X:Type} (f:X→List Value) (K:X→Prop) {t e:TypeId} {C fuel:Nat} {cs:List Value} {x:DataW H × List MemPlace} (ht:P.underlying t=some (.slice e)) (hC:P.cellsOf e=C) (hC0:0<C)
  (h:DataW.trod enc P w 0 spare held fuel t cs=some x)
  (hQ:∀n c y,n<fuel→c.length=C→DataW.trod enc P w 0 spare held n e c=some y→∃x,c=f x∧K x) :
  ∃(a:Option Addr) (cap:Nat) (xs:List X),cs=[.slice a xs.length cap]∧xs.length≤maxLen∧(∀x∈xs,K x)∧Sl w w.heap.size a C xs.length (xs.flatMap f):=by
 obtain⟨a,len,cap,css,h1,h2,h3,h4,h5⟩:=uf ht hC hC0 h (fun c=>∃x,c=f x∧K x) hQ;obtain⟨xs,rfl,hx⟩:=rJ f K (fun c hc=>(h4 c hc).1);rw [Ab] at h3;subst h3;exact⟨a,cap,xs,h1,h2,hx,by rw [List.flatMap_def];exact h5⟩
end
section
variable {H:Type} {enc:TypeId × Value→H} {w:World} {base:Nat} {spare:Nat→Bool} {held:Bool}
theorem qP {P:Program} {t e:TypeId} (ht:P.underlying t=some (.slice e)) {r:Reach} {b0:Nat} {v:Value} (hval:Value.okWide P w r b0 t v):v.cells.toList=[v]:=by
 obtain⟨a,len,cap,rfl⟩:=okWide_slice ht hval;rfl
end
open Go.ChangeShapes Go.WideShapes Go.RowKit
section
variable {H:Type} {enc:TypeId × Value→H} {w:World} {spare:Nat→Bool} {held:Bool}
theorem yI {r:Reach} {b0:Nat} {v:Value} {d:DataW H} {ps:List MemPlace} (hval:Value.okWide Tryz.prog w r b0 40 v) (h:DataW.Trod enc Tryz.prog w 0 spare held 40 v d ps) :
  ∃(a:Option Addr) (cap:Nat) (xs:List Int),v=.slice a xs.length cap∧xs.length≤maxLen∧(∀x∈xs,True)∧Sl w w.heap.size a 1 xs.length (kX xs):=by
 obtain⟨fuel,hf⟩:=h;rw [qP Tryz.underlying40 hval] at hf;obtain⟨a,cap,xs,h1,h2,h3,h4⟩:=zr (fun z:Int=>[.int .i64 z]) (fun _=>True) Tryz.underlying40 (C:=1) fp fo hf (by
  intro n c y _ _ hy;obtain⟨z,rfl,_,_⟩:=DataW.trod_int Tryz.underlying3 hy;exact⟨z,rfl,trivial⟩)
 injection h1 with h1
 have hm:∀ys:List Int,ys.flatMap (fun z:Int=>[(.int .i64 z:Value)])=kX ys:=by
  intro ys;induction ys with
  | nil=>rfl
  | cons y ys ih=>rw [Af,ih];rfl
 rw [hm] at h4;exact⟨a,cap,xs,h1,h2,h3,h4⟩
end
end Go.Proofs.YtbnkaecmgfolpaaGreat
