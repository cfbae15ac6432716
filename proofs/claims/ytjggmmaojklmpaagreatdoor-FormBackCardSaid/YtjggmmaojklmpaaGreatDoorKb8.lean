/- walks of rxread: escaped, item · walks of rxread: item -/
import Derived.Test.YtjggmmaojklmpaaGreatDoorKb7
set_option maxRecDepth 100000
set_option maxHeartbeats 4000000
namespace Go.Proofs.YtjggmmaojklmpaaGreatDoor
open Go.RowKit
theorem kl (w:World) {b:Array Value} {t:TypeId} {w0:World} (h:w0=w.alloc (.cells b t)):Below w.heap.size w w0∧w0.heap.size=w.heap.size+1∧w0.heap[w.heap.size]?=some (.cells b t (0,0)):=by
 subst h;exact⟨(Below.refl _ _).alloc (Dv _) _,by simp,heap_alloc_new w _⟩
theorem oL {c t:Str} (w:World) (hs:c.length≤100000000) (h:lr c=some t) :
  Calls Tryz.prog 145 #[.string ⟨c.toArray⟩] w fun e w'=>e=.returned (.tuple #[.string ⟨t.toArray⟩,.bool true])∧w=w':=by
 refine(vO c w hs).mono ?_
 rintro e w' ⟨h1,h2⟩;rw [h] at h2;exact⟨h2,h1⟩
def PlainNo (w:World) (e:Ending) (w':World):Prop:=∃t:Str,e=.returned (.tuple #[.string ⟨t.toArray⟩,.bool false])∧w=w'
theorem mH {c:Str} (w:World) (hs:c.length≤100000000) (h:lr c=none) :
  Calls Tryz.prog 145 #[.string ⟨c.toArray⟩] w fun e w'=>PlainNo w e w':=by
 refine(vO c w hs).mono ?_
 rintro e w' ⟨h1,h2⟩;rw [h] at h2;obtain⟨t,h2⟩:=h2;exact⟨t,h2,h1⟩
theorem pH {T:TypeId} {x:List Value} {g:Nat} (w:World) (h:RdT T x w g []) :
  Calls Tryz.prog 120 #[.pointer (some ⟨g,0,none⟩)] w fun e w'=>e=.returned (.string ⟨(([]:Str)).toArray⟩)∧RdT T x w' g []∧w.grownBy w' (some g) :=
 (next_nil w h).mono fun _ _ ⟨h1,h2⟩=>⟨h1,h2.rd h,h2.grown _⟩
def NamedRes (L:List Row) (w:World) (e:Ending) (w':World):Prop :=
 ∃(a:Addr) (k:Nat),e=.returned (.tuple #[.slice (some a) L.length k,.bool true])∧SlS w' (fun x=>w.heap.size≤x) (some a) 2 L.length (jN L)∧Below w.heap.size w w'
theorem oh {c:UInt8} (w:World) (h:mw c=true):Calls Tryz.prog 144 #[.int .u8 c.toNat] w fun e w'=>NamedRes (kA c) w e w':=by
 refine(vH c w).mono ?_
 rintro e w' ⟨a,k,h1,h2,h3,h4⟩;obtain⟨x,rfl⟩:=h4 h;rw [h] at h1;exact⟨x,k,h1,h2,h3⟩
def NamedNo (w:World) (e:Ending) (w':World):Prop:=∃(v:Value),e=.returned (.tuple #[v,.bool false])∧Below w.heap.size w w'
theorem nO {c:UInt8} (w:World) (h:mw c=false):Calls Tryz.prog 144 #[.int .u8 c.toNat] w fun e w'=>NamedNo w e w':=by
 refine(vH c w).mono ?_
 rintro e w' ⟨a,k,h1,h2,h3,h4⟩;rw [h] at h1;exact⟨_,h1,h3⟩
theorem tn (b:UInt8):l8 [b]=if mw b=true then some (kA b) else none:=rfl
theorem xX {g d:Nat} {r:List Str} (w:World) (h:Rd w g r d) :
  Calls Tryz.prog 123 #[.pointer (some ⟨g,0,none⟩)] w fun e w'=>nG g d w.heap.size w (escM r) e w':=by
 obtain⟨R,hR⟩:∃R,escM r=R:=⟨_,rfl⟩;rw [hR];cases r with
 | nil =>
  have HR:Hid (Except.error 10=R):=ab hR;clear hR;obtain⟨w0,hw0⟩:∃w0,w0=w.alloc (.cells #[.int .i64 0,.string ⟨#[]⟩,.bool false,.slice none 0 0,.int .i64 0,.int .i64 0,.bool false,.slice none 0 0] 25):=⟨_,rfl⟩;obtain⟨hb0,hz0,hby0⟩:=kl w hw0;have HRD:=ab (h.later hb0);rw [hw0] at HRD;have HW0:=ab hw0;have HBY0:=ab hby0;have hgg:w.grownBy w0 (some g):=jz hb0 _;have hgr:g<w.heap.size:=h.lt;clear hw0 hby0 h;go_enter Tryz.func123,Tryz.ntmps123
  go_wp2_with (go_at_call 120;refine(pH _ HRD.out).mono ?_)
  rintro e w1 ⟨rfl,hrd1,hq1⟩;rw [←HW0.out] at hq1;have hg1:=jy hgg hq1;have HRD1:=ab hrd1;have HBY1:=ab (jB HBY0.out hq1 fR);have hz1:=hq1.size;clear hrd1 hq1;go_wp2_with (go_at_call 145;refine(mH _ fX rfl).mono ?_)
  rintro e w2 hq;exact bA
 | cons c r1 =>
  have hp:=h.pos;cases hn:l8 c with
  | some rows =>
   have HR:Hid (Except.ok (setR rows false,r1)=R):=ab (by rw [←hR];simp only [escM,hn]);clear hR;obtain⟨b,rfl,hnb,rfl⟩:∃b,c=[b]∧mw b=true∧rows=kA b:=by
    match c,hn with
    | [b],hn =>
     exact eb
    | [],hn=>cases hn
    | b::b2::t,hn=>cases hn
   clear hn;have HNB:=ab hnb;clear hnb;obtain⟨w0,hw0⟩:∃w0,w0=w.alloc (.cells #[.int .i64 0,.string ⟨#[]⟩,.bool false,.slice none 0 0,.int .i64 0,.int .i64 0,.bool false,.slice none 0 0] 25):=⟨_,rfl⟩;obtain⟨hb0,hz0,hby0⟩:=kl w hw0;have HRD:=ab (h.later hb0);rw [hw0] at HRD;have HW0:=ab hw0;have HBY0:=ab hby0;have hgg:w.grownBy w0 (some g):=jz hb0 _;have hgr:g<w.heap.size:=h.lt;clear hw0 hby0 h;go_enter Tryz.func123,Tryz.ntmps123
   go_wp2_with (go_at_call 120;refine(j8 _ HRD.out).mono ?_)
   rintro e w1 ⟨rfl,hrd1,hq1⟩;rw [←HW0.out] at hq1;have hg1:=jy hgg hq1;have HRD1:=ab hrd1;have HBY1:=ab (jB HBY0.out hq1 fR);have hz1:=hq1.size;clear hrd1 hq1;go_wp2_with (go_at_call 144;refine(oh _ HNB.out).mono ?_)
   rintro e w2 hq;obtain⟨a,k,rfl,hsl,hb2⟩:=hq;have hg2:=jy hg1 (jz hb2 (some g));have hby2:=(hb2.block _ (jA HBY1.out)).trans HBY1.out;have HRD2:=ab (HRD1.out.later hb2);have HV:Hid (RxV w2 (fun b=>w.heap.size≤b∧b≠w.heap.size) (rxc 4 [] false (some a) (kA b).length k 0 0 false none ([]:List Rx).length 0) (setR (kA b) false)):=ab
    (RxV.close (hsl.mono fun x hx _=>by omega) ⟨[],SlS.none_ _ _ _ _,.nil⟩)
   obtain⟨f0,f1,f2,f3,f4,f5,f6,f7,f8⟩:=jD (c:=[]) hby2;clear hsl hby2;go_wp2
   refine DX (v:=.tuple #[.agg #[.int .i64 4,.string ⟨[].toArray⟩,.bool false,.slice (some a) (kA b).length k,.int .i64 0,.int .i64 0,.bool false,.slice none ([]:List Rx).length 0],.int .i64 0]) gi rfl ?_;refine⟨?_,?_⟩
   ·exact bV
   rw [←HR.out];refine⟨rxc 4 [] false (some a) (kA b).length k 0 0 false none ([]:List Rx).length 0,rfl,RxV.mono (S:=fun b=>w.heap.size≤b∧b≠w.heap.size) (fun b hb _=>hb.1) ?_,?_⟩
   ·exact bR
   ·exact cD
  | none =>
   by_cases h68:c=[68]
   ·subst h68
    have HR:Hid (Except.ok (setR (kA 100) true,r1)=R):=ab hR;clear hR hn;obtain⟨w0,hw0⟩:∃w0,w0=w.alloc (.cells #[.int .i64 0,.string ⟨#[]⟩,.bool false,.slice none 0 0,.int .i64 0,.int .i64 0,.bool false,.slice none 0 0] 25):=⟨_,rfl⟩;obtain⟨hb0,hz0,hby0⟩:=kl w hw0;have HRD:=ab (h.later hb0);rw [hw0] at HRD;have HW0:=ab hw0;have HBY0:=ab hby0;have hgg:w.grownBy w0 (some g):=jz hb0 _;have hgr:g<w.heap.size:=h.lt;clear hw0 hby0 h;go_enter Tryz.func123,Tryz.ntmps123
    go_wp2_with (go_at_call 120;refine(j8 _ HRD.out).mono ?_)
    rintro e w1 ⟨rfl,hrd1,hq1⟩;rw [←HW0.out] at hq1;have hg1:=jy hgg hq1;have HRD1:=ab hrd1;have HBY1:=ab (jB HBY0.out hq1 fR);have hz1:=hq1.size;clear hrd1 hq1;go_wp2_with (go_at_call 144;refine(nO (c:=68) _ fU).mono ?_)
    rintro e w2 hq;obtain⟨v,rfl,hb2⟩:=hq;have hg2:=jy hg1 (jz hb2 (some g));have HBY2:=ab ((hb2.block _ (jA HBY1.out)).trans HBY1.out);have HRD2:=ab (HRD1.out.later hb2);have hz2:=hb2.size;go_wp2_with (go_at_call 144;refine(oh (c:=100) _ fU).mono ?_)
    rintro e w3 hq;obtain⟨a,k,rfl,hsl,hb3⟩:=hq;have hg3:=jy hg2 (jz hb3 (some g));have hby3:=(hb3.block _ (jA HBY2.out)).trans HBY2.out;have HRD3:=ab (HRD2.out.later hb3);have HV:Hid (RxV w3 (fun b=>w.heap.size≤b∧b≠w.heap.size) (rxc 4 [] true (some a) (kA 100).length k 0 0 false none ([]:List Rx).length 0) (setR (kA 100) true)):=ab
     (RxV.close (hsl.mono fun x hx _=>by omega) ⟨[],SlS.none_ _ _ _ _,.nil⟩)
    obtain⟨f0,f1,f2,f3,f4,f5,f6,f7,f8⟩:=jD (c:=[]) hby3;clear hsl hby3;go_wp2
    refine DX (v:=.tuple #[.agg #[.int .i64 4,.string ⟨[].toArray⟩,.bool true,.slice (some a) (kA 100).length k,.int .i64 0,.int .i64 0,.bool false,.slice none ([]:List Rx).length 0],.int .i64 0]) gi rfl ?_;refine⟨?_,?_⟩
    ·exact cl
    rw [←HR.out];refine⟨rxc 4 [] true (some a) (kA 100).length k 0 0 false none ([]:List Rx).length 0,rfl,RxV.mono (S:=fun b=>w.heap.size≤b∧b≠w.heap.size) (fun b hb _=>hb.1) ?_,?_⟩
    ·exact bR
    ·exact ci
   by_cases h87:c=[87]
   ·subst h87
    have HR:Hid (Except.ok (setR (kA 119) true,r1)=R):=ab hR;clear hR hn;obtain⟨w0,hw0⟩:∃w0,w0=w.alloc (.cells #[.int .i64 0,.string ⟨#[]⟩,.bool false,.slice none 0 0,.int .i64 0,.int .i64 0,.bool false,.slice none 0 0] 25):=⟨_,rfl⟩;obtain⟨hb0,hz0,hby0⟩:=kl w hw0;have HRD:=ab (h.later hb0);rw [hw0] at HRD;have HW0:=ab hw0;have HBY0:=ab hby0;have hgg:w.grownBy w0 (some g):=jz hb0 _;have hgr:g<w.heap.size:=h.lt;clear hw0 hby0 h;go_enter Tryz.func123,Tryz.ntmps123
    go_wp2_with (go_at_call 120;refine(j8 _ HRD.out).mono ?_)
    rintro e w1 ⟨rfl,hrd1,hq1⟩;rw [←HW0.out] at hq1;have hg1:=jy hgg hq1;have HRD1:=ab hrd1;have HBY1:=ab (jB HBY0.out hq1 fR);have hz1:=hq1.size;clear hrd1 hq1;go_wp2_with (go_at_call 144;refine(nO (c:=87) _ fU).mono ?_)
    rintro e w2 hq;obtain⟨v,rfl,hb2⟩:=hq;have hg2:=jy hg1 (jz hb2 (some g));have HBY2:=ab ((hb2.block _ (jA HBY1.out)).trans HBY1.out);have HRD2:=ab (HRD1.out.later hb2);have hz2:=hb2.size;go_wp2_with (go_at_call 144;refine(oh (c:=119) _ fU).mono ?_)
    rintro e w3 hq;obtain⟨a,k,rfl,hsl,hb3⟩:=hq;have hg3:=jy hg2 (jz hb3 (some g));have hby3:=(hb3.block _ (jA HBY2.out)).trans HBY2.out;have HRD3:=ab (HRD2.out.later hb3);have HV:Hid (RxV w3 (fun b=>w.heap.size≤b∧b≠w.heap.size) (rxc 4 [] true (some a) (kA 119).length k 0 0 false none ([]:List Rx).length 0) (setR (kA 119) true)):=ab
     (RxV.close (hsl.mono fun x hx _=>by omega) ⟨[],SlS.none_ _ _ _ _,.nil⟩)
    obtain⟨f0,f1,f2,f3,f4,f5,f6,f7,f8⟩:=jD (c:=[]) hby3;clear hsl hby3;go_wp2
    refine DX (v:=.tuple #[.agg #[.int .i64 4,.string ⟨[].toArray⟩,.bool true,.slice (some a) (kA 119).length k,.int .i64 0,.int .i64 0,.bool false,.slice none ([]:List Rx).length 0],.int .i64 0]) gi rfl ?_;refine⟨?_,?_⟩
    ·exact cl
    rw [←HR.out];refine⟨rxc 4 [] true (some a) (kA 119).length k 0 0 false none ([]:List Rx).length 0,rfl,RxV.mono (S:=fun b=>w.heap.size≤b∧b≠w.heap.size) (fun b hb _=>hb.1) ?_,?_⟩
    ·exact bR
    ·exact ci
   by_cases h83:c=[83]
   ·subst h83
    have HR:Hid (Except.ok (setR (kA 115) true,r1)=R):=ab hR;clear hR hn;obtain⟨w0,hw0⟩:∃w0,w0=w.alloc (.cells #[.int .i64 0,.string ⟨#[]⟩,.bool false,.slice none 0 0,.int .i64 0,.int .i64 0,.bool false,.slice none 0 0] 25):=⟨_,rfl⟩;obtain⟨hb0,hz0,hby0⟩:=kl w hw0;have HRD:=ab (h.later hb0);rw [hw0] at HRD;have HW0:=ab hw0;have HBY0:=ab hby0;have hgg:w.grownBy w0 (some g):=jz hb0 _;have hgr:g<w.heap.size:=h.lt;clear hw0 hby0 h;go_enter Tryz.func123,Tryz.ntmps123
    go_wp2_with (go_at_call 120;refine(j8 _ HRD.out).mono ?_)
    rintro e w1 ⟨rfl,hrd1,hq1⟩;rw [←HW0.out] at hq1;have hg1:=jy hgg hq1;have HRD1:=ab hrd1;have HBY1:=ab (jB HBY0.out hq1 fR);have hz1:=hq1.size;clear hrd1 hq1;go_wp2_with (go_at_call 144;refine(nO (c:=83) _ fU).mono ?_)
    rintro e w2 hq;obtain⟨v,rfl,hb2⟩:=hq;have hg2:=jy hg1 (jz hb2 (some g));have HBY2:=ab ((hb2.block _ (jA HBY1.out)).trans HBY1.out);have HRD2:=ab (HRD1.out.later hb2);have hz2:=hb2.size;go_wp2_with (go_at_call 144;refine(oh (c:=115) _ fU).mono ?_)
    rintro e w3 hq;obtain⟨a,k,rfl,hsl,hb3⟩:=hq;have hg3:=jy hg2 (jz hb3 (some g));have hby3:=(hb3.block _ (jA HBY2.out)).trans HBY2.out;have HRD3:=ab (HRD2.out.later hb3);have HV:Hid (RxV w3 (fun b=>w.heap.size≤b∧b≠w.heap.size) (rxc 4 [] true (some a) (kA 115).length k 0 0 false none ([]:List Rx).length 0) (setR (kA 115) true)):=ab
     (RxV.close (hsl.mono fun x hx _=>by omega) ⟨[],SlS.none_ _ _ _ _,.nil⟩)
    obtain⟨f0,f1,f2,f3,f4,f5,f6,f7,f8⟩:=jD (c:=[]) hby3;clear hsl hby3;go_wp2
    refine DX (v:=.tuple #[.agg #[.int .i64 4,.string ⟨[].toArray⟩,.bool true,.slice (some a) (kA 115).length k,.int .i64 0,.int .i64 0,.bool false,.slice none ([]:List Rx).length 0],.int .i64 0]) gi rfl ?_;refine⟨?_,?_⟩
    ·exact cl
    rw [←HR.out];refine⟨rxc 4 [] true (some a) (kA 115).length k 0 0 false none ([]:List Rx).length 0,rfl,RxV.mono (S:=fun b=>w.heap.size≤b∧b≠w.heap.size) (fun b hb _=>hb.1) ?_,?_⟩
    ·exact bR
    ·exact ci
   have hbig:bigS c=none:=by unfold bigS;rw [Du h68,Du h87,Du h83]
   have g68:(c==[68])=false:=DV.2 h68;have g87:(c==[87])=false:=DV.2 h87;have g83:(c==[83])=false:=DV.2 h83;have hpl:=hp.2;match c,hp,hn with
   | [],hp,_=>exact absurd rfl hp.1
   | [b],_,hn =>
    have hnb:mw b=false:=by
     exact eD
    have HNB:=ab hnb;clear hnb h68 h87 h83;cases hpm:lr [b] with
    | none =>
     have HR:Hid (Except.error 10=R):=ab il;have HPM:=ab hpm;clear hR hn hbig hpm;obtain⟨w0,hw0⟩:∃w0,w0=w.alloc (.cells #[.int .i64 0,.string ⟨#[]⟩,.bool false,.slice none 0 0,.int .i64 0,.int .i64 0,.bool false,.slice none 0 0] 25):=⟨_,rfl⟩;obtain⟨hb0,hz0,hby0⟩:=kl w hw0;have HRD:=ab (h.later hb0);rw [hw0] at HRD;have HW0:=ab hw0;have HBY0:=ab hby0;have hgg:w.grownBy w0 (some g):=jz hb0 _;have hgr:g<w.heap.size:=h.lt;clear hw0 hby0 h;go_enter Tryz.func123,Tryz.ntmps123
     go_wp2_with (go_at_call 120;refine(j8 _ HRD.out).mono ?_)
     rintro e w1 ⟨rfl,hrd1,hq1⟩;rw [←HW0.out] at hq1;have hg1:=jy hgg hq1;have HRD1:=ab hrd1;have HBY1:=ab (jB HBY0.out hq1 fR);have hz1:=hq1.size;clear hrd1 hq1;go_wp2_with (go_at_call 144;refine(nO _ HNB.out).mono ?_)
     rintro e w2 hq;obtain⟨v,rfl,hb2⟩:=hq;have hg2:=jy hg1 (jz hb2 (some g));have HBY2:=ab ((hb2.block _ (jA HBY1.out)).trans HBY1.out);have HRD2:=ab (HRD1.out.later hb2);go_wp2_with (go_at_call 145;refine(mH _ fX HPM.out).mono ?_)
     rintro e w3 hq;obtain⟨t,rfl,rfl⟩:=hq;obtain⟨f0,f1,f2,f3,f4,f5,f6,f7,f8⟩:=jD (c:=[]) HBY2.out;go_wp2
     refine DX (v:=.tuple #[.agg #[.int .i64 0,.string ⟨[].toArray⟩,.bool false,.slice none 0 0,.int .i64 0,.int .i64 0,.bool false,.slice none 0 0],.int .i64 10]) gi rfl ?_;refine⟨?_,?_⟩
     ·exact bV
     ·exact dG
    | some t =>
     have HR:Hid (Except.ok (chrR t,r1)=R):=ab il;have HPM:=ab hpm;clear hR hn hbig hpm;obtain⟨w0,hw0⟩:∃w0,w0=w.alloc (.cells #[.int .i64 0,.string ⟨#[]⟩,.bool false,.slice none 0 0,.int .i64 0,.int .i64 0,.bool false,.slice none 0 0] 25):=⟨_,rfl⟩;obtain⟨hb0,hz0,hby0⟩:=kl w hw0;have HRD:=ab (h.later hb0);rw [hw0] at HRD;have HW0:=ab hw0;have HBY0:=ab hby0;have hgg:w.grownBy w0 (some g):=jz hb0 _;have hgr:g<w.heap.size:=h.lt;clear hw0 hby0 h;go_enter Tryz.func123,Tryz.ntmps123
     go_wp2_with (go_at_call 120;refine(j8 _ HRD.out).mono ?_)
     rintro e w1 ⟨rfl,hrd1,hq1⟩;rw [←HW0.out] at hq1;have hg1:=jy hgg hq1;have HRD1:=ab hrd1;have HBY1:=ab (jB HBY0.out hq1 fR);have hz1:=hq1.size;clear hrd1 hq1;go_wp2_with (go_at_call 144;refine(nO _ HNB.out).mono ?_)
     rintro e w2 hq;obtain⟨v,rfl,hb2⟩:=hq;have hg2:=jy hg1 (jz hb2 (some g));have HBY2:=ab ((hb2.block _ (jA HBY1.out)).trans HBY1.out);have HRD2:=ab (HRD1.out.later hb2);go_wp2_with (go_at_call 145;refine(oL _ fX HPM.out).mono ?_)
     rintro e w3 ⟨rfl,rfl⟩;obtain⟨f0,f1,f2,f3,f4,f5,f6,f7,f8⟩:=jD (c:=[]) HBY2.out;go_wp2
     refine DX (v:=.tuple #[.agg #[.int .i64 2,.string ⟨t.toArray⟩,.bool false,.slice none ([]:List Row).length 0,.int .i64 0,.int .i64 0,.bool false,.slice none ([]:List Rx).length 0],.int .i64 0]) gi rfl ?_;refine⟨?_,?_⟩
     ·exact bV
     rw [←HR.out];refine⟨rxc 2 t false none ([]:List Row).length 0 0 0 false none ([]:List Rx).length 0,rfl,RxV.mono (S:=fun b=>w.heap.size≤b∧b≠w.heap.size) (fun b hb _=>hb.1) ?_,?_⟩
     ·exact aQ
     ·exact cD
   | b::b2::t,_,hn =>
    have hne:((t.length:Int)+1+1==1)=false:=by rw [DV];omega
    clear h68 h87 h83;generalize hcc:b::b2::t=cc at *
    have hcl:cc.length=t.length+2:=by rw [←hcc];rfl
    have hne:((cc.length:Int)==1)=false:=by rw [DV];omega
    clear hcc hcl;cases hpm:lr cc with
    | none =>
     have HR:Hid (Except.error 10=R):=ab il;have HPM:=ab hpm;clear hR hn hbig hpm;obtain⟨w0,hw0⟩:∃w0,w0=w.alloc (.cells #[.int .i64 0,.string ⟨#[]⟩,.bool false,.slice none 0 0,.int .i64 0,.int .i64 0,.bool false,.slice none 0 0] 25):=⟨_,rfl⟩;obtain⟨hb0,hz0,hby0⟩:=kl w hw0;have HRD:=ab (h.later hb0);rw [hw0] at HRD;have HW0:=ab hw0;have HBY0:=ab hby0;have hgg:w.grownBy w0 (some g):=jz hb0 _;have hgr:g<w.heap.size:=h.lt;clear hw0 hby0 h;go_enter Tryz.func123,Tryz.ntmps123
     go_wp2_with (go_at_call 120;refine(j8 _ HRD.out).mono ?_)
     rintro e w1 ⟨rfl,hrd1,hq1⟩;rw [←HW0.out] at hq1;have hg1:=jy hgg hq1;have HRD1:=ab hrd1;have HBY1:=ab (jB HBY0.out hq1 fR);have hz1:=hq1.size;clear hrd1 hq1;go_wp2_with (go_at_call 145;refine(mH _ fR HPM.out).mono ?_)
     rintro e w3 hq;exact bA
    | some u =>
     have HR:Hid (Except.ok (chrR u,r1)=R):=ab il;have HPM:=ab hpm;clear hR hn hbig hpm;obtain⟨w0,hw0⟩:∃w0,w0=w.alloc (.cells #[.int .i64 0,.string ⟨#[]⟩,.bool false,.slice none 0 0,.int .i64 0,.int .i64 0,.bool false,.slice none 0 0] 25):=⟨_,rfl⟩;obtain⟨hb0,hz0,hby0⟩:=kl w hw0;have HRD:=ab (h.later hb0);rw [hw0] at HRD;have HW0:=ab hw0;have HBY0:=ab hby0;have hgg:w.grownBy w0 (some g):=jz hb0 _;have hgr:g<w.heap.size:=h.lt;clear hw0 hby0 h;go_enter Tryz.func123,Tryz.ntmps123
     go_wp2_with (go_at_call 120;refine(j8 _ HRD.out).mono ?_)
     rintro e w1 ⟨rfl,hrd1,hq1⟩;rw [←HW0.out] at hq1;have hg1:=jy hgg hq1;have HRD1:=ab hrd1;have HBY1:=ab (jB HBY0.out hq1 fR);have hz1:=hq1.size;clear hrd1 hq1;go_wp2_with (go_at_call 145;refine(oL _ fR HPM.out).mono ?_)
     rintro e w3 ⟨rfl,rfl⟩;obtain⟨f0,f1,f2,f3,f4,f5,f6,f7,f8⟩:=jD (c:=[]) HBY1.out;go_wp2
     refine DX (v:=.tuple #[.agg #[.int .i64 2,.string ⟨u.toArray⟩,.bool false,.slice none ([]:List Row).length 0,.int .i64 0,.int .i64 0,.bool false,.slice none ([]:List Rx).length 0],.int .i64 0]) gi rfl ?_;refine⟨?_,?_⟩
     ·exact eW
     rw [←HR.out];refine⟨rxc 2 u false none ([]:List Row).length 0 0 0 false none ([]:List Rx).length 0,rfl,RxV.mono (S:=fun b=>w.heap.size≤b∧b≠w.heap.size) (fun b hb _=>hb.1) ?_,?_⟩
     ·exact aQ
     ·exact fo
def ItemPost (g d:Nat) (w:World) (R:Option (Str × List Row × List Str)) (e:Ending) (w':World):Prop:=w.grownBy w' (some g)∧match R with
 | none=>e=.returned (.tuple #[.string ⟨#[]⟩,.slice none 0 0,.int .i64 10])∧∃r,Rd w' g r d
 | some (t,rows,r)=>Rd w' g r d∧((rows=[]∧e=.returned (.tuple #[.string ⟨t.toArray⟩,.slice none 0 0,.int .i64 0]))∨(rows≠[]∧∃(a:Addr) (k:Nat),e=.returned (.tuple #[.string ⟨#[]⟩,.slice (some a) rows.length k,.int .i64 0])∧SlS w' (fun x=>w.heap.size≤x) (some a) 2 rows.length (jN rows)))
theorem pi {c:Str} {rows:List Row} (hn:l8 c=some rows):∃b,c=[b]∧mw b=true∧rows=kA b:=by
 match c,hn with
 | [b],hn =>
  exact eb
 | [],hn=>cases hn
 | b::b2::t,hn=>cases hn
theorem xS {b:UInt8} (hn:l8 [b]=none):mw b=false:=by
 exact eD
theorem B8 {b:UInt8} (h:mw b=true):kA b≠[]:=by
 unfold mw at h;simp only [DC,Do] at h;rcases h with(rfl|rfl)|rfl<;>decide
theorem ls {g d:Nat} {r:List Str} (w:World) (h:Rd w g r d) :
  Calls Tryz.prog 142 #[.pointer (some ⟨g,0,none⟩)] w fun e w'=>ItemPost g d w (mh r) e w':=by
 obtain⟨R,hR⟩:∃R,mh r=R:=⟨_,rfl⟩;rw [hR];have HRD:=ab h;have hg0:=km w (some g);cases r with
 | nil =>
  have HR:Hid (none=R):=ab hR;clear hR h;go_enter Tryz.func142,Tryz.ntmps142
  go_wp2_with (go_at_call 120;refine(pH _ HRD.out).mono ?_)
  exact cQ
 | cons c r1 =>
  have hp:=h.pos;by_cases h93:c=[93]
  ·subst h93
   have HR:Hid (none=R):=ab hR;clear hR h;go_enter Tryz.func142,Tryz.ntmps142
   go_wp2_with (go_at_call 120;refine(j8 _ HRD.out).mono ?_)
   exact cQ
  by_cases h92:c=[92]
  ·subst h92
   cases r1 with
   | nil =>
    have HR:Hid (none=R):=ab hR;clear hR h;go_enter Tryz.func142,Tryz.ntmps142
    go_wp2_with (go_at_call 120;refine(j8 _ HRD.out).mono ?_)
    rintro e w1 ⟨rfl,hrd1,hq1⟩;have hg1:=jy hg0 hq1;have HRD1:=ab hrd1;have hz1:=hq1.size;clear hrd1 hq1;go_wp2_with (go_at_call 120;refine(pH _ HRD1.out).mono ?_)
    rintro e w2 ⟨rfl,hrd2,hq2⟩;have hg2:=jy hg1 hq2;have HRD2:=ab hrd2;have hz2:=hq2.size;clear hrd2 hq2;go_wp2_with (go_at_call 145;refine(mH _ fX rfl).mono ?_)
    rintro e w3 hq;exact eh
   | cons c2 r2 =>
    have hp2:c2≠[]∧c2.length≤1000000:=by
     obtain⟨a,k,l,i,_,_,_,_,h5,h6⟩:=h;have h7:=(jO h6).2.2;have:=(jO h7).2.1
     exact h5 c2 (DL this)
    have hR2:(match l8 c2 with|some rows=>some ([],rows,r2)|none=>match lr c2 with|none=>none|some t=>some (t,[],r2))=R:=hR;clear h hR;cases hn:l8 c2 with
    | some rows =>
     simp only [hn] at hR2;obtain⟨b,rfl,hnb,rfl⟩:=pi hn;have hne:=B8 hnb;have HNE:=ab hne;have HNB:=ab hnb;have HR:=ab hR2;clear hn hR2 hnb hne;go_enter Tryz.func142,Tryz.ntmps142
     go_wp2_with (go_at_call 120;refine(j8 _ HRD.out).mono ?_)
     rintro e w1 ⟨rfl,hrd1,hq1⟩;have hg1:=jy hg0 hq1;have HRD1:=ab hrd1;have hz1:=hq1.size;clear hrd1 hq1;go_wp2_with (go_at_call 120;refine(j8 _ HRD1.out).mono ?_)
     rintro e w2 ⟨rfl,hrd2,hq2⟩;have hg2:=jy hg1 hq2;have HRD2:=ab hrd2;have hz2:=hq2.size;clear hrd2 hq2;go_wp2_with (go_at_call 144;refine(oh _ HNB.out).mono ?_)
     rintro e w3 hq;obtain⟨a,k,rfl,hsl,hb3⟩:=hq;have hg3:=jy hg2 (jz hb3 (some g));have HRD3:=ab (HRD2.out.later hb3);have HSL:=ab hsl;clear hsl;go_wp2
     go_ret3
     exact⟨hg3,by rw [←HR.out];exact⟨HRD3.out,.inr ⟨HNE.out,a,k,rfl,HSL.out.mono fun x hx _=>by omega⟩⟩⟩
    | none =>
     simp only [hn] at hR2;match c2,hp2,hn with
     | [],hp,_=>exact absurd rfl hp.1
     | [b],_,hn =>
      have HNB:=ab (xS hn);clear hn;cases hpm:lr [b] with
      | none =>
       simp only [hpm] at hR2;have HR:=ab hR2;have HPM:=ab hpm;clear hR2 hpm;go_enter Tryz.func142,Tryz.ntmps142
       go_wp2_with (go_at_call 120;refine(j8 _ HRD.out).mono ?_)
       rintro e w1 ⟨rfl,hrd1,hq1⟩;have hg1:=jy hg0 hq1;have HRD1:=ab hrd1;have hz1:=hq1.size;clear hrd1 hq1;go_wp2_with (go_at_call 120;refine(j8 _ HRD1.out).mono ?_)
       rintro e w2 ⟨rfl,hrd2,hq2⟩;have hg2:=jy hg1 hq2;have HRD2:=ab hrd2;have hz2:=hq2.size;clear hrd2 hq2;go_wp2_with (go_at_call 144;refine(nO _ HNB.out).mono ?_)
       rintro e w3 hq;obtain⟨v,rfl,hb3⟩:=hq;have hg3:=jy hg2 (jz hb3 (some g));have HRD3:=ab (HRD2.out.later hb3);go_wp2_with (go_at_call 145;refine(mH _ fX HPM.out).mono ?_)
       rintro e w4 hq;obtain⟨t,rfl,rfl⟩:=hq;go_wp2
       go_ret3
       exact⟨hg3,by rw [←HR.out];exact⟨rfl,_,HRD3.out⟩⟩
      | some t =>
       simp only [hpm] at hR2;have HR:=ab hR2;have HPM:=ab hpm;clear hR2 hpm;go_enter Tryz.func142,Tryz.ntmps142
       go_wp2_with (go_at_call 120;refine(j8 _ HRD.out).mono ?_)
       rintro e w1 ⟨rfl,hrd1,hq1⟩;have hg1:=jy hg0 hq1;have HRD1:=ab hrd1;have hz1:=hq1.size;clear hrd1 hq1;go_wp2_with (go_at_call 120;refine(j8 _ HRD1.out).mono ?_)
       rintro e w2 ⟨rfl,hrd2,hq2⟩;have hg2:=jy hg1 hq2;have HRD2:=ab hrd2;have hz2:=hq2.size;clear hrd2 hq2;go_wp2_with (go_at_call 144;refine(nO _ HNB.out).mono ?_)
       rintro e w3 hq;obtain⟨v,rfl,hb3⟩:=hq;have hg3:=jy hg2 (jz hb3 (some g));have HRD3:=ab (HRD2.out.later hb3);go_wp2_with (go_at_call 145;refine(oL _ fX HPM.out).mono ?_)
       rintro e w4 ⟨rfl,rfl⟩;go_wp2
       go_ret3
       exact⟨hg3,by rw [←HR.out];exact⟨HRD3.out,.inl ⟨rfl,rfl⟩⟩⟩
     | b::b2::t,hp2,hn =>
      have hpl:=hp2.2;generalize hcc:b::b2::t=cc at *
      have hcl:cc.length=t.length+2:=by rw [←hcc];rfl
      have hne:((cc.length:Int)==1)=false:=by rw [DV];omega
      clear hcc hcl hn;cases hpm:lr cc with
      | none =>
       simp only [hpm] at hR2;have HR:=ab hR2;have HPM:=ab hpm;clear hR2 hpm;go_enter Tryz.func142,Tryz.ntmps142
       go_wp2_with (go_at_call 120;refine(j8 _ HRD.out).mono ?_)
       rintro e w1 ⟨rfl,hrd1,hq1⟩;have hg1:=jy hg0 hq1;have HRD1:=ab hrd1;have hz1:=hq1.size;clear hrd1 hq1;go_wp2_with (go_at_call 120;refine(j8 _ HRD1.out).mono ?_)
       rintro e w2 ⟨rfl,hrd2,hq2⟩;have hg2:=jy hg1 hq2;have HRD2:=ab hrd2;have hz2:=hq2.size;clear hrd2 hq2;go_wp2_with (go_at_call 145;refine(mH _ fR HPM.out).mono ?_)
       rintro e w4 hq;exact eh
      | some t =>
       simp only [hpm] at hR2;have HR:=ab hR2;have HPM:=ab hpm;clear hR2 hpm;go_enter Tryz.func142,Tryz.ntmps142
       go_wp2_with (go_at_call 120;refine(j8 _ HRD.out).mono ?_)
       rintro e w1 ⟨rfl,hrd1,hq1⟩;have hg1:=jy hg0 hq1;have HRD1:=ab hrd1;have hz1:=hq1.size;clear hrd1 hq1;go_wp2_with (go_at_call 120;refine(j8 _ HRD1.out).mono ?_)
       rintro e w2 ⟨rfl,hrd2,hq2⟩;have hg2:=jy hg1 hq2;have HRD2:=ab hrd2;have hz2:=hq2.size;clear hrd2 hq2;go_wp2_with (go_at_call 145;refine(oL _ fR HPM.out).mono ?_)
       rintro e w4 ⟨rfl,rfl⟩;go_wp2
       go_ret3
       exact⟨hg2,by rw [←HR.out];exact⟨HRD2.out,.inl ⟨rfl,rfl⟩⟩⟩
  have g93:(c==[93])=false:=DV.2 h93;have g92:(c==[92])=false:=DV.2 h92;have g0:List.isEmpty c=false:=by have:=hp.1;cases c<;>simp at this ⊢
  have HR:Hid (some (c,[],r1)=R):=ab (by rw [←hR];simp [mh,h93,h92]);clear hR h h93 h92;go_enter Tryz.func142,Tryz.ntmps142
  go_wp2_with (go_at_call 120;refine(j8 _ HRD.out).mono ?_)
  rintro e w1 ⟨rfl,hrd1,hq1⟩;have hg1:=jy hg0 hq1;have HRD1:=ab hrd1;have hz1:=hq1.size;clear hrd1 hq1;go_wp2
  go_ret3
  exact⟨hg1,by rw [←HR.out];exact⟨HRD1.out,.inl ⟨rfl,rfl⟩⟩⟩
end Go.Proofs.YtjggmmaojklmpaaGreatDoor
