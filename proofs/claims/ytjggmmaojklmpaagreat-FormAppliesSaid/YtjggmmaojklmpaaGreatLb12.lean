/- walks of rxread: escaped, item · walks of rxread: item -/
import Derived.Test.YtjggmmaojklmpaaGreatLb11
set_option maxRecDepth 100000
set_option maxHeartbeats 4000000
namespace Go.Proofs.YtjggmmaojklmpaaGreat
open Go.RowKit
theorem kB (w:World) {b:Array Value} {t:TypeId} {w0:World} (h:w0=w.alloc (.cells b t)):Below w.heap.size w w0∧w0.heap.size=w.heap.size+1∧w0.heap[w.heap.size]?=some (.cells b t (0,0)):=by
 subst h;exact⟨(Below.refl _ _).alloc (Cp _) _,by simp,heap_alloc_new w _⟩
theorem oW {c t:Str} (w:World) (hs:c.length≤100000000) (h:l6 c=some t) :
  Calls Tryz.prog 168 #[.string ⟨c.toArray⟩] w fun e w'=>e=.returned (.tuple #[.string ⟨t.toArray⟩,.bool true])∧w=w':=by
 refine(vN c w hs).mono ?_
 rintro e w' ⟨h1,h2⟩;rw [h] at h2;exact⟨h2,h1⟩
def PlainNo (w:World) (e:Ending) (w':World):Prop:=∃t:Str,e=.returned (.tuple #[.string ⟨t.toArray⟩,.bool false])∧w=w'
theorem mJ {c:Str} (w:World) (hs:c.length≤100000000) (h:l6 c=none) :
  Calls Tryz.prog 168 #[.string ⟨c.toArray⟩] w fun e w'=>PlainNo w e w':=by
 refine(vN c w hs).mono ?_
 rintro e w' ⟨h1,h2⟩;rw [h] at h2;obtain⟨t,h2⟩:=h2;exact⟨t,h2,h1⟩
theorem pO {T:TypeId} {x:List Value} {g:Nat} (w:World) (h:RdT T x w g []) :
  Calls Tryz.prog 138 #[.pointer (some ⟨g,0,none⟩)] w fun e w'=>e=.returned (.string ⟨(([]:Str)).toArray⟩)∧RdT T x w' g []∧w.grownBy w' (some g) :=
 (next_nil w h).mono fun _ _ ⟨h1,h2⟩=>⟨h1,h2.rd h,h2.grown _⟩
def NamedRes (L:List Row) (w:World) (e:Ending) (w':World):Prop :=
 ∃(a:Addr) (k:Nat),e=.returned (.tuple #[.slice (some a) L.length k,.bool true])∧SlS w' (fun x=>w.heap.size≤x) (some a) 2 L.length (jX L)∧Below w.heap.size w w'
theorem ow {c:UInt8} (w:World) (h:mY c=true):Calls Tryz.prog 167 #[.int .u8 c.toNat] w fun e w'=>NamedRes (kM c) w e w':=by
 refine(uD c w).mono ?_
 rintro e w' ⟨a,k,h1,h2,h3,h4⟩;obtain⟨x,rfl⟩:=h4 h;rw [h] at h1;exact⟨x,k,h1,h2,h3⟩
def NamedNo (w:World) (e:Ending) (w':World):Prop:=∃(v:Value),e=.returned (.tuple #[v,.bool false])∧Below w.heap.size w w'
theorem nS {c:UInt8} (w:World) (h:mY c=false):Calls Tryz.prog 167 #[.int .u8 c.toNat] w fun e w'=>NamedNo w e w':=by
 refine(uD c w).mono ?_
 rintro e w' ⟨a,k,h1,h2,h3,h4⟩;rw [h] at h1;exact⟨_,h1,h3⟩
theorem s5 (b:UInt8):nC [b]=if mY b=true then some (kM b) else none:=rfl
theorem vY {g d:Nat} {r:List Str} (w:World) (h:Rd w g r d) :
  Calls Tryz.prog 141 #[.pointer (some ⟨g,0,none⟩)] w fun e w'=>nI g d w.heap.size w (escM r) e w':=by
 obtain⟨R,hR⟩:∃R,escM r=R:=⟨_,rfl⟩;rw [hR];cases r with
 | nil =>
  have HR:Hid (Except.error 10=R):=ab hR;clear hR;obtain⟨w0,hw0⟩:∃w0,w0=w.alloc (.cells #[.int .i64 0,.string ⟨#[]⟩,.bool false,.slice none 0 0,.int .i64 0,.int .i64 0,.bool false,.slice none 0 0] 25):=⟨_,rfl⟩;obtain⟨hb0,hz0,hby0⟩:=kB w hw0;have HRD:=ab (h.later hb0);rw [hw0] at HRD;have HW0:=ab hw0;have HBY0:=ab hby0;have hgg:w.grownBy w0 (some g):=jN hb0 _;have hgr:g<w.heap.size:=h.lt;clear hw0 hby0 h;go_enter Tryz.func141,Tryz.ntmps141
  go_wp2_with (go_at_call 138;refine(pO _ HRD.out).mono ?_)
  rintro e w1 ⟨rfl,hrd1,hq1⟩;rw [←HW0.out] at hq1;have hg1:=jM hgg hq1;have HRD1:=ab hrd1;have HBY1:=ab (jQ HBY0.out hq1 gu);have hz1:=hq1.size;clear hrd1 hq1;go_wp2_with (go_at_call 168;refine(mJ _ gF rfl).mono ?_)
  rintro e w2 hq;exact bC
 | cons c r1 =>
  have hp:=h.pos;cases hn:nC c with
  | some rows =>
   have HR:Hid (Except.ok (setR rows false,r1)=R):=ab (by rw [←hR];simp only [escM,hn]);clear hR;obtain⟨b,rfl,hnb,rfl⟩:∃b,c=[b]∧mY b=true∧rows=kM b:=by
    match c,hn with
    | [b],hn =>
     exact dX
    | [],hn=>cases hn
    | b::b2::t,hn=>cases hn
   clear hn;have HNB:=ab hnb;clear hnb;obtain⟨w0,hw0⟩:∃w0,w0=w.alloc (.cells #[.int .i64 0,.string ⟨#[]⟩,.bool false,.slice none 0 0,.int .i64 0,.int .i64 0,.bool false,.slice none 0 0] 25):=⟨_,rfl⟩;obtain⟨hb0,hz0,hby0⟩:=kB w hw0;have HRD:=ab (h.later hb0);rw [hw0] at HRD;have HW0:=ab hw0;have HBY0:=ab hby0;have hgg:w.grownBy w0 (some g):=jN hb0 _;have hgr:g<w.heap.size:=h.lt;clear hw0 hby0 h;go_enter Tryz.func141,Tryz.ntmps141
   go_wp2_with (go_at_call 138;refine(km _ HRD.out).mono ?_)
   rintro e w1 ⟨rfl,hrd1,hq1⟩;rw [←HW0.out] at hq1;have hg1:=jM hgg hq1;have HRD1:=ab hrd1;have HBY1:=ab (jQ HBY0.out hq1 gu);have hz1:=hq1.size;clear hrd1 hq1;go_wp2_with (go_at_call 167;refine(ow _ HNB.out).mono ?_)
   rintro e w2 hq;obtain⟨a,k,rfl,hsl,hb2⟩:=hq;have hg2:=jM hg1 (jN hb2 (some g));have hby2:=(hb2.block _ (jO HBY1.out)).trans HBY1.out;have HRD2:=ab (HRD1.out.later hb2);have HV:Hid (RxV w2 (fun b=>w.heap.size≤b∧b≠w.heap.size) (rxc 4 [] false (some a) (kM b).length k 0 0 false none ([]:List Rx).length 0) (setR (kM b) false)):=ab
    (RxV.close (hsl.mono fun x hx _=>by omega) ⟨[],SlS.none_ _ _ _ _,.nil⟩)
   obtain⟨f0,f1,f2,f3,f4,f5,f6,f7,f8⟩:=jR (c:=[]) hby2;clear hsl hby2;go_wp2
   refine CJ (v:=.tuple #[.agg #[.int .i64 4,.string ⟨[].toArray⟩,.bool false,.slice (some a) (kM b).length k,.int .i64 0,.int .i64 0,.bool false,.slice none ([]:List Rx).length 0],.int .i64 0]) gN rfl ?_;refine⟨?_,?_⟩
   ·exact bU
   rw [←HR.out];refine⟨rxc 4 [] false (some a) (kM b).length k 0 0 false none ([]:List Rx).length 0,rfl,RxV.mono (S:=fun b=>w.heap.size≤b∧b≠w.heap.size) (fun b hb _=>hb.1) ?_,?_⟩
   ·exact bQ
   ·exact cx
  | none =>
   by_cases h68:c=[68]
   ·subst h68
    have HR:Hid (Except.ok (setR (kM 100) true,r1)=R):=ab hR;clear hR hn;obtain⟨w0,hw0⟩:∃w0,w0=w.alloc (.cells #[.int .i64 0,.string ⟨#[]⟩,.bool false,.slice none 0 0,.int .i64 0,.int .i64 0,.bool false,.slice none 0 0] 25):=⟨_,rfl⟩;obtain⟨hb0,hz0,hby0⟩:=kB w hw0;have HRD:=ab (h.later hb0);rw [hw0] at HRD;have HW0:=ab hw0;have HBY0:=ab hby0;have hgg:w.grownBy w0 (some g):=jN hb0 _;have hgr:g<w.heap.size:=h.lt;clear hw0 hby0 h;go_enter Tryz.func141,Tryz.ntmps141
    go_wp2_with (go_at_call 138;refine(km _ HRD.out).mono ?_)
    rintro e w1 ⟨rfl,hrd1,hq1⟩;rw [←HW0.out] at hq1;have hg1:=jM hgg hq1;have HRD1:=ab hrd1;have HBY1:=ab (jQ HBY0.out hq1 gu);have hz1:=hq1.size;clear hrd1 hq1;go_wp2_with (go_at_call 167;refine(nS (c:=68) _ gD).mono ?_)
    rintro e w2 hq;obtain⟨v,rfl,hb2⟩:=hq;have hg2:=jM hg1 (jN hb2 (some g));have HBY2:=ab ((hb2.block _ (jO HBY1.out)).trans HBY1.out);have HRD2:=ab (HRD1.out.later hb2);have hz2:=hb2.size;go_wp2_with (go_at_call 167;refine(ow (c:=100) _ gD).mono ?_)
    rintro e w3 hq;obtain⟨a,k,rfl,hsl,hb3⟩:=hq;have hg3:=jM hg2 (jN hb3 (some g));have hby3:=(hb3.block _ (jO HBY2.out)).trans HBY2.out;have HRD3:=ab (HRD2.out.later hb3);have HV:Hid (RxV w3 (fun b=>w.heap.size≤b∧b≠w.heap.size) (rxc 4 [] true (some a) (kM 100).length k 0 0 false none ([]:List Rx).length 0) (setR (kM 100) true)):=ab
     (RxV.close (hsl.mono fun x hx _=>by omega) ⟨[],SlS.none_ _ _ _ _,.nil⟩)
    obtain⟨f0,f1,f2,f3,f4,f5,f6,f7,f8⟩:=jR (c:=[]) hby3;clear hsl hby3;go_wp2
    refine CJ (v:=.tuple #[.agg #[.int .i64 4,.string ⟨[].toArray⟩,.bool true,.slice (some a) (kM 100).length k,.int .i64 0,.int .i64 0,.bool false,.slice none ([]:List Rx).length 0],.int .i64 0]) gN rfl ?_;refine⟨?_,?_⟩
    ·exact cg
    rw [←HR.out];refine⟨rxc 4 [] true (some a) (kM 100).length k 0 0 false none ([]:List Rx).length 0,rfl,RxV.mono (S:=fun b=>w.heap.size≤b∧b≠w.heap.size) (fun b hb _=>hb.1) ?_,?_⟩
    ·exact bQ
    ·exact ce
   by_cases h87:c=[87]
   ·subst h87
    have HR:Hid (Except.ok (setR (kM 119) true,r1)=R):=ab hR;clear hR hn;obtain⟨w0,hw0⟩:∃w0,w0=w.alloc (.cells #[.int .i64 0,.string ⟨#[]⟩,.bool false,.slice none 0 0,.int .i64 0,.int .i64 0,.bool false,.slice none 0 0] 25):=⟨_,rfl⟩;obtain⟨hb0,hz0,hby0⟩:=kB w hw0;have HRD:=ab (h.later hb0);rw [hw0] at HRD;have HW0:=ab hw0;have HBY0:=ab hby0;have hgg:w.grownBy w0 (some g):=jN hb0 _;have hgr:g<w.heap.size:=h.lt;clear hw0 hby0 h;go_enter Tryz.func141,Tryz.ntmps141
    go_wp2_with (go_at_call 138;refine(km _ HRD.out).mono ?_)
    rintro e w1 ⟨rfl,hrd1,hq1⟩;rw [←HW0.out] at hq1;have hg1:=jM hgg hq1;have HRD1:=ab hrd1;have HBY1:=ab (jQ HBY0.out hq1 gu);have hz1:=hq1.size;clear hrd1 hq1;go_wp2_with (go_at_call 167;refine(nS (c:=87) _ gD).mono ?_)
    rintro e w2 hq;obtain⟨v,rfl,hb2⟩:=hq;have hg2:=jM hg1 (jN hb2 (some g));have HBY2:=ab ((hb2.block _ (jO HBY1.out)).trans HBY1.out);have HRD2:=ab (HRD1.out.later hb2);have hz2:=hb2.size;go_wp2_with (go_at_call 167;refine(ow (c:=119) _ gD).mono ?_)
    rintro e w3 hq;obtain⟨a,k,rfl,hsl,hb3⟩:=hq;have hg3:=jM hg2 (jN hb3 (some g));have hby3:=(hb3.block _ (jO HBY2.out)).trans HBY2.out;have HRD3:=ab (HRD2.out.later hb3);have HV:Hid (RxV w3 (fun b=>w.heap.size≤b∧b≠w.heap.size) (rxc 4 [] true (some a) (kM 119).length k 0 0 false none ([]:List Rx).length 0) (setR (kM 119) true)):=ab
     (RxV.close (hsl.mono fun x hx _=>by omega) ⟨[],SlS.none_ _ _ _ _,.nil⟩)
    obtain⟨f0,f1,f2,f3,f4,f5,f6,f7,f8⟩:=jR (c:=[]) hby3;clear hsl hby3;go_wp2
    refine CJ (v:=.tuple #[.agg #[.int .i64 4,.string ⟨[].toArray⟩,.bool true,.slice (some a) (kM 119).length k,.int .i64 0,.int .i64 0,.bool false,.slice none ([]:List Rx).length 0],.int .i64 0]) gN rfl ?_;refine⟨?_,?_⟩
    ·exact cg
    rw [←HR.out];refine⟨rxc 4 [] true (some a) (kM 119).length k 0 0 false none ([]:List Rx).length 0,rfl,RxV.mono (S:=fun b=>w.heap.size≤b∧b≠w.heap.size) (fun b hb _=>hb.1) ?_,?_⟩
    ·exact bQ
    ·exact ce
   by_cases h83:c=[83]
   ·subst h83
    have HR:Hid (Except.ok (setR (kM 115) true,r1)=R):=ab hR;clear hR hn;obtain⟨w0,hw0⟩:∃w0,w0=w.alloc (.cells #[.int .i64 0,.string ⟨#[]⟩,.bool false,.slice none 0 0,.int .i64 0,.int .i64 0,.bool false,.slice none 0 0] 25):=⟨_,rfl⟩;obtain⟨hb0,hz0,hby0⟩:=kB w hw0;have HRD:=ab (h.later hb0);rw [hw0] at HRD;have HW0:=ab hw0;have HBY0:=ab hby0;have hgg:w.grownBy w0 (some g):=jN hb0 _;have hgr:g<w.heap.size:=h.lt;clear hw0 hby0 h;go_enter Tryz.func141,Tryz.ntmps141
    go_wp2_with (go_at_call 138;refine(km _ HRD.out).mono ?_)
    rintro e w1 ⟨rfl,hrd1,hq1⟩;rw [←HW0.out] at hq1;have hg1:=jM hgg hq1;have HRD1:=ab hrd1;have HBY1:=ab (jQ HBY0.out hq1 gu);have hz1:=hq1.size;clear hrd1 hq1;go_wp2_with (go_at_call 167;refine(nS (c:=83) _ gD).mono ?_)
    rintro e w2 hq;obtain⟨v,rfl,hb2⟩:=hq;have hg2:=jM hg1 (jN hb2 (some g));have HBY2:=ab ((hb2.block _ (jO HBY1.out)).trans HBY1.out);have HRD2:=ab (HRD1.out.later hb2);have hz2:=hb2.size;go_wp2_with (go_at_call 167;refine(ow (c:=115) _ gD).mono ?_)
    rintro e w3 hq;obtain⟨a,k,rfl,hsl,hb3⟩:=hq;have hg3:=jM hg2 (jN hb3 (some g));have hby3:=(hb3.block _ (jO HBY2.out)).trans HBY2.out;have HRD3:=ab (HRD2.out.later hb3);have HV:Hid (RxV w3 (fun b=>w.heap.size≤b∧b≠w.heap.size) (rxc 4 [] true (some a) (kM 115).length k 0 0 false none ([]:List Rx).length 0) (setR (kM 115) true)):=ab
     (RxV.close (hsl.mono fun x hx _=>by omega) ⟨[],SlS.none_ _ _ _ _,.nil⟩)
    obtain⟨f0,f1,f2,f3,f4,f5,f6,f7,f8⟩:=jR (c:=[]) hby3;clear hsl hby3;go_wp2
    refine CJ (v:=.tuple #[.agg #[.int .i64 4,.string ⟨[].toArray⟩,.bool true,.slice (some a) (kM 115).length k,.int .i64 0,.int .i64 0,.bool false,.slice none ([]:List Rx).length 0],.int .i64 0]) gN rfl ?_;refine⟨?_,?_⟩
    ·exact cg
    rw [←HR.out];refine⟨rxc 4 [] true (some a) (kM 115).length k 0 0 false none ([]:List Rx).length 0,rfl,RxV.mono (S:=fun b=>w.heap.size≤b∧b≠w.heap.size) (fun b hb _=>hb.1) ?_,?_⟩
    ·exact bQ
    ·exact ce
   have hbig:bigS c=none:=by unfold bigS;rw [Co h68,Co h87,Co h83]
   have g68:(c==[68])=false:=CM.2 h68;have g87:(c==[87])=false:=CM.2 h87;have g83:(c==[83])=false:=CM.2 h83;have hpl:=hp.2;match c,hp,hn with
   | [],hp,_=>exact absurd rfl hp.1
   | [b],_,hn =>
    have hnb:mY b=false:=by
     exact eE
    have HNB:=ab hnb;clear hnb h68 h87 h83;cases hpm:l6 [b] with
    | none =>
     have HR:Hid (Except.error 10=R):=ab iI;have HPM:=ab hpm;clear hR hn hbig hpm;obtain⟨w0,hw0⟩:∃w0,w0=w.alloc (.cells #[.int .i64 0,.string ⟨#[]⟩,.bool false,.slice none 0 0,.int .i64 0,.int .i64 0,.bool false,.slice none 0 0] 25):=⟨_,rfl⟩;obtain⟨hb0,hz0,hby0⟩:=kB w hw0;have HRD:=ab (h.later hb0);rw [hw0] at HRD;have HW0:=ab hw0;have HBY0:=ab hby0;have hgg:w.grownBy w0 (some g):=jN hb0 _;have hgr:g<w.heap.size:=h.lt;clear hw0 hby0 h;go_enter Tryz.func141,Tryz.ntmps141
     go_wp2_with (go_at_call 138;refine(km _ HRD.out).mono ?_)
     rintro e w1 ⟨rfl,hrd1,hq1⟩;rw [←HW0.out] at hq1;have hg1:=jM hgg hq1;have HRD1:=ab hrd1;have HBY1:=ab (jQ HBY0.out hq1 gu);have hz1:=hq1.size;clear hrd1 hq1;go_wp2_with (go_at_call 167;refine(nS _ HNB.out).mono ?_)
     rintro e w2 hq;obtain⟨v,rfl,hb2⟩:=hq;have hg2:=jM hg1 (jN hb2 (some g));have HBY2:=ab ((hb2.block _ (jO HBY1.out)).trans HBY1.out);have HRD2:=ab (HRD1.out.later hb2);go_wp2_with (go_at_call 168;refine(mJ _ gF HPM.out).mono ?_)
     rintro e w3 hq;obtain⟨t,rfl,rfl⟩:=hq;obtain⟨f0,f1,f2,f3,f4,f5,f6,f7,f8⟩:=jR (c:=[]) HBY2.out;go_wp2
     refine CJ (v:=.tuple #[.agg #[.int .i64 0,.string ⟨[].toArray⟩,.bool false,.slice none 0 0,.int .i64 0,.int .i64 0,.bool false,.slice none 0 0],.int .i64 10]) gN rfl ?_;refine⟨?_,?_⟩
     ·exact bU
     ·exact dx
    | some t =>
     have HR:Hid (Except.ok (chrR t,r1)=R):=ab iI;have HPM:=ab hpm;clear hR hn hbig hpm;obtain⟨w0,hw0⟩:∃w0,w0=w.alloc (.cells #[.int .i64 0,.string ⟨#[]⟩,.bool false,.slice none 0 0,.int .i64 0,.int .i64 0,.bool false,.slice none 0 0] 25):=⟨_,rfl⟩;obtain⟨hb0,hz0,hby0⟩:=kB w hw0;have HRD:=ab (h.later hb0);rw [hw0] at HRD;have HW0:=ab hw0;have HBY0:=ab hby0;have hgg:w.grownBy w0 (some g):=jN hb0 _;have hgr:g<w.heap.size:=h.lt;clear hw0 hby0 h;go_enter Tryz.func141,Tryz.ntmps141
     go_wp2_with (go_at_call 138;refine(km _ HRD.out).mono ?_)
     rintro e w1 ⟨rfl,hrd1,hq1⟩;rw [←HW0.out] at hq1;have hg1:=jM hgg hq1;have HRD1:=ab hrd1;have HBY1:=ab (jQ HBY0.out hq1 gu);have hz1:=hq1.size;clear hrd1 hq1;go_wp2_with (go_at_call 167;refine(nS _ HNB.out).mono ?_)
     rintro e w2 hq;obtain⟨v,rfl,hb2⟩:=hq;have hg2:=jM hg1 (jN hb2 (some g));have HBY2:=ab ((hb2.block _ (jO HBY1.out)).trans HBY1.out);have HRD2:=ab (HRD1.out.later hb2);go_wp2_with (go_at_call 168;refine(oW _ gF HPM.out).mono ?_)
     rintro e w3 ⟨rfl,rfl⟩;obtain⟨f0,f1,f2,f3,f4,f5,f6,f7,f8⟩:=jR (c:=[]) HBY2.out;go_wp2
     refine CJ (v:=.tuple #[.agg #[.int .i64 2,.string ⟨t.toArray⟩,.bool false,.slice none ([]:List Row).length 0,.int .i64 0,.int .i64 0,.bool false,.slice none ([]:List Rx).length 0],.int .i64 0]) gN rfl ?_;refine⟨?_,?_⟩
     ·exact bU
     rw [←HR.out];refine⟨rxc 2 t false none ([]:List Row).length 0 0 0 false none ([]:List Rx).length 0,rfl,RxV.mono (S:=fun b=>w.heap.size≤b∧b≠w.heap.size) (fun b hb _=>hb.1) ?_,?_⟩
     ·exact aR
     ·exact cx
   | b::b2::t,_,hn =>
    have hne:((t.length:Int)+1+1==1)=false:=by rw [CM];omega
    clear h68 h87 h83;generalize hcc:b::b2::t=cc at *
    have hcl:cc.length=t.length+2:=by rw [←hcc];rfl
    have hne:((cc.length:Int)==1)=false:=by rw [CM];omega
    clear hcc hcl;cases hpm:l6 cc with
    | none =>
     have HR:Hid (Except.error 10=R):=ab iI;have HPM:=ab hpm;clear hR hn hbig hpm;obtain⟨w0,hw0⟩:∃w0,w0=w.alloc (.cells #[.int .i64 0,.string ⟨#[]⟩,.bool false,.slice none 0 0,.int .i64 0,.int .i64 0,.bool false,.slice none 0 0] 25):=⟨_,rfl⟩;obtain⟨hb0,hz0,hby0⟩:=kB w hw0;have HRD:=ab (h.later hb0);rw [hw0] at HRD;have HW0:=ab hw0;have HBY0:=ab hby0;have hgg:w.grownBy w0 (some g):=jN hb0 _;have hgr:g<w.heap.size:=h.lt;clear hw0 hby0 h;go_enter Tryz.func141,Tryz.ntmps141
     go_wp2_with (go_at_call 138;refine(km _ HRD.out).mono ?_)
     rintro e w1 ⟨rfl,hrd1,hq1⟩;rw [←HW0.out] at hq1;have hg1:=jM hgg hq1;have HRD1:=ab hrd1;have HBY1:=ab (jQ HBY0.out hq1 gu);have hz1:=hq1.size;clear hrd1 hq1;go_wp2_with (go_at_call 168;refine(mJ _ gu HPM.out).mono ?_)
     rintro e w3 hq;exact bC
    | some u =>
     have HR:Hid (Except.ok (chrR u,r1)=R):=ab iI;have HPM:=ab hpm;clear hR hn hbig hpm;obtain⟨w0,hw0⟩:∃w0,w0=w.alloc (.cells #[.int .i64 0,.string ⟨#[]⟩,.bool false,.slice none 0 0,.int .i64 0,.int .i64 0,.bool false,.slice none 0 0] 25):=⟨_,rfl⟩;obtain⟨hb0,hz0,hby0⟩:=kB w hw0;have HRD:=ab (h.later hb0);rw [hw0] at HRD;have HW0:=ab hw0;have HBY0:=ab hby0;have hgg:w.grownBy w0 (some g):=jN hb0 _;have hgr:g<w.heap.size:=h.lt;clear hw0 hby0 h;go_enter Tryz.func141,Tryz.ntmps141
     go_wp2_with (go_at_call 138;refine(km _ HRD.out).mono ?_)
     rintro e w1 ⟨rfl,hrd1,hq1⟩;rw [←HW0.out] at hq1;have hg1:=jM hgg hq1;have HRD1:=ab hrd1;have HBY1:=ab (jQ HBY0.out hq1 gu);have hz1:=hq1.size;clear hrd1 hq1;go_wp2_with (go_at_call 168;refine(oW _ gu HPM.out).mono ?_)
     rintro e w3 ⟨rfl,rfl⟩;obtain⟨f0,f1,f2,f3,f4,f5,f6,f7,f8⟩:=jR (c:=[]) HBY1.out;go_wp2
     refine CJ (v:=.tuple #[.agg #[.int .i64 2,.string ⟨u.toArray⟩,.bool false,.slice none ([]:List Row).length 0,.int .i64 0,.int .i64 0,.bool false,.slice none ([]:List Rx).length 0],.int .i64 0]) gN rfl ?_;refine⟨?_,?_⟩
     ·exact fx
     rw [←HR.out];refine⟨rxc 2 u false none ([]:List Row).length 0 0 0 false none ([]:List Rx).length 0,rfl,RxV.mono (S:=fun b=>w.heap.size≤b∧b≠w.heap.size) (fun b hb _=>hb.1) ?_,?_⟩
     ·exact aR
     ·exact fG
def ItemPost (g d:Nat) (w:World) (R:Option (Str × List Row × List Str)) (e:Ending) (w':World):Prop:=w.grownBy w' (some g)∧match R with
 | none=>e=.returned (.tuple #[.string ⟨#[]⟩,.slice none 0 0,.int .i64 10])∧∃r,Rd w' g r d
 | some (t,rows,r)=>Rd w' g r d∧((rows=[]∧e=.returned (.tuple #[.string ⟨t.toArray⟩,.slice none 0 0,.int .i64 0]))∨(rows≠[]∧∃(a:Addr) (k:Nat),e=.returned (.tuple #[.string ⟨#[]⟩,.slice (some a) rows.length k,.int .i64 0])∧SlS w' (fun x=>w.heap.size≤x) (some a) 2 rows.length (jX rows)))
theorem pu {c:Str} {rows:List Row} (hn:nC c=some rows):∃b,c=[b]∧mY b=true∧rows=kM b:=by
 match c,hn with
 | [b],hn =>
  exact dX
 | [],hn=>cases hn
 | b::b2::t,hn=>cases hn
theorem wN {b:UInt8} (hn:nC [b]=none):mY b=false:=by
 exact eE
theorem Bp {b:UInt8} (h:mY b=true):kM b≠[]:=by
 unfold mY at h;simp only [CG,Ci] at h;rcases h with(rfl|rfl)|rfl<;>decide
theorem lF {g d:Nat} {r:List Str} (w:World) (h:Rd w g r d) :
  Calls Tryz.prog 165 #[.pointer (some ⟨g,0,none⟩)] w fun e w'=>ItemPost g d w (pH r) e w':=by
 obtain⟨R,hR⟩:∃R,pH r=R:=⟨_,rfl⟩;rw [hR];have HRD:=ab h;have hg0:=kD w (some g);cases r with
 | nil =>
  have HR:Hid (none=R):=ab hR;clear hR h;go_enter Tryz.func165,Tryz.ntmps165
  go_wp2_with (go_at_call 138;refine(pO _ HRD.out).mono ?_)
  exact cO
 | cons c r1 =>
  have hp:=h.pos;by_cases h93:c=[93]
  ·subst h93
   have HR:Hid (none=R):=ab hR;clear hR h;go_enter Tryz.func165,Tryz.ntmps165
   go_wp2_with (go_at_call 138;refine(km _ HRD.out).mono ?_)
   exact cO
  by_cases h92:c=[92]
  ·subst h92
   cases r1 with
   | nil =>
    have HR:Hid (none=R):=ab hR;clear hR h;go_enter Tryz.func165,Tryz.ntmps165
    go_wp2_with (go_at_call 138;refine(km _ HRD.out).mono ?_)
    rintro e w1 ⟨rfl,hrd1,hq1⟩;have hg1:=jM hg0 hq1;have HRD1:=ab hrd1;have hz1:=hq1.size;clear hrd1 hq1;go_wp2_with (go_at_call 138;refine(pO _ HRD1.out).mono ?_)
    rintro e w2 ⟨rfl,hrd2,hq2⟩;have hg2:=jM hg1 hq2;have HRD2:=ab hrd2;have hz2:=hq2.size;clear hrd2 hq2;go_wp2_with (go_at_call 168;refine(mJ _ gF rfl).mono ?_)
    rintro e w3 hq;exact eb
   | cons c2 r2 =>
    have hp2:c2≠[]∧c2.length≤1000000:=by
     obtain⟨a,k,l,i,_,_,_,_,h5,h6⟩:=h;have h7:=(j6 h6).2.2;have:=(j6 h7).2.1
     exact h5 c2 (CF this)
    have hR2:(match nC c2 with|some rows=>some ([],rows,r2)|none=>match l6 c2 with|none=>none|some t=>some (t,[],r2))=R:=hR;clear h hR;cases hn:nC c2 with
    | some rows =>
     simp only [hn] at hR2;obtain⟨b,rfl,hnb,rfl⟩:=pu hn;have hne:=Bp hnb;have HNE:=ab hne;have HNB:=ab hnb;have HR:=ab hR2;clear hn hR2 hnb hne;go_enter Tryz.func165,Tryz.ntmps165
     go_wp2_with (go_at_call 138;refine(km _ HRD.out).mono ?_)
     rintro e w1 ⟨rfl,hrd1,hq1⟩;have hg1:=jM hg0 hq1;have HRD1:=ab hrd1;have hz1:=hq1.size;clear hrd1 hq1;go_wp2_with (go_at_call 138;refine(km _ HRD1.out).mono ?_)
     rintro e w2 ⟨rfl,hrd2,hq2⟩;have hg2:=jM hg1 hq2;have HRD2:=ab hrd2;have hz2:=hq2.size;clear hrd2 hq2;go_wp2_with (go_at_call 167;refine(ow _ HNB.out).mono ?_)
     rintro e w3 hq;obtain⟨a,k,rfl,hsl,hb3⟩:=hq;have hg3:=jM hg2 (jN hb3 (some g));have HRD3:=ab (HRD2.out.later hb3);have HSL:=ab hsl;clear hsl;go_wp2
     go_ret3
     exact⟨hg3,by rw [←HR.out];exact⟨HRD3.out,.inr ⟨HNE.out,a,k,rfl,HSL.out.mono fun x hx _=>by omega⟩⟩⟩
    | none =>
     simp only [hn] at hR2;match c2,hp2,hn with
     | [],hp,_=>exact absurd rfl hp.1
     | [b],_,hn =>
      have HNB:=ab (wN hn);clear hn;cases hpm:l6 [b] with
      | none =>
       simp only [hpm] at hR2;have HR:=ab hR2;have HPM:=ab hpm;clear hR2 hpm;go_enter Tryz.func165,Tryz.ntmps165
       go_wp2_with (go_at_call 138;refine(km _ HRD.out).mono ?_)
       rintro e w1 ⟨rfl,hrd1,hq1⟩;have hg1:=jM hg0 hq1;have HRD1:=ab hrd1;have hz1:=hq1.size;clear hrd1 hq1;go_wp2_with (go_at_call 138;refine(km _ HRD1.out).mono ?_)
       rintro e w2 ⟨rfl,hrd2,hq2⟩;have hg2:=jM hg1 hq2;have HRD2:=ab hrd2;have hz2:=hq2.size;clear hrd2 hq2;go_wp2_with (go_at_call 167;refine(nS _ HNB.out).mono ?_)
       rintro e w3 hq;obtain⟨v,rfl,hb3⟩:=hq;have hg3:=jM hg2 (jN hb3 (some g));have HRD3:=ab (HRD2.out.later hb3);go_wp2_with (go_at_call 168;refine(mJ _ gF HPM.out).mono ?_)
       rintro e w4 hq;obtain⟨t,rfl,rfl⟩:=hq;go_wp2
       go_ret3
       exact⟨hg3,by rw [←HR.out];exact⟨rfl,_,HRD3.out⟩⟩
      | some t =>
       simp only [hpm] at hR2;have HR:=ab hR2;have HPM:=ab hpm;clear hR2 hpm;go_enter Tryz.func165,Tryz.ntmps165
       go_wp2_with (go_at_call 138;refine(km _ HRD.out).mono ?_)
       rintro e w1 ⟨rfl,hrd1,hq1⟩;have hg1:=jM hg0 hq1;have HRD1:=ab hrd1;have hz1:=hq1.size;clear hrd1 hq1;go_wp2_with (go_at_call 138;refine(km _ HRD1.out).mono ?_)
       rintro e w2 ⟨rfl,hrd2,hq2⟩;have hg2:=jM hg1 hq2;have HRD2:=ab hrd2;have hz2:=hq2.size;clear hrd2 hq2;go_wp2_with (go_at_call 167;refine(nS _ HNB.out).mono ?_)
       rintro e w3 hq;obtain⟨v,rfl,hb3⟩:=hq;have hg3:=jM hg2 (jN hb3 (some g));have HRD3:=ab (HRD2.out.later hb3);go_wp2_with (go_at_call 168;refine(oW _ gF HPM.out).mono ?_)
       rintro e w4 ⟨rfl,rfl⟩;go_wp2
       go_ret3
       exact⟨hg3,by rw [←HR.out];exact⟨HRD3.out,.inl ⟨rfl,rfl⟩⟩⟩
     | b::b2::t,hp2,hn =>
      have hpl:=hp2.2;generalize hcc:b::b2::t=cc at *
      have hcl:cc.length=t.length+2:=by rw [←hcc];rfl
      have hne:((cc.length:Int)==1)=false:=by rw [CM];omega
      clear hcc hcl hn;cases hpm:l6 cc with
      | none =>
       simp only [hpm] at hR2;have HR:=ab hR2;have HPM:=ab hpm;clear hR2 hpm;go_enter Tryz.func165,Tryz.ntmps165
       go_wp2_with (go_at_call 138;refine(km _ HRD.out).mono ?_)
       rintro e w1 ⟨rfl,hrd1,hq1⟩;have hg1:=jM hg0 hq1;have HRD1:=ab hrd1;have hz1:=hq1.size;clear hrd1 hq1;go_wp2_with (go_at_call 138;refine(km _ HRD1.out).mono ?_)
       rintro e w2 ⟨rfl,hrd2,hq2⟩;have hg2:=jM hg1 hq2;have HRD2:=ab hrd2;have hz2:=hq2.size;clear hrd2 hq2;go_wp2_with (go_at_call 168;refine(mJ _ gu HPM.out).mono ?_)
       rintro e w4 hq;exact eb
      | some t =>
       simp only [hpm] at hR2;have HR:=ab hR2;have HPM:=ab hpm;clear hR2 hpm;go_enter Tryz.func165,Tryz.ntmps165
       go_wp2_with (go_at_call 138;refine(km _ HRD.out).mono ?_)
       rintro e w1 ⟨rfl,hrd1,hq1⟩;have hg1:=jM hg0 hq1;have HRD1:=ab hrd1;have hz1:=hq1.size;clear hrd1 hq1;go_wp2_with (go_at_call 138;refine(km _ HRD1.out).mono ?_)
       rintro e w2 ⟨rfl,hrd2,hq2⟩;have hg2:=jM hg1 hq2;have HRD2:=ab hrd2;have hz2:=hq2.size;clear hrd2 hq2;go_wp2_with (go_at_call 168;refine(oW _ gu HPM.out).mono ?_)
       rintro e w4 ⟨rfl,rfl⟩;go_wp2
       go_ret3
       exact⟨hg2,by rw [←HR.out];exact⟨HRD2.out,.inl ⟨rfl,rfl⟩⟩⟩
  have g93:(c==[93])=false:=CM.2 h93;have g92:(c==[92])=false:=CM.2 h92;have g0:List.isEmpty c=false:=by have:=hp.1;cases c<;>simp at this ⊢
  have HR:Hid (some (c,[],r1)=R):=ab (by rw [←hR];simp [pH,h93,h92]);clear hR h h93 h92;go_enter Tryz.func165,Tryz.ntmps165
  go_wp2_with (go_at_call 138;refine(km _ HRD.out).mono ?_)
  rintro e w1 ⟨rfl,hrd1,hq1⟩;have hg1:=jM hg0 hq1;have HRD1:=ab hrd1;have hz1:=hq1.size;clear hrd1 hq1;go_wp2
  go_ret3
  exact⟨hg1,by rw [←HR.out];exact⟨HRD1.out,.inl ⟨rfl,rfl⟩⟩⟩
end Go.Proofs.YtjggmmaojklmpaaGreat
