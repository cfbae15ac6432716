/- walks of rxread: escaped, item · walks of rxread: item -/
import Derived.Test.YtbnkaecmgfolpaaGreatJb12
set_option maxRecDepth 100000
set_option maxHeartbeats 4000000
namespace Go.Proofs.YtbnkaecmgfolpaaGreat
open Go.RowKit
theorem ij (w:World) {b:Array Value} {t:TypeId} {w0:World} (h:w0=w.alloc (.cells b t)):Below w.heap.size w w0∧w0.heap.size=w.heap.size+1∧w0.heap[w.heap.size]?=some (.cells b t (0,0)):=by
 subst h;exact⟨(Below.refl _ _).alloc (wY _) _,by simp,heap_alloc_new w _⟩
theorem lB {c t:Str} (w:World) (hs:c.length≤100000000) (h:jx c=some t) :
  Calls Tryz.prog 172 #[.string ⟨c.toArray⟩] w fun e w'=>e=.returned (.tuple #[.string ⟨t.toArray⟩,.bool true])∧w=w':=by
 refine(qm c w hs).mono ?_
 rintro e w' ⟨h1,h2⟩;rw [h] at h2;exact⟨h2,h1⟩
def PlainNo (w:World) (e:Ending) (w':World):Prop:=∃t:Str,e=.returned (.tuple #[.string ⟨t.toArray⟩,.bool false])∧w=w'
theorem jU {c:Str} (w:World) (hs:c.length≤100000000) (h:jx c=none) :
  Calls Tryz.prog 172 #[.string ⟨c.toArray⟩] w fun e w'=>PlainNo w e w':=by
 refine(qm c w hs).mono ?_
 rintro e w' ⟨h1,h2⟩;rw [h] at h2;obtain⟨t,h2⟩:=h2;exact⟨t,h2,h1⟩
theorem mm {T:TypeId} {x:List Value} {g:Nat} (w:World) (h:RdT T x w g []) :
  Calls Tryz.prog 144 #[.pointer (some ⟨g,0,none⟩)] w fun e w'=>e=.returned (.string ⟨(([]:Str)).toArray⟩)∧RdT T x w' g []∧w.grownBy w' (some g) :=
 (next_nil w h).mono fun _ _ ⟨h1,h2⟩=>⟨h1,h2.rd h,h2.grown _⟩
def NamedRes (L:List Row) (w:World) (e:Ending) (w':World):Prop :=
 ∃(a:Addr) (k:Nat),e=.returned (.tuple #[.slice (some a) L.length k,.bool true])∧SlS w' (fun x=>w.heap.size≤x) (some a) 2 L.length (gR L)∧Below w.heap.size w w'
theorem lg {c:UInt8} (w:World) (h:j7 c=true):Calls Tryz.prog 171 #[.int .u8 c.toNat] w fun e w'=>NamedRes (iz c) w e w':=by
 refine(qR c w).mono ?_
 rintro e w' ⟨a,k,h1,h2,h3,h4⟩;obtain⟨x,rfl⟩:=h4 h;rw [h] at h1;exact⟨x,k,h1,h2,h3⟩
def NamedNo (w:World) (e:Ending) (w':World):Prop:=∃(v:Value),e=.returned (.tuple #[v,.bool false])∧Below w.heap.size w w'
theorem kB {c:UInt8} (w:World) (h:j7 c=false):Calls Tryz.prog 171 #[.int .u8 c.toNat] w fun e w'=>NamedNo w e w':=by
 refine(qR c w).mono ?_
 rintro e w' ⟨a,k,h1,h2,h3,h4⟩;rw [h] at h1;exact⟨_,h1,h3⟩
theorem pj (b:UInt8):kl [b]=if j7 b=true then some (iz b) else none:=rfl
theorem ru {g d:Nat} {r:List Str} (w:World) (h:Rd w g r d) :
  Calls Tryz.prog 147 #[.pointer (some ⟨g,0,none⟩)] w fun e w'=>kN g d w.heap.size w (escM r) e w':=by
 obtain⟨R,hR⟩:∃R,escM r=R:=⟨_,rfl⟩;rw [hR];cases r with
 | nil =>
  have HR:Hid (Except.error 10=R):=ab hR;clear hR;obtain⟨w0,hw0⟩:∃w0,w0=w.alloc (.cells #[.int .i64 0,.string ⟨#[]⟩,.bool false,.slice none 0 0,.int .i64 0,.int .i64 0,.bool false,.slice none 0 0] 25):=⟨_,rfl⟩;obtain⟨hb0,hz0,hby0⟩:=ij w hw0;have HRD:=ab (h.later hb0);rw [hw0] at HRD;have HW0:=ab hw0;have HBY0:=ab hby0;have hgg:w.grownBy w0 (some g):=gH hb0 _;have hgr:g<w.heap.size:=h.lt;clear hw0 hby0 h;go_enter Tryz.func147,Tryz.ntmps147
  go_wp2_with (go_at_call 144;refine(mm _ HRD.out).mono ?_)
  rintro e w1 ⟨rfl,hrd1,hq1⟩;rw [←HW0.out] at hq1;have hg1:=gG hgg hq1;have HRD1:=ab hrd1;have HBY1:=ab (gJ HBY0.out hq1 eu);have hz1:=hq1.size;clear hrd1 hq1;go_wp2_with (go_at_call 172;refine(jU _ eB rfl).mono ?_)
  rintro e w2 hq;exact bd
 | cons c r1 =>
  have hp:=h.pos;cases hn:kl c with
  | some rows =>
   have HR:Hid (Except.ok (setR rows false,r1)=R):=ab (by rw [←hR];simp only [escM,hn]);clear hR;obtain⟨b,rfl,hnb,rfl⟩:∃b,c=[b]∧j7 b=true∧rows=iz b:=by
    match c,hn with
    | [b],hn =>
     exact cT
    | [],hn=>cases hn
    | b::b2::t,hn=>cases hn
   clear hn;have HNB:=ab hnb;clear hnb;obtain⟨w0,hw0⟩:∃w0,w0=w.alloc (.cells #[.int .i64 0,.string ⟨#[]⟩,.bool false,.slice none 0 0,.int .i64 0,.int .i64 0,.bool false,.slice none 0 0] 25):=⟨_,rfl⟩;obtain⟨hb0,hz0,hby0⟩:=ij w hw0;have HRD:=ab (h.later hb0);rw [hw0] at HRD;have HW0:=ab hw0;have HBY0:=ab hby0;have hgg:w.grownBy w0 (some g):=gH hb0 _;have hgr:g<w.heap.size:=h.lt;clear hw0 hby0 h;go_enter Tryz.func147,Tryz.ntmps147
   go_wp2_with (go_at_call 144;refine(hZ _ HRD.out).mono ?_)
   rintro e w1 ⟨rfl,hrd1,hq1⟩;rw [←HW0.out] at hq1;have hg1:=gG hgg hq1;have HRD1:=ab hrd1;have HBY1:=ab (gJ HBY0.out hq1 eu);have hz1:=hq1.size;clear hrd1 hq1;go_wp2_with (go_at_call 171;refine(lg _ HNB.out).mono ?_)
   rintro e w2 hq;obtain⟨a,k,rfl,hsl,hb2⟩:=hq;have hg2:=gG hg1 (gH hb2 (some g));have hby2:=(hb2.block _ (gI HBY1.out)).trans HBY1.out;have HRD2:=ab (HRD1.out.later hb2);have HV:Hid (RxV w2 (fun b=>w.heap.size≤b∧b≠w.heap.size) (rxc 4 [] false (some a) (iz b).length k 0 0 false none ([]:List Rx).length 0) (setR (iz b) false)):=ab
    (RxV.close (hsl.mono fun x hx _=>by omega) ⟨[],SlS.none_ _ _ _ _,.nil⟩)
   obtain⟨f0,f1,f2,f3,f4,f5,f6,f7,f8⟩:=gK (c:=[]) hby2;clear hsl hby2;go_wp2
   refine xE (v:=.tuple #[.agg #[.int .i64 4,.string ⟨[].toArray⟩,.bool false,.slice (some a) (iz b).length k,.int .i64 0,.int .i64 0,.bool false,.slice none ([]:List Rx).length 0],.int .i64 0]) eH rfl ?_;refine⟨?_,?_⟩
   ·exact bA
   rw [←HR.out];refine⟨rxc 4 [] false (some a) (iz b).length k 0 0 false none ([]:List Rx).length 0,rfl,RxV.mono (S:=fun b=>w.heap.size≤b∧b≠w.heap.size) (fun b hb _=>hb.1) ?_,?_⟩
   ·exact bu
   ·exact bP
  | none =>
   by_cases h68:c=[68]
   ·subst h68
    have HR:Hid (Except.ok (setR (iz 100) true,r1)=R):=ab hR;clear hR hn;obtain⟨w0,hw0⟩:∃w0,w0=w.alloc (.cells #[.int .i64 0,.string ⟨#[]⟩,.bool false,.slice none 0 0,.int .i64 0,.int .i64 0,.bool false,.slice none 0 0] 25):=⟨_,rfl⟩;obtain⟨hb0,hz0,hby0⟩:=ij w hw0;have HRD:=ab (h.later hb0);rw [hw0] at HRD;have HW0:=ab hw0;have HBY0:=ab hby0;have hgg:w.grownBy w0 (some g):=gH hb0 _;have hgr:g<w.heap.size:=h.lt;clear hw0 hby0 h;go_enter Tryz.func147,Tryz.ntmps147
    go_wp2_with (go_at_call 144;refine(hZ _ HRD.out).mono ?_)
    rintro e w1 ⟨rfl,hrd1,hq1⟩;rw [←HW0.out] at hq1;have hg1:=gG hgg hq1;have HRD1:=ab hrd1;have HBY1:=ab (gJ HBY0.out hq1 eu);have hz1:=hq1.size;clear hrd1 hq1;go_wp2_with (go_at_call 171;refine(kB (c:=68) _ ez).mono ?_)
    rintro e w2 hq;obtain⟨v,rfl,hb2⟩:=hq;have hg2:=gG hg1 (gH hb2 (some g));have HBY2:=ab ((hb2.block _ (gI HBY1.out)).trans HBY1.out);have HRD2:=ab (HRD1.out.later hb2);have hz2:=hb2.size;go_wp2_with (go_at_call 171;refine(lg (c:=100) _ ez).mono ?_)
    rintro e w3 hq;obtain⟨a,k,rfl,hsl,hb3⟩:=hq;have hg3:=gG hg2 (gH hb3 (some g));have hby3:=(hb3.block _ (gI HBY2.out)).trans HBY2.out;have HRD3:=ab (HRD2.out.later hb3);have HV:Hid (RxV w3 (fun b=>w.heap.size≤b∧b≠w.heap.size) (rxc 4 [] true (some a) (iz 100).length k 0 0 false none ([]:List Rx).length 0) (setR (iz 100) true)):=ab
     (RxV.close (hsl.mono fun x hx _=>by omega) ⟨[],SlS.none_ _ _ _ _,.nil⟩)
    obtain⟨f0,f1,f2,f3,f4,f5,f6,f7,f8⟩:=gK (c:=[]) hby3;clear hsl hby3;go_wp2
    refine xE (v:=.tuple #[.agg #[.int .i64 4,.string ⟨[].toArray⟩,.bool true,.slice (some a) (iz 100).length k,.int .i64 0,.int .i64 0,.bool false,.slice none ([]:List Rx).length 0],.int .i64 0]) eH rfl ?_;refine⟨?_,?_⟩
    ·exact bG
    rw [←HR.out];refine⟨rxc 4 [] true (some a) (iz 100).length k 0 0 false none ([]:List Rx).length 0,rfl,RxV.mono (S:=fun b=>w.heap.size≤b∧b≠w.heap.size) (fun b hb _=>hb.1) ?_,?_⟩
    ·exact bu
    ·exact bF
   by_cases h87:c=[87]
   ·subst h87
    have HR:Hid (Except.ok (setR (iz 119) true,r1)=R):=ab hR;clear hR hn;obtain⟨w0,hw0⟩:∃w0,w0=w.alloc (.cells #[.int .i64 0,.string ⟨#[]⟩,.bool false,.slice none 0 0,.int .i64 0,.int .i64 0,.bool false,.slice none 0 0] 25):=⟨_,rfl⟩;obtain⟨hb0,hz0,hby0⟩:=ij w hw0;have HRD:=ab (h.later hb0);rw [hw0] at HRD;have HW0:=ab hw0;have HBY0:=ab hby0;have hgg:w.grownBy w0 (some g):=gH hb0 _;have hgr:g<w.heap.size:=h.lt;clear hw0 hby0 h;go_enter Tryz.func147,Tryz.ntmps147
    go_wp2_with (go_at_call 144;refine(hZ _ HRD.out).mono ?_)
    rintro e w1 ⟨rfl,hrd1,hq1⟩;rw [←HW0.out] at hq1;have hg1:=gG hgg hq1;have HRD1:=ab hrd1;have HBY1:=ab (gJ HBY0.out hq1 eu);have hz1:=hq1.size;clear hrd1 hq1;go_wp2_with (go_at_call 171;refine(kB (c:=87) _ ez).mono ?_)
    rintro e w2 hq;obtain⟨v,rfl,hb2⟩:=hq;have hg2:=gG hg1 (gH hb2 (some g));have HBY2:=ab ((hb2.block _ (gI HBY1.out)).trans HBY1.out);have HRD2:=ab (HRD1.out.later hb2);have hz2:=hb2.size;go_wp2_with (go_at_call 171;refine(lg (c:=119) _ ez).mono ?_)
    rintro e w3 hq;obtain⟨a,k,rfl,hsl,hb3⟩:=hq;have hg3:=gG hg2 (gH hb3 (some g));have hby3:=(hb3.block _ (gI HBY2.out)).trans HBY2.out;have HRD3:=ab (HRD2.out.later hb3);have HV:Hid (RxV w3 (fun b=>w.heap.size≤b∧b≠w.heap.size) (rxc 4 [] true (some a) (iz 119).length k 0 0 false none ([]:List Rx).length 0) (setR (iz 119) true)):=ab
     (RxV.close (hsl.mono fun x hx _=>by omega) ⟨[],SlS.none_ _ _ _ _,.nil⟩)
    obtain⟨f0,f1,f2,f3,f4,f5,f6,f7,f8⟩:=gK (c:=[]) hby3;clear hsl hby3;go_wp2
    refine xE (v:=.tuple #[.agg #[.int .i64 4,.string ⟨[].toArray⟩,.bool true,.slice (some a) (iz 119).length k,.int .i64 0,.int .i64 0,.bool false,.slice none ([]:List Rx).length 0],.int .i64 0]) eH rfl ?_;refine⟨?_,?_⟩
    ·exact bG
    rw [←HR.out];refine⟨rxc 4 [] true (some a) (iz 119).length k 0 0 false none ([]:List Rx).length 0,rfl,RxV.mono (S:=fun b=>w.heap.size≤b∧b≠w.heap.size) (fun b hb _=>hb.1) ?_,?_⟩
    ·exact bu
    ·exact bF
   by_cases h83:c=[83]
   ·subst h83
    have HR:Hid (Except.ok (setR (iz 115) true,r1)=R):=ab hR;clear hR hn;obtain⟨w0,hw0⟩:∃w0,w0=w.alloc (.cells #[.int .i64 0,.string ⟨#[]⟩,.bool false,.slice none 0 0,.int .i64 0,.int .i64 0,.bool false,.slice none 0 0] 25):=⟨_,rfl⟩;obtain⟨hb0,hz0,hby0⟩:=ij w hw0;have HRD:=ab (h.later hb0);rw [hw0] at HRD;have HW0:=ab hw0;have HBY0:=ab hby0;have hgg:w.grownBy w0 (some g):=gH hb0 _;have hgr:g<w.heap.size:=h.lt;clear hw0 hby0 h;go_enter Tryz.func147,Tryz.ntmps147
    go_wp2_with (go_at_call 144;refine(hZ _ HRD.out).mono ?_)
    rintro e w1 ⟨rfl,hrd1,hq1⟩;rw [←HW0.out] at hq1;have hg1:=gG hgg hq1;have HRD1:=ab hrd1;have HBY1:=ab (gJ HBY0.out hq1 eu);have hz1:=hq1.size;clear hrd1 hq1;go_wp2_with (go_at_call 171;refine(kB (c:=83) _ ez).mono ?_)
    rintro e w2 hq;obtain⟨v,rfl,hb2⟩:=hq;have hg2:=gG hg1 (gH hb2 (some g));have HBY2:=ab ((hb2.block _ (gI HBY1.out)).trans HBY1.out);have HRD2:=ab (HRD1.out.later hb2);have hz2:=hb2.size;go_wp2_with (go_at_call 171;refine(lg (c:=115) _ ez).mono ?_)
    rintro e w3 hq;obtain⟨a,k,rfl,hsl,hb3⟩:=hq;have hg3:=gG hg2 (gH hb3 (some g));have hby3:=(hb3.block _ (gI HBY2.out)).trans HBY2.out;have HRD3:=ab (HRD2.out.later hb3);have HV:Hid (RxV w3 (fun b=>w.heap.size≤b∧b≠w.heap.size) (rxc 4 [] true (some a) (iz 115).length k 0 0 false none ([]:List Rx).length 0) (setR (iz 115) true)):=ab
     (RxV.close (hsl.mono fun x hx _=>by omega) ⟨[],SlS.none_ _ _ _ _,.nil⟩)
    obtain⟨f0,f1,f2,f3,f4,f5,f6,f7,f8⟩:=gK (c:=[]) hby3;clear hsl hby3;go_wp2
    refine xE (v:=.tuple #[.agg #[.int .i64 4,.string ⟨[].toArray⟩,.bool true,.slice (some a) (iz 115).length k,.int .i64 0,.int .i64 0,.bool false,.slice none ([]:List Rx).length 0],.int .i64 0]) eH rfl ?_;refine⟨?_,?_⟩
    ·exact bG
    rw [←HR.out];refine⟨rxc 4 [] true (some a) (iz 115).length k 0 0 false none ([]:List Rx).length 0,rfl,RxV.mono (S:=fun b=>w.heap.size≤b∧b≠w.heap.size) (fun b hb _=>hb.1) ?_,?_⟩
    ·exact bu
    ·exact bF
   have hbig:bigS c=none:=by unfold bigS;rw [wX h68,wX h87,wX h83]
   have g68:(c==[68])=false:=xH.2 h68;have g87:(c==[87])=false:=xH.2 h87;have g83:(c==[83])=false:=xH.2 h83;have hpl:=hp.2;match c,hp,hn with
   | [],hp,_=>exact absurd rfl hp.1
   | [b],_,hn =>
    have hnb:j7 b=false:=by
     exact dk
    have HNB:=ab hnb;clear hnb h68 h87 h83;cases hpm:jx [b] with
    | none =>
     have HR:Hid (Except.error 10=R):=ab fz;have HPM:=ab hpm;clear hR hn hbig hpm;obtain⟨w0,hw0⟩:∃w0,w0=w.alloc (.cells #[.int .i64 0,.string ⟨#[]⟩,.bool false,.slice none 0 0,.int .i64 0,.int .i64 0,.bool false,.slice none 0 0] 25):=⟨_,rfl⟩;obtain⟨hb0,hz0,hby0⟩:=ij w hw0;have HRD:=ab (h.later hb0);rw [hw0] at HRD;have HW0:=ab hw0;have HBY0:=ab hby0;have hgg:w.grownBy w0 (some g):=gH hb0 _;have hgr:g<w.heap.size:=h.lt;clear hw0 hby0 h;go_enter Tryz.func147,Tryz.ntmps147
     go_wp2_with (go_at_call 144;refine(hZ _ HRD.out).mono ?_)
     rintro e w1 ⟨rfl,hrd1,hq1⟩;rw [←HW0.out] at hq1;have hg1:=gG hgg hq1;have HRD1:=ab hrd1;have HBY1:=ab (gJ HBY0.out hq1 eu);have hz1:=hq1.size;clear hrd1 hq1;go_wp2_with (go_at_call 171;refine(kB _ HNB.out).mono ?_)
     rintro e w2 hq;obtain⟨v,rfl,hb2⟩:=hq;have hg2:=gG hg1 (gH hb2 (some g));have HBY2:=ab ((hb2.block _ (gI HBY1.out)).trans HBY1.out);have HRD2:=ab (HRD1.out.later hb2);go_wp2_with (go_at_call 172;refine(jU _ eB HPM.out).mono ?_)
     rintro e w3 hq;obtain⟨t,rfl,rfl⟩:=hq;obtain⟨f0,f1,f2,f3,f4,f5,f6,f7,f8⟩:=gK (c:=[]) HBY2.out;go_wp2
     refine xE (v:=.tuple #[.agg #[.int .i64 0,.string ⟨[].toArray⟩,.bool false,.slice none 0 0,.int .i64 0,.int .i64 0,.bool false,.slice none 0 0],.int .i64 10]) eH rfl ?_;refine⟨?_,?_⟩
     ·exact bA
     ·exact cF
    | some t =>
     have HR:Hid (Except.ok (chrR t,r1)=R):=ab fz;have HPM:=ab hpm;clear hR hn hbig hpm;obtain⟨w0,hw0⟩:∃w0,w0=w.alloc (.cells #[.int .i64 0,.string ⟨#[]⟩,.bool false,.slice none 0 0,.int .i64 0,.int .i64 0,.bool false,.slice none 0 0] 25):=⟨_,rfl⟩;obtain⟨hb0,hz0,hby0⟩:=ij w hw0;have HRD:=ab (h.later hb0);rw [hw0] at HRD;have HW0:=ab hw0;have HBY0:=ab hby0;have hgg:w.grownBy w0 (some g):=gH hb0 _;have hgr:g<w.heap.size:=h.lt;clear hw0 hby0 h;go_enter Tryz.func147,Tryz.ntmps147
     go_wp2_with (go_at_call 144;refine(hZ _ HRD.out).mono ?_)
     rintro e w1 ⟨rfl,hrd1,hq1⟩;rw [←HW0.out] at hq1;have hg1:=gG hgg hq1;have HRD1:=ab hrd1;have HBY1:=ab (gJ HBY0.out hq1 eu);have hz1:=hq1.size;clear hrd1 hq1;go_wp2_with (go_at_call 171;refine(kB _ HNB.out).mono ?_)
     rintro e w2 hq;obtain⟨v,rfl,hb2⟩:=hq;have hg2:=gG hg1 (gH hb2 (some g));have HBY2:=ab ((hb2.block _ (gI HBY1.out)).trans HBY1.out);have HRD2:=ab (HRD1.out.later hb2);go_wp2_with (go_at_call 172;refine(lB _ eB HPM.out).mono ?_)
     rintro e w3 ⟨rfl,rfl⟩;obtain⟨f0,f1,f2,f3,f4,f5,f6,f7,f8⟩:=gK (c:=[]) HBY2.out;go_wp2
     refine xE (v:=.tuple #[.agg #[.int .i64 2,.string ⟨t.toArray⟩,.bool false,.slice none ([]:List Row).length 0,.int .i64 0,.int .i64 0,.bool false,.slice none ([]:List Rx).length 0],.int .i64 0]) eH rfl ?_;refine⟨?_,?_⟩
     ·exact bA
     rw [←HR.out];refine⟨rxc 2 t false none ([]:List Row).length 0 0 0 false none ([]:List Rx).length 0,rfl,RxV.mono (S:=fun b=>w.heap.size≤b∧b≠w.heap.size) (fun b hb _=>hb.1) ?_,?_⟩
     ·exact aK
     ·exact bP
   | b::b2::t,_,hn =>
    have hne:((t.length:Int)+1+1==1)=false:=by rw [xH];omega
    clear h68 h87 h83;generalize hcc:b::b2::t=cc at *
    have hcl:cc.length=t.length+2:=by rw [←hcc];rfl
    have hne:((cc.length:Int)==1)=false:=by rw [xH];omega
    clear hcc hcl;cases hpm:jx cc with
    | none =>
     have HR:Hid (Except.error 10=R):=ab fz;have HPM:=ab hpm;clear hR hn hbig hpm;obtain⟨w0,hw0⟩:∃w0,w0=w.alloc (.cells #[.int .i64 0,.string ⟨#[]⟩,.bool false,.slice none 0 0,.int .i64 0,.int .i64 0,.bool false,.slice none 0 0] 25):=⟨_,rfl⟩;obtain⟨hb0,hz0,hby0⟩:=ij w hw0;have HRD:=ab (h.later hb0);rw [hw0] at HRD;have HW0:=ab hw0;have HBY0:=ab hby0;have hgg:w.grownBy w0 (some g):=gH hb0 _;have hgr:g<w.heap.size:=h.lt;clear hw0 hby0 h;go_enter Tryz.func147,Tryz.ntmps147
     go_wp2_with (go_at_call 144;refine(hZ _ HRD.out).mono ?_)
     rintro e w1 ⟨rfl,hrd1,hq1⟩;rw [←HW0.out] at hq1;have hg1:=gG hgg hq1;have HRD1:=ab hrd1;have HBY1:=ab (gJ HBY0.out hq1 eu);have hz1:=hq1.size;clear hrd1 hq1;go_wp2_with (go_at_call 172;refine(jU _ eu HPM.out).mono ?_)
     rintro e w3 hq;exact bd
    | some u =>
     have HR:Hid (Except.ok (chrR u,r1)=R):=ab fz;have HPM:=ab hpm;clear hR hn hbig hpm;obtain⟨w0,hw0⟩:∃w0,w0=w.alloc (.cells #[.int .i64 0,.string ⟨#[]⟩,.bool false,.slice none 0 0,.int .i64 0,.int .i64 0,.bool false,.slice none 0 0] 25):=⟨_,rfl⟩;obtain⟨hb0,hz0,hby0⟩:=ij w hw0;have HRD:=ab (h.later hb0);rw [hw0] at HRD;have HW0:=ab hw0;have HBY0:=ab hby0;have hgg:w.grownBy w0 (some g):=gH hb0 _;have hgr:g<w.heap.size:=h.lt;clear hw0 hby0 h;go_enter Tryz.func147,Tryz.ntmps147
     go_wp2_with (go_at_call 144;refine(hZ _ HRD.out).mono ?_)
     rintro e w1 ⟨rfl,hrd1,hq1⟩;rw [←HW0.out] at hq1;have hg1:=gG hgg hq1;have HRD1:=ab hrd1;have HBY1:=ab (gJ HBY0.out hq1 eu);have hz1:=hq1.size;clear hrd1 hq1;go_wp2_with (go_at_call 172;refine(lB _ eu HPM.out).mono ?_)
     rintro e w3 ⟨rfl,rfl⟩;obtain⟨f0,f1,f2,f3,f4,f5,f6,f7,f8⟩:=gK (c:=[]) HBY1.out;go_wp2
     refine xE (v:=.tuple #[.agg #[.int .i64 2,.string ⟨u.toArray⟩,.bool false,.slice none ([]:List Row).length 0,.int .i64 0,.int .i64 0,.bool false,.slice none ([]:List Rx).length 0],.int .i64 0]) eH rfl ?_;refine⟨?_,?_⟩
     ·exact dG
     rw [←HR.out];refine⟨rxc 2 u false none ([]:List Row).length 0 0 0 false none ([]:List Rx).length 0,rfl,RxV.mono (S:=fun b=>w.heap.size≤b∧b≠w.heap.size) (fun b hb _=>hb.1) ?_,?_⟩
     ·exact aK
     ·exact dO
def ItemPost (g d:Nat) (w:World) (R:Option (Str × List Row × List Str)) (e:Ending) (w':World):Prop:=w.grownBy w' (some g)∧match R with
 | none=>e=.returned (.tuple #[.string ⟨#[]⟩,.slice none 0 0,.int .i64 10])∧∃r,Rd w' g r d
 | some (t,rows,r)=>Rd w' g r d∧((rows=[]∧e=.returned (.tuple #[.string ⟨t.toArray⟩,.slice none 0 0,.int .i64 0]))∨(rows≠[]∧∃(a:Addr) (k:Nat),e=.returned (.tuple #[.string ⟨#[]⟩,.slice (some a) rows.length k,.int .i64 0])∧SlS w' (fun x=>w.heap.size≤x) (some a) 2 rows.length (gR rows)))
theorem lZ {c:Str} {rows:List Row} (hn:kl c=some rows):∃b,c=[b]∧j7 b=true∧rows=iz b:=by
 match c,hn with
 | [b],hn =>
  exact cT
 | [],hn=>cases hn
 | b::b2::t,hn=>cases hn
theorem rD {b:UInt8} (hn:kl [b]=none):j7 b=false:=by
 exact dk
theorem uY {b:UInt8} (h:j7 b=true):iz b≠[]:=by
 unfold j7 at h;simp only [xB,wR] at h;rcases h with(rfl|rfl)|rfl<;>decide
theorem i7 {g d:Nat} {r:List Str} (w:World) (h:Rd w g r d) :
  Calls Tryz.prog 170 #[.pointer (some ⟨g,0,none⟩)] w fun e w'=>ItemPost g d w (mq r) e w':=by
 obtain⟨R,hR⟩:∃R,mq r=R:=⟨_,rfl⟩;rw [hR];have HRD:=ab h;have hg0:=il w (some g);cases r with
 | nil =>
  have HR:Hid (none=R):=ab hR;clear hR h;go_enter Tryz.func170,Tryz.ntmps170
  go_wp2_with (go_at_call 144;refine(mm _ HRD.out).mono ?_)
  exact bZ
 | cons c r1 =>
  have hp:=h.pos;by_cases h93:c=[93]
  ·subst h93
   have HR:Hid (none=R):=ab hR;clear hR h;go_enter Tryz.func170,Tryz.ntmps170
   go_wp2_with (go_at_call 144;refine(hZ _ HRD.out).mono ?_)
   exact bZ
  by_cases h92:c=[92]
  ·subst h92
   cases r1 with
   | nil =>
    have HR:Hid (none=R):=ab hR;clear hR h;go_enter Tryz.func170,Tryz.ntmps170
    go_wp2_with (go_at_call 144;refine(hZ _ HRD.out).mono ?_)
    rintro e w1 ⟨rfl,hrd1,hq1⟩;have hg1:=gG hg0 hq1;have HRD1:=ab hrd1;have hz1:=hq1.size;clear hrd1 hq1;go_wp2_with (go_at_call 144;refine(mm _ HRD1.out).mono ?_)
    rintro e w2 ⟨rfl,hrd2,hq2⟩;have hg2:=gG hg1 hq2;have HRD2:=ab hrd2;have hz2:=hq2.size;clear hrd2 hq2;go_wp2_with (go_at_call 172;refine(jU _ eB rfl).mono ?_)
    rintro e w3 hq;exact cV
   | cons c2 r2 =>
    have hp2:c2≠[]∧c2.length≤1000000:=by
     obtain⟨a,k,l,i,_,_,_,_,h5,h6⟩:=h;have h7:=(ig h6).2.2;have:=(ig h7).2.1
     exact h5 c2 (xA this)
    have hR2:(match kl c2 with|some rows=>some ([],rows,r2)|none=>match jx c2 with|none=>none|some t=>some (t,[],r2))=R:=hR;clear h hR;cases hn:kl c2 with
    | some rows =>
     simp only [hn] at hR2;obtain⟨b,rfl,hnb,rfl⟩:=lZ hn;have hne:=uY hnb;have HNE:=ab hne;have HNB:=ab hnb;have HR:=ab hR2;clear hn hR2 hnb hne;go_enter Tryz.func170,Tryz.ntmps170
     go_wp2_with (go_at_call 144;refine(hZ _ HRD.out).mono ?_)
     rintro e w1 ⟨rfl,hrd1,hq1⟩;have hg1:=gG hg0 hq1;have HRD1:=ab hrd1;have hz1:=hq1.size;clear hrd1 hq1;go_wp2_with (go_at_call 144;refine(hZ _ HRD1.out).mono ?_)
     rintro e w2 ⟨rfl,hrd2,hq2⟩;have hg2:=gG hg1 hq2;have HRD2:=ab hrd2;have hz2:=hq2.size;clear hrd2 hq2;go_wp2_with (go_at_call 171;refine(lg _ HNB.out).mono ?_)
     rintro e w3 hq;obtain⟨a,k,rfl,hsl,hb3⟩:=hq;have hg3:=gG hg2 (gH hb3 (some g));have HRD3:=ab (HRD2.out.later hb3);have HSL:=ab hsl;clear hsl;go_wp2
     go_ret3
     exact⟨hg3,by rw [←HR.out];exact⟨HRD3.out,.inr ⟨HNE.out,a,k,rfl,HSL.out.mono fun x hx _=>by omega⟩⟩⟩
    | none =>
     simp only [hn] at hR2;match c2,hp2,hn with
     | [],hp,_=>exact absurd rfl hp.1
     | [b],_,hn =>
      have HNB:=ab (rD hn);clear hn;cases hpm:jx [b] with
      | none =>
       simp only [hpm] at hR2;have HR:=ab hR2;have HPM:=ab hpm;clear hR2 hpm;go_enter Tryz.func170,Tryz.ntmps170
       go_wp2_with (go_at_call 144;refine(hZ _ HRD.out).mono ?_)
       rintro e w1 ⟨rfl,hrd1,hq1⟩;have hg1:=gG hg0 hq1;have HRD1:=ab hrd1;have hz1:=hq1.size;clear hrd1 hq1;go_wp2_with (go_at_call 144;refine(hZ _ HRD1.out).mono ?_)
       rintro e w2 ⟨rfl,hrd2,hq2⟩;have hg2:=gG hg1 hq2;have HRD2:=ab hrd2;have hz2:=hq2.size;clear hrd2 hq2;go_wp2_with (go_at_call 171;refine(kB _ HNB.out).mono ?_)
       rintro e w3 hq;obtain⟨v,rfl,hb3⟩:=hq;have hg3:=gG hg2 (gH hb3 (some g));have HRD3:=ab (HRD2.out.later hb3);go_wp2_with (go_at_call 172;refine(jU _ eB HPM.out).mono ?_)
       rintro e w4 hq;obtain⟨t,rfl,rfl⟩:=hq;go_wp2
       go_ret3
       exact⟨hg3,by rw [←HR.out];exact⟨rfl,_,HRD3.out⟩⟩
      | some t =>
       simp only [hpm] at hR2;have HR:=ab hR2;have HPM:=ab hpm;clear hR2 hpm;go_enter Tryz.func170,Tryz.ntmps170
       go_wp2_with (go_at_call 144;refine(hZ _ HRD.out).mono ?_)
       rintro e w1 ⟨rfl,hrd1,hq1⟩;have hg1:=gG hg0 hq1;have HRD1:=ab hrd1;have hz1:=hq1.size;clear hrd1 hq1;go_wp2_with (go_at_call 144;refine(hZ _ HRD1.out).mono ?_)
       rintro e w2 ⟨rfl,hrd2,hq2⟩;have hg2:=gG hg1 hq2;have HRD2:=ab hrd2;have hz2:=hq2.size;clear hrd2 hq2;go_wp2_with (go_at_call 171;refine(kB _ HNB.out).mono ?_)
       rintro e w3 hq;obtain⟨v,rfl,hb3⟩:=hq;have hg3:=gG hg2 (gH hb3 (some g));have HRD3:=ab (HRD2.out.later hb3);go_wp2_with (go_at_call 172;refine(lB _ eB HPM.out).mono ?_)
       rintro e w4 ⟨rfl,rfl⟩;go_wp2
       go_ret3
       exact⟨hg3,by rw [←HR.out];exact⟨HRD3.out,.inl ⟨rfl,rfl⟩⟩⟩
     | b::b2::t,hp2,hn =>
      have hpl:=hp2.2;generalize hcc:b::b2::t=cc at *
      have hcl:cc.length=t.length+2:=by rw [←hcc];rfl
      have hne:((cc.length:Int)==1)=false:=by rw [xH];omega
      clear hcc hcl hn;cases hpm:jx cc with
      | none =>
       simp only [hpm] at hR2;have HR:=ab hR2;have HPM:=ab hpm;clear hR2 hpm;go_enter Tryz.func170,Tryz.ntmps170
       go_wp2_with (go_at_call 144;refine(hZ _ HRD.out).mono ?_)
       rintro e w1 ⟨rfl,hrd1,hq1⟩;have hg1:=gG hg0 hq1;have HRD1:=ab hrd1;have hz1:=hq1.size;clear hrd1 hq1;go_wp2_with (go_at_call 144;refine(hZ _ HRD1.out).mono ?_)
       rintro e w2 ⟨rfl,hrd2,hq2⟩;have hg2:=gG hg1 hq2;have HRD2:=ab hrd2;have hz2:=hq2.size;clear hrd2 hq2;go_wp2_with (go_at_call 172;refine(jU _ eu HPM.out).mono ?_)
       rintro e w4 hq;exact cV
      | some t =>
       simp only [hpm] at hR2;have HR:=ab hR2;have HPM:=ab hpm;clear hR2 hpm;go_enter Tryz.func170,Tryz.ntmps170
       go_wp2_with (go_at_call 144;refine(hZ _ HRD.out).mono ?_)
       rintro e w1 ⟨rfl,hrd1,hq1⟩;have hg1:=gG hg0 hq1;have HRD1:=ab hrd1;have hz1:=hq1.size;clear hrd1 hq1;go_wp2_with (go_at_call 144;refine(hZ _ HRD1.out).mono ?_)
       rintro e w2 ⟨rfl,hrd2,hq2⟩;have hg2:=gG hg1 hq2;have HRD2:=ab hrd2;have hz2:=hq2.size;clear hrd2 hq2;go_wp2_with (go_at_call 172;refine(lB _ eu HPM.out).mono ?_)
       rintro e w4 ⟨rfl,rfl⟩;go_wp2
       go_ret3
       exact⟨hg2,by rw [←HR.out];exact⟨HRD2.out,.inl ⟨rfl,rfl⟩⟩⟩
  have g93:(c==[93])=false:=xH.2 h93;have g92:(c==[92])=false:=xH.2 h92;have g0:List.isEmpty c=false:=by have:=hp.1;cases c<;>simp at this ⊢
  have HR:Hid (some (c,[],r1)=R):=ab (by rw [←hR];simp [mq,h93,h92]);clear hR h h93 h92;go_enter Tryz.func170,Tryz.ntmps170
  go_wp2_with (go_at_call 144;refine(hZ _ HRD.out).mono ?_)
  rintro e w1 ⟨rfl,hrd1,hq1⟩;have hg1:=gG hg0 hq1;have HRD1:=ab hrd1;have hz1:=hq1.size;clear hrd1 hq1;go_wp2
  go_ret3
  exact⟨hg1,by rw [←HR.out];exact⟨HRD1.out,.inl ⟨rfl,rfl⟩⟩⟩
end Go.Proofs.YtbnkaecmgfolpaaGreat
