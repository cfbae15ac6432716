/- walks of rxread: atom -/
import Derived.Test.YtdcnncgpomcaaaaGreatDoorRc14
set_option maxRecDepth 100000
set_option maxHeartbeats 4000000
namespace Go.Proofs.YtdcnncgpomcaaaaGreatDoor
open Go.RowKit
theorem vb {n:Nat} (hp:PatC n) {g d:Nat} {r:List Str} (w:World) (h:Rd w g r d) (hl:r.length≤n) (hd:d≤16) :
  Calls Tryz.prog 128 #[.pointer (some ⟨g,0,none⟩)] w fun e w'=>qF g d w.heap.size w (mj (patF n) r d) e w':=by
 obtain⟨R,hR⟩:∃R,mj (patF n) r d=R:=⟨_,rfl⟩;rw [hR];cases r with
 | nil =>
  have HR:Hid (Except.error 10=R):=ab hR;clear hR hp;obtain⟨w0,hw0⟩:∃w0,w0=w.alloc (.cells #[.int .i64 0,.string ⟨#[]⟩,.bool false,.slice none 0 0,.int .i64 0,.int .i64 0,.bool false,.slice none 0 0] 38):=⟨_,rfl⟩;obtain⟨hb0,hz0,hby0⟩:=lY w hw0;have HRD:=ab (h.later hb0);rw [hw0] at HRD;have HW0:=ab hw0;have HBY0:=ab hby0;have hgg:w.grownBy w0 (some g):=kS hb0 _;have hgr:g<w.heap.size:=h.lt;clear hw0 hby0 h;go_enter Tryz.func128,Tryz.ntmps128
  go_wp2_with (go_at_call 132;refine(tp _ HRD.out).mono ?_)
  rintro e w1 ⟨rfl,hrd1,hq1⟩;rw [←HW0.out] at hq1;have hg1:=kR hgg hq1;have HRD1:=ab hrd1;have HBY1:=ab (kW HBY0.out hq1 gN);have hz1:=hq1.size;clear hrd1 hq1;obtain⟨f0,f1,f2,f3,f4,f5,f6,f7,f8⟩:=kY (c:=[]) HBY1.out;go_wp2
  refine JM (v:=.tuple #[.agg #[.int .i64 0,.string ⟨[].toArray⟩,.bool false,.slice none 0 0,.int .i64 0,.int .i64 0,.bool false,.slice none 0 0],.int .i64 10]) iw rfl ?_;refine⟨?_,?_⟩
  ·exact fJ
  ·rw [←HR.out]
   exact fM
 | cons c r1 =>
  have hc:=h.pos.1;have hcl:=h.pos.2;simp only [Jr] at hl;by_cases h46:c=[46]
  ·subst h46
   have HR:Hid (Except.ok (rxK 3,r1)=R):=ab hR;clear hR hp;obtain⟨w0,hw0⟩:∃w0,w0=w.alloc (.cells #[.int .i64 0,.string ⟨#[]⟩,.bool false,.slice none 0 0,.int .i64 0,.int .i64 0,.bool false,.slice none 0 0] 38):=⟨_,rfl⟩;obtain⟨hb0,hz0,hby0⟩:=lY w hw0;have HRD:=ab (h.later hb0);rw [hw0] at HRD;have HW0:=ab hw0;have HBY0:=ab hby0;have hgg:w.grownBy w0 (some g):=kS hb0 _;have hgr:g<w.heap.size:=h.lt;clear hw0 hby0 h;go_enter Tryz.func128,Tryz.ntmps128
   go_wp2_with (go_at_call 132;refine(lS _ HRD.out).mono ?_)
   rintro e w1 ⟨rfl,hrd1,hq1⟩;rw [←HW0.out] at hq1;have hg1:=kR hgg hq1;have HRD1:=ab hrd1;have HBY1:=ab (kW HBY0.out hq1 gN);have hz1:=hq1.size;clear hrd1 hq1;obtain⟨f0,f1,f2,f3,f4,f5,f6,f7,f8⟩:=kY (c:=[]) HBY1.out;go_wp2
   refine JM (v:=.tuple #[.agg #[.int .i64 3,.string ⟨[].toArray⟩,.bool false,.slice none ([]:List Row).length 0,.int .i64 0,.int .i64 0,.bool false,.slice none ([]:List Rx).length 0],.int .i64 0]) iw rfl ?_;refine⟨?_,?_⟩
   ·exact fJ
   rw [←HR.out];refine⟨rxc 3 [] false none ([]:List Row).length 0 0 0 false none ([]:List Rx).length 0,rfl,RxV.mono (S:=fun b=>w.heap.size≤b∧b≠w.heap.size) (fun b hb _=>hb.1) ?_,?_⟩
   ·exact aP
   ·exact fV
  by_cases h40:c=[40]
  ·subst h40
   have HR:Hid (mZ (patF n) r1 d=R):=ab hR;have HP:=ab hp;clear hR hp;obtain⟨w0,hw0⟩:∃w0,w0=w.alloc (.cells #[.int .i64 0,.string ⟨#[]⟩,.bool false,.slice none 0 0,.int .i64 0,.int .i64 0,.bool false,.slice none 0 0] 38):=⟨_,rfl⟩;obtain⟨hb0,hz0,hby0⟩:=lY w hw0;have HRD:=ab (h.later hb0);rw [hw0] at HRD;have HW0:=ab hw0;have HBY0:=ab hby0;have hgg:w.grownBy w0 (some g):=kS hb0 _;have hgr:g<w.heap.size:=h.lt;clear hw0 hby0 h;go_enter Tryz.func128,Tryz.ntmps128
   go_wp2_with (go_at_call 132;refine(lS _ HRD.out).mono ?_)
   rintro e w1 ⟨rfl,hrd1,hq1⟩;rw [←HW0.out] at hq1;have hg1:=kR hgg hq1;have HRD1:=ab hrd1;have HBY1:=ab (kW HBY0.out hq1 gN);have hz1:=hq1.size;clear hrd1 hq1;go_wp2_with (go_at_call 133;refine(FT HP.out _ HRD1.out gN hd).mono ?_)
   rintro e w2 hq;cases hres:mZ (patF n) r1 d with
   | error q =>
    exact aN
   | ok y =>
    exact aC
  by_cases h91:c=[91]
  ·subst h91
   have HR:Hid (mY r1=R):=ab hR;clear hR hp;obtain⟨w0,hw0⟩:∃w0,w0=w.alloc (.cells #[.int .i64 0,.string ⟨#[]⟩,.bool false,.slice none 0 0,.int .i64 0,.int .i64 0,.bool false,.slice none 0 0] 38):=⟨_,rfl⟩;obtain⟨hb0,hz0,hby0⟩:=lY w hw0;have HRD:=ab (h.later hb0);rw [hw0] at HRD;have HW0:=ab hw0;have HBY0:=ab hby0;have hgg:w.grownBy w0 (some g):=kS hb0 _;have hgr:g<w.heap.size:=h.lt;clear hw0 hby0 h;go_enter Tryz.func128,Tryz.ntmps128
   go_wp2_with (go_at_call 132;refine(lS _ HRD.out).mono ?_)
   rintro e w1 ⟨rfl,hrd1,hq1⟩;rw [←HW0.out] at hq1;have hg1:=kR hgg hq1;have HRD1:=ab hrd1;have HBY1:=ab (kW HBY0.out hq1 gN);have hz1:=hq1.size;clear hrd1 hq1;go_wp2_with (go_at_call 134;refine(Gu _ HRD1.out).mono ?_)
   rintro e w2 hq;cases hres:mY r1 with
   | error q =>
    exact aN
   | ok y =>
    exact aC
  by_cases h92:c=[92]
  ·subst h92
   have HR:Hid (escM r1=R):=ab hR;clear hR hp;obtain⟨w0,hw0⟩:∃w0,w0=w.alloc (.cells #[.int .i64 0,.string ⟨#[]⟩,.bool false,.slice none 0 0,.int .i64 0,.int .i64 0,.bool false,.slice none 0 0] 38):=⟨_,rfl⟩;obtain⟨hb0,hz0,hby0⟩:=lY w hw0;have HRD:=ab (h.later hb0);rw [hw0] at HRD;have HW0:=ab hw0;have HBY0:=ab hby0;have hgg:w.grownBy w0 (some g):=kS hb0 _;have hgr:g<w.heap.size:=h.lt;clear hw0 hby0 h;go_enter Tryz.func128,Tryz.ntmps128
   go_wp2_with (go_at_call 132;refine(lS _ HRD.out).mono ?_)
   rintro e w1 ⟨rfl,hrd1,hq1⟩;rw [←HW0.out] at hq1;have hg1:=kR hgg hq1;have HRD1:=ab hrd1;have HBY1:=ab (kW HBY0.out hq1 gN);have hz1:=hq1.size;clear hrd1 hq1;go_wp2_with (go_at_call 135;refine(CH _ HRD1.out).mono ?_)
   rintro e w2 hq;cases hres:escM r1 with
   | error q =>
    exact aN
   | ok y =>
    exact aC
  have g46:(c==[46])=false:=JP.2 h46;have g40:(c==[40])=false:=JP.2 h40;have g91:(c==[91])=false:=JP.2 h91;have g92:(c==[92])=false:=JP.2 h92;have g0:List.isEmpty c=false:=by cases c<;>simp at hc ⊢
  by_cases h42:c=[42]
  ·subst h42
   exact aj
  have g42:(c==[42])=false:=JP.2 h42;by_cases h43:c=[43]
  ·subst h43
   exact aj
  have g43:(c==[43])=false:=JP.2 h43;by_cases h63:c=[63]
  ·subst h63
   exact aj
  have g63:(c==[63])=false:=JP.2 h63;by_cases h41:c=[41]
  ·subst h41
   exact aj
  have g41:(c==[41])=false:=JP.2 h41;by_cases h123:c=[123]
  ·subst h123
   exact aj
  have g123:(c==[123])=false:=JP.2 h123;by_cases h124:c=[124]
  ·subst h124
   exact aj
  have g124:(c==[124])=false:=JP.2 h124;by_cases h94:c=[94]
  ·subst h94
   exact aj
  have g94:(c==[94])=false:=JP.2 h94;by_cases h36:c=[36]
  ·subst h36
   exact aj
  have g36:(c==[36])=false:=JP.2 h36;have HR:Hid (Except.ok (chrR c,r1)=R):=ab (by rw [←hR];simp [mj,qZ,h46,h40,h91,h92,h42,h43,h63,h41,h123,h124,h94,h36]);clear hR hp hl h46 h40 h91 h92 h42 h43 h63 h41 h123 h124 h94 h36 hc;obtain⟨w0,hw0⟩:∃w0,w0=w.alloc (.cells #[.int .i64 0,.string ⟨#[]⟩,.bool false,.slice none 0 0,.int .i64 0,.int .i64 0,.bool false,.slice none 0 0] 38):=⟨_,rfl⟩;obtain⟨hb0,hz0,hby0⟩:=lY w hw0;have HRD:=ab (h.later hb0);rw [hw0] at HRD;have HW0:=ab hw0;have HBY0:=ab hby0;have hgg:w.grownBy w0 (some g):=kS hb0 _;have hgr:g<w.heap.size:=h.lt;clear hw0 hby0 h;go_enter Tryz.func128,Tryz.ntmps128
  go_wp2_with (go_at_call 132;refine(lS _ HRD.out).mono ?_)
  rintro e w1 ⟨rfl,hrd1,hq1⟩;rw [←HW0.out] at hq1;have hg1:=kR hgg hq1;have HRD1:=ab hrd1;have HBY1:=ab (kW HBY0.out hq1 gN);have hz1:=hq1.size;clear hrd1 hq1;obtain⟨f0,f1,f2,f3,f4,f5,f6,f7,f8⟩:=kY (c:=[]) HBY1.out;go_wp2
  refine JM (v:=.tuple #[.agg #[.int .i64 2,.string ⟨c.toArray⟩,.bool false,.slice none ([]:List Row).length 0,.int .i64 0,.int .i64 0,.bool false,.slice none ([]:List Rx).length 0],.int .i64 0]) iw rfl ?_;refine⟨?_,?_⟩
  ·exact fJ
  rw [←HR.out];refine⟨rxc 2 c false none ([]:List Row).length 0 0 0 false none ([]:List Rx).length 0,rfl,RxV.mono (S:=fun b=>w.heap.size≤b∧b≠w.heap.size) (fun b hb _=>hb.1) ?_,?_⟩
  ·exact aP
  ·exact fV
end Go.Proofs.YtdcnncgpomcaaaaGreatDoor
