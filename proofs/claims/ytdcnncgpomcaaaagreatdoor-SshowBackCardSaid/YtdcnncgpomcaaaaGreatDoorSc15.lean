/- walks of rxread: atom -/
import Derived.Test.YtdcnncgpomcaaaaGreatDoorSc14
set_option maxRecDepth 100000
set_option maxHeartbeats 4000000
namespace Go.Proofs.YtdcnncgpomcaaaaGreatDoor
open Go.RowKit
theorem t7 {n:Nat} (hp:PatC n) {g d:Nat} {r:List Str} (w:World) (h:Rd w g r d) (hl:r.length≤n) (hd:d≤16) :
  Calls Tryz.prog 128 #[.pointer (some ⟨g,0,none⟩)] w fun e w'=>pM g d w.heap.size w (lS (patF n) r d) e w':=by
 obtain⟨R,hR⟩:∃R,lS (patF n) r d=R:=⟨_,rfl⟩;rw [hR];cases r with
 | nil =>
  have HR:Hid (Except.error 10=R):=ab hR;clear hR hp;obtain⟨w0,hw0⟩:∃w0,w0=w.alloc (.cells #[.int .i64 0,.string ⟨#[]⟩,.bool false,.slice none 0 0,.int .i64 0,.int .i64 0,.bool false,.slice none 0 0] 38):=⟨_,rfl⟩;obtain⟨hb0,hz0,hby0⟩:=lC w hw0;have HRD:=ab (h.later hb0);rw [hw0] at HRD;have HW0:=ab hw0;have HBY0:=ab hby0;have hgg:w.grownBy w0 (some g):=kx hb0 _;have hgr:g<w.heap.size:=h.lt;clear hw0 hby0 h;go_enter Tryz.func128,Tryz.ntmps128
  go_wp2_with (go_at_call 132;refine(si _ HRD.out).mono ?_)
  rintro e w1 ⟨rfl,hrd1,hq1⟩;rw [←HW0.out] at hq1;have hg1:=kw hgg hq1;have HRD1:=ab hrd1;have HBY1:=ab (kB HBY0.out hq1 gj);have hz1:=hq1.size;clear hrd1 hq1;obtain⟨f0,f1,f2,f3,f4,f5,f6,f7,f8⟩:=kD (c:=[]) HBY1.out;go_wp2
  refine Ir (v:=.tuple #[.agg #[.int .i64 0,.string ⟨[].toArray⟩,.bool false,.slice none 0 0,.int .i64 0,.int .i64 0,.bool false,.slice none 0 0],.int .i64 10]) gZ rfl ?_;refine⟨?_,?_⟩
  ·exact fq
  ·rw [←HR.out]
   exact fx
 | cons c r1 =>
  have hc:=h.pos.1;have hcl:=h.pos.2;simp only [H7] at hl;by_cases h46:c=[46]
  ·subst h46
   have HR:Hid (Except.ok (rxK 3,r1)=R):=ab hR;clear hR hp;obtain⟨w0,hw0⟩:∃w0,w0=w.alloc (.cells #[.int .i64 0,.string ⟨#[]⟩,.bool false,.slice none 0 0,.int .i64 0,.int .i64 0,.bool false,.slice none 0 0] 38):=⟨_,rfl⟩;obtain⟨hb0,hz0,hby0⟩:=lC w hw0;have HRD:=ab (h.later hb0);rw [hw0] at HRD;have HW0:=ab hw0;have HBY0:=ab hby0;have hgg:w.grownBy w0 (some g):=kx hb0 _;have hgr:g<w.heap.size:=h.lt;clear hw0 hby0 h;go_enter Tryz.func128,Tryz.ntmps128
   go_wp2_with (go_at_call 132;refine(lu _ HRD.out).mono ?_)
   rintro e w1 ⟨rfl,hrd1,hq1⟩;rw [←HW0.out] at hq1;have hg1:=kw hgg hq1;have HRD1:=ab hrd1;have HBY1:=ab (kB HBY0.out hq1 gj);have hz1:=hq1.size;clear hrd1 hq1;obtain⟨f0,f1,f2,f3,f4,f5,f6,f7,f8⟩:=kD (c:=[]) HBY1.out;go_wp2
   refine Ir (v:=.tuple #[.agg #[.int .i64 3,.string ⟨[].toArray⟩,.bool false,.slice none ([]:List Row).length 0,.int .i64 0,.int .i64 0,.bool false,.slice none ([]:List Rx).length 0],.int .i64 0]) gZ rfl ?_;refine⟨?_,?_⟩
   ·exact fq
   rw [←HR.out];refine⟨rxc 3 [] false none ([]:List Row).length 0 0 0 false none ([]:List Rx).length 0,rfl,RxV.mono (S:=fun b=>w.heap.size≤b∧b≠w.heap.size) (fun b hb _=>hb.1) ?_,?_⟩
   ·exact aQ
   ·exact fG
  by_cases h40:c=[40]
  ·subst h40
   have HR:Hid (mw (patF n) r1 d=R):=ab hR;have HP:=ab hp;clear hR hp;obtain⟨w0,hw0⟩:∃w0,w0=w.alloc (.cells #[.int .i64 0,.string ⟨#[]⟩,.bool false,.slice none 0 0,.int .i64 0,.int .i64 0,.bool false,.slice none 0 0] 38):=⟨_,rfl⟩;obtain⟨hb0,hz0,hby0⟩:=lC w hw0;have HRD:=ab (h.later hb0);rw [hw0] at HRD;have HW0:=ab hw0;have HBY0:=ab hby0;have hgg:w.grownBy w0 (some g):=kx hb0 _;have hgr:g<w.heap.size:=h.lt;clear hw0 hby0 h;go_enter Tryz.func128,Tryz.ntmps128
   go_wp2_with (go_at_call 132;refine(lu _ HRD.out).mono ?_)
   rintro e w1 ⟨rfl,hrd1,hq1⟩;rw [←HW0.out] at hq1;have hg1:=kw hgg hq1;have HRD1:=ab hrd1;have HBY1:=ab (kB HBY0.out hq1 gj);have hz1:=hq1.size;clear hrd1 hq1;go_wp2_with (go_at_call 133;refine(Dv HP.out _ HRD1.out gj hd).mono ?_)
   rintro e w2 hq;cases hres:mw (patF n) r1 d with
   | error q =>
    exact aN
   | ok y =>
    exact aC
  by_cases h91:c=[91]
  ·subst h91
   have HR:Hid (mx r1=R):=ab hR;clear hR hp;obtain⟨w0,hw0⟩:∃w0,w0=w.alloc (.cells #[.int .i64 0,.string ⟨#[]⟩,.bool false,.slice none 0 0,.int .i64 0,.int .i64 0,.bool false,.slice none 0 0] 38):=⟨_,rfl⟩;obtain⟨hb0,hz0,hby0⟩:=lC w hw0;have HRD:=ab (h.later hb0);rw [hw0] at HRD;have HW0:=ab hw0;have HBY0:=ab hby0;have hgg:w.grownBy w0 (some g):=kx hb0 _;have hgr:g<w.heap.size:=h.lt;clear hw0 hby0 h;go_enter Tryz.func128,Tryz.ntmps128
   go_wp2_with (go_at_call 132;refine(lu _ HRD.out).mono ?_)
   rintro e w1 ⟨rfl,hrd1,hq1⟩;rw [←HW0.out] at hq1;have hg1:=kw hgg hq1;have HRD1:=ab hrd1;have HBY1:=ab (kB HBY0.out hq1 gj);have hz1:=hq1.size;clear hrd1 hq1;go_wp2_with (go_at_call 134;refine(GA _ HRD1.out).mono ?_)
   rintro e w2 hq;cases hres:mx r1 with
   | error q =>
    exact aN
   | ok y =>
    exact aC
  by_cases h92:c=[92]
  ·subst h92
   have HR:Hid (escM r1=R):=ab hR;clear hR hp;obtain⟨w0,hw0⟩:∃w0,w0=w.alloc (.cells #[.int .i64 0,.string ⟨#[]⟩,.bool false,.slice none 0 0,.int .i64 0,.int .i64 0,.bool false,.slice none 0 0] 38):=⟨_,rfl⟩;obtain⟨hb0,hz0,hby0⟩:=lC w hw0;have HRD:=ab (h.later hb0);rw [hw0] at HRD;have HW0:=ab hw0;have HBY0:=ab hby0;have hgg:w.grownBy w0 (some g):=kx hb0 _;have hgr:g<w.heap.size:=h.lt;clear hw0 hby0 h;go_enter Tryz.func128,Tryz.ntmps128
   go_wp2_with (go_at_call 132;refine(lu _ HRD.out).mono ?_)
   rintro e w1 ⟨rfl,hrd1,hq1⟩;rw [←HW0.out] at hq1;have hg1:=kw hgg hq1;have HRD1:=ab hrd1;have HBY1:=ab (kB HBY0.out hq1 gj);have hz1:=hq1.size;clear hrd1 hq1;go_wp2_with (go_at_call 135;refine(A5 _ HRD1.out).mono ?_)
   rintro e w2 hq;cases hres:escM r1 with
   | error q =>
    exact aN
   | ok y =>
    exact aC
  have g46:(c==[46])=false:=Iu.2 h46;have g40:(c==[40])=false:=Iu.2 h40;have g91:(c==[91])=false:=Iu.2 h91;have g92:(c==[92])=false:=Iu.2 h92;have g0:List.isEmpty c=false:=by cases c<;>simp at hc ⊢
  by_cases h42:c=[42]
  ·subst h42
   exact ak
  have g42:(c==[42])=false:=Iu.2 h42;by_cases h43:c=[43]
  ·subst h43
   exact ak
  have g43:(c==[43])=false:=Iu.2 h43;by_cases h63:c=[63]
  ·subst h63
   exact ak
  have g63:(c==[63])=false:=Iu.2 h63;by_cases h41:c=[41]
  ·subst h41
   exact ak
  have g41:(c==[41])=false:=Iu.2 h41;by_cases h123:c=[123]
  ·subst h123
   exact ak
  have g123:(c==[123])=false:=Iu.2 h123;by_cases h124:c=[124]
  ·subst h124
   exact ak
  have g124:(c==[124])=false:=Iu.2 h124;by_cases h94:c=[94]
  ·subst h94
   exact ak
  have g94:(c==[94])=false:=Iu.2 h94;by_cases h36:c=[36]
  ·subst h36
   exact ak
  have g36:(c==[36])=false:=Iu.2 h36;have HR:Hid (Except.ok (chrR c,r1)=R):=ab (by rw [←hR];simp [lS,ql,h46,h40,h91,h92,h42,h43,h63,h41,h123,h124,h94,h36]);clear hR hp hl h46 h40 h91 h92 h42 h43 h63 h41 h123 h124 h94 h36 hc;obtain⟨w0,hw0⟩:∃w0,w0=w.alloc (.cells #[.int .i64 0,.string ⟨#[]⟩,.bool false,.slice none 0 0,.int .i64 0,.int .i64 0,.bool false,.slice none 0 0] 38):=⟨_,rfl⟩;obtain⟨hb0,hz0,hby0⟩:=lC w hw0;have HRD:=ab (h.later hb0);rw [hw0] at HRD;have HW0:=ab hw0;have HBY0:=ab hby0;have hgg:w.grownBy w0 (some g):=kx hb0 _;have hgr:g<w.heap.size:=h.lt;clear hw0 hby0 h;go_enter Tryz.func128,Tryz.ntmps128
  go_wp2_with (go_at_call 132;refine(lu _ HRD.out).mono ?_)
  rintro e w1 ⟨rfl,hrd1,hq1⟩;rw [←HW0.out] at hq1;have hg1:=kw hgg hq1;have HRD1:=ab hrd1;have HBY1:=ab (kB HBY0.out hq1 gj);have hz1:=hq1.size;clear hrd1 hq1;obtain⟨f0,f1,f2,f3,f4,f5,f6,f7,f8⟩:=kD (c:=[]) HBY1.out;go_wp2
  refine Ir (v:=.tuple #[.agg #[.int .i64 2,.string ⟨c.toArray⟩,.bool false,.slice none ([]:List Row).length 0,.int .i64 0,.int .i64 0,.bool false,.slice none ([]:List Rx).length 0],.int .i64 0]) gZ rfl ?_;refine⟨?_,?_⟩
  ·exact fq
  rw [←HR.out];refine⟨rxc 2 c false none ([]:List Row).length 0 0 0 false none ([]:List Rx).length 0,rfl,RxV.mono (S:=fun b=>w.heap.size≤b∧b≠w.heap.size) (fun b hb _=>hb.1) ?_,?_⟩
  ·exact aQ
  ·exact fG
end Go.Proofs.YtdcnncgpomcaaaaGreatDoor
