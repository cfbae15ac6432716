/- walk of rxread: class -/
import Derived.Test.YtjggmmaojklmpaaGreatLb15
set_option maxRecDepth 100000
set_option maxHeartbeats 4000000
namespace Go.Proofs.YtjggmmaojklmpaaGreat
open Go.RowKit
theorem kq {w w':World} {B g:Nat} {e:TypeId} {sz:Nat} {v:Value} {n:Nat} {xs:List Value} (h:w.ownsRow B e sz v n xs) (hg:w.grownBy w' (some g)) (hB:g<B):w'.ownsRow B e sz v n xs:=by
 refine⟨h.1,?_⟩;rcases h.2 with h0|⟨b,cap,cur,rfl,h1,h2,h3⟩
 ·exact .inl h0
 ·exact .inr ⟨b,cap,cur,rfl,h1,jQ h2 hg gu,h3⟩
def UnionRes (us:List Row) (w:World) (e:Ending) (w':World):Prop:=∃(a:Option Addr) (c:Nat),e=.returned (.slice a us.length c)∧SlS w' (fun b=>w.heap.size≤b) a 2 us.length (jX us)∧Below w.heap.size w w'
theorem uE {B:Nat} (a:Option Addr) (n c:Nat) (rs:List Row) (w:World) (h:w.ownsRow B 72 2 (.slice a n c) n (jX rs)) (_hn:n≤10000000) (hlen:∀r∈rs,r.1.length≤1000000∧r.2.length≤1000000) (hn2:n≤1000000) :
  Calls Tryz.prog 166 #[.slice a n c] w fun e w'=>UnionRes (mq rs) w e w' :=
 (AF (fun B g cap N rs w h1 h2 h3=>sC B g cap N rs w h1 h2 h3) a n c rs w (Sl.of_own h) hn2 fun r hr=>by have:=hlen r hr;omega)
theorem mT {w w4 w5:World} {g B:Nat} (h:w.grownBy w4 (some g)) (hb:Below B w4 w5) (hB:w.heap.size≤B):w.grownBy w5 (some g) :=
 ⟨hb.os.trans h.os,hb.tape.trans h.tape,hb.output.trans h.output,Ct h.size hb.size,fun k hk hne=>(hb.block k gu).trans (h.block k hk hne)⟩
theorem qU {rows nm:List Row} (h1:∀q∈rows,q.1.length≤1000000∧q.2.length≤1000000) (h2:∀q∈nm,q.1.length≤1000000∧q.2.length≤1000000):∀q∈rows++nm,q.1.length≤1000000∧q.2.length≤1000000:=by
 intro q hq;rcases CI.1 hq with h|h
 ·exact h1 q h
 ·exact h2 q h
theorem Am {g d:Nat} {r r0:List Str} (w:World) (h:Rd w g r d) (hng:kG [94] r=some r0) :
  Calls Tryz.prog 140 #[.pointer (some ⟨g,0,none⟩)] w fun e w'=>nI g d w.heap.size w (mN r) e w':=by
 obtain⟨R,hR⟩:∃R,mN r=R:=⟨_,rfl⟩;rw [hR];unfold mN at hR;obtain⟨R0,hR0⟩:∃R0,lc (r0.length+1) [] r0=R0:=⟨_,rfl⟩;simp only [hng,Option.isSome_some,Option.getD_some,hR0] at hR;have HNG:=ab hng;have HR0:=ab hR0;have HR:=ab hR;have hok0:=h.ok;clear hng hR0 hR;have hr0:r0.length≤200000:=by
  have e:=lM HNG.out;have:=hok0.2
  rw [e] at this;simp at this;omega
 clear hok0;obtain⟨w0,hw0⟩:∃w0,w0=w.alloc (.cells #[.int .i64 0,.string ⟨#[]⟩,.bool false,.slice none 0 0,.int .i64 0,.int .i64 0,.bool false,.slice none 0 0] 25):=⟨_,rfl⟩;obtain⟨hb0,hz0,hby0⟩:=kB w hw0;have HRD:=ab (h.later hb0);rw [hw0] at HRD;have HW0:=ab hw0;have HBY0:=ab hby0;have hgg:w.grownBy w0 (some g):=jN hb0 _;have hgr:g<w.heap.size:=h.lt;clear hw0 hby0 h;go_enter Tryz.func140,Tryz.ntmps140
 go_wp2_with (go_at_call 143;refine(kI _ HRD.out HNG.out).mono ?_)
 rintro e w1 ⟨rfl,hrd1,hq1⟩;rw [←HW0.out] at hq1;have hg1:=jM hgg hq1;have HBY1:=ab (jQ HBY0.out hq1 gu);have hz1:=hq1.size;clear HRD hq1;obtain⟨w2,hw2⟩:∃w2,w2=w1.alloc (.cells #[.int .i64 4,.string ⟨#[]⟩,.bool true,.slice none 0 0,.int .i64 0,.int .i64 0,.bool false,.slice none 0 0] 25):=⟨_,rfl⟩;obtain⟨hb2,hz2e,hbx2⟩:=kB w1 hw2;have hz2:w1.heap.size+1≤w2.heap.size:=gu;clear hz2e;have HRD2:=ab (hrd1.later hb2);have HBY2:=ab ((hb2.block _ (jO HBY1.out)).trans HBY1.out);have HBX2:=ab hbx2;have hg2:=jM hg1 (jN hb2 (some g));clear hrd1 hbx2;go_wp2_with fail
 rw [←hw2];clear hw2;go_loopg [5] (r0.length+1) (fun n v wr=>ClsRel g d w2.heap.size (4*r0.length) w2 R0 n v wr)
 case atStart=>exact ei
 case round =>
  clear HR0 HRD2;obtain⟨rows,r,hown,hrd,hg,hL,hn,hrl,HF⟩:=hrel;obtain⟨hok,hrlen⟩:=hrd.ok;obtain⟨n,rfl⟩:∃n',gk=n'+1:=⟨gk-1,by omega⟩;have HRD:=ab hrd;have hzr:=hg.size;cases ht:kG [93] r with
  | some r1 =>
   have HF2:Hid (some (rows,r1)=R0):=ab (by rw [←HF.out];simp only [lc,ht]);have HT:=ab ht;have HOWN:=ab hown;have HRL:=ab hrl;clear HF ht hrd hown hrl hok;go_wp2_with (go_at_call 143;refine(kI _ HRD.out HT.out).mono ?_)
   rintro e w3 ⟨rfl,hrd3,hq3⟩;have hgr3:=jM hg hq3;have hgw3:=jM hg2 hgr3;have hby3:=jQ HBY2.out hgr3 gu;have hbx3:=jQ HBX2.out hgr3 gu;have hown3:=kq HOWN.out hq3 gu;obtain⟨va,vc,rfl⟩:=j7 hown3;have HUN:=ab (uE va rows.length vc rows w3 hown3 gu HRL.out gu);have HRD3:=ab hrd3;have HBY3:=ab hby3;have HBX3:=ab hbx3;have hz3:=hgr3.size;clear hrd3 hq3 hgr3 hby3 hbx3 hown3 HOWN HRL;go_wp2_with (go_at_call 166;refine HUN.out.mono ?_)
   rintro e w4 hq4;obtain⟨ua,uc,rfl,hus,hb4⟩:=hq4;have hgw4:=jM hgw3 (jN hb4 (some g));have hby4:=(hb4.block _ (jO HBY3.out)).trans HBY3.out;have hbx4:=(hb4.block _ (jO HBX3.out)).trans HBX3.out;have HRD4:=ab (HRD3.out.later hb4);have HR2:Hid (Except.ok (setR (mq rows) true,r1)=R):=ab iJ;have HR:=HR2;have hz4:=hb4.size;obtain⟨f0,f1,f2,f3,f4,f5,f6,f7,f8⟩:=jR (c:=[]) hby4;obtain⟨e0,e1,e2,e3,e4,e5,e6,e7,e8⟩:=jR (c:=[]) hbx4;have HUS:=ab (RxV.close (k:=4) (c:=[]) (ng:=true) (lo:=0) (hi:=0) (lz:=false) (rc:=uc) (ka:=none) (kc:=0) (ks:=[]) (hus.mono (S':=fun b=>w.heap.size≤b∧b≠w.heap.size∧b≠w1.heap.size) fun x hx _=>by omega) ⟨[],SlS.none_ _ _ _ _,.nil⟩);clear hby4 hbx4 hus;go_wp2
   refine CJ (v:=.tuple #[.agg #[.int .i64 4,.string ⟨[].toArray⟩,.bool true,.slice ua (mq rows).length uc,.int .i64 0,.int .i64 0,.bool false,.slice none ([]:List Rx).length 0],.int .i64 0]) gP rfl ?_;refine⟨?_,?_⟩
   ·exact ez
   rw [←HR.out];refine⟨rxc 4 [] true ua (mq rows).length uc 0 0 false none ([]:List Rx).length 0,rfl,RxV.mono (S:=fun b=>w.heap.size≤b∧b≠w.heap.size∧b≠w1.heap.size) (fun b hb _=>hb.1) ?_,?_⟩
   ·exact cX
   ·exact ey
  | none =>
   exact eN
theorem Ae {g d:Nat} {r r0:List Str} (w:World) (h:Rd w g r d) (hng:kG [94] r=none∧r0=r) :
  Calls Tryz.prog 140 #[.pointer (some ⟨g,0,none⟩)] w fun e w'=>nI g d w.heap.size w (mN r) e w':=by
 obtain⟨R,hR⟩:∃R,mN r=R:=⟨_,rfl⟩;rw [hR];obtain⟨hng,rfl⟩:=hng;unfold mN at hR;obtain⟨R0,hR0⟩:∃R0,lc (r0.length+1) [] r0=R0:=⟨_,rfl⟩;simp only [hng,Option.isSome_none,Option.getD_none,hR0] at hR;have HNG:=ab hng;have HR0:=ab hR0;have HR:=ab hR;have hok0:=h.ok;clear hng hR0 hR;have hr0:r0.length≤200000:=by
  exact hok0.2
 clear hok0;obtain⟨w0,hw0⟩:∃w0,w0=w.alloc (.cells #[.int .i64 0,.string ⟨#[]⟩,.bool false,.slice none 0 0,.int .i64 0,.int .i64 0,.bool false,.slice none 0 0] 25):=⟨_,rfl⟩;obtain⟨hb0,hz0,hby0⟩:=kB w hw0;have HRD:=ab (h.later hb0);rw [hw0] at HRD;have HW0:=ab hw0;have HBY0:=ab hby0;have hgg:w.grownBy w0 (some g):=jN hb0 _;have hgr:g<w.heap.size:=h.lt;clear hw0 hby0 h;go_enter Tryz.func140,Tryz.ntmps140
 go_wp2_with (go_at_call 143;refine(kj _ HRD.out HNG.out gF).mono ?_)
 rintro e w1 ⟨rfl,hrd1,hq1⟩;rw [←HW0.out] at hq1;have hg1:=jM hgg hq1;have HBY1:=ab (jQ HBY0.out hq1 gu);have hz1:=hq1.size;clear HRD hq1;obtain⟨w2,hw2⟩:∃w2,w2=w1.alloc (.cells #[.int .i64 4,.string ⟨#[]⟩,.bool false,.slice none 0 0,.int .i64 0,.int .i64 0,.bool false,.slice none 0 0] 25):=⟨_,rfl⟩;obtain⟨hb2,hz2e,hbx2⟩:=kB w1 hw2;have hz2:w1.heap.size+1≤w2.heap.size:=gu;clear hz2e;have HRD2:=ab (hrd1.later hb2);have HBY2:=ab ((hb2.block _ (jO HBY1.out)).trans HBY1.out);have HBX2:=ab hbx2;have hg2:=jM hg1 (jN hb2 (some g));clear hrd1 hbx2;go_wp2_with fail
 rw [←hw2];clear hw2;go_loopg [5] (r0.length+1) (fun n v wr=>ClsRel g d w2.heap.size (4*r0.length) w2 R0 n v wr)
 case atStart=>exact ei
 case round =>
  clear HR0 HRD2;obtain⟨rows,r,hown,hrd,hg,hL,hn,hrl,HF⟩:=hrel;obtain⟨hok,hrlen⟩:=hrd.ok;obtain⟨n,rfl⟩:∃n',gk=n'+1:=⟨gk-1,by omega⟩;have HRD:=ab hrd;have hzr:=hg.size;cases ht:kG [93] r with
  | some r1 =>
   have HF2:Hid (some (rows,r1)=R0):=ab (by rw [←HF.out];simp only [lc,ht]);have HT:=ab ht;have HOWN:=ab hown;have HRL:=ab hrl;clear HF ht hrd hown hrl hok;go_wp2_with (go_at_call 143;refine(kI _ HRD.out HT.out).mono ?_)
   rintro e w3 ⟨rfl,hrd3,hq3⟩;have hgr3:=jM hg hq3;have hgw3:=jM hg2 hgr3;have hby3:=jQ HBY2.out hgr3 gu;have hbx3:=jQ HBX2.out hgr3 gu;have hown3:=kq HOWN.out hq3 gu;obtain⟨va,vc,rfl⟩:=j7 hown3;have HUN:=ab (uE va rows.length vc rows w3 hown3 gu HRL.out gu);have HRD3:=ab hrd3;have HBY3:=ab hby3;have HBX3:=ab hbx3;have hz3:=hgr3.size;clear hrd3 hq3 hgr3 hby3 hbx3 hown3 HOWN HRL;go_wp2_with (go_at_call 166;refine HUN.out.mono ?_)
   rintro e w4 hq4;obtain⟨ua,uc,rfl,hus,hb4⟩:=hq4;have hgw4:=jM hgw3 (jN hb4 (some g));have hby4:=(hb4.block _ (jO HBY3.out)).trans HBY3.out;have hbx4:=(hb4.block _ (jO HBX3.out)).trans HBX3.out;have HRD4:=ab (HRD3.out.later hb4);have HR2:Hid (Except.ok (setR (mq rows) false,r1)=R):=ab iJ;have HR:=HR2;have hz4:=hb4.size;obtain⟨f0,f1,f2,f3,f4,f5,f6,f7,f8⟩:=jR (c:=[]) hby4;obtain⟨e0,e1,e2,e3,e4,e5,e6,e7,e8⟩:=jR (c:=[]) hbx4;have HUS:=ab (RxV.close (k:=4) (c:=[]) (ng:=false) (lo:=0) (hi:=0) (lz:=false) (rc:=uc) (ka:=none) (kc:=0) (ks:=[]) (hus.mono (S':=fun b=>w.heap.size≤b∧b≠w.heap.size∧b≠w1.heap.size) fun x hx _=>by omega) ⟨[],SlS.none_ _ _ _ _,.nil⟩);clear hby4 hbx4 hus;go_wp2
   refine CJ (v:=.tuple #[.agg #[.int .i64 4,.string ⟨[].toArray⟩,.bool false,.slice ua (mq rows).length uc,.int .i64 0,.int .i64 0,.bool false,.slice none ([]:List Rx).length 0],.int .i64 0]) gP rfl ?_;refine⟨?_,?_⟩
   ·exact ez
   rw [←HR.out];refine⟨rxc 4 [] false ua (mq rows).length uc 0 0 false none ([]:List Rx).length 0,rfl,RxV.mono (S:=fun b=>w.heap.size≤b∧b≠w.heap.size∧b≠w1.heap.size) (fun b hb _=>hb.1) ?_,?_⟩
   ·exact cX
   ·exact ey
  | none =>
   exact eN
theorem Cd {g d:Nat} {r:List Str} (w:World) (h:Rd w g r d) :
  Calls Tryz.prog 140 #[.pointer (some ⟨g,0,none⟩)] w fun e w'=>nI g d w.heap.size w (mN r) e w':=by
 cases hng:kG [94] r with
 | some r0=>exact Am w h hng
 | none=>exact Ae w h ⟨hng,rfl⟩
end Go.Proofs.YtjggmmaojklmpaaGreat
