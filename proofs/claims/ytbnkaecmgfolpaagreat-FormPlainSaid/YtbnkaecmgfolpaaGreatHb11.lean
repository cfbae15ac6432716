/- walk of rxread: class -/
import Derived.Test.YtbnkaecmgfolpaaGreatHb10
set_option maxRecDepth 100000
set_option maxHeartbeats 4000000
namespace Go.Proofs.YtbnkaecmgfolpaaGreat
open Go.RowKit
theorem jg {w w':World} {B g:Nat} {e:TypeId} {sz:Nat} {v:Value} {n:Nat} {xs:List Value} (h:w.ownsRow B e sz v n xs) (hg:w.grownBy w' (some g)) (hB:g<B):w'.ownsRow B e sz v n xs:=by
 refine⟨h.1,?_⟩;rcases h.2 with h0|⟨b,cap,cur,rfl,h1,h2,h3⟩
 ·exact .inl h0
 ·exact .inr ⟨b,cap,cur,rfl,h1,iO h2 hg fg,h3⟩
def UnionRes (us:List Row) (w:World) (e:Ending) (w':World):Prop:=∃(a:Option Addr) (c:Nat),e=.returned (.slice a us.length c)∧SlS w' (fun b=>w.heap.size≤b) a 2 us.length (iY us)∧Below w.heap.size w w'
theorem tI {B:Nat} (a:Option Addr) (n c:Nat) (rs:List Row) (w:World) (h:w.ownsRow B 58 2 (.slice a n c) n (iY rs)) (_hn:n≤10000000) (hlen:∀r∈rs,r.1.length≤1000000∧r.2.length≤1000000) (hn2:n≤1000000) :
  Calls Tryz.prog 24 #[.slice a n c] w fun e w'=>UnionRes (kG rs) w e w' :=
 (yW (fun B g cap N rs w h1 h2 h3=>qU B g cap N rs w h1 h2 h3) a n c rs w (Sl.of_own h) hn2 fun r hr=>by have:=hlen r hr;omega)
theorem ly {w w4 w5:World} {g B:Nat} (h:w.grownBy w4 (some g)) (hb:Below B w4 w5) (hB:w.heap.size≤B):w.grownBy w5 (some g) :=
 ⟨hb.os.trans h.os,hb.tape.trans h.tape,hb.output.trans h.output,zR h.size hb.size,fun k hk hne=>(hb.block k fg).trans (h.block k hk hne)⟩
theorem pi {rows nm:List Row} (h1:∀q∈rows,q.1.length≤1000000∧q.2.length≤1000000) (h2:∀q∈nm,q.1.length≤1000000∧q.2.length≤1000000):∀q∈rows++nm,q.1.length≤1000000∧q.2.length≤1000000:=by
 intro q hq;rcases Aq.1 hq with h|h
 ·exact h1 q h
 ·exact h2 q h
theorem zl {g d:Nat} {r r0:List Str} (w:World) (h:Rd w g r d) (hng:jk [94] r=some r0) :
  Calls Tryz.prog 146 #[.pointer (some ⟨g,0,none⟩)] w fun e w'=>mi g d w.heap.size w (kP r) e w':=by
 obtain⟨R,hR⟩:∃R,kP r=R:=⟨_,rfl⟩;rw [hR];unfold kP at hR;obtain⟨R0,hR0⟩:∃R0,jO (r0.length+1) [] r0=R0:=⟨_,rfl⟩;simp only [hng,Option.isSome_some,Option.getD_some,hR0] at hR;have HNG:=ab hng;have HR0:=ab hR0;have HR:=ab hR;have hok0:=h.ok;clear hng hR0 hR;have hr0:r0.length≤200000:=by
  have e:=j8 HNG.out;have:=hok0.2
  rw [e] at this;simp at this;omega
 clear hok0;obtain⟨w0,hw0⟩:∃w0,w0=w.alloc (.cells #[.int .i64 0,.string ⟨#[]⟩,.bool false,.slice none 0 0,.int .i64 0,.int .i64 0,.bool false,.slice none 0 0] 25):=⟨_,rfl⟩;obtain⟨hb0,hz0,hby0⟩:=jo w hw0;have HRD:=ab (h.later hb0);rw [hw0] at HRD;have HW0:=ab hw0;have HBY0:=ab hby0;have hgg:w.grownBy w0 (some g):=iL hb0 _;have hgr:g<w.heap.size:=h.lt;clear hw0 hby0 h;go_enter Tryz.func146,Tryz.ntmps146
 go_wp2_with (go_at_call 149;refine(jw _ HRD.out HNG.out).mono ?_)
 rintro e w1 ⟨rfl,hrd1,hq1⟩;rw [←HW0.out] at hq1;have hg1:=iK hgg hq1;have HBY1:=ab (iO HBY0.out hq1 fg);have hz1:=hq1.size;clear HRD hq1;obtain⟨w2,hw2⟩:∃w2,w2=w1.alloc (.cells #[.int .i64 4,.string ⟨#[]⟩,.bool true,.slice none 0 0,.int .i64 0,.int .i64 0,.bool false,.slice none 0 0] 25):=⟨_,rfl⟩;obtain⟨hb2,hz2e,hbx2⟩:=jo w1 hw2;have hz2:w1.heap.size+1≤w2.heap.size:=fg;clear hz2e;have HRD2:=ab (hrd1.later hb2);have HBY2:=ab ((hb2.block _ (iN HBY1.out)).trans HBY1.out);have HBX2:=ab hbx2;have hg2:=iK hg1 (iL hb2 (some g));clear hrd1 hbx2;go_wp2_with fail
 rw [←hw2];clear hw2;go_loopg [5] (r0.length+1) (fun n v wr=>ClsRel g d w2.heap.size (4*r0.length) w2 R0 n v wr)
 case atStart=>exact dD
 case round =>
  clear HR0 HRD2;obtain⟨rows,r,hown,hrd,hg,hL,hn,hrl,HF⟩:=hrel;obtain⟨hok,hrlen⟩:=hrd.ok;obtain⟨n,rfl⟩:∃n',gk=n'+1:=⟨gk-1,by omega⟩;have HRD:=ab hrd;have hzr:=hg.size;cases ht:jk [93] r with
  | some r1 =>
   have HF2:Hid (some (rows,r1)=R0):=ab (by rw [←HF.out];simp only [jO,ht]);have HT:=ab ht;have HOWN:=ab hown;have HRL:=ab hrl;clear HF ht hrd hown hrl hok;go_wp2_with (go_at_call 149;refine(jw _ HRD.out HT.out).mono ?_)
   rintro e w3 ⟨rfl,hrd3,hq3⟩;have hgr3:=iK hg hq3;have hgw3:=iK hg2 hgr3;have hby3:=iO HBY2.out hgr3 fg;have hbx3:=iO HBX2.out hgr3 fg;have hown3:=jg HOWN.out hq3 fg;obtain⟨va,vc,rfl⟩:=ja hown3;have HUN:=ab (tI va rows.length vc rows w3 hown3 fg HRL.out fg);have HRD3:=ab hrd3;have HBY3:=ab hby3;have HBX3:=ab hbx3;have hz3:=hgr3.size;clear hrd3 hq3 hgr3 hby3 hbx3 hown3 HOWN HRL;go_wp2_with (go_at_call 24;refine HUN.out.mono ?_)
   rintro e w4 hq4;obtain⟨ua,uc,rfl,hus,hb4⟩:=hq4;have hgw4:=iK hgw3 (iL hb4 (some g));have hby4:=(hb4.block _ (iN HBY3.out)).trans HBY3.out;have hbx4:=(hb4.block _ (iN HBX3.out)).trans HBX3.out;have HRD4:=ab (HRD3.out.later hb4);have HR2:Hid (Except.ok (setR (kG rows) true,r1)=R):=ab gD;have HR:=HR2;have hz4:=hb4.size;obtain⟨f0,f1,f2,f3,f4,f5,f6,f7,f8⟩:=iR (c:=[]) hby4;obtain⟨e0,e1,e2,e3,e4,e5,e6,e7,e8⟩:=iR (c:=[]) hbx4;have HUS:=ab (RxV.close (k:=4) (c:=[]) (ng:=true) (lo:=0) (hi:=0) (lz:=false) (rc:=uc) (ka:=none) (kc:=0) (ks:=[]) (hus.mono (S':=fun b=>w.heap.size≤b∧b≠w.heap.size∧b≠w1.heap.size) fun x hx _=>by omega) ⟨[],SlS.none_ _ _ _ _,.nil⟩);clear hby4 hbx4 hus;go_wp2
   refine Al (v:=.tuple #[.agg #[.int .i64 4,.string ⟨[].toArray⟩,.bool true,.slice ua (kG rows).length uc,.int .i64 0,.int .i64 0,.bool false,.slice none ([]:List Rx).length 0],.int .i64 0]) fE rfl ?_;refine⟨?_,?_⟩
   ·exact dM
   rw [←HR.out];refine⟨rxc 4 [] true ua (kG rows).length uc 0 0 false none ([]:List Rx).length 0,rfl,RxV.mono (S:=fun b=>w.heap.size≤b∧b≠w.heap.size∧b≠w1.heap.size) (fun b hb _=>hb.1) ?_,?_⟩
   ·exact cK
   ·exact dK
  | none =>
   exact dX
theorem zo {g d:Nat} {r r0:List Str} (w:World) (h:Rd w g r d) (hng:jk [94] r=none∧r0=r) :
  Calls Tryz.prog 146 #[.pointer (some ⟨g,0,none⟩)] w fun e w'=>mi g d w.heap.size w (kP r) e w':=by
 obtain⟨R,hR⟩:∃R,kP r=R:=⟨_,rfl⟩;rw [hR];obtain⟨hng,rfl⟩:=hng;unfold kP at hR;obtain⟨R0,hR0⟩:∃R0,jO (r0.length+1) [] r0=R0:=⟨_,rfl⟩;simp only [hng,Option.isSome_none,Option.getD_none,hR0] at hR;have HNG:=ab hng;have HR0:=ab hR0;have HR:=ab hR;have hok0:=h.ok;clear hng hR0 hR;have hr0:r0.length≤200000:=by
  exact hok0.2
 clear hok0;obtain⟨w0,hw0⟩:∃w0,w0=w.alloc (.cells #[.int .i64 0,.string ⟨#[]⟩,.bool false,.slice none 0 0,.int .i64 0,.int .i64 0,.bool false,.slice none 0 0] 25):=⟨_,rfl⟩;obtain⟨hb0,hz0,hby0⟩:=jo w hw0;have HRD:=ab (h.later hb0);rw [hw0] at HRD;have HW0:=ab hw0;have HBY0:=ab hby0;have hgg:w.grownBy w0 (some g):=iL hb0 _;have hgr:g<w.heap.size:=h.lt;clear hw0 hby0 h;go_enter Tryz.func146,Tryz.ntmps146
 go_wp2_with (go_at_call 149;refine(jd _ HRD.out HNG.out fq).mono ?_)
 rintro e w1 ⟨rfl,hrd1,hq1⟩;rw [←HW0.out] at hq1;have hg1:=iK hgg hq1;have HBY1:=ab (iO HBY0.out hq1 fg);have hz1:=hq1.size;clear HRD hq1;obtain⟨w2,hw2⟩:∃w2,w2=w1.alloc (.cells #[.int .i64 4,.string ⟨#[]⟩,.bool false,.slice none 0 0,.int .i64 0,.int .i64 0,.bool false,.slice none 0 0] 25):=⟨_,rfl⟩;obtain⟨hb2,hz2e,hbx2⟩:=jo w1 hw2;have hz2:w1.heap.size+1≤w2.heap.size:=fg;clear hz2e;have HRD2:=ab (hrd1.later hb2);have HBY2:=ab ((hb2.block _ (iN HBY1.out)).trans HBY1.out);have HBX2:=ab hbx2;have hg2:=iK hg1 (iL hb2 (some g));clear hrd1 hbx2;go_wp2_with fail
 rw [←hw2];clear hw2;go_loopg [5] (r0.length+1) (fun n v wr=>ClsRel g d w2.heap.size (4*r0.length) w2 R0 n v wr)
 case atStart=>exact dD
 case round =>
  clear HR0 HRD2;obtain⟨rows,r,hown,hrd,hg,hL,hn,hrl,HF⟩:=hrel;obtain⟨hok,hrlen⟩:=hrd.ok;obtain⟨n,rfl⟩:∃n',gk=n'+1:=⟨gk-1,by omega⟩;have HRD:=ab hrd;have hzr:=hg.size;cases ht:jk [93] r with
  | some r1 =>
   have HF2:Hid (some (rows,r1)=R0):=ab (by rw [←HF.out];simp only [jO,ht]);have HT:=ab ht;have HOWN:=ab hown;have HRL:=ab hrl;clear HF ht hrd hown hrl hok;go_wp2_with (go_at_call 149;refine(jw _ HRD.out HT.out).mono ?_)
   rintro e w3 ⟨rfl,hrd3,hq3⟩;have hgr3:=iK hg hq3;have hgw3:=iK hg2 hgr3;have hby3:=iO HBY2.out hgr3 fg;have hbx3:=iO HBX2.out hgr3 fg;have hown3:=jg HOWN.out hq3 fg;obtain⟨va,vc,rfl⟩:=ja hown3;have HUN:=ab (tI va rows.length vc rows w3 hown3 fg HRL.out fg);have HRD3:=ab hrd3;have HBY3:=ab hby3;have HBX3:=ab hbx3;have hz3:=hgr3.size;clear hrd3 hq3 hgr3 hby3 hbx3 hown3 HOWN HRL;go_wp2_with (go_at_call 24;refine HUN.out.mono ?_)
   rintro e w4 hq4;obtain⟨ua,uc,rfl,hus,hb4⟩:=hq4;have hgw4:=iK hgw3 (iL hb4 (some g));have hby4:=(hb4.block _ (iN HBY3.out)).trans HBY3.out;have hbx4:=(hb4.block _ (iN HBX3.out)).trans HBX3.out;have HRD4:=ab (HRD3.out.later hb4);have HR2:Hid (Except.ok (setR (kG rows) false,r1)=R):=ab gD;have HR:=HR2;have hz4:=hb4.size;obtain⟨f0,f1,f2,f3,f4,f5,f6,f7,f8⟩:=iR (c:=[]) hby4;obtain⟨e0,e1,e2,e3,e4,e5,e6,e7,e8⟩:=iR (c:=[]) hbx4;have HUS:=ab (RxV.close (k:=4) (c:=[]) (ng:=false) (lo:=0) (hi:=0) (lz:=false) (rc:=uc) (ka:=none) (kc:=0) (ks:=[]) (hus.mono (S':=fun b=>w.heap.size≤b∧b≠w.heap.size∧b≠w1.heap.size) fun x hx _=>by omega) ⟨[],SlS.none_ _ _ _ _,.nil⟩);clear hby4 hbx4 hus;go_wp2
   refine Al (v:=.tuple #[.agg #[.int .i64 4,.string ⟨[].toArray⟩,.bool false,.slice ua (kG rows).length uc,.int .i64 0,.int .i64 0,.bool false,.slice none ([]:List Rx).length 0],.int .i64 0]) fE rfl ?_;refine⟨?_,?_⟩
   ·exact dM
   rw [←HR.out];refine⟨rxc 4 [] false ua (kG rows).length uc 0 0 false none ([]:List Rx).length 0,rfl,RxV.mono (S:=fun b=>w.heap.size≤b∧b≠w.heap.size∧b≠w1.heap.size) (fun b hb _=>hb.1) ?_,?_⟩
   ·exact cK
   ·exact dK
  | none =>
   exact dX
theorem zx {g d:Nat} {r:List Str} (w:World) (h:Rd w g r d) :
  Calls Tryz.prog 146 #[.pointer (some ⟨g,0,none⟩)] w fun e w'=>mi g d w.heap.size w (kP r) e w':=by
 cases hng:jk [94] r with
 | some r0=>exact zl w h hng
 | none=>exact zo w h ⟨hng,rfl⟩
end Go.Proofs.YtbnkaecmgfolpaaGreat
