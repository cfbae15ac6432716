/- walk of rxread: class -/
import Derived.Test.YtjggmmaojklmpaaGreatDoorKb10
set_option maxRecDepth 100000
set_option maxHeartbeats 4000000
namespace Go.Proofs.YtjggmmaojklmpaaGreatDoor
open Go.RowKit
theorem ke {w w':World} {B g:Nat} {e:TypeId} {sz:Nat} {v:Value} {n:Nat} {xs:List Value} (h:w.ownsRow B e sz v n xs) (hg:w.grownBy w' (some g)) (hB:g<B):w'.ownsRow B e sz v n xs:=by
 refine⟨h.1,?_⟩;rcases h.2 with h0|⟨b,cap,cur,rfl,h1,h2,h3⟩
 ·exact .inl h0
 ·exact .inr ⟨b,cap,cur,rfl,h1,jB h2 hg fR,h3⟩
def UnionRes (us:List Row) (w:World) (e:Ending) (w':World):Prop:=∃(a:Option Addr) (c:Nat),e=.returned (.slice a us.length c)∧SlS w' (fun b=>w.heap.size≤b) a 2 us.length (jN us)∧Below w.heap.size w w'
theorem ve {B:Nat} (a:Option Addr) (n c:Nat) (rs:List Row) (w:World) (h:w.ownsRow B 62 2 (.slice a n c) n (jN rs)) (_hn:n≤10000000) (hlen:∀r∈rs,r.1.length≤1000000∧r.2.length≤1000000) (hn2:n≤1000000) :
  Calls Tryz.prog 143 #[.slice a n c] w fun e w'=>UnionRes (lG rs) w e w' :=
 (BC (fun B g cap N rs w h1 h2 h3=>sW B g cap N rs w h1 h2 h3) a n c rs w (Sl.of_own h) hn2 fun r hr=>by have:=hlen r hr;omega)
theorem mO {w w4 w5:World} {g B:Nat} (h:w.grownBy w4 (some g)) (hb:Below B w4 w5) (hB:w.heap.size≤B):w.grownBy w5 (some g) :=
 ⟨hb.os.trans h.os,hb.tape.trans h.tape,hb.output.trans h.output,Dz h.size hb.size,fun k hk hne=>(hb.block k fR).trans (h.block k hk hne)⟩
theorem qQ {rows nm:List Row} (h1:∀q∈rows,q.1.length≤1000000∧q.2.length≤1000000) (h2:∀q∈nm,q.1.length≤1000000∧q.2.length≤1000000):∀q∈rows++nm,q.1.length≤1000000∧q.2.length≤1000000:=by
 intro q hq;rcases DZ.1 hq with h|h
 ·exact h1 q h
 ·exact h2 q h
theorem BD {g d:Nat} {r r0:List Str} (w:World) (h:Rd w g r d) (hng:jQ [94] r=some r0) :
  Calls Tryz.prog 122 #[.pointer (some ⟨g,0,none⟩)] w fun e w'=>nG g d w.heap.size w (lq r) e w':=by
 obtain⟨R,hR⟩:∃R,lq r=R:=⟨_,rfl⟩;rw [hR];unfold lq at hR;obtain⟨R0,hR0⟩:∃R0,kp (r0.length+1) [] r0=R0:=⟨_,rfl⟩;simp only [hng,Option.isSome_some,Option.getD_some,hR0] at hR;have HNG:=ab hng;have HR0:=ab hR0;have HR:=ab hR;have hok0:=h.ok;clear hng hR0 hR;have hr0:r0.length≤200000:=by
  have e:=ll HNG.out;have:=hok0.2
  rw [e] at this;simp at this;omega
 clear hok0;obtain⟨w0,hw0⟩:∃w0,w0=w.alloc (.cells #[.int .i64 0,.string ⟨#[]⟩,.bool false,.slice none 0 0,.int .i64 0,.int .i64 0,.bool false,.slice none 0 0] 25):=⟨_,rfl⟩;obtain⟨hb0,hz0,hby0⟩:=kl w hw0;have HRD:=ab (h.later hb0);rw [hw0] at HRD;have HW0:=ab hw0;have HBY0:=ab hby0;have hgg:w.grownBy w0 (some g):=jz hb0 _;have hgr:g<w.heap.size:=h.lt;clear hw0 hby0 h;go_enter Tryz.func122,Tryz.ntmps122
 go_wp2_with (go_at_call 125;refine(kt _ HRD.out HNG.out).mono ?_)
 rintro e w1 ⟨rfl,hrd1,hq1⟩;rw [←HW0.out] at hq1;have hg1:=jy hgg hq1;have HBY1:=ab (jB HBY0.out hq1 fR);have hz1:=hq1.size;clear HRD hq1;obtain⟨w2,hw2⟩:∃w2,w2=w1.alloc (.cells #[.int .i64 4,.string ⟨#[]⟩,.bool true,.slice none 0 0,.int .i64 0,.int .i64 0,.bool false,.slice none 0 0] 25):=⟨_,rfl⟩;obtain⟨hb2,hz2e,hbx2⟩:=kl w1 hw2;have hz2:w1.heap.size+1≤w2.heap.size:=fR;clear hz2e;have HRD2:=ab (hrd1.later hb2);have HBY2:=ab ((hb2.block _ (jA HBY1.out)).trans HBY1.out);have HBX2:=ab hbx2;have hg2:=jy hg1 (jz hb2 (some g));clear hrd1 hbx2;go_wp2_with fail
 rw [←hw2];clear hw2;go_loopg [5] (r0.length+1) (fun n v wr=>ClsRel g d w2.heap.size (4*r0.length) w2 R0 n v wr)
 case atStart=>exact el
 case round =>
  clear HR0 HRD2;obtain⟨rows,r,hown,hrd,hg,hL,hn,hrl,HF⟩:=hrel;obtain⟨hok,hrlen⟩:=hrd.ok;obtain⟨n,rfl⟩:∃n',gk=n'+1:=⟨gk-1,by omega⟩;have HRD:=ab hrd;have hzr:=hg.size;cases ht:jQ [93] r with
  | some r1 =>
   have HF2:Hid (some (rows,r1)=R0):=ab (by rw [←HF.out];simp only [kp,ht]);have HT:=ab ht;have HOWN:=ab hown;have HRL:=ab hrl;clear HF ht hrd hown hrl hok;go_wp2_with (go_at_call 125;refine(kt _ HRD.out HT.out).mono ?_)
   rintro e w3 ⟨rfl,hrd3,hq3⟩;have hgr3:=jy hg hq3;have hgw3:=jy hg2 hgr3;have hby3:=jB HBY2.out hgr3 fR;have hbx3:=jB HBX2.out hgr3 fR;have hown3:=ke HOWN.out hq3 fR;obtain⟨va,vc,rfl⟩:=jX hown3;have HUN:=ab (ve va rows.length vc rows w3 hown3 fR HRL.out fR);have HRD3:=ab hrd3;have HBY3:=ab hby3;have HBX3:=ab hbx3;have hz3:=hgr3.size;clear hrd3 hq3 hgr3 hby3 hbx3 hown3 HOWN HRL;go_wp2_with (go_at_call 143;refine HUN.out.mono ?_)
   rintro e w4 hq4;obtain⟨ua,uc,rfl,hus,hb4⟩:=hq4;have hgw4:=jy hgw3 (jz hb4 (some g));have hby4:=(hb4.block _ (jA HBY3.out)).trans HBY3.out;have hbx4:=(hb4.block _ (jA HBX3.out)).trans HBX3.out;have HRD4:=ab (HRD3.out.later hb4);have HR2:Hid (Except.ok (setR (lG rows) true,r1)=R):=ab io;have HR:=HR2;have hz4:=hb4.size;obtain⟨f0,f1,f2,f3,f4,f5,f6,f7,f8⟩:=jD (c:=[]) hby4;obtain⟨e0,e1,e2,e3,e4,e5,e6,e7,e8⟩:=jD (c:=[]) hbx4;have HUS:=ab (RxV.close (k:=4) (c:=[]) (ng:=true) (lo:=0) (hi:=0) (lz:=false) (rc:=uc) (ka:=none) (kc:=0) (ks:=[]) (hus.mono (S':=fun b=>w.heap.size≤b∧b≠w.heap.size∧b≠w1.heap.size) fun x hx _=>by omega) ⟨[],SlS.none_ _ _ _ _,.nil⟩);clear hby4 hbx4 hus;go_wp2
   refine DX (v:=.tuple #[.agg #[.int .i64 4,.string ⟨[].toArray⟩,.bool true,.slice ua (lG rows).length uc,.int .i64 0,.int .i64 0,.bool false,.slice none ([]:List Rx).length 0],.int .i64 0]) gl rfl ?_;refine⟨?_,?_⟩
   ·exact eA
   rw [←HR.out];refine⟨rxc 4 [] true ua (lG rows).length uc 0 0 false none ([]:List Rx).length 0,rfl,RxV.mono (S:=fun b=>w.heap.size≤b∧b≠w.heap.size∧b≠w1.heap.size) (fun b hb _=>hb.1) ?_,?_⟩
   ·exact df
   ·exact ez
  | none =>
   exact eH
theorem BM {g d:Nat} {r r0:List Str} (w:World) (h:Rd w g r d) (hng:jQ [94] r=none∧r0=r) :
  Calls Tryz.prog 122 #[.pointer (some ⟨g,0,none⟩)] w fun e w'=>nG g d w.heap.size w (lq r) e w':=by
 obtain⟨R,hR⟩:∃R,lq r=R:=⟨_,rfl⟩;rw [hR];obtain⟨hng,rfl⟩:=hng;unfold lq at hR;obtain⟨R0,hR0⟩:∃R0,kp (r0.length+1) [] r0=R0:=⟨_,rfl⟩;simp only [hng,Option.isSome_none,Option.getD_none,hR0] at hR;have HNG:=ab hng;have HR0:=ab hR0;have HR:=ab hR;have hok0:=h.ok;clear hng hR0 hR;have hr0:r0.length≤200000:=by
  exact hok0.2
 clear hok0;obtain⟨w0,hw0⟩:∃w0,w0=w.alloc (.cells #[.int .i64 0,.string ⟨#[]⟩,.bool false,.slice none 0 0,.int .i64 0,.int .i64 0,.bool false,.slice none 0 0] 25):=⟨_,rfl⟩;obtain⟨hb0,hz0,hby0⟩:=kl w hw0;have HRD:=ab (h.later hb0);rw [hw0] at HRD;have HW0:=ab hw0;have HBY0:=ab hby0;have hgg:w.grownBy w0 (some g):=jz hb0 _;have hgr:g<w.heap.size:=h.lt;clear hw0 hby0 h;go_enter Tryz.func122,Tryz.ntmps122
 go_wp2_with (go_at_call 125;refine(j6 _ HRD.out HNG.out fX).mono ?_)
 rintro e w1 ⟨rfl,hrd1,hq1⟩;rw [←HW0.out] at hq1;have hg1:=jy hgg hq1;have HBY1:=ab (jB HBY0.out hq1 fR);have hz1:=hq1.size;clear HRD hq1;obtain⟨w2,hw2⟩:∃w2,w2=w1.alloc (.cells #[.int .i64 4,.string ⟨#[]⟩,.bool false,.slice none 0 0,.int .i64 0,.int .i64 0,.bool false,.slice none 0 0] 25):=⟨_,rfl⟩;obtain⟨hb2,hz2e,hbx2⟩:=kl w1 hw2;have hz2:w1.heap.size+1≤w2.heap.size:=fR;clear hz2e;have HRD2:=ab (hrd1.later hb2);have HBY2:=ab ((hb2.block _ (jA HBY1.out)).trans HBY1.out);have HBX2:=ab hbx2;have hg2:=jy hg1 (jz hb2 (some g));clear hrd1 hbx2;go_wp2_with fail
 rw [←hw2];clear hw2;go_loopg [5] (r0.length+1) (fun n v wr=>ClsRel g d w2.heap.size (4*r0.length) w2 R0 n v wr)
 case atStart=>exact el
 case round =>
  clear HR0 HRD2;obtain⟨rows,r,hown,hrd,hg,hL,hn,hrl,HF⟩:=hrel;obtain⟨hok,hrlen⟩:=hrd.ok;obtain⟨n,rfl⟩:∃n',gk=n'+1:=⟨gk-1,by omega⟩;have HRD:=ab hrd;have hzr:=hg.size;cases ht:jQ [93] r with
  | some r1 =>
   have HF2:Hid (some (rows,r1)=R0):=ab (by rw [←HF.out];simp only [kp,ht]);have HT:=ab ht;have HOWN:=ab hown;have HRL:=ab hrl;clear HF ht hrd hown hrl hok;go_wp2_with (go_at_call 125;refine(kt _ HRD.out HT.out).mono ?_)
   rintro e w3 ⟨rfl,hrd3,hq3⟩;have hgr3:=jy hg hq3;have hgw3:=jy hg2 hgr3;have hby3:=jB HBY2.out hgr3 fR;have hbx3:=jB HBX2.out hgr3 fR;have hown3:=ke HOWN.out hq3 fR;obtain⟨va,vc,rfl⟩:=jX hown3;have HUN:=ab (ve va rows.length vc rows w3 hown3 fR HRL.out fR);have HRD3:=ab hrd3;have HBY3:=ab hby3;have HBX3:=ab hbx3;have hz3:=hgr3.size;clear hrd3 hq3 hgr3 hby3 hbx3 hown3 HOWN HRL;go_wp2_with (go_at_call 143;refine HUN.out.mono ?_)
   rintro e w4 hq4;obtain⟨ua,uc,rfl,hus,hb4⟩:=hq4;have hgw4:=jy hgw3 (jz hb4 (some g));have hby4:=(hb4.block _ (jA HBY3.out)).trans HBY3.out;have hbx4:=(hb4.block _ (jA HBX3.out)).trans HBX3.out;have HRD4:=ab (HRD3.out.later hb4);have HR2:Hid (Except.ok (setR (lG rows) false,r1)=R):=ab io;have HR:=HR2;have hz4:=hb4.size;obtain⟨f0,f1,f2,f3,f4,f5,f6,f7,f8⟩:=jD (c:=[]) hby4;obtain⟨e0,e1,e2,e3,e4,e5,e6,e7,e8⟩:=jD (c:=[]) hbx4;have HUS:=ab (RxV.close (k:=4) (c:=[]) (ng:=false) (lo:=0) (hi:=0) (lz:=false) (rc:=uc) (ka:=none) (kc:=0) (ks:=[]) (hus.mono (S':=fun b=>w.heap.size≤b∧b≠w.heap.size∧b≠w1.heap.size) fun x hx _=>by omega) ⟨[],SlS.none_ _ _ _ _,.nil⟩);clear hby4 hbx4 hus;go_wp2
   refine DX (v:=.tuple #[.agg #[.int .i64 4,.string ⟨[].toArray⟩,.bool false,.slice ua (lG rows).length uc,.int .i64 0,.int .i64 0,.bool false,.slice none ([]:List Rx).length 0],.int .i64 0]) gl rfl ?_;refine⟨?_,?_⟩
   ·exact eA
   rw [←HR.out];refine⟨rxc 4 [] false ua (lG rows).length uc 0 0 false none ([]:List Rx).length 0,rfl,RxV.mono (S:=fun b=>w.heap.size≤b∧b≠w.heap.size∧b≠w1.heap.size) (fun b hb _=>hb.1) ?_,?_⟩
   ·exact df
   ·exact ez
  | none =>
   exact eH
theorem Db {g d:Nat} {r:List Str} (w:World) (h:Rd w g r d) :
  Calls Tryz.prog 122 #[.pointer (some ⟨g,0,none⟩)] w fun e w'=>nG g d w.heap.size w (lq r) e w':=by
 cases hng:jQ [94] r with
 | some r0=>exact BD w h hng
 | none=>exact BM w h ⟨hng,rfl⟩
end Go.Proofs.YtjggmmaojklmpaaGreatDoor
