/- walk of rxshow.set -/
import Derived.Test.YtdcnncgpomcaaaaGreatDoorRc23
set_option maxRecDepth 100000
set_option maxHeartbeats 4000000
namespace Go.Proofs.YtdcnncgpomcaaaaGreatDoor
open Go.RowKit
theorem Fr.held {B g:Nat} {w w':World} (h:Fr B [g] [5] w w') {k:Nat} {cs:Array Value} {T:TypeId} {m:Nat × Nat} (hk:w.heap[k]?=some (.cells cs T m)) (hT:T≠5) (hg:k≠g):w'.heap[k]?=some (.cells cs T m) :=
 (h.block k (kT hk) (by simpa using hg) (.inr (by intro e he;simp at he;subst he;simp [yS,hk,hT]))).trans hk
def SetRel (B g:Nat) (rs:List (Str × Str)) (T:Str) (w1:World) (q:Value) (wr:World):Prop :=
 ∃(k:Nat) (acc:Str),k≤rs.length∧q=.int .i64 k∧Bld B g acc wr∧Fr B [g] [5] w1 wr∧acc.length≤20000000∧Hid (acc++(rs.drop k).flatMap rowS=T)
theorem set_any (B g:Nat) (acc:Str) (kd:Int) (c:Str) (ng:Bool) (ra:Option Addr) (rs:List (Str × Str)) (rc:Nat) (lo hi:Int) (lz:Bool) (ka:Option Addr) (kn kc:Nat) (w:World)
  (hbl:Bld B g acc w) (hB:B≤w.heap.size) (hr:Sl w B ra 2 rs.length (lw rs)) (hne:∀r∈rs,r.1≠[]∧r.2≠[]) (hsz:∀r∈rs,r.1.length≤1000000∧r.2.length≤1000000) (hrl:rs.length≤1000000)
  (hlen:(acc++setS ng rs).length≤10000000) :
  Calls Tryz.prog 56 #[.pointer (some ⟨g,0,none⟩),.agg #[.int .i64 kd,.string ⟨c.toArray⟩,.bool ng,.slice ra rs.length rc,.int .i64 lo,.int .i64 hi,.bool lz,.slice ka kn kc]] w fun e w'=>e=.returned (.tuple #[])∧Bld B g (acc++setS ng rs) w'∧Fr B [g] [5] w w':=by
 have HNE:=ab hne;have HSZ:=ab hsz;clear hne hsz;have hal:acc.length≤10000000:=by simp only [JA] at hlen;omega
 have hgl0:=hbl.lt;cases ng with
 | false =>
  simp only [setS,JA,Jr,J1,if_false,JV] at hlen;go_enter Tryz.func56,Tryz.ntmps56
  go_wp2_with (go_at_call 34;refine(lv B _ (acc) 91 _ (hbl.alloc _) gP gP gR gR).mono ?_)
  first|rintro e w1 rfl hbl1 hfr1|rintro e w1 ⟨rfl,hbl1,hfr1⟩
  have hbx0:=hfr1.held (heap_alloc_new w _) gR (Nat.ne_of_gt hbl.lt);have z2:w1.cell? ⟨w.heap.size,2,none⟩=some (.bool false):=by rw [Jw hbx0];rfl
  clear hbx0;have hbx1:=(hfr1).held (heap_alloc_new w _) gR (Nat.ne_of_gt hbl.lt);have z3:w1.cell? ⟨w.heap.size,3,none⟩=some (.slice ra rs.length rc):=by rw [Jw hbx1];rfl
  have hB1:B≤w1.heap.size:=by have:=(hfr1).size;simp at this;omega
  have HR1:=ab (hr.keep (((Below.refl B w).alloc hB _).trans ((hfr1).below gV (by simp;exact hbl.le))));obtain⟨T,hT⟩:∃T,(acc++[91])++rs.flatMap rowS=T:=⟨_,rfl⟩;have HT0:Hid ((acc++[91])++(rs.drop 0).flatMap rowS=T):=ab hT;have HTL:T.length≤15000000:=by rw [←hT];have h:=hlen;simp only [JA,Jr,J0] at h ⊢;omega
  have HTT:=ab hT;have HFR0:=ab hfr1;have HBX:=ab hbx1;clear hT hbx1;go_wp2
  go_loopw [15] (fun q wr=>SetRel B g rs T w1 q wr) (fun q _=>rs.length-(intOf q).toNat)
  case atStart=>exact⟨0,acc++[91],by omega,rfl,hbl1,Fr.refl _ _ _ _,by have h:=hlen;simp only [JA,Jr,J0] at h ⊢;omega,HT0⟩
  case round =>
   exact ar
 | true =>
  simp only [setS,JA,Jr,if_true,J0] at hlen;go_enter Tryz.func56,Tryz.ntmps56
  go_wp2_with (go_at_call 34;refine(lv B _ (acc) 91 _ (hbl.alloc _) gP gP gR gR).mono ?_)
  first|rintro e w1 rfl hbl1 hfr1|rintro e w1 ⟨rfl,hbl1,hfr1⟩
  have hbx0:=hfr1.held (heap_alloc_new w _) gR (Nat.ne_of_gt hbl.lt);have z2:w1.cell? ⟨w.heap.size,2,none⟩=some (.bool true):=by rw [Jw hbx0];rfl
  have hB1':B≤w1.heap.size:=by have:=hfr1.size;simp at this;omega
  clear hbx0;go_wp2_with (go_at_call 34;refine(lv B _ (acc++[91]) 94 _ (hbl1) gP gP gR gR).mono ?_)
  first|rintro e w1b rfl hbl1b hfr1b|rintro e w1b ⟨rfl,hbl1b,hfr1b⟩
  have hfrx:=hfr1.trans hfr1b;clear z2;have hbx1:=(hfrx).held (heap_alloc_new w _) gR (Nat.ne_of_gt hbl.lt);have z3:w1b.cell? ⟨w.heap.size,3,none⟩=some (.slice ra rs.length rc):=by rw [Jw hbx1];rfl
  have hB1:B≤w1b.heap.size:=by have:=(hfrx).size;simp at this;omega
  have HR1:=ab (hr.keep (((Below.refl B w).alloc hB _).trans ((hfrx).below gV (by simp;exact hbl.le))));obtain⟨T,hT⟩:∃T,(acc++[91]++[94])++rs.flatMap rowS=T:=⟨_,rfl⟩;have HT0:Hid ((acc++[91]++[94])++(rs.drop 0).flatMap rowS=T):=ab hT;have HTL:T.length≤15000000:=by rw [←hT];have h:=hlen;simp only [JA,Jr,J0] at h ⊢;omega
  have HTT:=ab hT;have HFR0:=ab hfrx;have HBX:=ab hbx1;clear hT hbx1;go_wp2
  go_loopw [15] (fun q wr=>SetRel B g rs T w1b q wr) (fun q _=>rs.length-(intOf q).toNat)
  case atStart=>exact⟨0,acc++[91]++[94],by omega,rfl,hbl1b,Fr.refl _ _ _ _,by have h:=hlen;simp only [JA,Jr,J0] at h ⊢;omega,HT0⟩
  case round =>
   exact ar
def ri (B g:Nat) (out:Str) (w:World) (e:Ending) (w':World):Prop:=e=.returned (.tuple #[])∧Bld B g out w'∧Fr B [g] [5] w w'
def F2 (B g:Nat) (ks:List Rx) (f:Nat→List Rx→Str) (T:Str) (w1:World) (q:Value) (wr:World):Prop :=
 ∃(k:Nat) (acc:Str),k≤ks.length∧q=.int .i64 k∧Bld B g acc wr∧Fr B [g] [5] w1 wr∧Hid (acc++f k (ks.drop k)=T)
theorem Kept.fr {B g:Nat} {w w':World} (h:Fr B [g] [5] w w') (hB:B≤w.heap.size) (hg:B≤g):Kept (·<B) w w':=Kept.below (h.below hB (by simpa using hg)) (fun _ h _=>h)
theorem qf (B g:Nat) (acc:Str) (K:Int) (hK:K=3∨K=8∨K=9∨K=10∨K=11) (c:Str) (ng:Bool) (ra:Option Addr) (rs:List (Str × Str)) (rn rc:Nat) (lo hi:Int) (lz:Bool) (ka:Option Addr) (ks:List Rx) (kn kc:Nat) (w:World)
  (hbl:Bld B g acc w) (hB:B≤w.heap.size) (hlen:acc.length≤10000000) :
  Calls Tryz.prog 38 #[.pointer (some ⟨g,0,none⟩),.agg #[.int .i64 K,.string ⟨c.toArray⟩,.bool ng,.slice ra rn rc,.int .i64 lo,.int .i64 hi,.bool lz,.slice ka kn kc]] w fun e w'=>ri B g (acc++(Rx.mk K c ng rs lo hi lz ks).tell) w e w':=by
 have hg:=hbl.lt;rcases hK with rfl|rfl|rfl|rfl|rfl
 ·go_enter Tryz.func38,Tryz.ntmps38
  go_wp2_with (go_at_call 34;refine(lv B _ (acc) 46 _ (hbl.alloc _) gP gP gR gR).mono ?_)
  exact aZ
 ·go_enter Tryz.func38,Tryz.ntmps38
  go_wp2_with (go_at_call 34;refine(lv B _ (acc) 94 _ (hbl.alloc _) gP gP gR gR).mono ?_)
  exact aZ
 ·go_enter Tryz.func38,Tryz.ntmps38
  go_wp2_with (go_at_call 34;refine(lv B _ (acc) 36 _ (hbl.alloc _) gP gP gR gR).mono ?_)
  exact aZ
 ·exact fH
 ·exact fH
theorem Gv (B g:Nat) (acc:Str) (c:Str) (ng:Bool) (ra:Option Addr) (rs:List (Str × Str)) (rn rc:Nat) (lo hi:Int) (lz:Bool) (ka:Option Addr) (ks:List Rx) (kn kc:Nat) (w:World)
  (hbl:Bld B g acc w) (hB:B≤w.heap.size) (hlen:acc.length≤10000000) (hc:c≠[]) (hcl:c.length≤1000000) :
  Calls Tryz.prog 38 #[.pointer (some ⟨g,0,none⟩),.agg #[.int .i64 2,.string ⟨c.toArray⟩,.bool ng,.slice ra rn rc,.int .i64 lo,.int .i64 hi,.bool lz,.slice ka kn kc]] w fun e w'=>ri B g (acc++(Rx.mk 2 c ng rs lo hi lz ks).tell) w e w':=by
 have HC:=ab hc;have hq:=sq th1 c;clear hc;go_enter Tryz.func38,Tryz.ntmps38
 go_wp2_with (first|(go_at_call 55;refine(t6 _ _ _ HC.out gN).mono ?_;rintro e w2 ⟨rfl,rfl⟩;rw [show [94,36,92,46,42,43,63,40,41,91,93,123,125,124,47]=th1 from rfl])|(go_at_call 32;refine(lB B _ (acc) _ _ (hbl.alloc _) gP gP gP).mono ?_))
 exact aZ
theorem show_set (B g:Nat) (acc:Str) (c:Str) (ng:Bool) (ra:Option Addr) (rs:List (Str × Str)) (rc:Nat) (lo hi:Int) (lz:Bool) (ka:Option Addr) (ks:List Rx) (kn kc:Nat) (w:World)
  (hbl:Bld B g acc w) (hB:B≤w.heap.size) (hr:Sl w B ra 2 rs.length (lw rs)) (hne:∀r∈rs,r.1≠[]∧r.2≠[]) (hsz:∀r∈rs,r.1.length≤1000000∧r.2.length≤1000000) (hrl:rs.length≤1000000)
  (hlen:(acc++setS ng rs).length≤10000000) :
  Calls Tryz.prog 38 #[.pointer (some ⟨g,0,none⟩),.agg #[.int .i64 4,.string ⟨c.toArray⟩,.bool ng,.slice ra rs.length rc,.int .i64 lo,.int .i64 hi,.bool lz,.slice ka kn kc]] w fun e w'=>ri B g (acc++(Rx.mk 4 c ng rs lo hi lz ks).tell) w e w':=by
 have HNE:=ab hne;have HSZ:=ab hsz;have HLN:=ab hlen;have HR:=ab (hr.keep ((Below.refl B w).alloc hB (.cells #[.int .i64 4,.string ⟨c.toArray⟩,.bool ng,.slice ra rs.length rc,.int .i64 lo,.int .i64 hi,.bool lz,.slice ka kn kc] 38)));clear hne hsz hlen hr;go_enter Tryz.func38,Tryz.ntmps38
 go_wp2_with (go_at_call 56;refine(set_any B g acc _ _ _ _ rs _ _ _ _ _ _ _ _ (hbl.alloc _) gV HR.out HNE.out HSZ.out hrl HLN.out).mono ?_)
 exact aZ
theorem any_no2 (ks:List Rx):(!anyK ks [0,1])=ks.all fun x=>decide (x.kind≠0∧x.kind≠1):=by
 exact dm
theorem any_no1 (ks:List Rx):(!anyK ks [1])=ks.all fun x=>decide (x.kind≠1):=by
 exact dm
theorem C9 {S:Nat→Prop} {xa:Option Addr} {xc m:Nat} {xs:List Rx} {zs:List Int} {a:Option Addr} {n c:Nat} {b:Bool} (w:World) (h0:anyK xs zs=b)
  (hx:RxSl w S xa m xs) (hxn:xs.length≤100000000) (h:Sl w w.heap.size a 1 n (qY zs)) (hn:n≤100000000) :
  Calls Tryz.prog 92 #[.slice xa m xc,.slice a n c] w fun e w'=>e=.returned (.bool b)∧Below w.heap.size w w':=by
 obtain rfl:=hx.len;subst h0;exact some_any S xa xc xs zs a n c w hx hxn h hn
theorem fields_0 (S:Nat→Prop) (c:Str) (ng:Bool) (ra:Option Addr) (rs:List (Str × Str)) (rc:Nat) (lo hi:Int) (lz:Bool) (ka:Option Addr) (ks:List Rx) (kc:Nat) (w:World)
  (hx:RxSl w S ka ks.length ks) (hsm:(Rx.mk 0 c ng rs lo hi lz ks).small1) :
  Calls Tryz.prog 71 #[.agg #[.int .i64 0,.string ⟨c.toArray⟩,.bool ng,.slice ra rs.length rc,.int .i64 lo,.int .i64 hi,.bool lz,.slice ka ks.length kc]] w fun e w'=>e=.returned (.bool (lI (.mk 0 c ng rs lo hi lz ks)))∧Below w.heap.size w w':=by
 generalize hR:lI (.mk 0 c ng rs lo hi lz ks)=R
 have HR:=ab hR;clear hR;have HS:Hid (R=(qh c ng rs.length lo hi lz&&decide (ks.length≠1)&&!anyK ks [0,1])):=ab (by rw [←HR.out,←qO 0 c ng rs lo hi lz ks,any_no2];rfl);obtain⟨s1,s2,s3,s4⟩:=hsm;clear HR s3;cases hbv:qh c ng rs.length lo hi lz with
 | false =>
  exact aJ
 | true =>
  have HB:=ab hbv;have HR:Hid (R=(decide (ks.length≠1)&&!anyK ks [0,1])):=ab ji;clear hbv;obtain⟨b,hab⟩:∃b,anyK ks [0,1]=b:=⟨_,rfl⟩;have HA:=ab hab;rw [hab] at HR;clear hab;rcases ks with _|⟨x,_|⟨y,ks⟩⟩
  ·have HR2:Hid (R=!b):=ab (by rw [HR.out];simp)
   go_enter Tryz.func71,Tryz.ntmps71
   go_wp2_with (first|(((go_at_call 88;refine(om _ HB.out).mono ?_;rintro e w1 ⟨rfl,hb1,hc1⟩;have hq7:=hc1 ⟨w.heap.size,7,none⟩ (.slice ka (0) kc) gU));have HX1:=ab ((hx.later ((Below.refl _ _).alloc (Ju _) _)).later hb1))|(go_at_call 92;refine(C9 (zs:=[0,1]) _ HA.out (HX1.out.later ((Below.refl _ _).alloc (Ju _) _)) ia (Sl.lit (n:=2) (heap_alloc_new w1 (.cells #[.int .i64 0,.int .i64 1] 3)) rfl) gR).mono ?_;rintro e w2 ⟨rfl,hb2⟩))
   exact bM
  ·have HR2:Hid (R=false):=ab jf
   exact fA
  ·have HR2:Hid (R=!b):=ab (by rw [HR.out];simp)
   simp only [Jr] at s4;go_enter Tryz.func71,Tryz.ntmps71
   go_wp2_with (first|(((go_at_call 88;refine(om _ HB.out).mono ?_;rintro e w1 ⟨rfl,hb1,hc1⟩;have hq7:=hc1 ⟨w.heap.size,7,none⟩ (.slice ka (ks.length+1+1) kc) gU));have HX1:=ab ((hx.later ((Below.refl _ _).alloc (Ju _) _)).later hb1))|(go_at_call 92;refine(C9 (zs:=[0,1]) _ HA.out (HX1.out.later ((Below.refl _ _).alloc (Ju _) _)) ia (Sl.lit (n:=2) (heap_alloc_new w1 (.cells #[.int .i64 0,.int .i64 1] 3)) rfl) gR).mono ?_;rintro e w2 ⟨rfl,hb2⟩))
   exact bM
theorem fields_1 (S:Nat→Prop) (c:Str) (ng:Bool) (ra:Option Addr) (rs:List (Str × Str)) (rc:Nat) (lo hi:Int) (lz:Bool) (ka:Option Addr) (ks:List Rx) (kc:Nat) (w:World)
  (hx:RxSl w S ka ks.length ks) (hsm:(Rx.mk 1 c ng rs lo hi lz ks).small1) :
  Calls Tryz.prog 71 #[.agg #[.int .i64 1,.string ⟨c.toArray⟩,.bool ng,.slice ra rs.length rc,.int .i64 lo,.int .i64 hi,.bool lz,.slice ka ks.length kc]] w fun e w'=>e=.returned (.bool (lI (.mk 1 c ng rs lo hi lz ks)))∧Below w.heap.size w w':=by
 generalize hR:lI (.mk 1 c ng rs lo hi lz ks)=R
 have HR:=ab hR;clear hR;have HS:Hid (R=(qh c ng rs.length lo hi lz&&decide (1<ks.length)&&!anyK ks [1])):=ab (by rw [←HR.out,←qO 1 c ng rs lo hi lz ks,any_no1];rfl);obtain⟨s1,s2,s3,s4⟩:=hsm;clear HR s3;cases hbv:qh c ng rs.length lo hi lz with
 | false =>
  exact aJ
 | true =>
  have HB:=ab hbv;have HR:Hid (R=(decide (1<ks.length)&&!anyK ks [1])):=ab ji;clear hbv;obtain⟨b,hab⟩:∃b,anyK ks [1]=b:=⟨_,rfl⟩;have HA:=ab hab;rw [hab] at HR;clear hab;rcases ks with _|⟨x,_|⟨y,ks⟩⟩
  ·have HR2:Hid (R=false):=ab jf
   exact fz
  ·have HR2:Hid (R=false):=ab jf
   exact fA
  ·have HR2:Hid (R=!b):=ab (by rw [HR.out];simp)
   simp only [Jr] at s4;go_enter Tryz.func71,Tryz.ntmps71
   go_wp2_with (first|(((go_at_call 88;refine(om _ HB.out).mono ?_;rintro e w1 ⟨rfl,hb1,hc1⟩;have hq7:=hc1 ⟨w.heap.size,7,none⟩ (.slice ka (ks.length+1+1) kc) gU));have HX1:=ab ((hx.later ((Below.refl _ _).alloc (Ju _) _)).later hb1))|(go_at_call 92;refine(C9 (zs:=[1]) _ HA.out (HX1.out.later ((Below.refl _ _).alloc (Ju _) _)) ia (Sl.lit (n:=1) (heap_alloc_new w1 (.cells #[.int .i64 1] 3)) rfl) gR).mono ?_;rintro e w2 ⟨rfl,hb2⟩))
   exact bM
def oneB (ks:List Rx):Bool:=match ks with|[x]=>repB x.kind|_=>false
theorem B6 {k:Int} {b:Bool} (w:World) (h:repB k=b):Calls Tryz.prog 91 #[.int .i64 k] w fun e w'=>e=.returned (.bool b)∧w=w':=by
 subst h;exact AF k w
theorem fields_7 (S:Nat→Prop) (c:Str) (ng:Bool) (ra:Option Addr) (rs:List (Str × Str)) (rc:Nat) (lo hi:Int) (lz:Bool) (ka:Option Addr) (ks:List Rx) (kc:Nat) (w:World)
  (hx:RxSl w S ka ks.length ks) (hsm:(Rx.mk 7 c ng rs lo hi lz ks).small1) :
  Calls Tryz.prog 71 #[.agg #[.int .i64 7,.string ⟨c.toArray⟩,.bool ng,.slice ra rs.length rc,.int .i64 lo,.int .i64 hi,.bool lz,.slice ka ks.length kc]] w fun e w'=>e=.returned (.bool (lI (.mk 7 c ng rs lo hi lz ks)))∧Below w.heap.size w w':=by
 generalize hR:lI (.mk 7 c ng rs lo hi lz ks)=R
 have HR:=ab hR;clear hR;have HS:Hid (R=(qh c ng rs.length 0 0 false&&oneB ks&&decide (0≤lo∧lo≤255∧(hi=-1∨lo≤hi∧hi≤255)))):=ab (by rw [←HR.out,←qO 7 c ng rs 0 0 false ks];rfl);obtain⟨s1,s2,s3,s4⟩:=hsm;clear HR s3;cases hbv:qh c ng rs.length 0 0 false with
 | false =>
  have HB:=ab hbv;have HR:Hid (R=false):=ab ji;clear hbv;go_enter Tryz.func71,Tryz.ntmps71
  go_wp2
  go_quiet (fail)
  go_wp2_with (go_at_call 88;refine(om _ HB.out).mono ?_;rintro e w1 ⟨rfl,hb1,hc1⟩;have hq7:=hc1 ⟨w.heap.size,7,none⟩ (.slice ka (ks.length) kc) (by simp [go_sem]))
  go_ret
  exact⟨lM HR.out.symm,((((below_drewN ((Below.refl w.heap.size w).alloc (Ju _) _) _).setCell gU _).setCell gU _).setCell gU _).trans (hb1.mono jP)⟩
 | true =>
  have HB:=ab hbv;have HR:Hid (R=(oneB ks&&decide (0≤lo∧lo≤255∧(hi=-1∨lo≤hi∧hi≤255)))):=ab ji;clear hbv;rcases ks with _|⟨x,_|⟨y,ks⟩⟩
  ·have HR2:Hid (R=false):=ab jf
   go_enter Tryz.func71,Tryz.ntmps71
   go_wp2
   go_quiet (fail)
   go_wp2_with (go_at_call 88;refine(om _ HB.out).mono ?_;rintro e w1 ⟨rfl,hb1,hc1⟩;have hq7:=hc1 ⟨w.heap.size,7,none⟩ (.slice ka (0) kc) (by simp [go_sem]))
   exact cJ
  ·obtain⟨xk,xc,xn,xr,xl,xh,xz,xs⟩:=x
   obtain⟨b,o,_,_,_,_,rfl,_,hbB,_,_,_,q0,_⟩:=hx.cells (m:=0) rfl;simp only [Nat.zero_mul,Nat.add_zero] at q0;obtain⟨rb,hrb⟩:∃rb,repB xk=rb:=⟨_,rfl⟩;have HRB:=ab hrb;have HR2:Hid (R=(rb&&decide (0≤lo∧lo≤255∧(hi=-1∨lo≤hi∧hi≤255)))):=ab (by rw [HR.out,←HRB.out];rfl);clear hrb;cases rb
   all_goals
    go_enter Tryz.func71,Tryz.ntmps71
    go_wp2
    go_quiet (fail)
    go_wp2_with (first|(go_at_call 88;refine(om _ HB.out).mono ?_;rintro e w1 ⟨rfl,hb1,hc1⟩;have hq7:=hc1 ⟨w.heap.size,7,none⟩ (.slice (some ⟨b,o,none⟩) 1 kc) (by simp [go_sem]);have hq0:w1.cell? ⟨b,o,none⟩=some (.int .i64 xk):=hc1 _ _ (by simp [go_sem,World.cell?_alloc_lt,hbB,q0]))|(go_at_call 91;refine(B6 _ HRB.out).mono ?_;rintro e w2 ⟨rfl,rfl⟩))
    all_goals
     go_ret
     refine⟨lM ?_,((((below_drewN ((Below.refl w.heap.size w).alloc (Ju _) _) _).setCell gU _).setCell gU _).setCell gU _).trans (hb1.mono jP)⟩;rw [HR2.out];first|rfl|(rw [JG,Bool.eq_iff_iff];simp;omega)
  ·have HR2:Hid (R=false):=ab jf
   go_enter Tryz.func71,Tryz.ntmps71
   go_wp2
   go_quiet (fail)
   go_wp2_with (go_at_call 88;refine(om _ HB.out).mono ?_;rintro e w1 ⟨rfl,hb1,hc1⟩;have hq7:=hc1 ⟨w.heap.size,7,none⟩ (.slice ka (ks.length+1+1) kc) (by simp [go_sem]))
   exact cJ
theorem Ey (S:Nat→Prop) (K:Int) (c:Str) (ng:Bool) (ra:Option Addr) (rs:List (Str × Str)) (rc:Nat) (lo hi:Int) (lz:Bool) (ka:Option Addr) (ks:List Rx) (kc:Nat) (w:World)
  (hr:SlS w S ra 2 rs.length (lw rs)) (hx:RxSl w S ka ks.length ks) (hsm:(Rx.mk K c ng rs lo hi lz ks).small1) :
  Calls Tryz.prog 71 #[.agg #[.int .i64 K,.string ⟨c.toArray⟩,.bool ng,.slice ra rs.length rc,.int .i64 lo,.int .i64 hi,.bool lz,.slice ka ks.length kc]] w fun e w'=>e=.returned (.bool (lI (.mk K c ng rs lo hi lz ks)))∧Below w.heap.size w w':=by
 by_cases h0:K=0
 ·subst h0;exact fields_0 S c ng ra rs rc lo hi lz ka ks kc w hx hsm
 by_cases h1:K=1
 ·subst h1;exact fields_1 S c ng ra rs rc lo hi lz ka ks kc w hx hsm
 by_cases h2:K=2
 ·subst h2;exact fields_2 c ng ra rs rc lo hi lz ka ks kc w hsm
 by_cases h4:K=4
 ·subst h4;exact fields_4 c ng ra rs rc lo hi lz ka ks kc w hr.sl hsm
 by_cases h7:K=7
 ·subst h7;exact fields_7 S c ng ra rs rc lo hi lz ka ks kc w hx hsm
 by_cases h5:K=5∨K=6
 ·exact FA K h5 c ng ra rs rc lo hi lz ka ks kc w hsm
 by_cases h3:K=3∨K=8∨K=9∨K=10∨K=11
 ·exact Cx K h3 c ng ra rs rc lo hi lz ka ks kc w hsm
 ·exact C2 K gN c ng ra rs.length rs rc lo hi lz ka ks.length ks kc w
def FitPost (x:Rx) (left dp:Int) (e:Ending):Prop :=
 ∃l':Int,e=.returned (.tuple #[.int .i64 l',.bool (okB x left dp)])∧(okB x left dp=true→l'=left-x.parts)
def FitRel (ks:List Rx) (R:Bool) (tot dp:Int) (w:World) (t q:Value) (wr:World):Prop :=
 ∃(k:Nat) (l:Int),k≤ks.length∧q=.int .i64 k∧t=.int .i64 l∧0≤l∧l≤100000∧Below w.heap.size w wr∧Hid (okL (ks.drop k) l dp=R)∧Hid (l-Rx.partsL (ks.drop k)=tot)
theorem okL_nil {l dp:Int} (h:0≤l) (h':0≤dp):okL [] l dp=true:=by
 unfold okL;rw [JR (show ((Rx.partsL []:Nat):Int)≤l from h),JR (show ((Rx.deepL []:Nat):Int)≤dp from h')];rfl
theorem tG {S:Nat→Prop} {K:Int} {c:Str} {ng:Bool} {ra:Option Addr} {rs:List (Str × Str)} {rc:Nat} {lo hi:Int} {lz:Bool} {ka:Option Addr} {ks:List Rx} {kc:Nat} {b:Bool} (w:World)
  (h:lI (.mk K c ng rs lo hi lz ks)=b) (hr:SlS w S ra 2 rs.length (lw rs)) (hx:RxSl w S ka ks.length ks) (hsm:(Rx.mk K c ng rs lo hi lz ks).small1) :
  Calls Tryz.prog 71 #[.agg #[.int .i64 K,.string ⟨c.toArray⟩,.bool ng,.slice ra rs.length rc,.int .i64 lo,.int .i64 hi,.bool lz,.slice ka ks.length kc]] w fun e w'=>e=.returned (.bool b)∧Below w.heap.size w w'∧∀a u,w.cell? a=some u→w'.cell? a=some u:=by
 subst h;exact(Ey S K c ng ra rs rc lo hi lz ka ks kc w hr hx hsm).mono fun _ _ ⟨h1,h2⟩=>⟨h1,h2,lP h2⟩
theorem DR (S:Nat→Prop):∀(N:Nat) (x:Rx),x.parts≤N→x.parts≤1000000→x.small→∀(cc:List Value) (w:World) (left dp:Int),RxV w S cc x→-100000≤left→left≤100000→-100000≤dp→dp≤100000 →
  Calls Tryz.prog 54 #[.agg cc.toArray,.int .i64 left,.int .i64 dp] w fun e w'=>FitPost x left dp e∧Below w.heap.size w w'
 | 0,x,h,_,_,_,_,_,_,_,_,_,_,_=>by have:=Rx.parts_pos x;omega
 | N+1,.mk k c ng rs lo hi lz ks,h,hm,hsm,cc,w,left,dp,hv,l0,l1,d0,d1=>by
  obtain⟨ra,rc,ka,kc,rfl,hrs,hx⟩:=hv.open_;obtain⟨hs1,hs2⟩:=hsm;simp only [Rx.parts] at h hm;have hlen:=Rx.len_parts ks;have ih:=fun(y:Rx) (hy:y.parts≤Rx.partsL ks)=>DR S N y gN gN
  have IH:=ab ih;have HSM:=ab hs2;have HS1:=ab hs1;have hb0:=(Below.refl w.heap.size w).alloc (Ju _) (.cells #[.int .i64 k,.string ⟨c.toArray⟩,.bool ng,.slice ra rs.length rc,.int .i64 lo,.int .i64 hi,.bool lz,.slice ka ks.length kc] 38);have HX0:=ab (hx.later hb0);have HRS:=ab (hrs.keep (Kept.all hb0));clear hx hv hrs ih hs1 hs2;unfold rxc;cases hG:grpB k with
  | true =>
   cases hF:lI (.mk k c ng rs lo hi lz ks) with
   | false =>
    exact bm
   | true =>
    have HF:=ab hF;by_cases hld:left<1∨dp-1<0
    ·exact bj
    ·have hl1:1≤left:=gN
     have hd0:0≤dp-1:=gN;have HO:Hid (okB (.mk k c ng rs lo hi lz ks) left dp=okL ks (left-1) (dp-1)):=ab (by rw [DV,hG,hF,JR hl1];simp;omega);clear hF hld;obtain⟨R,hR⟩:∃R,okL ks (left-1) (dp-1)=R:=⟨_,rfl⟩;have HR0:Hid (okL (ks.drop 0) (left-1) (dp-1)=R):=ab hR;have HT0:Hid (left-1-Rx.partsL (ks.drop 0)=left-(Rx.mk k c ng rs lo hi lz ks).parts):=ab (by simp only [Rx.parts,JZ];omega);obtain⟨tot,htot⟩:∃tot,left-((Rx.mk k c ng rs lo hi lz ks).parts:Int)=tot:=⟨_,rfl⟩;have HOR:Hid (okB (.mk k c ng rs lo hi lz ks) left dp=R):=ab (by rw [HO.out,hR]);have HTT:=ab htot;rw [htot] at HT0;clear hR htot HO;go_enter Tryz.func54,Tryz.ntmps54
     go_wp2_with (first|(go_at_call 70;refine(tj _ _).mono ?_;rintro e w1 ⟨rfl,rfl⟩;rw [hG])|(go_at_call 71;refine(tG _ HF.out HRS.out HX0.out HS1.out).mono ?_;rintro e w1 ⟨rfl,hb1,hc1⟩;have z1:=hc1 ⟨w.heap.size,7,none⟩ (.slice ka ks.length kc) gU))
     have HX1:=ab ((HX0.out.later (Below.refl _ _)).later hb1);have hbw1:Below w.heap.size w w1:=((Below.refl _ _).alloc (Ju _) _).trans (hb1.mono gU);have hz1:=hbw1.size;clear hb1 hc1 z1;go_loopw [1,33] (fun t q wr=>FitRel ks R tot (dp-1) w1 t q wr) (fun _ q _=>ks.length-(intOf q).toNat)
     case atStart=>exact⟨0,left-1,by omega,rfl,rfl,by omega,by omega,Below.refl _ _,HR0,HT0⟩
     case round =>
      obtain⟨i,l,hi,rfl,rfl,hl0,hl9,hb,HL,HTL⟩:=hrel;clear HR0 HT0;have hB:=hb.size;cases hd:ks.drop i with
      | nil =>
       exact cd
      | cons y r =>
       have HX:=HX1;obtain⟨h2,h3,hr⟩:=lC hd;obtain⟨yk,yc,yn,yr,yl,yh,yz,ys⟩:=y;obtain⟨b,o,ya,yrc,yka,ykc,rfl,hS,hbB,_,_,hyv,c0,c1,c2,c3,c4,c5,c6,c7⟩:=(HX.out.later hb).cells h3;have hyp:=Rx.parts_mem (JH h3);have hym:=oG HSM.out (JH h3);have Hr:=ab hr;have HE:Hid (R=(okB (.mk yk yc yn yr yl yh yz ys) l (dp-1)&&okL r (l-(Rx.mk yk yc yn yr yl yh yz ys).parts) (dp-1))):=ab (by rw [←HL.out,hd,DU]);have HE2:Hid (l-(Rx.mk yk yc yn yr yl yh yz ys).parts-Rx.partsL r=tot):=ab (by rw [←HTL.out,hd];simp only [Rx.partsL];omega);have HYV:=ab (hyv.later ((Below.refl wr.heap.size wr).alloc (Ju _) (.cells (rxc yk yc yn ya yr.length yrc yl yh yz yka ys.length ykc).toArray 38)));unfold rxc at HYV;have HYM:=ab hym;clear hd HL HTL hr h3 hyv hym;go_wp2_with (go_at_call 54;refine(IH.out _ hyp HYM.out _ _ l (dp-1) HYV.out gN gN gN gN).mono ?_)
       rintro e w2 ⟨⟨l',rfl,hl'⟩,hb2⟩;have hbw2:Below w.heap.size w w2:=hbw1.trans (((hb.alloc hB _).trans (hb2.mono gV)).mono hz1);cases hok:okB (.mk yk yc yn yr yl yh yz ys) l (dp-1) with
       | false =>
        exact cV
       | true =>
        have hl2:=hl' hok;have hpp:(Rx.mk yk yc yn yr yl yh yz ys).parts≤l:=by
         have h:=hok;simp only [okB,Jy,Jj] at h;exact h.1.2
        have HE3:Hid (okL r l' (dp-1)=R):=ab (by rw [HE.out,hok,hl2];rfl);exact bX
  | false =>
   cases hF:lI (.mk k c ng rs lo hi lz ks) with
   | false =>
    exact bm
   | true =>
    have HF:=ab hF;by_cases hld:left<1∨dp<0
    ·exact bj
    ·have hl1:1≤left:=gN
     have hd0:0≤dp:=gN;have HO:Hid (okB (.mk k c ng rs lo hi lz ks) left dp=okL ks (left-1) (dp)):=ab (by rw [DV,hG,hF,JR hl1];simp;omega);clear hF hld;obtain⟨R,hR⟩:∃R,okL ks (left-1) (dp)=R:=⟨_,rfl⟩;have HR0:Hid (okL (ks.drop 0) (left-1) (dp)=R):=ab hR;have HT0:Hid (left-1-Rx.partsL (ks.drop 0)=left-(Rx.mk k c ng rs lo hi lz ks).parts):=ab (by simp only [Rx.parts,JZ];omega);obtain⟨tot,htot⟩:∃tot,left-((Rx.mk k c ng rs lo hi lz ks).parts:Int)=tot:=⟨_,rfl⟩;have HOR:Hid (okB (.mk k c ng rs lo hi lz ks) left dp=R):=ab (by rw [HO.out,hR]);have HTT:=ab htot;rw [htot] at HT0;clear hR htot HO;go_enter Tryz.func54,Tryz.ntmps54
     go_wp2_with (first|(go_at_call 70;refine(tj _ _).mono ?_;rintro e w1 ⟨rfl,rfl⟩;rw [hG])|(go_at_call 71;refine(tG _ HF.out HRS.out HX0.out HS1.out).mono ?_;rintro e w1 ⟨rfl,hb1,hc1⟩;have z1:=hc1 ⟨w.heap.size,7,none⟩ (.slice ka ks.length kc) gU))
     have HX1:=ab ((HX0.out.later (Below.refl _ _)).later hb1);have hbw1:Below w.heap.size w w1:=((Below.refl _ _).alloc (Ju _) _).trans (hb1.mono gU);have hz1:=hbw1.size;clear hb1 hc1 z1;go_loopw [1,33] (fun t q wr=>FitRel ks R tot (dp) w1 t q wr) (fun _ q _=>ks.length-(intOf q).toNat)
     case atStart=>exact⟨0,left-1,by omega,rfl,rfl,by omega,by omega,Below.refl _ _,HR0,HT0⟩
     case round =>
      obtain⟨i,l,hi,rfl,rfl,hl0,hl9,hb,HL,HTL⟩:=hrel;clear HR0 HT0;have hB:=hb.size;cases hd:ks.drop i with
      | nil =>
       exact cd
      | cons y r =>
       have HX:=HX1;obtain⟨h2,h3,hr⟩:=lC hd;obtain⟨yk,yc,yn,yr,yl,yh,yz,ys⟩:=y;obtain⟨b,o,ya,yrc,yka,ykc,rfl,hS,hbB,_,_,hyv,c0,c1,c2,c3,c4,c5,c6,c7⟩:=(HX.out.later hb).cells h3;have hyp:=Rx.parts_mem (JH h3);have hym:=oG HSM.out (JH h3);have Hr:=ab hr;have HE:Hid (R=(okB (.mk yk yc yn yr yl yh yz ys) l (dp)&&okL r (l-(Rx.mk yk yc yn yr yl yh yz ys).parts) (dp))):=ab (by rw [←HL.out,hd,DU]);have HE2:Hid (l-(Rx.mk yk yc yn yr yl yh yz ys).parts-Rx.partsL r=tot):=ab (by rw [←HTL.out,hd];simp only [Rx.partsL];omega);have HYV:=ab (hyv.later ((Below.refl wr.heap.size wr).alloc (Ju _) (.cells (rxc yk yc yn ya yr.length yrc yl yh yz yka ys.length ykc).toArray 38)));unfold rxc at HYV;have HYM:=ab hym;clear hd HL HTL hr h3 hyv hym;go_wp2_with (go_at_call 54;refine(IH.out _ hyp HYM.out _ _ l (dp) HYV.out gN gN gN gN).mono ?_)
       rintro e w2 ⟨⟨l',rfl,hl'⟩,hb2⟩;have hbw2:Below w.heap.size w w2:=hbw1.trans (((hb.alloc hB _).trans (hb2.mono gV)).mono hz1);cases hok:okB (.mk yk yc yn yr yl yh yz ys) l (dp) with
       | false =>
        exact cV
       | true =>
        have hl2:=hl' hok;have hpp:(Rx.mk yk yc yn yr yl yh yz ys).parts≤l:=by
         have h:=hok;simp only [okB,Jy,Jj] at h;exact h.1.2
        have HE3:Hid (okL r l' (dp)=R):=ab (by rw [HE.out,hok,hl2];rfl);exact bX
theorem AS (S:Nat→Prop) (x:Rx) (cc:List Value) (w:World) (hm:x.parts≤1000000) (hsm:x.small) (hv:RxV w S cc x) :
  Calls Tryz.prog 37 #[.agg cc.toArray] w fun e w'=>e=.returned (.bool (mayB x))∧Below w.heap.size w w':=by
 obtain⟨k,c,ng,rs,lo,hi,lz,ks⟩:=x;obtain⟨ra,rc,ka,kc,rfl,hrs,hx⟩:=hv.open_;have HV:=ab (hv.later ((Below.refl w.heap.size w).alloc (Ju _) (.cells #[.int .i64 k,.string ⟨c.toArray⟩,.bool ng,.slice ra rs.length rc,.int .i64 lo,.int .i64 hi,.bool lz,.slice ka ks.length kc] 38)));have HSM:=ab hsm;have HM:=ab hm;clear hv hrs hx hsm hm;unfold rxc at HV ⊢;go_enter Tryz.func37,Tryz.ntmps37
 go_wp2_with (go_at_call 54;refine(DR S _ _ (Ju _) HM.out HSM.out _ _ 512 16 HV.out gR gR gR gR).mono ?_;rintro e w1 ⟨⟨l',rfl,hl'⟩,hb1⟩)
 exact eE
def ShowC (B g:Nat) (x:Rx):Prop:=∀(cc:List Value) (acc:Str) (w:World),RxV w (·<B) cc x→Bld B g acc w→B≤w.heap.size→Tab w→(acc++x.tell).length≤10000000 →
 Calls Tryz.prog 38 #[.pointer (some ⟨g,0,none⟩),.agg cc.toArray] w fun e w'=>ri B g (acc++x.tell) w e w'
theorem ShowC.at_ {B g:Nat} {x:Rx} {out:Str} (h:ShowC B g x) {cc:List Value} {acc:Str} {w:World} (hv:RxV w (·<B) cc x) (hbl:Bld B g acc w) (hB:B≤w.heap.size) (ht:Tab w) (ho:acc++x.tell=out) (hl:out.length≤10000000) :
  Calls Tryz.prog 38 #[.pointer (some ⟨g,0,none⟩),.agg cc.toArray] w fun e w'=>e=.returned (.tuple #[])∧Bld B g out w'∧Fr B [g] [5] w w':=by
 subst ho;exact h cc acc w hv hbl hB ht hl
def tlF (_:Nat) (ks:List Rx):Str:=Rx.tellL ks
def taF (k:Nat) (ks:List Rx):Str:=Rx.tellA (decide (0<k)) ks
theorem show_seq (B g:Nat) (acc:Str) (c:Str) (ng:Bool) (ra:Option Addr) (rs:List (Str × Str)) (rn rc:Nat) (lo hi:Int) (lz:Bool) (ka:Option Addr) (ks:List Rx) (kc:Nat) (w:World)
  (ih:∀y∈ks,ShowC B g y) (hgT:1<B)
  (hbl:Bld B g acc w) (hB:B≤w.heap.size) (ht:Tab w) (hx:RxSl w (·<B) ka ks.length ks) (hkl:ks.length≤1000000)
  (hlen:(acc++tlF 0 ks).length≤10000000) :
  Calls Tryz.prog 38 #[.pointer (some ⟨g,0,none⟩),.agg #[.int .i64 0,.string ⟨c.toArray⟩,.bool ng,.slice ra rn rc,.int .i64 lo,.int .i64 hi,.bool lz,.slice ka ks.length kc]] w fun e w'=>ri B g (acc++(Rx.mk 0 c ng rs lo hi lz ks).tell) w e w':=by
 have IH:=ab ih;clear ih;obtain⟨T,hT⟩:∃T,acc++tlF 0 ks=T:=⟨_,rfl⟩;have HT0:Hid (acc++tlF 0 (ks.drop 0)=T):=ab hT;have HTL:T.length≤10000000:=by rw [←hT];exact hlen
 have HTT:=ab hT;clear hT hlen;have hgl:=hbl.lt;have hgB:=hbl.le;obtain⟨w0,hw0⟩:∃w0,w0=w.alloc (.cells #[.int .i64 0,.string ⟨c.toArray⟩,.bool ng,.slice ra rn rc,.int .i64 lo,.int .i64 hi,.bool lz,.slice ka ks.length kc] 38):=⟨_,rfl⟩;have hb0:Below w.heap.size w w0:=by rw [hw0];exact(Below.refl _ _).alloc (Ju _) _
 have HX:=ab (hx.keep (Kept.all hb0));have hbl0:Bld B g acc w0:=by rw [hw0];exact hbl.alloc _
 have HTB:=ab (ht.keep hb0);have hB0:B≤w0.heap.size:=Jv hB hb0.size;clear hx ht hbl;go_enter Tryz.func38,Tryz.ntmps38
 go_wp2
 rw [←hw0];have hf0:Fr B [g] [5] w w0:=Fr.of_below hb0 (Ju _);clear hw0;go_loopw [15] (fun q wr=>F2 B g ks tlF T w0 q wr) (fun q _=>ks.length-(intOf q).toNat)
 case atStart=>exact⟨0,acc,by omega,rfl,hbl0,Fr.refl _ _ _ _,HT0⟩
 case round =>
  obtain⟨k,ac,hk,rfl,hblr,hfrr,HF⟩:=hrel;clear HT0 hbl0;have hBr:B≤wr.heap.size:=Jv hB0 hfrr.size;have hkp:=Kept.fr hfrr hB0 hgB;have htr:Tab wr:=HTB.out.keepB hgT (hfrr.below hB0 kx);have hgl2:=hblr.lt;have hacl:ac.length≤10000000:=by have h:=Jp List.length HF.out;simp only [JA] at h;omega
  cases hd:ks.drop k with
  | nil =>
   have h2:ks.length≤k:=it;have HE:Hid (ac=T):=ab (by rw [←HF.out,hd];simp [tlF,Rx.tellL]);clear hd HF;go_wp2
   go_end0
   exact⟨rfl,by have h:=hblr;rw [HE.out,←HTT.out] at h;simpa [Rx.tell,tlF] using h,hf0.trans hfrr⟩
  | cons y r =>
   obtain⟨h2,h3,hr⟩:=lC hd;have hymem:=JH h3;obtain⟨yk,yc,yn,yr,yl,yh,yz,ys⟩:=y;obtain⟨b,o,ya,yrc,yka,ykc,rfl,hS,hbB,_,_,hyv,c0,c1,c2,c3,c4,c5,c6,c7⟩:=(HX.out.keep hkp).cells h3;have Hr:=ab hr;have HYV:=ab (hyv.keep (Kept.all ((Below.refl wr.heap.size wr).alloc (Ju _) (.cells (rxc yk yc yn ya yr.length yrc yl yh yz yka ys.length ykc).toArray 38))));unfold rxc at HYV;have HE:Hid (ac++(Rx.tell (.mk yk yc yn yr yl yh yz ys)++tlF (k+1) r)=T):=ab iE;have hol:(ac++Rx.tell (.mk yk yc yn yr yl yh yz ys)).length≤10000000:=by have h:=Jp List.length HE.out;simp only [JA] at h ⊢;omega
   have HTA:=ab (htr.keep ((Below.refl wr.heap.size wr).alloc (Ju _) (.cells (rxc yk yc yn ya yr.length yrc yl yh yz yka ys.length ykc).toArray 38)));unfold rxc at HTA;clear hd HF hr h3 hyv htr;go_wp2_with (go_at_call 38;refine((IH.out _ hymem).at_ HYV.out (hblr.alloc _) gV HTA.out rfl hol).mono ?_)
   first|rintro e w2 rfl hbl2 hfr2|rintro e w2 ⟨rfl,hbl2,hfr2⟩
   go_wp2_with fail
   go_roundw
   case rel=>exact⟨k+1,_,by omega,by go_num,hbl2,hfrr.trans (((Fr.refl _ _ _ _).alloc _).trans hfr2),ab (by rw [Hr.out,←HE.out,J3])⟩
   case measure=>simp [intOf];omega
theorem show_alt (B g:Nat) (acc:Str) (c:Str) (ng:Bool) (ra:Option Addr) (rs:List (Str × Str)) (rn rc:Nat) (lo hi:Int) (lz:Bool) (ka:Option Addr) (ks:List Rx) (kc:Nat) (w:World)
  (ih:∀y∈ks,ShowC B g y) (hgT:1<B)
  (hbl:Bld B g acc w) (hB:B≤w.heap.size) (ht:Tab w) (hx:RxSl w (·<B) ka ks.length ks) (hkl:ks.length≤1000000)
  (hlen:(acc++taF 0 ks).length≤10000000) :
  Calls Tryz.prog 38 #[.pointer (some ⟨g,0,none⟩),.agg #[.int .i64 1,.string ⟨c.toArray⟩,.bool ng,.slice ra rn rc,.int .i64 lo,.int .i64 hi,.bool lz,.slice ka ks.length kc]] w fun e w'=>ri B g (acc++(Rx.mk 1 c ng rs lo hi lz ks).tell) w e w':=by
 have IH:=ab ih;clear ih;obtain⟨T,hT⟩:∃T,acc++taF 0 ks=T:=⟨_,rfl⟩;have HT0:Hid (acc++taF 0 (ks.drop 0)=T):=ab hT;have HTL:T.length≤10000000:=by rw [←hT];exact hlen
 have HTT:=ab hT;clear hT hlen;have hgl:=hbl.lt;have hgB:=hbl.le;obtain⟨w0,hw0⟩:∃w0,w0=w.alloc (.cells #[.int .i64 1,.string ⟨c.toArray⟩,.bool ng,.slice ra rn rc,.int .i64 lo,.int .i64 hi,.bool lz,.slice ka ks.length kc] 38):=⟨_,rfl⟩;have hb0:Below w.heap.size w w0:=by rw [hw0];exact(Below.refl _ _).alloc (Ju _) _
 have HX:=ab (hx.keep (Kept.all hb0));have hbl0:Bld B g acc w0:=by rw [hw0];exact hbl.alloc _
 have HTB:=ab (ht.keep hb0);have hB0:B≤w0.heap.size:=Jv hB hb0.size;clear hx ht hbl;go_enter Tryz.func38,Tryz.ntmps38
 go_wp2
 rw [←hw0];have hf0:Fr B [g] [5] w w0:=Fr.of_below hb0 (Ju _);clear hw0;go_loopw [28] (fun q wr=>F2 B g ks taF T w0 q wr) (fun q _=>ks.length-(intOf q).toNat)
 case atStart=>exact⟨0,acc,by omega,rfl,hbl0,Fr.refl _ _ _ _,HT0⟩
 case round =>
  obtain⟨k,ac,hk,rfl,hblr,hfrr,HF⟩:=hrel;clear HT0 hbl0;have hBr:B≤wr.heap.size:=Jv hB0 hfrr.size;have hkp:=Kept.fr hfrr hB0 hgB;have htr:Tab wr:=HTB.out.keepB hgT (hfrr.below hB0 kx);have hgl2:=hblr.lt;have hacl:ac.length≤10000000:=by have h:=Jp List.length HF.out;simp only [JA] at h;omega
  cases hd:ks.drop k with
  | nil =>
   have h2:ks.length≤k:=it;have HE:Hid (ac=T):=ab (by rw [←HF.out,hd];simp [taF,Rx.tellA]);clear hd HF;go_wp2
   go_end0
   exact⟨rfl,by have h:=hblr;rw [HE.out,←HTT.out] at h;simpa [Rx.tell,taF] using h,hf0.trans hfrr⟩
  | cons y r =>
   obtain⟨h2,h3,hr⟩:=lC hd;have hymem:=JH h3;obtain⟨yk,yc,yn,yr,yl,yh,yz,ys⟩:=y;obtain⟨b,o,ya,yrc,yka,ykc,rfl,hS,hbB,_,_,hyv,c0,c1,c2,c3,c4,c5,c6,c7⟩:=(HX.out.keep hkp).cells h3;have Hr:=ab hr;have HYV:=ab (hyv.keep (Kept.all ((Below.refl wr.heap.size wr).alloc (Ju _) (.cells (rxc yk yc yn ya yr.length yrc yl yh yz yka ys.length ykc).toArray 38))));unfold rxc at HYV;have HE:Hid (ac++((if 0<k then [124] else [])++(Rx.tell (.mk yk yc yn yr yl yh yz ys)++taF (k+1) r))=T):=ab (by rw [←HF.out,hd];simp [taF,Rx.tellA]);have HTA:=ab (htr.keep ((Below.refl wr.heap.size wr).alloc (Ju _) (.cells (rxc yk yc yn ya yr.length yrc yl yh yz yka ys.length ykc).toArray 38)));unfold rxc at HTA;by_cases hk0:0<k
   ·have HE2:Hid (ac++[124]++Rx.tell (.mk yk yc yn yr yl yh yz ys)++taF (k+1) r=T):=ab (by rw [←HE.out,Jl hk0];simp)
    have hol:(ac++[124]++Rx.tell (.mk yk yc yn yr yl yh yz ys)).length≤10000000:=by have h:=Jp List.length HE2.out;simp only [JA] at h ⊢;omega
    clear hd HF hr h3 hyv htr;go_wp2_with (go_at_call 34;refine(lv B _ (ac) 124 _ (hblr.alloc _) gP gP gR gR).mono ?_)
    first|rintro e w1 rfl hbl1 hfr1|rintro e w1 ⟨rfl,hbl1,hfr1⟩
    have hbx1:=hfr1.held (heap_alloc_new wr _) gR (Nat.ne_of_gt hgl2);have z0:w1.cell? ⟨wr.heap.size,0,none⟩=some (.int .i64 yk):= iq;have z1:w1.cell? ⟨wr.heap.size,1,none⟩=some (.string ⟨yc.toArray⟩):= iq;have z2:w1.cell? ⟨wr.heap.size,2,none⟩=some (.bool yn):= iq;have z3:w1.cell? ⟨wr.heap.size,3,none⟩=some (.slice ya yr.length yrc):= iq;have z4:w1.cell? ⟨wr.heap.size,4,none⟩=some (.int .i64 yl):= iq;have z5:w1.cell? ⟨wr.heap.size,5,none⟩=some (.int .i64 yh):= iq;have z6:w1.cell? ⟨wr.heap.size,6,none⟩=some (.bool yz):= iq;have z7:w1.cell? ⟨wr.heap.size,7,none⟩=some (.slice yka ys.length ykc):= iq;have hBA:B≤(wr.alloc (.cells (rxc yk yc yn ya yr.length yrc yl yh yz yka ys.length ykc).toArray 38)).heap.size:=by simp;omega
    have hB1:B≤w1.heap.size:=Jv hBA hfr1.size;have HYV1:=ab (HYV.out.keep (Kept.fr hfr1 hBA hgB));have HTA1:=ab (HTA.out.keepB hgT (hfr1.below hBA kx));have hfx:=hfrr.trans (((Fr.refl _ _ _ _).alloc _).trans hfr1);clear hbx1 hfr1;go_wp2_with (go_at_call 38;refine((IH.out _ hymem).at_ HYV1.out hbl1 hB1 HTA1.out rfl hol).mono ?_)
    first|rintro e w2 rfl hbl2 hfr2|rintro e w2 ⟨rfl,hbl2,hfr2⟩
    go_wp2_with fail
    go_roundw
    case rel=>exact⟨k+1,_,by omega,by go_num,hbl2,hfx.trans hfr2,ab (by rw [Hr.out];exact HE2.out)⟩
    case measure=>simp [intOf];omega
   ·have hk1:k=0:=gN
    subst hk1;have HE2:Hid (ac++Rx.tell (.mk yk yc yn yr yl yh yz ys)++taF (0+1) r=T):=ab (by rw [←HE.out,Jo hk0];simp);have hol:(ac++Rx.tell (.mk yk yc yn yr yl yh yz ys)).length≤10000000:=by have h:=Jp List.length HE2.out;simp only [JA] at h ⊢;omega
    simp only [Nat.zero_mul,Nat.add_zero] at c0 c1 c2 c3 c4 c5 c6 c7;clear hd HF hr h3 hyv htr hk0;go_wp2_with (go_at_call 38;refine((IH.out _ hymem).at_ HYV.out (hblr.alloc _) gV HTA.out rfl hol).mono ?_)
    first|rintro e w2 rfl hbl2 hfr2|rintro e w2 ⟨rfl,hbl2,hfr2⟩
    go_wp2_with fail
    go_roundw
    case rel=>exact⟨0+1,_,by omega,by go_num,hbl2,hfrr.trans (((Fr.refl _ _ _ _).alloc _).trans hfr2),ab (by rw [Hr.out];exact HE2.out)⟩
    case measure=>simp [intOf];omega
end Go.Proofs.YtdcnncgpomcaaaaGreatDoor
