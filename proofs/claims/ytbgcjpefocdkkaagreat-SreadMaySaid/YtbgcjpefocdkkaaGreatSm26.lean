/- walks of snode.fields, fits, May where they hold -/
import Derived.Test.YtbgcjpefocdkkaaGreatSm1
import Derived.Test.YtbgcjpefocdkkaaGreatSm2
import Derived.Test.YtbgcjpefocdkkaaGreatSm3
import Derived.Test.YtbgcjpefocdkkaaGreatSm4
import Derived.Test.YtbgcjpefocdkkaaGreatSm5
import Derived.Test.YtbgcjpefocdkkaaGreatSm6
import Derived.Test.YtbgcjpefocdkkaaGreatSm7
import Derived.Test.YtbgcjpefocdkkaaGreatSm8
import Derived.Test.YtbgcjpefocdkkaaGreatSm9
import Derived.Test.YtbgcjpefocdkkaaGreatSm10
import Derived.Test.YtbgcjpefocdkkaaGreatSm11
import Derived.Test.YtbgcjpefocdkkaaGreatSm12
import Derived.Test.YtbgcjpefocdkkaaGreatSm13
import Derived.Lib.ItoaMem
import Derived.Test.YtbgcjpefocdkkaaGreatSm14
import Derived.Test.YtbgcjpefocdkkaaGreatSm15
import Derived.Test.YtbgcjpefocdkkaaGreatSm16
import Derived.Test.YtbgcjpefocdkkaaGreatSm17
import Derived.Test.YtbgcjpefocdkkaaGreatSm18
import Derived.Test.YtbgcjpefocdkkaaGreatSm19
import Derived.Test.YtbgcjpefocdkkaaGreatSm20
import Derived.Test.YtbgcjpefocdkkaaGreatSm21
import Derived.Test.YtbgcjpefocdkkaaGreatSm22
import Derived.Test.YtbgcjpefocdkkaaGreatSm23
import Derived.Test.YtbgcjpefocdkkaaGreatSm24
import Derived.Test.YtbgcjpefocdkkaaGreatSm25
set_option maxRecDepth 100000
namespace Go.Proofs.YtbgcjpefocdkkaaGreat
open Go.RowKit
def FldC (x:Sn):Prop:=∀(S:Nat→Prop) (cc:List Value) (w:World),SnV w S cc x→Calls Tryz.prog 33 #[.agg cc.toArray] w fun e w'=>e=.returned (.bool true)∧Below w.heap.size w w'
set_option maxHeartbeats 1000000 in
theorem Fields_0 (t:Str) (ht:t≠[]):FldC (textS t):=by
 intro S cc w hv;unfold textS at hv;have hne:(⟨t.toArray⟩:ByteArray)≠⟨#[]⟩:=fun e=>ht (by simpa using e)
 have hq1:(t==([]:Str))=false:=by simpa using ht
 have hq2:(t != ([]:Str))=true:=by simp [bne,hq1]
 have hq3:decide (t=([]:Str))=false:=decide_eq_false ht;obtain⟨W0,hW0⟩:∃W0,W0=w.alloc (.cells cc.toArray 40):=⟨_,rfl⟩;have hb0:Below w.heap.size w W0:=by rw [hW0];exact(Below.refl _ _).alloc (Nat.le_refl _) _
 have HB1:Hid (W0.heap[w.heap.size]?=some (.cells cc.toArray 40 (0,0))):=Lib.hid (by rw [hW0];exact heap_alloc_new w _);have HW0:=Lib.hid hW0;have hcl:=hv.len;have HV0:=Lib.hid (hv.later hb0);obtain⟨fc,oa,oc,ka,kc,A⟩:=hv.at_;obtain⟨k0,k1,k2,k3,k4,k16,k17,kr⟩:=A.box HB1.out;clear hW0 A hv kr;have HNO:=Lib.hid (Nothing_yes S 0 t 0 [] cc W0 HV0.out);go_enter Tryz.func33,Tryz.ntmps33
 go_upto_region 1 with fail
 rw [←HW0.out];clear HW0;go_wp2_with (first
  | (refine wpList_ldG (by rfl) 40 (.tmp 1) rfl w.heap.size 0 rfl cc _ (range_blk (ds:=[]) (by simpa using HB1.out)) snip_under rfl (by rw [snip_size,hcl]) ?_)
  | (go_at_call 45;refine HNO.out.mono ?_))
 first|rintro e w1 rfl hb1|rintro e w1 ⟨rfl,hb1⟩
 go_wp2
 go_ret
 exact⟨rfl,bel2 hb0 hb1⟩
set_option maxHeartbeats 1000000 in
theorem Fields_1 (n:Int) (h u:Bool) (f:Tf) (ks:List Sn) (h0:0≤n) (h9:n≤9999) (hb:BesC (.mk 1 [] n h u f [] ks)):FldC (.mk 1 [] n h u f [] ks):=by
 intro S cc w hv;have g0:decide (0≤n)=true:=decide_eq_true h0;have g9:decide (n≤9999)=true:=decide_eq_true h9;have HBE:=Lib.hid hb;clear hb;obtain⟨W0,hW0⟩:∃W0,W0=w.alloc (.cells cc.toArray 40):=⟨_,rfl⟩;have hb0:Below w.heap.size w W0:=by rw [hW0];exact(Below.refl _ _).alloc (Nat.le_refl _) _
 have HB1:Hid (W0.heap[w.heap.size]?=some (.cells cc.toArray 40 (0,0))):=Lib.hid (by rw [hW0];exact heap_alloc_new w _);have HW0:=Lib.hid hW0;have hcl:=hv.len;have HV0:=Lib.hid (hv.later hb0);obtain⟨fc,oa,oc,ka,kc,A⟩:=hv.at_;obtain⟨k0,k1,k2,k3,k4,k16,k17,kr⟩:=A.box HB1.out;clear hW0 A hv kr;have HNO:=Lib.hid (HBE.out S cc W0 HV0.out);go_enter Tryz.func33,Tryz.ntmps33
 go_upto_region 1 with fail
 rw [←HW0.out];clear HW0;go_wp2_with (first
  | (refine wpList_ldG (by rfl) 40 (.tmp 1) rfl w.heap.size 0 rfl cc _ (range_blk (ds:=[]) (by simpa using HB1.out)) snip_under rfl (by rw [snip_size,hcl]) ?_)
  | (go_at_call 46;refine HNO.out.mono ?_))
 first|rintro e w1 rfl hb1|rintro e w1 ⟨rfl,hb1⟩
 go_wp2
 go_ret
 exact⟨rfl,bel2 hb0 hb1⟩
set_option maxHeartbeats 1000000 in
theorem Fields_2 (n:Int) (a:Str) (o:List Str) (hol:(a::o).length≤1000000) (h0:0≤n) (h9:n≤9999):FldC (.mk 2 [] n false false tf0 (a::o) []):=by
 intro S cc w hv;have g0:decide (0≤n)=true:=decide_eq_true h0;have g9:decide (n≤9999)=true:=decide_eq_true h9;obtain⟨W0,hW0⟩:∃W0,W0=w.alloc (.cells cc.toArray 40):=⟨_,rfl⟩;have hb0:Below w.heap.size w W0:=by rw [hW0];exact(Below.refl _ _).alloc (Nat.le_refl _) _
 have HB1:Hid (W0.heap[w.heap.size]?=some (.cells cc.toArray 40 (0,0))):=Lib.hid (by rw [hW0];exact heap_alloc_new w _);have HW0:=Lib.hid hW0;have hcl:=hv.len;have HV0:=Lib.hid (hv.later hb0);obtain⟨fc,oa,oc,ka,kc,A⟩:=hv.at_;obtain⟨k0,k1,k2,k3,k4,k16,k17,kr⟩:=A.box HB1.out;clear hW0 A hv kr;have HNO:=Lib.hid (Nothing_yes S 2 [] n (a::o) cc W0 HV0.out);obtain⟨on,hon⟩:∃on,(a::o).length=on:=⟨_,rfl⟩;have hop:0<on:=by rw [←hon];simp
 have g1:decide ((0:Int)<(on:Int))=true:=decide_eq_true (by omega);rw [hon] at k16 hol;clear HV0 hon;go_enter Tryz.func33,Tryz.ntmps33
 go_upto_region 1 with fail
 rw [←HW0.out];clear HW0;go_wp2_with (first
  | (refine wpList_ldG (by rfl) 40 (.tmp 1) rfl w.heap.size 0 rfl cc _ (range_blk (ds:=[]) (by simpa using HB1.out)) snip_under rfl (by rw [snip_size,hcl]) ?_)
  | (go_at_call 45;refine HNO.out.mono ?_))
 first|rintro e w1 rfl hb1|rintro e w1 ⟨rfl,hb1⟩
 go_wp2
 go_ret
 exact⟨rfl,bel2 hb0 hb1⟩
set_option maxHeartbeats 1000000 in
theorem Fields_3 (t:Str) (htl:t.length≤1000000) (hn:nameB t=true) (h u:Bool) (f:Tf) (ks:List Sn) (hb:BesC (.mk 3 t 0 h u f [] ks)):FldC (.mk 3 t 0 h u f [] ks):=by
 intro S cc w hv;have HBE:=Lib.hid hb;have HNA:=Lib.hid (fun w=>SName_any t w htl);rw [hn] at HNA;clear hb hn;obtain⟨W0,hW0⟩:∃W0,W0=w.alloc (.cells cc.toArray 40):=⟨_,rfl⟩;have hb0:Below w.heap.size w W0:=by rw [hW0];exact(Below.refl _ _).alloc (Nat.le_refl _) _
 have HB1:Hid (W0.heap[w.heap.size]?=some (.cells cc.toArray 40 (0,0))):=Lib.hid (by rw [hW0];exact heap_alloc_new w _);have HW0:=Lib.hid hW0;have hcl:=hv.len;have HV0:=Lib.hid (hv.later hb0);obtain⟨fc,oa,oc,ka,kc,A⟩:=hv.at_;obtain⟨k0,k1,k2,k3,k4,k16,k17,kr⟩:=A.box HB1.out;clear hW0 A hv kr;have HNO:=Lib.hid (HBE.out S cc W0 HV0.out);go_enter Tryz.func33,Tryz.ntmps33
 go_upto_region 1 with fail
 rw [←HW0.out];clear HW0;go_wp2_with (first
  | (go_at_call 47;refine(HNA.out _).mono ?_)
  | (refine wpList_ldG (by rfl) 40 (.tmp 1) rfl w.heap.size 0 rfl cc _ (range_blk (ds:=[]) (by simpa using HB1.out)) snip_under rfl (by rw [snip_size,hcl]) ?_)
  | (go_at_call 46;refine HNO.out.mono ?_))
 first|rintro e w5 rfl rfl|rintro e w5 ⟨rfl,rfl⟩
 go_wp2_with (first
  | (refine wpList_ldG (by rfl) 40 (.tmp 1) rfl w.heap.size 0 rfl cc _ (range_blk (ds:=[]) (by simpa using HB1.out)) snip_under rfl (by rw [snip_size,hcl]) ?_)
  | (go_at_call 46;refine HNO.out.mono ?_))
 first|rintro e w1 rfl hb1|rintro e w1 ⟨rfl,hb1⟩
 go_wp2
 go_ret
 exact⟨rfl,bel2 hb0 hb1⟩
theorem fld_yes {x:Sn} (hs:x.small) (hf:fieldsS x=true):FldC x:=by
 obtain⟨k,t,n,h,u,f,o,ks⟩:=x;obtain⟨s1,s2,s3,s4,_⟩:=hs;by_cases k0:k=0
 ·subst k0
  have hf':(!t.isEmpty&&(decide (n=0)&&(o.isEmpty&&(!h&&(!u&&(ks.isEmpty&&tfZ f))))))=true:=hf;simp only [Bool.and_eq_true,decide_eq_true_eq,List.isEmpty_iff,Bool.not_eq_true'] at hf';obtain⟨h1,rfl,rfl,rfl,rfl,rfl,h2⟩:=hf';obtain rfl:f=tf0:=tfZ_eq0 h2;exact Fields_0 t (fun e=>by subst e;cases h1)
 by_cases k1:k=1
 ·subst k1
  have hf':(t.isEmpty&&(decide (0≤n∧n≤9999)&&(o.isEmpty&&besidesS (.mk 1 t n h u f o ks))))=true:=hf;rw [Bool.and_eq_true,Bool.and_eq_true,Bool.and_eq_true,decide_eq_true_eq,List.isEmpty_iff,List.isEmpty_iff] at hf';obtain⟨rfl,hn,rfl,hb⟩:=hf';exact Fields_1 n h u f ks hn.1 hn.2 (bes_yes s1 hb)
 by_cases k2:k=2
 ·subst k2
  have hf':(t.isEmpty&&(decide (0≤n∧n≤9999)&&(!o.isEmpty&&(!h&&(!u&&(ks.isEmpty&&tfZ f))))))=true:=hf;simp only [Bool.and_eq_true,decide_eq_true_eq,List.isEmpty_iff,Bool.not_eq_true'] at hf';obtain⟨rfl,hn,ho,rfl,rfl,rfl,hz⟩:=hf';obtain rfl:f=tf0:=tfZ_eq0 hz;cases o with
  | nil=>cases ho
  | cons a o=>exact Fields_2 n a o s2 hn.1 hn.2
 by_cases k3:k=3
 ·subst k3
  have hf':(nameB t&&(decide (n=0)&&(o.isEmpty&&besidesS (.mk 3 t n h u f o ks))))=true:=hf;rw [Bool.and_eq_true,Bool.and_eq_true,Bool.and_eq_true,decide_eq_true_eq,List.isEmpty_iff] at hf';obtain⟨hn,rfl,rfl,hb⟩:=hf';exact Fields_3 t s4 hn h u f ks (bes_yes s1 hb)
 ·exfalso
  have hf':(if k=0 then !t.isEmpty&&(decide (n=0)&&(o.isEmpty&&nothingS (.mk k t n h u f o ks))) else if k=1 then t.isEmpty&&(decide (0≤n∧n≤9999)&&(o.isEmpty&&besidesS (.mk k t n h u f o ks))) else if k=2 then t.isEmpty&&(decide (0≤n∧n≤9999)&&(!o.isEmpty&&nothingS (.mk k t n h u f o ks))) else if k=3 then nameB t&&(decide (n=0)&&(o.isEmpty&&besidesS (.mk k t n h u f o ks))) else false)=true:=hf;rw [if_neg k0,if_neg k1,if_neg k2,if_neg k3] at hf';cases hf'
def prevT (ks:List Sn) (i:Nat):Bool:=match i with|0=>false|j+1=>((ks[j]?).map fun x=>decide (x.kind=0)).getD false
theorem adjS_drop:∀(i:Nat) (ks:List Sn),adjS false ks=true→i≤ks.length→adjS (prevT ks i) (ks.drop i)=true
 | 0,ks,h,_=>h
 | i+1,ks,h,hi=>by
  have h1:=adjS_drop i ks h (by omega);have hlt:i<ks.length:=by omega
  rw [List.drop_eq_getElem_cons hlt] at h1;simp only [adjS,Bool.and_eq_true] at h1;have e:prevT ks (i+1)=decide (ks[i].kind=0):=by simp [prevT,List.getElem?_eq_getElem hlt]
  rw [e];exact h1.2
def FtRel (ks:List Sn) (w:World) (q:Value) (wr:World):Prop:=∃i:Nat,q=.int .i64 i∧i≤ks.length∧Below w.heap.size w wr
def FtC (d:Nat) (ks:List Sn):Prop:=∀(S:Nat→Prop) (a:Option Addr) (c:Nat) (w:World),SnSl w S a ks.length ks→Calls Tryz.prog 19 #[.slice a ks.length c,.int .i64 (d:Int)] w fun e w'=>e=.returned (.bool true)∧Below w.heap.size w w'
end Go.Proofs.YtbgcjpefocdkkaaGreat
set_option maxRecDepth 100000
namespace Go.Proofs.YtbgcjpefocdkkaaGreat
open Go.RowKit
theorem wfL_mem0:∀{l:List Sn},Sn.wfL l=true→∀x∈l,x.wf=true
 | [],_,x,h=>by cases h
 | y::r,hl,x,h=>by
  simp only [Sn.wfL,Bool.and_eq_true] at hl;rcases List.mem_cons.1 h with rfl|h
  ·exact hl.1
  ·exact wfL_mem0 hl.2 x h
theorem deepL_mem0:∀{l:List Sn},∀x∈l,x.deep≤Sn.deepL l
 | [],x,h=>by cases h
 | y::r,x,h=>by
  simp only [Sn.deepL];rcases List.mem_cons.1 h with rfl|h
  ·omega
  ·have:=deepL_mem0 x h;omega
theorem prev_at {ks:List Sn} {i:Nat} (h:prevT ks i=false):i=0∨∃j p,i=j+1∧(i≤ks.length→ks[j]?=some p∧p.kind≠0):=by
 cases i with
 | zero=>exact .inl rfl
 | succ j =>
  refine .inr ⟨j,ks[j]?.getD (textS []),rfl,fun hi=>?_⟩;have hlt:j<ks.length:=by omega
  simp only [prevT,List.getElem?_eq_getElem hlt,Option.map_some,Option.getD_some,decide_eq_false_iff_not] at h ⊢;exact⟨trivial,h⟩
set_option maxHeartbeats 4000000 in
theorem fits_step (ks:List Sn) (hsm:Sn.smallL ks) (hkl:ks.length≤1000000) (d:Nat) (hd9:d≤1000) (hadj0:adjS false ks=true) (hwf0:Sn.wfL ks=true) (hdp0:Sn.deepL ks≤d)
  (IH0:∀y∈ks,y.has=true→FtC (d-1) y.kids):FtC d ks:=by
 intro S a c w hx;have HX:=Lib.hid hx;have HADJ:=Lib.hid hadj0;have HWF:=Lib.hid (fun y hy=>wfL_mem0 hwf0 y hy);have HDP:=Lib.hid (fun y (hy:y∈ks)=>Nat.le_trans (deepL_mem0 y hy) hdp0);have HSM:=Lib.hid (fun y hy=>Sn.small_mem hsm y hy);have IH:=Lib.hid IH0;clear hx hadj0 hwf0 hdp0 hsm IH0;go_enter Tryz.func19,Tryz.ntmps19
 go_wp2
 go_loopw [9] (fun q wr=>FtRel ks w q wr) (fun q _=>ks.length-(intOf q).toNat)
 case atStart=>exact⟨0,rfl,by omega,Below.refl _ _⟩
 case round =>
  obtain⟨i,rfl,hi,hb⟩:=hrel;have hB:=hb.size;cases hd:ks.drop i with
  | nil =>
   have h2:ks.length≤i:=by simpa using hd
   clear hd;go_wp2
   go_ret
   exact⟨rfl,hb⟩
  | cons y r =>
   obtain⟨h2,h3,hr⟩:=ldrop_cons hd;have hym:=List.mem_of_getElem? h3;have hwf:=HWF.out y hym;have hdp:=HDP.out y hym;have hys:=HSM.out y hym;have hih:=IH.out y hym;have hadj:adjS (prevT ks i) (y::r)=true:=hd▸adjS_drop i ks HADJ.out hi;obtain⟨yk,yt,yn,yh,yu,yf,yo,ys⟩:=y;rw [Sn.wf,Bool.and_eq_true] at hwf;have hfl:=fld_yes hys hwf.1;have hnt:yk=0→prevT ks i=false∧yh=false:=fun e=>by
    subst e;refine⟨?_,?_⟩
    ·simp only [adjS,Bool.and_eq_true,Sn.kind] at hadj
     simpa using hadj.1
    ·have hf':(!yt.isEmpty&&(decide (yn=0)&&(yo.isEmpty&&(!yh&&(!yu&&(ys.isEmpty&&tfZ yf))))))=true:=hwf.1
     simp only [Bool.and_eq_true,Bool.not_eq_true'] at hf';exact hf'.2.2.2.1
   have hde:yh=true→Sn.deepL ys+1≤d:=fun e=>by subst e;simpa [Sn.deep] using hdp
   obtain⟨b,o,cc,rfl,hS,hbB,hyv,hcc⟩:=(HX.out.later hb).at_ h3;have hrg:wr.rangeAt b (o+i*18) cc:=fun j v hj=>by rw [Nat.add_assoc];exact hcc j v hj
   have hcl:=hyv.len;obtain⟨fc,oa,oc,ka,kc,hA⟩:=hyv.at_;obtain⟨W5,hW5⟩:∃W5,W5=wr.alloc (.cells cc.toArray 40):=⟨_,rfl⟩;have HW5:Hid ((wr.alloc (.cells #[.int .i64 0,.string ⟨#[]⟩,.int .i64 0,.bool false,.bool false,.int .i64 0,.string ⟨#[]⟩,.bool false,.slice none 0 0,.int .i64 0,.int .i64 0,.bool false,.slice none 0 0,.slice none 0 0,.bool false,.bool false,.slice none 0 0,.slice none 0 0] 40)).setRow wr.heap.size cc.toArray=W5):=Lib.hid (by rw [hW5];exact World.setRow_alloc_new _ _ _ _);have hb5:Below wr.heap.size wr W5:=by rw [hW5];exact(Below.refl _ _).alloc (Nat.le_refl _) _
   have HBX:Hid (W5.heap[wr.heap.size]?=some (.cells cc.toArray 40 (0,0))):=Lib.hid (by rw [hW5];exact heap_alloc_new _ _);have HFLD:=Lib.hid (hfl S cc W5 (hyv.later hb5));have HKV:=Lib.hid (hA.kv.later hb5);have HA:=Lib.hid hA;have HONE:Hid (∀u∈cc.toArray.toList,u.oneCell'=true):=Lib.hid (fun u hu=>hyv.one u (by simpa using hu));have HHD:=Lib.hid hde;have HIH:=Lib.hid hih;have HB:=Lib.hid hb;have HB5:=Lib.hid hb5;clear hd hr h3 hyv hcc hW5 hA hfl hadj hwf hdp hys hym hde hih;by_cases hk0:yk=0
   ·obtain⟨hp,hyh⟩:=hnt hk0
    subst hk0;subst hyh;rcases prev_at hp with h0|⟨j,p,hj,hpp⟩
    ·have gi:decide ((0:Int)<(i:Int))=false:=decide_eq_false (by omega)
     have gin:decide (0<i)=false:=decide_eq_false (by omega);clear hnt hp h0;go_wp2_with (first
      | (refine wpList_ldW rfl 40 (.tmp 12) rfl b (o+(i)*18) rfl cc _ hrg snip_under rfl (by rw [snip_size,hcl]) ?_)
      | (refine wpList_stW rfl 40 (.tmp 6) (.tmp 13) rfl (wr.heap.size) (cc.toArray) rfl rfl 40 (#[.int .i64 0,.string ⟨#[]⟩,.int .i64 0,.bool false,.bool false,.int .i64 0,.string ⟨#[]⟩,.bool false,.slice none 0 0,.int .i64 0,.int .i64 0,.bool false,.slice none 0 0,.slice none 0 0,.bool false,.bool false,.slice none 0 0,.slice none 0 0]) (heap_alloc_new wr _) (snip_size) (by simp [hcl]) rfl (HONE.out) (W:=W5) (HW5.out) ?_)
      | (refine wpList_ldW rfl 40 (.tmp 6) rfl wr.heap.size 0 rfl cc _ (range_blk (ds:=[]) (by simpa using HBX.out)) snip_under rfl (by rw [snip_size,hcl]) ?_)
      | (go_at_call 33;refine HFLD.out.mono ?_))
     first|rintro e w1 rfl hb1|rintro e w1 ⟨rfl,hb1⟩
     obtain⟨q0,_,_,q3,_,_,_,_⟩:=HA.out.box ((hb1.block _ (heap_lt HBX.out)).trans HBX.out);have hbw1:=bel2 (bel2 HB.out HB5.out) hb1;go_wp2
     go_roundw
     case rel=>exact⟨i+1,by go_num,by omega,hbw1⟩
     case measure=>simp [intOf];omega
    ·obtain⟨hpj,hpk⟩:=hpp (by omega)
     obtain⟨pk,pt,pn,ph,pu,pf,po,ps⟩:=p;obtain⟨b',o',cc',hae,_,_,hpv,hpc⟩:=(HX.out.later (bel2 HB.out HB5.out)).at_ hpj;obtain⟨rfl,rfl⟩:b=b'∧o=o':=by injection hae with hae;injection hae with h1 h2 _;exact⟨h1,h2⟩
     obtain⟨fc',oa',oc',ka',kc',hPA⟩:=hpv.at_;have HPC:Hid (W5.cell? ⟨b,o+j*18,none⟩=some (.int .i64 pk)):=Lib.hid (by have:=hpc 0 _ hPA.c0;simpa using this);have hpkb:(pk==0)=false:=by rw [beq_eq_false_iff_ne];exact hpk
     subst hj;clear hnt hp hpp hpj hpk hae hpv hpc hPA;go_wp2_with (first
      | (refine wpList_ldW rfl 40 (.tmp 12) rfl b (o+(j+1)*18) rfl cc _ hrg snip_under rfl (by rw [snip_size,hcl]) ?_)
      | (refine wpList_stW rfl 40 (.tmp 6) (.tmp 13) rfl (wr.heap.size) (cc.toArray) rfl rfl 40 (#[.int .i64 0,.string ⟨#[]⟩,.int .i64 0,.bool false,.bool false,.int .i64 0,.string ⟨#[]⟩,.bool false,.slice none 0 0,.int .i64 0,.int .i64 0,.bool false,.slice none 0 0,.slice none 0 0,.bool false,.bool false,.slice none 0 0,.slice none 0 0]) (heap_alloc_new wr _) (snip_size) (by simp [hcl]) rfl (HONE.out) (W:=W5) (HW5.out) ?_)
      | (refine wpList_ldW rfl 40 (.tmp 6) rfl wr.heap.size 0 rfl cc _ (range_blk (ds:=[]) (by simpa using HBX.out)) snip_under rfl (by rw [snip_size,hcl]) ?_)
      | (go_at_call 33;refine HFLD.out.mono ?_))
     first|rintro e w1 rfl hb1|rintro e w1 ⟨rfl,hb1⟩
     obtain⟨q0,_,_,q3,_,_,_,_⟩:=HA.out.box ((hb1.block _ (heap_lt HBX.out)).trans HBX.out);have hpc1:=cell_kept hb1 _ _ HPC.out;have hbw1:=bel2 (bel2 HB.out HB5.out) hb1;go_wp2
     go_roundw
     case rel=>exact⟨j+1+1,by go_num,by omega,hbw1⟩
     case measure=>simp [intOf];omega
   ·have hkb:(yk==0)=false:=by rw [beq_eq_false_iff_ne];exact hk0
    clear hnt hk0;cases yh with
    | false =>
     go_wp2_with (first
      | (refine wpList_ldW rfl 40 (.tmp 12) rfl b (o+(i)*18) rfl cc _ hrg snip_under rfl (by rw [snip_size,hcl]) ?_)
      | (refine wpList_stW rfl 40 (.tmp 6) (.tmp 13) rfl (wr.heap.size) (cc.toArray) rfl rfl 40 (#[.int .i64 0,.string ⟨#[]⟩,.int .i64 0,.bool false,.bool false,.int .i64 0,.string ⟨#[]⟩,.bool false,.slice none 0 0,.int .i64 0,.int .i64 0,.bool false,.slice none 0 0,.slice none 0 0,.bool false,.bool false,.slice none 0 0,.slice none 0 0]) (heap_alloc_new wr _) (snip_size) (by simp [hcl]) rfl (HONE.out) (W:=W5) (HW5.out) ?_)
      | (refine wpList_ldW rfl 40 (.tmp 6) rfl wr.heap.size 0 rfl cc _ (range_blk (ds:=[]) (by simpa using HBX.out)) snip_under rfl (by rw [snip_size,hcl]) ?_)
      | (go_at_call 33;refine HFLD.out.mono ?_))
     first|rintro e w1 rfl hb1|rintro e w1 ⟨rfl,hb1⟩
     obtain⟨q0,_,_,q3,_,_,_,_⟩:=HA.out.box ((hb1.block _ (heap_lt HBX.out)).trans HBX.out);have hbw1:=bel2 (bel2 HB.out HB5.out) hb1;go_wp2
     go_roundw
     case rel=>exact⟨i+1,by go_num,by omega,hbw1⟩
     case measure=>simp [intOf];omega
    | true =>
     have hd1:1≤d:=by have:=HHD.out rfl;omega
     have hdb:((d:Int)==0)=false:=by rw [beq_eq_false_iff_ne];omega
     have HI:Hid (∀(S:Nat→Prop) (a:Option Addr) (c:Nat) (w:World),SnSl w S a ys.length ys→Calls Tryz.prog 19 #[.slice a ys.length c,.int .i64 ((d:Int)-1)] w fun e w'=>e=.returned (.bool true)∧Below w.heap.size w w'):=Lib.hid (by
      have h9:FtC (d-1) ys:=HIH.out rfl;have h8:(((d-1:Nat)):Int)=(d:Int)-1:=by omega
      intro S a c w h;rw [←h8];exact h9 S a c w h)
     clear HIH HHD;go_wp2_with (first
      | (refine wpList_ldW rfl 40 (.tmp 12) rfl b (o+(i)*18) rfl cc _ hrg snip_under rfl (by rw [snip_size,hcl]) ?_)
      | (refine wpList_stW rfl 40 (.tmp 6) (.tmp 13) rfl (wr.heap.size) (cc.toArray) rfl rfl 40 (#[.int .i64 0,.string ⟨#[]⟩,.int .i64 0,.bool false,.bool false,.int .i64 0,.string ⟨#[]⟩,.bool false,.slice none 0 0,.int .i64 0,.int .i64 0,.bool false,.slice none 0 0,.slice none 0 0,.bool false,.bool false,.slice none 0 0,.slice none 0 0]) (heap_alloc_new wr _) (snip_size) (by simp [hcl]) rfl (HONE.out) (W:=W5) (HW5.out) ?_)
      | (refine wpList_ldW rfl 40 (.tmp 6) rfl wr.heap.size 0 rfl cc _ (range_blk (ds:=[]) (by simpa using HBX.out)) snip_under rfl (by rw [snip_size,hcl]) ?_)
      | (go_at_call 33;refine HFLD.out.mono ?_))
     first|rintro e' w1 rfl hb1|rintro e' w1 ⟨rfl,hb1⟩
     obtain⟨q0,_,_,q3,_,_,q17,_⟩:=HA.out.box ((hb1.block _ (heap_lt HBX.out)).trans HBX.out);have hbw1:=bel2 (bel2 HB.out HB5.out) hb1;have HKC:=Lib.hid (HI.out S ka kc w1 (HKV.out.later hb1));go_wp2_with (go_at_call 19;refine HKC.out.mono ?_)
     first|rintro e' w2 rfl hb2|rintro e' w2 ⟨rfl,hb2⟩
     have hbw2:=bel2 hbw1 hb2;go_wp2
     go_roundw
     case rel=>exact⟨i+1,by go_num,by omega,hbw2⟩
     case measure=>simp [intOf];omega
theorem fits_yes:∀(N:Nat) (ks:List Sn),Sn.partsL ks<N→Sn.smallL ks→ks.length≤1000000→∀d:Nat,d≤1000→adjS false ks=true→Sn.wfL ks=true→Sn.deepL ks≤d→FtC d ks
 | 0,ks,h,_,_,_,_,_,_,_=>by omega
 | N+1,ks,h,hsm,hkl,d,hd9,hadj,hwf,hdp=>fits_step ks hsm hkl d hd9 hadj hwf hdp (fun y hy hh=>by
   have h1:=Sn.parts_mem hy;have h2:=Sn.small_mem hsm y hy;have h3:=wfL_mem0 hwf y hy;have h4:=deepL_mem0 y hy;obtain⟨yk,yt,yn,yh,yu,yf,yo,ys⟩:=y;obtain⟨_,_,h5,_,h6⟩:=h2;simp only [Sn.parts] at h1;obtain rfl:yh=true:=hh;rw [Sn.wf,Bool.and_eq_true,Bool.not_true,Bool.false_or,Bool.and_eq_true] at h3;simp only [Sn.deep,if_true] at h4;exact fits_yes N ys (by omega) h6 h5 (d-1) (by omega) h3.2.1 h3.2.2 (by omega))
theorem NMay_yes (S:Nat→Prop) (ks:List Sn) (hsm:Sn.smallL ks) (hkl:ks.length≤1000000) (hm:maySn ks=true) (a:Option Addr) (c:Nat) (w:World) (hx:SnSl w S a ks.length ks) :
  Calls Tryz.prog 9 #[.slice a ks.length c] w fun e w'=>e=.returned (.bool true)∧Below w.heap.size w w':=by
 unfold maySn at hm;rw [Bool.and_eq_true,Bool.and_eq_true,decide_eq_true_eq] at hm;have HF:=Lib.hid (fits_yes (Sn.partsL ks+1) ks (by omega) hsm hkl 32 (by omega) hm.1.1 hm.1.2 hm.2 S a c w hx);clear hx hm hsm;go_enter Tryz.func9,Tryz.ntmps9
 go_wp2_with (go_at_call 19;refine HF.out.mono ?_)
 first|rintro e w1 rfl hb1|rintro e w1 ⟨rfl,hb1⟩
 go_wp2
 go_ret
 exact⟨rfl,hb1⟩
end Go.Proofs.YtbgcjpefocdkkaaGreat
set_option maxRecDepth 100000
namespace Go.Proofs.YtbgcjpefocdkkaaGreat
open Go.RowKit
def DpRel (ks:List Sn) (R:Nat) (w:World) (t q:Value) (wr:World):Prop :=
 ∃(k d:Nat),q=.int .i64 k∧t=.int .i64 d∧k≤ks.length∧d≤100000000∧Below w.heap.size w wr∧Hid (max d (Sn.deepL (ks.drop k))=R)
theorem sdeep_parts:∀(N:Nat) (x:Sn),x.parts≤N→x.deep≤x.parts
 | 0,x,h=>by have:=Sn.parts_pos x;omega
 | N+1,.mk k t n hh u f o ks,h=>by
  have key:∀l:List Sn,Sn.partsL l≤N→Sn.deepL l≤Sn.partsL l:=by
   intro l;induction l with
   | nil=>intro _;simp [Sn.deepL]
   | cons y r ih =>
    intro hl;simp only [Sn.partsL] at hl;have h1:=sdeep_parts N y (by omega);have h2:=ih (by omega);simp only [Sn.deepL,Sn.partsL];omega
  simp only [Sn.parts] at h;have:=key ks (by omega)
  simp only [Sn.deep,Sn.parts];split<;>omega
theorem deepLS_parts:∀l:List Sn,Sn.deepL l≤Sn.partsL l
 | []=>by simp [Sn.deepL]
 | x::r=>by have:=sdeep_parts _ x (Nat.le_refl _);have:=deepLS_parts r;simp only [Sn.deepL,Sn.partsL];omega
set_option maxHeartbeats 1000000 in
theorem SDeep_any (S:Nat→Prop):∀(N:Nat) (ks:List Sn),Sn.partsL ks<N→Sn.partsL ks≤1000000→∀(a:Option Addr) (c:Nat) (w:World),SnSl w S a ks.length ks →
  Calls Tryz.prog 11 #[.slice a ks.length c] w fun e w'=>e=.returned (.int .i64 (Sn.deepL ks))∧Below w.heap.size w w'
 | 0,ks,h,_,_,_,_,_=>by omega
 | N+1,ks,h,hm,a,c,w,hx=>by
  have hlen:=Sn.len_parts ks;have hdl:=deepLS_parts ks;have ih:=fun(y:Sn) (hy:y.parts≤Sn.partsL ks)=>SDeep_any S N y.kids (by obtain⟨_,_,_,_,_,_,_,l⟩:=y;simp only [Sn.parts] at hy;simp only [Sn.kids];omega) (by obtain⟨_,_,_,_,_,_,_,l⟩:=y;simp only [Sn.parts] at hy;simp only [Sn.kids];omega)
  have IH:=Lib.hid ih;have HX:=Lib.hid hx;obtain⟨R,hR⟩:∃R,Sn.deepL ks=R:=⟨_,rfl⟩;have HR0:Hid (max 0 (Sn.deepL (ks.drop 0))=R):=Lib.hid (by simpa using hR);have hR6:R≤1000000:=by omega
  rw [hR];clear hR hx ih hdl;go_enter Tryz.func11,Tryz.ntmps11
  go_wp2
  go_loopw [3,9] (fun t q wr=>DpRel ks R w t q wr) (fun _ q _=>ks.length-(intOf q).toNat)
  case atStart=>exact⟨0,0,rfl,rfl,by omega,by omega,Below.refl _ _,HR0⟩
  case round =>
   obtain⟨i,d,rfl,rfl,hi,hd9,hb,HF⟩:=hrel;clear HR0;have hB:=hb.size;cases hd:ks.drop i with
   | nil =>
    have h2:ks.length≤i:=by simpa using hd
    have HE:Hid (d=R):=Lib.hid (by rw [←HF.out,hd];simp [Sn.deepL]);clear hd HF;go_wp2
    go_ret
    exact⟨ret_int (by have:=HE.out;omega),hb⟩
   | cons y r =>
    obtain⟨h2,h3,hr⟩:=ldrop_cons hd;obtain⟨yk,yt,yn,yh,yu,yf,yo,ys⟩:=y;have hyp:=Sn.parts_mem (List.mem_of_getElem? h3);obtain⟨b,o,cc,rfl,hS,hbB,hyv,hcc⟩:=(HX.out.later hb).at_ h3;have hrg:wr.rangeAt b (o+i*18) cc:=fun j v hj=>by rw [Nat.add_assoc];exact hcc j v hj
    have hcl:=hyv.len;obtain⟨fc,oa,oc,ka,kc,hA⟩:=hyv.at_;have Hr:=Lib.hid hr;have HE:Hid (max d (max (Sn.deepL ys+(if yh then 1 else 0)) (Sn.deepL r))=R):=Lib.hid (by rw [←HF.out,hd];rfl);obtain⟨W5,hW5⟩:∃W5,W5=wr.alloc (.cells cc.toArray 40):=⟨_,rfl⟩;have HW5:Hid ((wr.alloc (.cells #[.int .i64 0,.string ⟨#[]⟩,.int .i64 0,.bool false,.bool false,.int .i64 0,.string ⟨#[]⟩,.bool false,.slice none 0 0,.int .i64 0,.int .i64 0,.bool false,.slice none 0 0,.slice none 0 0,.bool false,.bool false,.slice none 0 0,.slice none 0 0] 40)).setRow wr.heap.size cc.toArray=W5):=Lib.hid (by rw [hW5];exact World.setRow_alloc_new _ _ _ _);have hb5:Below wr.heap.size wr W5:=by rw [hW5];exact(Below.refl _ _).alloc (Nat.le_refl _) _
    have HBX:Hid (W5.heap[wr.heap.size]?=some (.cells cc.toArray 40 (0,0))):=Lib.hid (by rw [hW5];exact heap_alloc_new _ _);have HIH:Hid (Calls Tryz.prog 11 #[.slice ka ys.length kc] W5 fun e w'=>e=.returned (.int .i64 (Sn.deepL ys))∧Below W5.heap.size W5 w'):=Lib.hid (IH.out _ hyp ka kc W5 (hA.kv.later hb5));obtain⟨_,_,_,k3,_,_,k17,_⟩:=hA.box HBX.out;have HA:=Lib.hid hA;have HONE:Hid (∀u∈cc.toArray.toList,u.oneCell'=true):=Lib.hid (fun u hu=>hyv.one u (by simpa using hu));have hle:max d (Sn.deepL ys+(if yh then 1 else 0))≤R:=by have:=HE.out;omega
    clear hd HF hr h3 hyv hcc hW5 hA;cases yh with
    | true =>
     simp only [if_true] at hle;go_wp2_with (first
      | (refine wpList_ldW rfl 40 (.tmp 11) rfl b (o+i*18) rfl cc _ hrg snip_under rfl (by rw [snip_size,hcl]) ?_)
      | (refine wpList_stW rfl 40 (.tmp 5) (.tmp 12) rfl (wr.heap.size) (cc.toArray) rfl rfl 40 (#[.int .i64 0,.string ⟨#[]⟩,.int .i64 0,.bool false,.bool false,.int .i64 0,.string ⟨#[]⟩,.bool false,.slice none 0 0,.int .i64 0,.int .i64 0,.bool false,.slice none 0 0,.slice none 0 0,.bool false,.bool false,.slice none 0 0,.slice none 0 0]) (heap_alloc_new wr _) (snip_size) (by simp [hcl]) rfl (HONE.out) (W:=W5) (HW5.out) ?_)
      | (go_at_call 11;refine HIH.out.mono ?_;rintro e w1 ⟨rfl,hb1⟩;have hx1:=(hb1.block _ (heap_lt HBX.out)).trans HBX.out;obtain⟨_,_,_,k31,_,_,_,_⟩:=HA.out.box hx1))
     go_roundw
     case rel=>exact⟨i+1,(max d (Sn.deepL ys+1)),by go_num,(by congr 1;first|(rw [wrap64_in _ (by omega)];split<;>omega)|(split<;>omega)),by omega,by omega,(hb.trans (hb5.mono hB)).trans (hb1.mono (Nat.le_trans hB hb5.size)),Lib.hid (by rw [Hr.out];have h:=HE.out;first|(rw [if_pos (by decide)] at h;omega)|(rw [if_neg (by decide)] at h;omega))⟩
     case measure=>simp [intOf];omega
    | false =>
     simp only [Bool.false_eq_true,if_false,Nat.add_zero] at hle;go_wp2_with (first
      | (refine wpList_ldW rfl 40 (.tmp 11) rfl b (o+i*18) rfl cc _ hrg snip_under rfl (by rw [snip_size,hcl]) ?_)
      | (refine wpList_stW rfl 40 (.tmp 5) (.tmp 12) rfl (wr.heap.size) (cc.toArray) rfl rfl 40 (#[.int .i64 0,.string ⟨#[]⟩,.int .i64 0,.bool false,.bool false,.int .i64 0,.string ⟨#[]⟩,.bool false,.slice none 0 0,.int .i64 0,.int .i64 0,.bool false,.slice none 0 0,.slice none 0 0,.bool false,.bool false,.slice none 0 0,.slice none 0 0]) (heap_alloc_new wr _) (snip_size) (by simp [hcl]) rfl (HONE.out) (W:=W5) (HW5.out) ?_)
      | (go_at_call 11;refine HIH.out.mono ?_;rintro e w1 ⟨rfl,hb1⟩;have hx1:=(hb1.block _ (heap_lt HBX.out)).trans HBX.out;obtain⟨_,_,_,k31,_,_,_,_⟩:=HA.out.box hx1))
     go_roundw
     case rel=>exact⟨i+1,(max d (Sn.deepL ys)),by go_num,(by congr 1;first|(rw [wrap64_in _ (by omega)];split<;>omega)|(split<;>omega)),by omega,by omega,(hb.trans (hb5.mono hB)).trans (hb1.mono (Nat.le_trans hB hb5.size)),Lib.hid (by rw [Hr.out];have h:=HE.out;first|(rw [if_pos (by decide)] at h;omega)|(rw [if_neg (by decide)] at h;omega))⟩
     case measure=>simp [intOf];omega
end Go.Proofs.YtbgcjpefocdkkaaGreat
set_option maxRecDepth 100000
namespace Go.Proofs.YtbgcjpefocdkkaaGreat
open Go.RowKit
def PaRel (ks:List Sn) (R:Nat) (w:World) (t q:Value) (wr:World):Prop :=
 ∃(k d:Nat),q=.int .i64 k∧t=.int .i64 d∧k≤ks.length∧Below w.heap.size w wr∧Hid (d+kidsL (ks.drop k)=R)∧d≤10000000
where kidsL:List Sn→Nat
 | []=>0
 | x::r=>Sn.partsL x.kids+kidsL r
theorem kids_sum:∀ks:List Sn,ks.length+PaRel.kidsL ks=Sn.partsL ks
 | []=>rfl
 | .mk k t n h u f o l::r=>by
  have:=kids_sum r
  simp only [List.length_cons,PaRel.kidsL,Sn.partsL,Sn.parts,Sn.kids];omega
set_option maxHeartbeats 1000000 in
theorem SParts_any (S:Nat→Prop):∀(N:Nat) (ks:List Sn),Sn.partsL ks<N→Sn.partsL ks≤1000000→∀(a:Option Addr) (c:Nat) (w:World),SnSl w S a ks.length ks →
  Calls Tryz.prog 10 #[.slice a ks.length c] w fun e w'=>e=.returned (.int .i64 (Sn.partsL ks))∧Below w.heap.size w w'
 | 0,ks,h,_,_,_,_,_=>by omega
 | N+1,ks,h,hm,a,c,w,hx=>by
  have hlen:=Sn.len_parts ks;have ih:=fun(y:Sn) (hy:y.parts≤Sn.partsL ks)=>SParts_any S N y.kids (by obtain⟨_,_,_,_,_,_,_,l⟩:=y;simp only [Sn.parts] at hy;simp only [Sn.kids];omega) (by obtain⟨_,_,_,_,_,_,_,l⟩:=y;simp only [Sn.parts] at hy;simp only [Sn.kids];omega)
  have IH:=Lib.hid ih;have HX:=Lib.hid hx;obtain⟨R,hR⟩:∃R,Sn.partsL ks=R:=⟨_,rfl⟩;have HR0:Hid (ks.length+PaRel.kidsL (ks.drop 0)=R):=Lib.hid (by rw [List.drop_zero,kids_sum];exact hR);have hR6:R≤1000000:=by omega
  have hl6:ks.length≤1000000:=by omega
  rw [hR];clear hR hx ih;go_enter Tryz.func10,Tryz.ntmps10
  go_wp2
  go_loopw [3,10] (fun t q wr=>PaRel ks R w t q wr) (fun _ q _=>ks.length-(intOf q).toNat)
  case atStart=>exact⟨0,ks.length,rfl,rfl,by omega,Below.refl _ _,HR0,by omega⟩
  case round =>
   obtain⟨i,d,rfl,rfl,hi,hb,HF,hd9⟩:=hrel;clear HR0;have hB:=hb.size;cases hd:ks.drop i with
   | nil =>
    have h2:ks.length≤i:=by simpa using hd
    have HE:Hid (d=R):=Lib.hid (by rw [←HF.out,hd];rfl);clear hd HF;go_wp2
    go_ret
    exact⟨ret_int (by have:=HE.out;omega),hb⟩
   | cons y r =>
    obtain⟨h2,h3,hr⟩:=ldrop_cons hd;obtain⟨yk,yt,yn,yh,yu,yf,yo,ys⟩:=y;have hyp:=Sn.parts_mem (List.mem_of_getElem? h3);obtain⟨b,o,cc,rfl,hS,hbB,hyv,hcc⟩:=(HX.out.later hb).at_ h3;have hrg:wr.rangeAt b (o+i*18) cc:=fun j v hj=>by rw [Nat.add_assoc];exact hcc j v hj
    have hcl:=hyv.len;obtain⟨fc,oa,oc,ka,kc,hA⟩:=hyv.at_;have Hr:=Lib.hid hr;have HE:Hid (d+(Sn.partsL ys+PaRel.kidsL r)=R):=Lib.hid (by rw [←HF.out,hd];rfl);obtain⟨W5,hW5⟩:∃W5,W5=wr.alloc (.cells cc.toArray 40):=⟨_,rfl⟩;have HW5:Hid ((wr.alloc (.cells #[.int .i64 0,.string ⟨#[]⟩,.int .i64 0,.bool false,.bool false,.int .i64 0,.string ⟨#[]⟩,.bool false,.slice none 0 0,.int .i64 0,.int .i64 0,.bool false,.slice none 0 0,.slice none 0 0,.bool false,.bool false,.slice none 0 0,.slice none 0 0] 40)).setRow wr.heap.size cc.toArray=W5):=Lib.hid (by rw [hW5];exact World.setRow_alloc_new _ _ _ _);have hb5:Below wr.heap.size wr W5:=by rw [hW5];exact(Below.refl _ _).alloc (Nat.le_refl _) _
    have HBX:Hid (W5.heap[wr.heap.size]?=some (.cells cc.toArray 40 (0,0))):=Lib.hid (by rw [hW5];exact heap_alloc_new _ _);have HIH:Hid (Calls Tryz.prog 10 #[.slice ka ys.length kc] W5 fun e w'=>e=.returned (.int .i64 (Sn.partsL ys))∧Below W5.heap.size W5 w'):=Lib.hid (IH.out _ hyp ka kc W5 (hA.kv.later hb5));obtain⟨_,_,_,_,_,_,k17,_⟩:=hA.box HBX.out;have HONE:Hid (∀u∈cc.toArray.toList,u.oneCell'=true):=Lib.hid (fun u hu=>hyv.one u (by simpa using hu));have hle:d+Sn.partsL ys≤R:=by have:=HE.out;omega
    clear hd HF hr h3 hyv hcc hW5 hA hyp;go_wp2_with (first
     | (refine wpList_ldW rfl 40 (.tmp 12) rfl b (o+i*18) rfl cc _ hrg snip_under rfl (by rw [snip_size,hcl]) ?_)
     | (refine wpList_stW rfl 40 (.tmp 5) (.tmp 13) rfl (wr.heap.size) (cc.toArray) rfl rfl 40 (#[.int .i64 0,.string ⟨#[]⟩,.int .i64 0,.bool false,.bool false,.int .i64 0,.string ⟨#[]⟩,.bool false,.slice none 0 0,.int .i64 0,.int .i64 0,.bool false,.slice none 0 0,.slice none 0 0,.bool false,.bool false,.slice none 0 0,.slice none 0 0]) (heap_alloc_new wr _) (snip_size) (by simp [hcl]) rfl (HONE.out) (W:=W5) (HW5.out) ?_)
     | (go_at_call 10;refine HIH.out.mono ?_))
    first|rintro e w1 rfl hb1|rintro e w1 ⟨rfl,hb1⟩
    have hbw1:=bel2 (bel2 hb hb5) hb1;go_wp2
    go_roundw
    case rel=>exact⟨i+1,d+Sn.partsL ys,by go_num,by go_num,by omega,hbw1,Lib.hid (by rw [Hr.out];have:=HE.out;omega),by omega⟩
    case measure=>simp [intOf];omega
end Go.Proofs.YtbgcjpefocdkkaaGreat
