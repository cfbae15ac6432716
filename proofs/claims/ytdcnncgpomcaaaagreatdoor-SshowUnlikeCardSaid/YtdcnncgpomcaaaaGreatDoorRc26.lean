/- walk of snode.fields, in general -/
import Derived.Test.YtdcnncgpomcaaaaGreatDoorRc25
set_option maxRecDepth 100000
set_option maxHeartbeats 4000000
namespace Go.Proofs.YtdcnncgpomcaaaaGreatDoor
open Go.RowKit
theorem Fld0_any (S:Nat→Prop) (t:Str) (n:Int) (h u:Bool) (f:Tf) (hf:f.small) (o:List Str) (ks:List Sn) (cc:List Value) (w:World) (hv:SnV w S cc (.mk 0 t n h u f o ks)) :
  Calls Tryz.prog 36 #[.agg cc.toArray] w fun e w'=>e=.returned (.bool (!t.isEmpty&&(decide (n=0)&&(o.isEmpty&&(!h&&(!u&&(ks.isEmpty&&tfZ f)))))))∧Below w.heap.size w w':=by
 obtain⟨nb,hnb⟩:∃nb,decide (0≤n∧n≤9999)=nb:=⟨_,rfl⟩;have HNB:=ab hnb;clear hnb;obtain⟨W0,hW0⟩:∃W0,W0=w.alloc (.cells cc.toArray 44):=⟨_,rfl⟩;have hb0:Below w.heap.size w W0:=by rw [hW0];exact(Below.refl _ _).alloc (Ju _) _
 have HB1:Hid (W0.heap[w.heap.size]?=some (.cells cc.toArray 44 (0,0))):=ab iy;have HW0:=ab hW0;have hcl:=hv.len;have HV0:=ab (hv.later hb0);obtain⟨fc,oa,oc,ka,kc,A⟩:=hv.at_;obtain⟨k0,k1,k2,k3,k4,k16,k17,kr⟩:=A.box HB1.out;clear hW0 A hv kr;have HNO:=ab (sN S 0 t n h u f hf o ks cc W0 HV0.out);clear HV0 hf;by_cases ht:t=[]
 ·subst ht
  rw [show (!([]:Str).isEmpty&&(decide (n=0)&&(o.isEmpty&&(!h&&(!u&&(ks.isEmpty&&tfZ f))))))=false from rfl];clear HNO;exact fo
 ·have e1:(!t.isEmpty)=true:=by simpa using ht
  rw [e1,JG];have hne:(⟨t.toArray⟩:ByteArray)≠⟨#[]⟩:=fun e=>ht kN
  have hq1:(t==([]:Str))=false:=by simpa using ht
  have hq2:(t != ([]:Str))=true:=by simp [bne,hq1]
  have hq3:decide (t=([]:Str))=false:=JT ht;clear ht e1;by_cases hn:n=0
  ·rw [JR hn,JG]
   have gn:(n==0)=true:=by rw [Ji];exact hn
   cases o with
   | cons a o' =>
    rw [show ((a::o').isEmpty&&(!h&&(!u&&(ks.isEmpty&&tfZ f))))=false from rfl];obtain⟨on,hon⟩:∃on,(a::o').length=on:=⟨_,rfl⟩;rw [hon] at k16;have hop:0<on:=by rw [←hon];simp
    have go1:((on:Int)==0)=false:=by rw [JP];omega
    clear hon HNO hn;exact fo
   | nil =>
    rw [show (([]:List Str).isEmpty&&(!h&&(!u&&(ks.isEmpty&&tfZ f))))=(!h&&(!u&&(ks.isEmpty&&tfZ f))) from rfl];clear hn;go_enter Tryz.func36,Tryz.ntmps36
    go_upto_region 1 with fail
    rw [←HW0.out];clear HW0;go_cut [3] from 4 to 11 (fun c wx=>c=.bool nb∧wx=W0)
    case first =>
     exact ah
    case rest =>
     exact fE
  ·rw [JT hn,Bool.false_and]
   have gn:(n==0)=false:=by rw [JP];exact hn
   clear hn HNO;exact fo
theorem Fld1_any (S:Nat→Prop) (t:Str) (n:Int) (h u:Bool) (f:Tf) (hf:f.small) (o:List Str) (ks:List Sn) (cc:List Value) (w:World) (hv:SnV w S cc (.mk 1 t n h u f o ks)) :
  Calls Tryz.prog 36 #[.agg cc.toArray] w fun e w'=>e=.returned (.bool (t.isEmpty&&(decide (0≤n∧n≤9999)&&(o.isEmpty&&lT (.mk 1 t n h u f o ks)))))∧Below w.heap.size w w':=by
 obtain⟨nb,hnb⟩:∃nb,decide (0≤n∧n≤9999)=nb:=⟨_,rfl⟩;have HNB:=ab hnb;rw [hnb];clear hnb;obtain⟨W0,hW0⟩:∃W0,W0=w.alloc (.cells cc.toArray 44):=⟨_,rfl⟩;have hb0:Below w.heap.size w W0:=by rw [hW0];exact(Below.refl _ _).alloc (Ju _) _
 have HB1:Hid (W0.heap[w.heap.size]?=some (.cells cc.toArray 44 (0,0))):=ab iy;have HW0:=ab hW0;have hcl:=hv.len;have HV0:=ab (hv.later hb0);obtain⟨fc,oa,oc,ka,kc,A⟩:=hv.at_;obtain⟨k0,k1,k2,k3,k4,k16,k17,kr⟩:=A.box HB1.out;clear hW0 A hv kr;have HNO:=ab (wb S 1 t n h u f hf o ks cc W0 HV0.out);obtain⟨bs,hbs⟩:∃bs,lT (.mk 1 t n h u f o ks)=bs:=⟨_,rfl⟩;rw [hbs] at HNO ⊢;clear HV0 hf hbs;by_cases ht:t=[]
 ·subst ht
  rw [show (([]:Str).isEmpty&&(nb&&(o.isEmpty&&bs)))=(nb&&(o.isEmpty&&bs)) from rfl];cases nb with
  | false =>
   exact fN
  | true =>
   rw [JG];cases o with
   | cons a o' =>
    rw [show ((a::o').isEmpty&&bs)=false from rfl];obtain⟨on,hon⟩:∃on,(a::o').length=on:=⟨_,rfl⟩;rw [hon] at k16;have hop:0<on:=by rw [←hon];simp
    have go1:((on:Int)==0)=false:=by rw [JP];omega
    clear hon HNO;exact fR
   | nil =>
    rw [show (([]:List Str).isEmpty&&bs)=bs from rfl];go_enter Tryz.func36,Tryz.ntmps36
    go_upto_region 1 with fail
    rw [←HW0.out];clear HW0;go_cut [3] from 4 to 11 (fun c wx=>c=.bool true∧wx=W0)
    case first =>
     exact ah
    case rest =>
     obtain⟨rfl,hwc⟩:=hcut;replace hwc:=hwc.symm;subst hwc;exact fL
 ·exact gK
theorem Fld2_any (S:Nat→Prop) (t:Str) (n:Int) (h u:Bool) (f:Tf) (hf:f.small) (o:List Str) (ks:List Sn) (cc:List Value) (w:World) (hv:SnV w S cc (.mk 2 t n h u f o ks)) :
  Calls Tryz.prog 36 #[.agg cc.toArray] w fun e w'=>e=.returned (.bool (t.isEmpty&&(decide (0≤n∧n≤9999)&&(!o.isEmpty&&(!h&&(!u&&(ks.isEmpty&&tfZ f)))))))∧Below w.heap.size w w':=by
 obtain⟨nb,hnb⟩:∃nb,decide (0≤n∧n≤9999)=nb:=⟨_,rfl⟩;have HNB:=ab hnb;rw [hnb];clear hnb;obtain⟨W0,hW0⟩:∃W0,W0=w.alloc (.cells cc.toArray 44):=⟨_,rfl⟩;have hb0:Below w.heap.size w W0:=by rw [hW0];exact(Below.refl _ _).alloc (Ju _) _
 have HB1:Hid (W0.heap[w.heap.size]?=some (.cells cc.toArray 44 (0,0))):=ab iy;have HW0:=ab hW0;have hcl:=hv.len;have HV0:=ab (hv.later hb0);obtain⟨fc,oa,oc,ka,kc,A⟩:=hv.at_;obtain⟨k0,k1,k2,k3,k4,k16,k17,kr⟩:=A.box HB1.out;clear hW0 A hv kr;have HNO:=ab (sN S 2 t n h u f hf o ks cc W0 HV0.out);obtain⟨bs,hbs⟩:∃bs,(!h&&(!u&&(ks.isEmpty&&tfZ f)))=bs:=⟨_,rfl⟩;rw [hbs] at HNO ⊢;clear HV0 hf hbs;by_cases ht:t=[]
 ·subst ht
  rw [show (([]:Str).isEmpty&&(nb&&(!o.isEmpty&&bs)))=(nb&&(!o.isEmpty&&bs)) from rfl];cases nb with
  | false =>
   exact fN
  | true =>
   rw [JG];cases o with
   | cons a o' =>
    rw [show (!(a::o').isEmpty&&bs)=bs from rfl];obtain⟨on,hon⟩:∃on,(a::o').length=on:=⟨_,rfl⟩;rw [hon] at k16;have hop:0<on:=by rw [←hon];simp
    have go1:decide ((0:Int)<(on:Int))=true:=JR gN;have go2:decide (0<on)=true:=JR hop;clear hon;go_enter Tryz.func36,Tryz.ntmps36
    go_upto_region 1 with fail
    rw [←HW0.out];clear HW0;go_cut [3] from 4 to 11 (fun c wx=>c=.bool true∧wx=W0)
    case first =>
     exact ah
    case rest =>
     exact fE
   | nil =>
    rw [show (!([]:List Str).isEmpty&&bs)=false from rfl];clear HNO;exact fR
 ·exact gK
theorem Fld3_any (S:Nat→Prop) (t:Str) (htl:t.length≤1000000) (n:Int) (h u:Bool) (f:Tf) (hf:f.small) (o:List Str) (ks:List Sn) (cc:List Value) (w:World) (hv:SnV w S cc (.mk 3 t n h u f o ks)) :
  Calls Tryz.prog 36 #[.agg cc.toArray] w fun e w'=>e=.returned (.bool (oR t&&(decide (n=0)&&(o.isEmpty&&lT (.mk 3 t n h u f o ks)))))∧Below w.heap.size w w':=by
 obtain⟨nb,hnb⟩:∃nb,decide (0≤n∧n≤9999)=nb:=⟨_,rfl⟩;have HNB:=ab hnb;clear hnb;obtain⟨W0,hW0⟩:∃W0,W0=w.alloc (.cells cc.toArray 44):=⟨_,rfl⟩;have hb0:Below w.heap.size w W0:=by rw [hW0];exact(Below.refl _ _).alloc (Ju _) _
 have HB1:Hid (W0.heap[w.heap.size]?=some (.cells cc.toArray 44 (0,0))):=ab iy;have HW0:=ab hW0;have hcl:=hv.len;have HV0:=ab (hv.later hb0);obtain⟨fc,oa,oc,ka,kc,A⟩:=hv.at_;obtain⟨k0,k1,k2,k3,k4,k16,k17,kr⟩:=A.box HB1.out;clear hW0 A hv kr;have HNO:=ab (wb S 3 t n h u f hf o ks cc W0 HV0.out);have HNA:=ab (fun w=>wn t w htl);obtain⟨bs,hbs⟩:∃bs,lT (.mk 3 t n h u f o ks)=bs:=⟨_,rfl⟩;rw [hbs] at HNO ⊢;clear HV0 hf hbs;cases hnm:oR t with
 | false =>
  rw [Bool.false_and];rw [hnm] at HNA;clear HNO hnm;exact fB
 | true =>
  rw [JG];rw [hnm] at HNA;clear hnm;by_cases hn:n=0
  ·rw [JR hn,JG]
   have gn:(n==0)=true:=by rw [Ji];exact hn
   clear hn;cases o with
   | cons a o' =>
    rw [show ((a::o').isEmpty&&bs)=false from rfl];obtain⟨on,hon⟩:∃on,(a::o').length=on:=⟨_,rfl⟩;rw [hon] at k16;have hop:0<on:=by rw [←hon];simp
    have go1:((on:Int)==0)=false:=by rw [JP];omega
    clear hon HNO;exact fB
   | nil =>
    rw [show (([]:List Str).isEmpty&&bs)=bs from rfl];go_enter Tryz.func36,Tryz.ntmps36
    go_upto_region 1 with fail
    rw [←HW0.out];clear HW0;go_cut [3] from 4 to 11 (fun c wx=>c=.bool nb∧wx=W0)
    case first =>
     exact ah
    case rest =>
     obtain⟨rfl,hwc⟩:=hcut;replace hwc:=hwc.symm;subst hwc;go_wp2_with (go_at_call 53;refine(HNA.out _).mono ?_)
     first|rintro e w5 rfl rfl|rintro e w5 ⟨rfl,rfl⟩
     exact fL
  ·rw [JT hn,Bool.false_and]
   have gn:(n==0)=false:=by rw [JP];exact hn
   clear hn HNO;exact fB
def sw (ks:List Sn) (i:Nat):Bool:=match i with|0=>false|j+1=>((ks[j]?).map fun x=>decide (x.kind=0)).getD false
theorem zi:∀{l:List Sn},Sn.wfL l=true→∀x∈l,x.wf=true
 | [],_,x,h=>by cases h
 | y::r,hl,x,h=>by
  simp only [Sn.wfL,Jy] at hl;rcases JC.1 h with rfl|h
  ·exact hl.1
  ·exact zi hl.2 x h
def fitL:Nat→Bool→List Sn→Bool
 | _,_,[]=>true
 | d,pt,.mk k t n h u f o ks::r=>mB (.mk k t n h u f o ks)&&(!(decide (k=0)&&pt)&&((!h||(decide (0<d)&&fitL (d-1) false ks))&&fitL d (decide (k=0)) r))
theorem wV {k:Int} {t:Str} {n:Int} {u:Bool} {f:Tf} {o:List Str} {ks:List Sn} (hf:mB (.mk k t n false u f o ks)=true):ks=[]:=by
 have hb:∀{k:Int} {t:Str} {n:Int} {u:Bool} {f:Tf} {o:List Str} {ks:List Sn},lT (.mk k t n false u f o ks)=true→ks=[]:=by
  intro k t n u f o ks h;cases u with
  | true =>
   have h':(ks.isEmpty&&oZ f)=true:=h;rw [Jy,List.isEmpty_iff] at h';exact h'.1
  | false =>
   have h':(ks.isEmpty&&tfZ f)=true:=h;rw [Jy,List.isEmpty_iff] at h';exact h'.1
 have hn:∀{u:Bool} {f:Tf} {ks:List Sn},(!false&&(!u&&(ks.isEmpty&&tfZ f)))=true→ks=[]:=by
  intro u f ks h;simp only [Jy,List.isEmpty_iff] at h;exact h.2.2.1
 have hf':(if k=0 then !t.isEmpty&&(decide (n=0)&&(o.isEmpty&&(!false&&(!u&&(ks.isEmpty&&tfZ f))))) else if k=1 then t.isEmpty&&(decide (0≤n∧n≤9999)&&(o.isEmpty&&lT (.mk k t n false u f o ks))) else if k=2 then t.isEmpty&&(decide (0≤n∧n≤9999)&&(!o.isEmpty&&(!false&&(!u&&(ks.isEmpty&&tfZ f))))) else if k=3 then oR t&&(decide (n=0)&&(o.isEmpty&&lT (.mk k t n false u f o ks))) else false)=true:=hf;split at hf'
 ·rw [Jy,Jy,Jy] at hf';exact hn hf'.2.2.2
 split at hf'
 ·rw [Jy,Jy,Jy] at hf';exact hb hf'.2.2.2
 split at hf'
 ·rw [Jy,Jy,Jy] at hf';exact hn hf'.2.2.2
 split at hf'
 ·rw [Jy,Jy,Jy] at hf';exact hb hf'.2.2.2
 ·cases hf'
theorem C0:∀(N:Nat) (l:List Sn),Sn.partsL l≤N→∀(d:Nat) (pt:Bool),fitL d pt l=(adjS pt l&&Sn.wfL l&&decide (Sn.deepL l≤d))
 | _,[],_,d,pt=>by simp [fitL,adjS,Sn.wfL,Sn.deepL]
 | 0,x::r,h,_,_=>by have:=Sn.parts_pos x;simp only [Sn.partsL] at h;omega
 | N+1,.mk k t n h u f o ks::r,hN,d,pt=>by
  simp only [Sn.partsL,Sn.parts] at hN;have hp:∀l:List Sn,Sn.partsL l=Sn.partsL l:=fun _=>rfl
  rw [fitL,C0 N r gN d,C0 N ks gN (d-1) false];rw [show adjS pt (.mk k t n h u f o ks::r)=(!(decide (k=0)&&pt)&&adjS (decide (k=0)) r) from rfl];simp only [Sn.wfL,Sn.wf,Sn.deepL,Sn.deep];cases hfl:mB (.mk k t n h u f o ks) with
  | false=>simp
  | true =>
   cases h with
   | false =>
    obtain rfl:=wV hfl;simp only [Sn.deepL,Bool.not_false,Bool.true_or,JG,Jh,J1,if_false,Nat.add_zero,Nat.zero_max];generalize decide (k=0)=b0
    generalize adjS b0 r=A
    generalize Sn.wfL r=B
    generalize decide (Sn.deepL r≤d)=C
    cases b0<;>cases pt<;>cases A<;>cases B<;>cases C<;>rfl
   | true =>
    simp only [Bool.not_true,Bool.false_or,JG,if_true];have e:decide (max (Sn.deepL ks+1) (Sn.deepL r)≤d)=((decide (0<d)&&decide (Sn.deepL ks≤d-1))&&decide (Sn.deepL r≤d)):=by
     rw [Bool.eq_iff_iff];simp only [Jy,Jj];omega
    rw [e];generalize decide (k=0)=b0
    generalize adjS b0 r=A
    generalize Sn.wfL r=B
    generalize decide (Sn.deepL r≤d)=C
    generalize adjS false ks=A2
    generalize Sn.wfL ks=B2
    generalize decide (0<d)=D
    generalize decide (Sn.deepL ks≤d-1)=E
    cases b0<;>cases pt<;>cases A<;>cases B<;>cases C<;>cases A2<;>cases B2<;>cases D<;>cases E<;>rfl
theorem fitL_may (l:List Sn):fitL 32 false l=nM l:=C0 _ l (Ju _) 32 false
theorem Fld4_any (S:Nat→Prop) (k:Int) (t:Str) (n:Int) (h u:Bool) (f:Tf) (o:List Str) (ks:List Sn) (cc:List Value) (w:World) (hv:SnV w S cc (.mk k t n h u f o ks)) (n0:k≠0) (n1:k≠1) (n2:k≠2) (n3:k≠3) :
  Calls Tryz.prog 36 #[.agg cc.toArray] w fun e w'=>e=.returned (.bool false)∧Below w.heap.size w w':=by
 have g0:(k==0)=false:=by rw [JP];exact n0
 have g1:(k==1)=false:=by rw [JP];exact n1
 have g2:(k==2)=false:=by rw [JP];exact n2
 have g3:(k==3)=false:=by rw [JP];exact n3
 clear n0 n1 n2 n3;obtain⟨W0,hW0⟩:∃W0,W0=w.alloc (.cells cc.toArray 44):=⟨_,rfl⟩;have hb0:Below w.heap.size w W0:=by rw [hW0];exact(Below.refl _ _).alloc (Ju _) _
 have HB1:Hid (W0.heap[w.heap.size]?=some (.cells cc.toArray 44 (0,0))):=ab iy;have HW0:=ab hW0;obtain⟨fc,oa,oc,ka,kc,A⟩:=hv.at_;obtain⟨k0,k1,k2,k3,k4,k16,k17,kr⟩:=A.box HB1.out;clear hW0 A hv kr;go_enter Tryz.func36,Tryz.ntmps36
 go_upto_region 1 with fail
 rw [←HW0.out];clear HW0;go_cut [3] from 4 to 11 (fun c wx=>(∃nb:Bool,c=.bool nb)∧wx=W0)
 case first =>
  by_cases q0:0≤n
  ·have g0:decide (0≤n)=true:=JR q0
   clear q0;go_wp2_with fail
   go_meet
   exact⟨⟨_,rfl⟩,rfl⟩
  ·have g0:decide (0≤n)=false:=JT q0
   clear q0;go_wp2_with fail
   go_meet
   exact⟨⟨_,rfl⟩,rfl⟩
 case rest =>
  obtain⟨⟨nb,rfl⟩,hwc⟩:=hcut;replace hwc:=hwc.symm;subst hwc;go_wp2
  go_ret
  exact⟨rfl,hb0⟩
theorem Bj {k:Int} {t:Str} {n:Int} {h u:Bool} {f:Tf} {o:List Str} {ks:List Sn} (n0:k≠0) (n1:k≠1) (n2:k≠2) (n3:k≠3):mB (.mk k t n h u f o ks)=false:=by
 show (if k=0 then _ else if k=1 then _ else if k=2 then _ else if k=3 then _ else false)=false
 rw [Jo n0,Jo n1,Jo n2,Jo n3]
theorem fld_any {x:Sn} (hs:x.small) (S:Nat→Prop) (cc:List Value) (w:World) (hv:SnV w S cc x) :
  Calls Tryz.prog 36 #[.agg cc.toArray] w fun e w'=>e=.returned (.bool (mB x))∧Below w.heap.size w w':=by
 obtain⟨k,t,n,h,u,f,o,ks⟩:=x;obtain⟨s1,s2,s3,s4,_⟩:=hs;by_cases n0:k=0
 ·subst n0;exact Fld0_any S t n h u f s1 o ks cc w hv
 by_cases n1:k=1
 ·subst n1;exact Fld1_any S t n h u f s1 o ks cc w hv
 by_cases n2:k=2
 ·subst n2;exact Fld2_any S t n h u f s1 o ks cc w hv
 by_cases n3:k=3
 ·subst n3;exact Fld3_any S t s4 n h u f s1 o ks cc w hv
 ·rw [Bj n0 n1 n2 n3]
  exact Fld4_any S k t n h u f o ks cc w hv n0 n1 n2 n3
theorem fitL_nil (d:Nat) (pt:Bool):fitL d pt []=true:=by rw [fitL]
theorem GT (d:Nat) (pt:Bool) (k:Int) (t:Str) (n:Int) (h u:Bool) (f:Tf) (o:List Str) (ks r:List Sn):fitL d pt (.mk k t n h u f o ks::r)=(mB (.mk k t n h u f o ks)&&(!(decide (k=0)&&pt)&&((!h||(decide (0<d)&&fitL (d-1) false ks))&&fitL d (decide (k=0)) r))):=by rw [fitL]
def FgRel (ks:List Sn) (d:Nat) (R:Bool) (w:World) (q:Value) (wr:World):Prop:=∃i:Nat,q=.int .i64 i∧i≤ks.length∧Below w.heap.size w wr∧Hid (fitL d (sw ks i) (ks.drop i)=R)
def FtG (d:Nat) (ks:List Sn):Prop:=∀(S:Nat→Prop) (a:Option Addr) (c:Nat) (w:World),SnSl w S a ks.length ks→Calls Tryz.prog 22 #[.slice a ks.length c,.int .i64 (d:Int)] w fun e w'=>e=.returned (.bool (fitL d false ks))∧Below w.heap.size w w'
theorem Fl (ks:List Sn) (i:Nat) (hi:i≤ks.length):i=0∨∃j p,i=j+1∧ks[j]?=some p∧sw ks i=decide (p.kind=0):=by
 cases i with
 | zero=>exact .inl rfl
 | succ j =>
  have hlt:j<ks.length:=gN;exact .inr ⟨j,ks[j],rfl,Jn hlt,by simp [sw,Jn hlt]⟩
theorem Cz {t:Str} {n:Int} {h u:Bool} {f:Tf} {o:List Str} {ks:List Sn} (hf:mB (.mk 0 t n h u f o ks)=true):h=false:=by
 have hf':(!t.isEmpty&&(decide (n=0)&&(o.isEmpty&&(!h&&(!u&&(ks.isEmpty&&tfZ f))))))=true:=hf;simp only [Jy,J9] at hf';exact hf'.2.2.2.1
theorem EM (ks:List Sn) (hsm:Sn.smallL ks) (hkl:ks.length≤1000000) (d:Nat) (hd9:d≤1000)
  (IH0:∀y∈ks,y.has=true→0<d→FtG (d-1) y.kids):FtG d ks:=by
 intro S a c w hx;have HX:=ab hx;obtain⟨R,hR⟩:∃R,fitL d false ks=R:=⟨_,rfl⟩;rw [hR];have HRR:=ab hR;have HSM:=ab (fun y hy=>Sn.small_mem hsm y hy);have IH:=ab IH0;clear hx hsm IH0 hR;go_enter Tryz.func22,Tryz.ntmps22
 go_wp2
 go_loopw [9] (fun q wr=>FgRel ks d R w q wr) (fun q _=>ks.length-(intOf q).toNat)
 case atStart=>exact⟨0,rfl,by omega,Below.refl _ _,HRR⟩
 case round =>
  obtain⟨i,rfl,hi,hb,HF⟩:=hrel;have hB:=hb.size;clear HRR;cases hd:ks.drop i with
  | nil =>
   have h2:ks.length≤i:=it;have HR0:Hid (R=true):=ab (by rw [←HF.out,hd,fitL_nil]);clear hd HF;go_wp2
   go_ret
   exact⟨by rw [HR0.out];rfl,hb⟩
  | cons y r =>
   obtain⟨h2,h3,hr⟩:=lC hd;have hym:=JH h3;have hys:=HSM.out y hym;have hih:=IH.out y hym;have hpn:sw ks (i+1)=decide (y.kind=0):=by simp [sw,h3]
   have hfl:=fld_any hys;obtain⟨yk,yt,yn,yh,yu,yf,yo,ys⟩:=y;have hFF:R=(mB (.mk yk yt yn yh yu yf yo ys)&&(!(decide (yk=0)&&sw ks i)&&((!yh||(decide (0<d)&&fitL (d-1) false ys))&&fitL d (sw ks (i+1)) (ks.drop (i+1))))):=by
    rw [←HF.out,hd,hr,hpn,GT];rfl
   obtain⟨b,o,cc,rfl,hS,hbB,hyv,hcc⟩:=(HX.out.later hb).at_ h3;have hrg:wr.rangeAt b (o+i*18) cc:=fun j v hj=>by rw [J4];exact hcc j v hj
   have hcl:=hyv.len;obtain⟨fc,oa,oc,ka,kc,hA⟩:=hyv.at_;obtain⟨W5,hW5,HW5,hb5,HBX⟩:=sM wr cc;have HFLD:=ab (hfl S cc W5 (hyv.later hb5));have HKV:=ab (hA.kv.later hb5);have HA:=ab hA;have HONE:Hid (∀u∈cc.toArray.toList,u.oneCell'=true):=ab (fun u hu=>hyv.one u iY);have HIH:=ab hih;have HB:=ab hb;have HB5:=ab hb5;clear hd hr h3 hyv hcc hW5 hA hfl hys hym hih HF hpn;cases hfs:mB (.mk yk yt yn yh yu yf yo ys) with
   | false =>
    rw [hfs] at HFLD hFF;have HR0:Hid (R=false):=ab (by rw [hFF];rfl);clear hFF hfs;exact bk
   | true =>
    rw [hfs,JG] at hFF;rw [hfs] at HFLD;by_cases hk0:yk=0
    ·subst hk0
     obtain rfl:yh=false:=Cz hfs;have hFF2:R=(!(sw ks i)&&fitL d (sw ks (i+1)) (ks.drop (i+1))):=hFF;clear hFF hfs;rcases Fl ks i hi with h0|⟨j,p,hj,hpj,hpk⟩
     ·have HEQ:Hid (fitL d (sw ks (i+1)) (ks.drop (i+1))=R):=ab (by rw [hFF2,show sw ks i=false by rw [h0];rfl];rfl)
      have gi:decide ((0:Int)<(i:Int))=false:=JT gN;have gin:decide (0<i)=false:=JT gN;clear hFF2 h0;exact be
     ·obtain⟨pk,pt,pn,ph,pu,pf,po,ps⟩:=p
      obtain⟨b',o',cc',hae,_,_,hpv,hpc⟩:=(HX.out.later (bel2 HB.out HB5.out)).at_ hpj;obtain⟨rfl,rfl⟩:b=b'∧o=o':=by injection hae with hae;injection hae with h1 h2 _;exact⟨h1,h2⟩
      obtain⟨fc',oa',oc',ka',kc',hPA⟩:=hpv.at_;have HPC:Hid (W5.cell? ⟨b,o+j*18,none⟩=some (.int .i64 pk)):=ab (by have:=hpc 0 _ hPA.c0;simpa using this);by_cases hpz:pk=0
      ·have hpkb:(pk==0)=true:=by rw [Ji];exact hpz
       have HR0:Hid (R=false):=ab (by rw [hFF2,hpk,show decide ((Sn.mk pk pt pn ph pu pf po ps).kind=0)=true from JR hpz];rfl);subst hj;clear hFF2 hpj hpk hae hpv hpc hPA hpz;go_wp2_with (first
        | (refine kV rfl 44 (.tmp 12) rfl b (o+(j+1)*18) rfl cc _ hrg kX rfl gY ?_)
        | (refine ll rfl 44 (.tmp 6) (.tmp 13) rfl (wr.heap.size) (cc.toArray) rfl rfl 44 _ (heap_alloc_new wr _) (ld) iH rfl (HONE.out) (W:=W5) (HW5.out) ?_)
        | (refine kV rfl 44 (.tmp 6) rfl wr.heap.size 0 rfl cc _ (lc (ds:=[]) jx) kX rfl gY ?_)
        | (go_at_call 36;refine HFLD.out.mono ?_))
       first|rintro e w1 rfl hb1|rintro e w1 ⟨rfl,hb1⟩
       obtain⟨q0,_,_,q3,_,_,_,_⟩:=HA.out.box ((hb1.block _ (kT HBX.out)).trans HBX.out);have hpc1:=lP hb1 _ _ HPC.out;have hbw1:=bel2 (bel2 HB.out HB5.out) hb1;go_wp2
       go_ret
       exact⟨by rw [HR0.out];rfl,hbw1⟩
      ·have hpkb:(pk==0)=false:=by rw [JP];exact hpz
       have HEQ:Hid (fitL d (sw ks (i+1)) (ks.drop (i+1))=R):=ab (by rw [hFF2,hpk,show decide ((Sn.mk pk pt pn ph pu pf po ps).kind=0)=false from JT hpz];rfl);subst hj;clear hFF2 hpj hpk hae hpv hpc hPA hpz;go_wp2_with (first
        | (refine kV rfl 44 (.tmp 12) rfl b (o+(j+1)*18) rfl cc _ hrg kX rfl gY ?_)
        | (refine ll rfl 44 (.tmp 6) (.tmp 13) rfl (wr.heap.size) (cc.toArray) rfl rfl 44 _ (heap_alloc_new wr _) (ld) iH rfl (HONE.out) (W:=W5) (HW5.out) ?_)
        | (refine kV rfl 44 (.tmp 6) rfl wr.heap.size 0 rfl cc _ (lc (ds:=[]) jx) kX rfl gY ?_)
        | (go_at_call 36;refine HFLD.out.mono ?_))
       first|rintro e w1 rfl hb1|rintro e w1 ⟨rfl,hb1⟩
       obtain⟨q0,_,_,q3,_,_,_,_⟩:=HA.out.box ((hb1.block _ (kT HBX.out)).trans HBX.out);have hpc1:=lP hb1 _ _ HPC.out;have hbw1:=bel2 (bel2 HB.out HB5.out) hb1;go_wp2
       go_roundw
       case rel=>exact⟨j+1+1,by go_num,by omega,hbw1,HEQ⟩
       case measure=>simp [intOf];omega
    ·have hkb:(yk==0)=false:=by rw [JP];exact hk0
     have hFF2:R=((!yh||(decide (0<d)&&fitL (d-1) false ys))&&fitL d (sw ks (i+1)) (ks.drop (i+1))):=by rw [hFF,JT hk0];rfl
     clear hk0 hFF hfs;cases yh with
     | false =>
      have HEQ:Hid (fitL d (sw ks (i+1)) (ks.drop (i+1))=R):=ab (by rw [hFF2];rfl);clear hFF2;exact be
     | true =>
      by_cases hdz:d=0
      ·have HR0:Hid (R=false):=ab (by rw [hFF2,show decide (0<d)=false from JT gN];rfl)
       have hdb:((d:Int)==0)=true:=by rw [Ji];omega
       clear hFF2 hdz;exact bk
      ·have hdb:((d:Int)==0)=false:=by rw [JP];omega
       have hdp:0<d:=gN;have HI:Hid (∀(S:Nat→Prop) (a:Option Addr) (c:Nat) (w:World),SnSl w S a ys.length ys→Calls Tryz.prog 22 #[.slice a ys.length c,.int .i64 ((d:Int)-1)] w fun e w'=>e=.returned (.bool (fitL (d-1) false ys))∧Below w.heap.size w w'):=ab (by
        have h9:FtG (d-1) ys:=HIH.out rfl hdp;have h8:(((d-1:Nat)):Int)=(d:Int)-1:=gN;intro S a c w h;rw [←h8];exact h9 S a c w h)
       have hFF3:R=(fitL (d-1) false ys&&fitL d (sw ks (i+1)) (ks.drop (i+1))):=by rw [hFF2,JR hdp];rfl
       clear hFF2 HIH hdz;cases hgg:fitL (d-1) false ys with
       | false =>
        rw [hgg] at HI hFF3;have HR0:Hid (R=false):=ab (by rw [hFF3];rfl);clear hFF3 hgg;go_wp2_with (first
         | (refine kV rfl 44 (.tmp 12) rfl b (o+(i)*18) rfl cc _ hrg kX rfl gY ?_)
         | (refine ll rfl 44 (.tmp 6) (.tmp 13) rfl (wr.heap.size) (cc.toArray) rfl rfl 44 _ (heap_alloc_new wr _) (ld) iH rfl (HONE.out) (W:=W5) (HW5.out) ?_)
         | (refine kV rfl 44 (.tmp 6) rfl wr.heap.size 0 rfl cc _ (lc (ds:=[]) jx) kX rfl gY ?_)
         | (go_at_call 36;refine HFLD.out.mono ?_))
        first|rintro e w1 rfl hb1|rintro e w1 ⟨rfl,hb1⟩
        obtain⟨q0,_,_,q3,_,_,q17,_⟩:=HA.out.box ((hb1.block _ (kT HBX.out)).trans HBX.out);have hbw1:=bel2 (bel2 HB.out HB5.out) hb1;have HKC:=ab (HI.out S ka kc w1 (HKV.out.later hb1));go_wp2_with (go_at_call 22;refine HKC.out.mono ?_)
        first|rintro e' w2 rfl hb2|rintro e' w2 ⟨rfl,hb2⟩
        have hbw2:=bel2 hbw1 hb2;go_wp2
        go_ret
        exact⟨by rw [HR0.out];rfl,hbw2⟩
       | true =>
        rw [hgg] at HI hFF3;have HEQ:Hid (fitL d (sw ks (i+1)) (ks.drop (i+1))=R):=ab (by rw [hFF3];rfl);clear hFF3 hgg;go_wp2_with (first
         | (refine kV rfl 44 (.tmp 12) rfl b (o+(i)*18) rfl cc _ hrg kX rfl gY ?_)
         | (refine ll rfl 44 (.tmp 6) (.tmp 13) rfl (wr.heap.size) (cc.toArray) rfl rfl 44 _ (heap_alloc_new wr _) (ld) iH rfl (HONE.out) (W:=W5) (HW5.out) ?_)
         | (refine kV rfl 44 (.tmp 6) rfl wr.heap.size 0 rfl cc _ (lc (ds:=[]) jx) kX rfl gY ?_)
         | (go_at_call 36;refine HFLD.out.mono ?_))
        first|rintro e w1 rfl hb1|rintro e w1 ⟨rfl,hb1⟩
        obtain⟨q0,_,_,q3,_,_,q17,_⟩:=HA.out.box ((hb1.block _ (kT HBX.out)).trans HBX.out);have hbw1:=bel2 (bel2 HB.out HB5.out) hb1;have HKC:=ab (HI.out S ka kc w1 (HKV.out.later hb1));go_wp2_with (go_at_call 22;refine HKC.out.mono ?_)
        first|rintro e' w2 rfl hb2|rintro e' w2 ⟨rfl,hb2⟩
        have hbw2:=bel2 hbw1 hb2;go_wp2
        go_roundw
        case rel=>exact⟨i+1,by go_num,by omega,hbw2,HEQ⟩
        case measure=>simp [intOf];omega
theorem BA:∀(N:Nat) (ks:List Sn),Sn.partsL ks<N→Sn.smallL ks→ks.length≤1000000→∀d:Nat,d≤1000→FtG d ks
 | 0,ks,h,_,_,_,_=>by omega
 | N+1,ks,h,hsm,hkl,d,hd9=>EM ks hsm hkl d hd9 (fun y hy _ _=>by
   have h1:=Sn.parts_mem hy;have h2:=Sn.small_mem hsm y hy;obtain⟨yk,yt,yn,yh,yu,yf,yo,ys⟩:=y;obtain⟨_,_,h5,_,h6⟩:=h2;simp only [Sn.parts] at h1;exact BA N ys gN h6 h5 (d-1) gN)
theorem pS (S:Nat→Prop) (ks:List Sn) (hsm:Sn.smallL ks) (hkl:ks.length≤1000000) (a:Option Addr) (c:Nat) (w:World) (hx:SnSl w S a ks.length ks) :
  Calls Tryz.prog 11 #[.slice a ks.length c] w fun e w'=>e=.returned (.bool (nM ks))∧Below w.heap.size w w':=by
 have HF:=ab (BA (Sn.partsL ks+1) ks gN hsm hkl 32 gN S a c w hx);rw [fitL_may] at HF;clear hx hsm;go_enter Tryz.func11,Tryz.ntmps11
 go_wp2_with (go_at_call 22;refine HF.out.mono ?_)
 first|rintro e w1 rfl hb1|rintro e w1 ⟨rfl,hb1⟩
 go_wp2
 go_ret
 exact⟨rfl,hb1⟩
def opS (bare:Bool):Str:=if bare=true then [40,63,58] else [40]
theorem EU {s:Str} (h:∀c∈s,lf c=false):lA s=s.map fun c=>[c]:=by
 induction s with
 | nil=>rfl
 | cons c s ih =>
  have e:lA ([c]++s)=lA [c]++lA s:=md _ [c] s (Ju _) (by
   cases s with
   | nil=>trivial
   | cons d s=>exact h d gU)
  rw [show c::s=[c]++s from rfl,e,ih (fun d hd=>h d (JF _ hd))];rfl
theorem pL {s t:Str} (hs:oe s) (ht:oe t):oe (s++t):=by
 cases s with
 | nil=>exact ht
 | cons c s=>exact hs
theorem Fa (bare:Bool):lA (opS bare)=opn bare:=by cases bare<;>rfl
theorem yi (bare:Bool) {s t:Str} (hs:oe s) (ht:oe t):lA (opS bare++(s++41::t))=opn bare++(lA s++[41]::lA t):=by
 have h41:oe (41::t):=show lf 41=false by decide
 rw [md _ (opS bare) _ (Ju _) (pL hs h41),md _ s _ (Ju _) h41,show (41:UInt8)::t=[41]++t from rfl,md _ [41] t (Ju _) ht,Fa];rfl
def lzS (b:Bool):Str:=if b=true then [63] else []
def sgl (s:Str):List Str:=s.map fun c=>[c]
def isD (d:UInt8):Prop:=48≤d.toNat∧d.toNat≤57
theorem Hl {d:UInt8} (h:isD d):digS [d]=some (d.toNat-48):=by unfold digS;exact Jl h
def dval (a:Nat) (d:UInt8):Nat:=10*a+(d.toNat-48)
theorem AK:∀(ds:Str) (k acc:Nat) (z:List Str),(∀d∈ds,isD d)→k+ds.length≤3→numL k acc (sgl ds++z)=numL (k+ds.length) (ds.foldl dval acc) z
 | [],k,acc,z,_,_=>rfl
 | d::ds,k,acc,z,h,hk=>by
  simp only [Jr] at hk;have e:sgl (d::ds)++z=[d]::(sgl ds++z):=rfl;rw [e,numL];simp only [Hl (h d (JE ..))];rw [Jo gN,AK ds (k+1) _ z (fun x hx=>h x (JF _ hx)) gN];rw [JQ,Jr,show k+1+ds.length=k+(ds.length+1) by omega];rfl
theorem BJ:∀(ds:Str) (k acc:Nat) (z:List Str),(∀d∈ds,isD d)→k≤3→3<k+ds.length→numL k acc (sgl ds++z)=none
 | [],k,acc,z,_,h1,h2=>by simp at h2;omega
 | d::ds,k,acc,z,h,h1,h2=>by
  simp only [Jr] at h2;have e:sgl (d::ds)++z=[d]::(sgl ds++z):=rfl;rw [e,numL];simp only [Hl (h d (JE ..))];by_cases h3:k=3
  ·rw [Jl h3]
  ·rw [Jo h3];exact BJ ds (k+1) _ z (fun x hx=>h x (JF _ hx)) gN gN
theorem decD (n:Nat):(∀d∈Lib.decDigits n,isD d)∧(Lib.decDigits n).foldl dval 0=n∧(n≤999→(Lib.decDigits n).length≤3)∧(1000≤n→4≤(Lib.decDigits n).length)∧1≤(Lib.decDigits n).length:=by
 have one:∀m,m<10→isD (UInt8.ofNat (48+m))∧(UInt8.ofNat (48+m)).toNat-48=m:=by
  intro m hm;have e:(UInt8.ofNat (48+m)).toNat=48+m:=by simp;omega
  exact⟨by unfold isD;omega,by omega⟩
 have st:∀m,Lib.decDigits m=if m<10 then [UInt8.ofNat (48+m)] else Lib.decDigits (m / 10)++[UInt8.ofNat (48+m % 10)]:=by
  intro m;rw [Lib.decDigits.eq_1 m];by_cases h:m<10
  ·rw [Jl h,dif_pos h]
  ·rw [Jo h,dif_neg h]
 have key:∀N n,n≤N→(∀d∈Lib.decDigits n,isD d)∧(Lib.decDigits n).foldl dval 0=n∧1≤(Lib.decDigits n).length:=by
  intro N;induction N with
  | zero =>
   intro n hn;obtain rfl:n=0:=gN;rw [st 0,Jl gN];refine⟨fun d hd=>?_,rfl,by simp⟩;rw [JY] at hd;rw [hd];exact(one 0 gN).1
  | succ N ih =>
   intro n hn;rw [st n];by_cases h:n<10
   ·rw [Jl h]
    refine⟨fun d hd=>?_,?_,by simp⟩
    ·rw [JY] at hd;rw [hd];exact(one n h).1
    ·simp only [List.foldl,dval];have:=(one n h).2;omega
   ·rw [Jo h]
    obtain⟨i1,i2,i3⟩:=ih (n / 10) gN;refine⟨fun d hd=>?_,?_,by simp⟩
    ·rcases JX.1 hd with hd|hd
     ·exact i1 d hd
     ·rw [JY] at hd;rw [hd];exact(one (n % 10) gN).1
    ·rw [List.foldl_append,i2];simp only [List.foldl,dval];have:=(one (n % 10) gN).2;omega
 obtain⟨k1,k2,k3⟩:=key n n (Ju _);have len:∀m,(Lib.decDigits m).length=if m<10 then 1 else(Lib.decDigits (m / 10)).length+1:=by
  intro m;rw [st m];by_cases h:m<10
  ·rw [Jl h,Jl h];rfl
  ·rw [Jo h,Jo h];simp
 refine⟨k1,k2,fun h=>?_,fun h=>?_,k3⟩
 ·rw [len n];split
  ·omega
  ·rw [len (n / 10)];split
   ·omega
   ·rw [len (n / 10 / 10),Jl gN];omega
 ·rw [len n,Jo gN,len (n / 10),Jo gN,len (n / 10 / 10),Jo gN]
  have:=(key (n / 10 / 10 / 10) _ (Ju _)).2.2
  omega
theorem vr (n:Nat) {c:Str} (z:List Str) (hc:digS c=none):numL 0 0 (sgl (Lib.decDigits n)++c::z)=if n≤255 then some (n,c::z) else none:=by
 obtain⟨d1,d2,d3,d4,d5⟩:=decD n;by_cases h:n≤999
 ·rw [AK _ 0 0 _ d1 (by have:=d3 h;omega),d2,numL]
  simp only [hc];by_cases h2:n≤255
  ·rw [Jl ⟨by omega,h2⟩,Jl h2]
  ·rw [Jo gN,Jo h2]
 ·rw [BJ _ 0 0 _ d1 gN (by have:=d4 gN;omega),Jo gN]
theorem bounds_a (a:Nat) (z:List Str):mM (sgl (Lib.decDigits a++[125])++z)=if a≤255 then some ((a:Int),(a:Int),z) else none:=by
 have e:sgl (Lib.decDigits a++[125])++z=sgl (Lib.decDigits a)++[125]::z:=by simp [sgl]
 unfold mM;rw [e,vr a z rfl];by_cases h:a≤255
 ·rw [Jl h,Jl h];simp only [lq,if_true]
 ·rw [Jo h,Jo h]
theorem bounds_b (a:Nat) (z:List Str):mM (sgl (Lib.decDigits a++[44,125])++z)=if a≤255 then some ((a:Int),-1,z) else none:=by
 have e:sgl (Lib.decDigits a++[44,125])++z=sgl (Lib.decDigits a)++[44]::[125]::z:=by simp [sgl]
 unfold mM;rw [e,vr a _ rfl];by_cases h:a≤255
 ·rw [Jl h,Jl h];simp only [lq,if_true,Jo (show ¬([44]:Str)=[125] by decide)]
 ·rw [Jo h,Jo h]
theorem bounds_c (a b:Nat) (z:List Str):mM (sgl (Lib.decDigits a++44::(Lib.decDigits b++[125]))++z)=if a≤255∧b≤255∧a≤b then some ((a:Int),(b:Int),z) else none:=by
 have e:sgl (Lib.decDigits a++44::(Lib.decDigits b++[125]))++z=sgl (Lib.decDigits a)++[44]::(sgl (Lib.decDigits b)++[125]::z):=by simp [sgl]
 obtain⟨d1,_,_,_,d5⟩:=decD b;have ht:lq [125] (sgl (Lib.decDigits b)++[125]::z)=none:=by
  cases hb:Lib.decDigits b with
  | nil=>rw [hb] at d5;simp at d5
  | cons d ds =>
   have:=d1 d (by rw [hb];exact JE ..)
   unfold isD at this;have hne:¬[d]=([125]:Str):=by intro e;injection e with e;subst e;revert this;decide
   show (if [d]=([125]:Str) then _ else none)=none
   rw [Jo hne]
 unfold mM;rw [e,vr a _ rfl];by_cases h:a≤255
 ·rw [Jl h]
  simp only [lq,if_true,Jo (show ¬([44]:Str)=[125] by decide)] at ht ⊢;simp only [ht,vr b z (show digS [125]=none from rfl)];by_cases h2:b≤255
  ·rw [Jl h2]
   by_cases h3:a≤b
   ·rw [Jl ⟨h,h2,h3⟩];simp only [if_true];rw [Jl h3]
   ·rw [Jo (fun q=>h3 q.2.2)];simp only [if_true];rw [Jo h3]
  ·rw [Jo h2,Jo (fun q=>h2 q.2.1)]
 ·rw [Jo h,Jo (fun q=>h q.1)]
theorem GE (a:Nat):∀c∈Lib.decDigits a,lf c=false:=fun c hc=>by
 have:=(decD a).1 c hc
 unfold isD at this;simp [lf];omega
def alB (c:UInt8):Prop:=(48≤c.toNat∧c.toNat≤57)∨(97≤c.toNat∧c.toNat≤122)
structure Pc where
 f:UInt8
 t:UInt8
 s:Bool
def Pc.ok (p:Pc):Prop:=alB p.f∧alB p.t∧p.f.toNat≤p.t.toNat∧(p.s=true→p.f=p.t)
def Pc.str (p:Pc):Str:=if p.s=true then [p.f] else [p.f,45,p.t]
def Pc.row (p:Pc):Row:=([p.f],[p.t])
end Go.Proofs.YtdcnncgpomcaaaaGreatDoor
