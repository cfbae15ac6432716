/- snode.fits, snode.May in general: the plain side, the walk -/
import Derived.Test.YtbmakifbppocaaaGreatDoorSs1
import Derived.Test.YtbmakifbppocaaaGreatDoorSs2
import Derived.Deep.LoopGhost
import Derived.IntWalk
import Derived.Test.YtbmakifbppocaaaGreatDoorSs3
import Derived.Maps.OwnSet
import Derived.Maps.Keyed
import Derived.Test.YtbmakifbppocaaaGreatDoorSs4
import Derived.Test.YtbmakifbppocaaaGreatDoorSs5
import Derived.Test.YtbmakifbppocaaaGreatDoorSs6
import Derived.Test.YtbmakifbppocaaaGreatDoorSs7
set_option maxRecDepth 100000
namespace Go.Proofs.YtbmakifbppocaaaGreatDoor
open Go.RowKit
/-- 'fits': may parts be, so many that have something within one another; pt: is the part ahead a text? -/
def fitL:Nat→Bool→List Sn→Bool
 | _,_,[]=>true
 | d,pt,.mk k t n h u f o ks :: r=>fieldsS (.mk k t n h u f o ks) && (!(decide (k=0) && pt) && ((!h || (decide (0 < d) && fitL (d - 1) false ks)) && fitL d (decide (k=0)) r))
theorem fields_kids {k:Int} {t:Str} {n:Int} {u:Bool} {f:Tf} {o:List Str} {ks:List Sn} (hf:fieldsS (.mk k t n false u f o ks)=true):ks=[]:=by
 have hb:∀ {k:Int} {t:Str} {n:Int} {u:Bool} {f:Tf} {o:List Str} {ks:List Sn},besidesS (.mk k t n false u f o ks)=true→ks=[]:=by
  intro k t n u f o ks h
  cases u with
  | true =>
   have h':(ks.isEmpty && tfMay f)=true:=h
   rw [Bool.and_eq_true,List.isEmpty_iff] at h'
   exact h'.1
  | false =>
   have h':(ks.isEmpty && tfZ f)=true:=h
   rw [Bool.and_eq_true,List.isEmpty_iff] at h'
   exact h'.1
 have hn:∀ {u:Bool} {f:Tf} {ks:List Sn},(!false && (!u && (ks.isEmpty && tfZ f)))=true→ks=[]:=by
  intro u f ks h
  simp only [Bool.and_eq_true,List.isEmpty_iff] at h
  exact h.2.2.1
 have hf':(if k=0 then !t.isEmpty && (decide (n=0) && (o.isEmpty && (!false && (!u && (ks.isEmpty && tfZ f))))) else if k=1 then t.isEmpty && (decide (0≤n∧n≤9999) && (o.isEmpty && besidesS (.mk k t n false u f o ks))) else if k=2 then t.isEmpty && (decide (0≤n∧n≤9999) && (!o.isEmpty && (!false && (!u && (ks.isEmpty && tfZ f))))) else if k=3 then nameB t && (decide (n=0) && (o.isEmpty && besidesS (.mk k t n false u f o ks))) else false)=true:=hf
 split at hf'
 ·rw [Bool.and_eq_true,Bool.and_eq_true,Bool.and_eq_true] at hf';exact hn hf'.2.2.2
 split at hf'
 ·rw [Bool.and_eq_true,Bool.and_eq_true,Bool.and_eq_true] at hf';exact hb hf'.2.2.2
 split at hf'
 ·rw [Bool.and_eq_true,Bool.and_eq_true,Bool.and_eq_true] at hf';exact hn hf'.2.2.2
 split at hf'
 ·rw [Bool.and_eq_true,Bool.and_eq_true,Bool.and_eq_true] at hf';exact hb hf'.2.2.2
 ·cases hf'
theorem fitL_eq:∀ (N:Nat) (l:List Sn),Sn.partsL l≤N→∀ (d:Nat) (pt:Bool),fitL d pt l=(adjS pt l && Sn.wfL l && decide (Sn.deepL l≤d))
 | _,[],_,d,pt=>by simp [fitL,adjS,Sn.wfL,Sn.deepL]
 | 0,x :: r,h,_,_=>by have:=Sn.parts_pos x;simp only [Sn.partsL] at h;omega
 | N+1,.mk k t n h u f o ks :: r,hN,d,pt=>by
  simp only [Sn.partsL,Sn.parts] at hN
  have hp:∀ l:List Sn,Sn.partsL l=Sn.partsL l:=fun _=>rfl
  rw [fitL,fitL_eq N r (by omega) d,fitL_eq N ks (by omega) (d - 1) false]
  rw [show adjS pt (.mk k t n h u f o ks :: r)=(!(decide (k=0) && pt) && adjS (decide (k=0)) r) from rfl]
  simp only [Sn.wfL,Sn.wf,Sn.deepL,Sn.deep]
  cases hfl:fieldsS (.mk k t n h u f o ks) with
  | false=>simp
  | true =>
   cases h with
   | false =>
    obtain rfl:=fields_kids hfl
    simp only [Sn.deepL,Bool.not_false,Bool.true_or,Bool.true_and,Bool.and_true,Bool.false_eq_true,if_false,Nat.add_zero,Nat.zero_max]
    generalize decide (k=0)=b0
    generalize adjS b0 r=A
    generalize Sn.wfL r=B
    generalize decide (Sn.deepL r≤d)=C
    cases b0 <;> cases pt <;> cases A <;> cases B <;> cases C <;> rfl
   | true =>
    simp only [Bool.not_true,Bool.false_or,Bool.true_and,if_true]
    have e:decide (max (Sn.deepL ks+1) (Sn.deepL r)≤d)=((decide (0 < d) && decide (Sn.deepL ks≤d - 1)) && decide (Sn.deepL r≤d)):=by
     rw [Bool.eq_iff_iff];simp only [Bool.and_eq_true,decide_eq_true_eq];omega
    rw [e]
    generalize decide (k=0)=b0
    generalize adjS b0 r=A
    generalize Sn.wfL r=B
    generalize decide (Sn.deepL r≤d)=C
    generalize adjS false ks=A2
    generalize Sn.wfL ks=B2
    generalize decide (0 < d)=D
    generalize decide (Sn.deepL ks≤d - 1)=E
    cases b0 <;> cases pt <;> cases A <;> cases B <;> cases C <;> cases A2 <;> cases B2 <;> cases D <;> cases E <;> rfl
theorem fitL_may (l:List Sn):fitL 32 false l=maySn l:=fitL_eq _ l (Nat.le_refl _) 32 false
set_option maxHeartbeats 2000000 in
theorem Fld4_any (S:Nat→Prop) (k:Int) (t:Str) (n:Int) (h u:Bool) (f:Tf) (o:List Str) (ks:List Sn) (cc:List Value) (w:World) (hv:SnV w S cc (.mk k t n h u f o ks)) (n0:k≠0) (n1:k≠1) (n2:k≠2) (n3:k≠3) :
  Calls Tryz.prog 27 #[.agg cc.toArray] w fun e w'=>e=.returned (.bool false)∧Below w.heap.size w w':=by
 have g0:(k == 0)=false:=by rw [beq_eq_false_iff_ne];exact n0
 have g1:(k == 1)=false:=by rw [beq_eq_false_iff_ne];exact n1
 have g2:(k == 2)=false:=by rw [beq_eq_false_iff_ne];exact n2
 have g3:(k == 3)=false:=by rw [beq_eq_false_iff_ne];exact n3
 clear n0 n1 n2 n3
 obtain ⟨W0,hW0⟩:∃ W0,W0=w.alloc (.cells cc.toArray 38):=⟨_,rfl⟩
 have hb0:Below w.heap.size w W0:=by rw [hW0];exact (Below.refl _ _).alloc (Nat.le_refl _) _
 have HB1:Hid (W0.heap[w.heap.size]?=some (.cells cc.toArray 38 (0,0))):=Lib.hid (by rw [hW0];exact heap_alloc_new w _)
 have HW0:=Lib.hid hW0
 obtain ⟨fc,oa,oc,ka,kc,A⟩:=hv.at_
 obtain ⟨k0,k1,k2,k3,k4,k16,k17,kr⟩:=A.box HB1.out
 clear hW0 A hv kr
 go_enter Tryz.func27,Tryz.ntmps27
 go_upto_region 1 with fail
 rw [← HW0.out]
 clear HW0
 go_cut [3] from 4 to 11 (fun c wx=>(∃ nb:Bool,c=.bool nb)∧wx=W0)
 case first =>
  by_cases q0:0≤n
  ·have g0:decide (0≤n)=true:=decide_eq_true q0
   clear q0
   go_wp2_with fail
   go_meet
   exact ⟨⟨_,rfl⟩,rfl⟩
  ·have g0:decide (0≤n)=false:=decide_eq_false q0
   clear q0
   go_wp2_with fail
   go_meet
   exact ⟨⟨_,rfl⟩,rfl⟩
 case rest =>
  obtain ⟨⟨nb,rfl⟩,hwc⟩:=hcut
  replace hwc:=hwc.symm
  subst hwc
  go_wp2
  go_ret
  exact ⟨rfl,hb0⟩
theorem fields_other {k:Int} {t:Str} {n:Int} {h u:Bool} {f:Tf} {o:List Str} {ks:List Sn} (n0:k≠0) (n1:k≠1) (n2:k≠2) (n3:k≠3):fieldsS (.mk k t n h u f o ks)=false:=by
 show (if k=0 then _ else if k=1 then _ else if k=2 then _ else if k=3 then _ else false)=false
 rw [if_neg n0,if_neg n1,if_neg n2,if_neg n3]
theorem fld_any {x:Sn} (hs:x.small) (S:Nat→Prop) (cc:List Value) (w:World) (hv:SnV w S cc x) :
  Calls Tryz.prog 27 #[.agg cc.toArray] w fun e w'=>e=.returned (.bool (fieldsS x))∧Below w.heap.size w w':=by
 obtain ⟨k,t,n,h,u,f,o,ks⟩:=x
 obtain ⟨s1,s2,s3,s4,_⟩:=hs
 by_cases n0:k=0
 ·subst n0;exact Fld0_any S t n h u f s1 o ks cc w hv
 by_cases n1:k=1
 ·subst n1;exact Fld1_any S t n h u f s1 o ks cc w hv
 by_cases n2:k=2
 ·subst n2;exact Fld2_any S t n h u f s1 o ks cc w hv
 by_cases n3:k=3
 ·subst n3;exact Fld3_any S t s4 n h u f s1 o ks cc w hv
 ·rw [fields_other n0 n1 n2 n3]
  exact Fld4_any S k t n h u f o ks cc w hv n0 n1 n2 n3
end Go.Proofs.YtbmakifbppocaaaGreatDoor
set_option maxRecDepth 100000
namespace Go.Proofs.YtbmakifbppocaaaGreatDoor
open Go.RowKit
theorem fitL_nil (d:Nat) (pt:Bool):fitL d pt []=true:=by rw [fitL]
theorem fitL_cons (d:Nat) (pt:Bool) (k:Int) (t:Str) (n:Int) (h u:Bool) (f:Tf) (o:List Str) (ks r:List Sn):fitL d pt (.mk k t n h u f o ks :: r)=(fieldsS (.mk k t n h u f o ks) && (!(decide (k=0) && pt) && ((!h || (decide (0 < d) && fitL (d - 1) false ks)) && fitL d (decide (k=0)) r))):=by rw [fitL]
def FgRel (ks:List Sn) (d:Nat) (R:Bool) (w:World) (q:Value) (wr:World):Prop:=∃ i:Nat,q=.int .i64 i∧i≤ks.length∧Below w.heap.size w wr∧Hid (fitL d (prevT ks i) (ks.drop i)=R)
def FtG (d:Nat) (ks:List Sn):Prop:=∀ (S:Nat→Prop) (a:Option Addr) (c:Nat) (w:World),SnSl w S a ks.length ks→Calls Tryz.prog 16 #[.slice a ks.length c,.int .i64 (d:Int)] w fun e w'=>e=.returned (.bool (fitL d false ks))∧Below w.heap.size w w'
theorem prev_cases (ks:List Sn) (i:Nat) (hi:i≤ks.length):i=0∨∃ j p,i=j+1∧ks[j]?=some p∧prevT ks i=decide (p.kind=0):=by
 cases i with
 | zero=>exact .inl rfl
 | succ j =>
  have hlt:j < ks.length:=by omega
  exact .inr ⟨j,ks[j],rfl,List.getElem?_eq_getElem hlt,by simp [prevT,List.getElem?_eq_getElem hlt]⟩
theorem fields_text {t:Str} {n:Int} {h u:Bool} {f:Tf} {o:List Str} {ks:List Sn} (hf:fieldsS (.mk 0 t n h u f o ks)=true):h=false:=by
 have hf':(!t.isEmpty && (decide (n=0) && (o.isEmpty && (!h && (!u && (ks.isEmpty && tfZ f))))))=true:=hf
 simp only [Bool.and_eq_true,Bool.not_eq_true'] at hf'
 exact hf'.2.2.2.1
set_option maxHeartbeats 4000000 in
theorem fitsG_step (ks:List Sn) (hsm:Sn.smallL ks) (hkl:ks.length≤1000000) (d:Nat) (hd9:d≤1000)
  (IH0:∀ y ∈ ks,y.has=true→0 < d→FtG (d - 1) y.kids):FtG d ks:=by
 intro S a c w hx
 have HX:=Lib.hid hx
 obtain ⟨R,hR⟩:∃ R,fitL d false ks=R:=⟨_,rfl⟩
 rw [hR]
 have HRR:=Lib.hid hR
 have HSM:=Lib.hid (fun y hy=>Sn.small_mem hsm y hy)
 have IH:=Lib.hid IH0
 clear hx hsm IH0 hR
 go_enter Tryz.func16,Tryz.ntmps16
 go_wp2
 go_loopw [9] (fun q wr=>FgRel ks d R w q wr) (fun q _=>ks.length - (intOf q).toNat)
 case atStart=>exact ⟨0,rfl,by omega,Below.refl _ _,HRR⟩
 case round =>
  obtain ⟨i,rfl,hi,hb,HF⟩:=hrel
  have hB:=hb.size
  clear HRR
  cases hd:ks.drop i with
  | nil =>
   have h2:ks.length≤i:=by simpa using hd
   have HR0:Hid (R=true):=Lib.hid (by rw [← HF.out,hd,fitL_nil])
   clear hd HF
   go_wp2
   go_ret
   exact ⟨by rw [HR0.out];rfl,hb⟩
  | cons y r =>
   obtain ⟨h2,h3,hr⟩:=ldrop_cons hd
   have hym:=List.mem_of_getElem? h3
   have hys:=HSM.out y hym
   have hih:=IH.out y hym
   have hpn:prevT ks (i+1)=decide (y.kind=0):=by simp [prevT,h3]
   have hfl:=fld_any hys
   obtain ⟨yk,yt,yn,yh,yu,yf,yo,ys⟩:=y
   have hFF:R=(fieldsS (.mk yk yt yn yh yu yf yo ys) && (!(decide (yk=0) && prevT ks i) && ((!yh || (decide (0 < d) && fitL (d - 1) false ys)) && fitL d (prevT ks (i+1)) (ks.drop (i+1))))):=by
    rw [← HF.out,hd,hr,hpn,fitL_cons];rfl
   obtain ⟨b,o,cc,rfl,hS,hbB,hyv,hcc⟩:=(HX.out.later hb).at_ h3
   have hrg:wr.rangeAt b (o+i * 18) cc:=fun j v hj=>by rw [Nat.add_assoc];exact hcc j v hj
   have hcl:=hyv.len
   obtain ⟨fc,oa,oc,ka,kc,hA⟩:=hyv.at_
   obtain ⟨W5,hW5⟩:∃ W5,W5=wr.alloc (.cells cc.toArray 38):=⟨_,rfl⟩
   have HW5:Hid ((wr.alloc (.cells #[.int .i64 0,.string ⟨#[]⟩,.int .i64 0,.bool false,.bool false,.int .i64 0,.string ⟨#[]⟩,.bool false,.slice none 0 0,.int .i64 0,.int .i64 0,.bool false,.slice none 0 0,.slice none 0 0,.bool false,.bool false,.slice none 0 0,.slice none 0 0] 38)).setRow wr.heap.size cc.toArray=W5):=Lib.hid (by rw [hW5];exact World.setRow_alloc_new _ _ _ _)
   have hb5:Below wr.heap.size wr W5:=by rw [hW5];exact (Below.refl _ _).alloc (Nat.le_refl _) _
   have HBX:Hid (W5.heap[wr.heap.size]?=some (.cells cc.toArray 38 (0,0))):=Lib.hid (by rw [hW5];exact heap_alloc_new _ _)
   have HFLD:=Lib.hid (hfl S cc W5 (hyv.later hb5))
   have HKV:=Lib.hid (hA.kv.later hb5)
   have HA:=Lib.hid hA
   have HONE:Hid (∀ u ∈ cc.toArray.toList,u.oneCell'=true):=Lib.hid (fun u hu=>hyv.one u (by simpa using hu))
   have HIH:=Lib.hid hih
   have HB:=Lib.hid hb
   have HB5:=Lib.hid hb5
   clear hd hr h3 hyv hcc hW5 hA hfl hys hym hih HF hpn
   cases hfs:fieldsS (.mk yk yt yn yh yu yf yo ys) with
   | false =>
    rw [hfs] at HFLD hFF
    have HR0:Hid (R=false):=Lib.hid (by rw [hFF];rfl)
    clear hFF hfs
    go_wp2_with (first
     | (refine wpList_ldW rfl 38 (.tmp 12) rfl b (o+(i) * 18) rfl cc _ hrg snip_under rfl (by rw [snip_size,hcl]) ?_)
     | (refine wpList_stW rfl 38 (.tmp 6) (.tmp 13) rfl (wr.heap.size) (cc.toArray) rfl rfl 38 (#[.int .i64 0,.string ⟨#[]⟩,.int .i64 0,.bool false,.bool false,.int .i64 0,.string ⟨#[]⟩,.bool false,.slice none 0 0,.int .i64 0,.int .i64 0,.bool false,.slice none 0 0,.slice none 0 0,.bool false,.bool false,.slice none 0 0,.slice none 0 0]) (heap_alloc_new wr _) (snip_size) (by simp [hcl]) rfl (HONE.out) (W:=W5) (HW5.out) ?_)
     | (refine wpList_ldW rfl 38 (.tmp 6) rfl wr.heap.size 0 rfl cc _ (range_blk (ds:=[]) (by simpa using HBX.out)) snip_under rfl (by rw [snip_size,hcl]) ?_)
     | (go_at_call 27;refine HFLD.out.mono ?_))
    first | rintro e w1 rfl hb1 | rintro e w1 ⟨rfl,hb1⟩
    obtain ⟨q0,_,_,q3,_,_,q17,_⟩:=HA.out.box ((hb1.block _ (heap_lt HBX.out)).trans HBX.out)
    have hbw1:=bel2 (bel2 HB.out HB5.out) hb1
    go_wp2
    go_ret
    exact ⟨by rw [HR0.out];rfl,hbw1⟩
   | true =>
    rw [hfs,Bool.true_and] at hFF
    rw [hfs] at HFLD
    by_cases hk0:yk=0
    ·subst hk0
     obtain rfl:yh=false:=fields_text hfs
     have hFF2:R=(!(prevT ks i) && fitL d (prevT ks (i+1)) (ks.drop (i+1))):=hFF
     clear hFF hfs
     rcases prev_cases ks i hi with h0 | ⟨j,p,hj,hpj,hpk⟩
     ·have HEQ:Hid (fitL d (prevT ks (i+1)) (ks.drop (i+1))=R):=Lib.hid (by rw [hFF2,show prevT ks i=false by rw [h0];rfl];rfl)
      have gi:decide ((0:Int) < (i:Int))=false:=decide_eq_false (by omega)
      have gin:decide (0 < i)=false:=decide_eq_false (by omega)
      clear hFF2 h0
      go_wp2_with (first
       | (refine wpList_ldW rfl 38 (.tmp 12) rfl b (o+(i) * 18) rfl cc _ hrg snip_under rfl (by rw [snip_size,hcl]) ?_)
       | (refine wpList_stW rfl 38 (.tmp 6) (.tmp 13) rfl (wr.heap.size) (cc.toArray) rfl rfl 38 (#[.int .i64 0,.string ⟨#[]⟩,.int .i64 0,.bool false,.bool false,.int .i64 0,.string ⟨#[]⟩,.bool false,.slice none 0 0,.int .i64 0,.int .i64 0,.bool false,.slice none 0 0,.slice none 0 0,.bool false,.bool false,.slice none 0 0,.slice none 0 0]) (heap_alloc_new wr _) (snip_size) (by simp [hcl]) rfl (HONE.out) (W:=W5) (HW5.out) ?_)
       | (refine wpList_ldW rfl 38 (.tmp 6) rfl wr.heap.size 0 rfl cc _ (range_blk (ds:=[]) (by simpa using HBX.out)) snip_under rfl (by rw [snip_size,hcl]) ?_)
       | (go_at_call 27;refine HFLD.out.mono ?_))
      first | rintro e w1 rfl hb1 | rintro e w1 ⟨rfl,hb1⟩
      obtain ⟨q0,_,_,q3,_,_,q17,_⟩:=HA.out.box ((hb1.block _ (heap_lt HBX.out)).trans HBX.out)
      have hbw1:=bel2 (bel2 HB.out HB5.out) hb1
      go_wp2
      go_roundw
      case rel=>exact ⟨i+1,by go_num,by omega,hbw1,HEQ⟩
      case measure=>simp [intOf];omega
     ·obtain ⟨pk,pt,pn,ph,pu,pf,po,ps⟩:=p
      obtain ⟨b',o',cc',hae,_,_,hpv,hpc⟩:=(HX.out.later (bel2 HB.out HB5.out)).at_ hpj
      obtain ⟨rfl,rfl⟩:b=b'∧o=o':=by injection hae with hae;injection hae with h1 h2 _;exact ⟨h1,h2⟩
      obtain ⟨fc',oa',oc',ka',kc',hPA⟩:=hpv.at_
      have HPC:Hid (W5.cell? ⟨b,o+j * 18,none⟩=some (.int .i64 pk)):=Lib.hid (by have:=hpc 0 _ hPA.c0;simpa using this)
      by_cases hpz:pk=0
      ·have hpkb:(pk == 0)=true:=by rw [beq_iff_eq];exact hpz
       have HR0:Hid (R=false):=Lib.hid (by rw [hFF2,hpk,show decide ((Sn.mk pk pt pn ph pu pf po ps).kind=0)=true from decide_eq_true hpz];rfl)
       subst hj
       clear hFF2 hpj hpk hae hpv hpc hPA hpz
       go_wp2_with (first
        | (refine wpList_ldW rfl 38 (.tmp 12) rfl b (o+(j+1) * 18) rfl cc _ hrg snip_under rfl (by rw [snip_size,hcl]) ?_)
        | (refine wpList_stW rfl 38 (.tmp 6) (.tmp 13) rfl (wr.heap.size) (cc.toArray) rfl rfl 38 (#[.int .i64 0,.string ⟨#[]⟩,.int .i64 0,.bool false,.bool false,.int .i64 0,.string ⟨#[]⟩,.bool false,.slice none 0 0,.int .i64 0,.int .i64 0,.bool false,.slice none 0 0,.slice none 0 0,.bool false,.bool false,.slice none 0 0,.slice none 0 0]) (heap_alloc_new wr _) (snip_size) (by simp [hcl]) rfl (HONE.out) (W:=W5) (HW5.out) ?_)
        | (refine wpList_ldW rfl 38 (.tmp 6) rfl wr.heap.size 0 rfl cc _ (range_blk (ds:=[]) (by simpa using HBX.out)) snip_under rfl (by rw [snip_size,hcl]) ?_)
        | (go_at_call 27;refine HFLD.out.mono ?_))
       first | rintro e w1 rfl hb1 | rintro e w1 ⟨rfl,hb1⟩
       obtain ⟨q0,_,_,q3,_,_,_,_⟩:=HA.out.box ((hb1.block _ (heap_lt HBX.out)).trans HBX.out)
       have hpc1:=cell_kept hb1 _ _ HPC.out
       have hbw1:=bel2 (bel2 HB.out HB5.out) hb1
       go_wp2
       go_ret
       exact ⟨by rw [HR0.out];rfl,hbw1⟩
      ·have hpkb:(pk == 0)=false:=by rw [beq_eq_false_iff_ne];exact hpz
       have HEQ:Hid (fitL d (prevT ks (i+1)) (ks.drop (i+1))=R):=Lib.hid (by rw [hFF2,hpk,show decide ((Sn.mk pk pt pn ph pu pf po ps).kind=0)=false from decide_eq_false hpz];rfl)
       subst hj
       clear hFF2 hpj hpk hae hpv hpc hPA hpz
       go_wp2_with (first
        | (refine wpList_ldW rfl 38 (.tmp 12) rfl b (o+(j+1) * 18) rfl cc _ hrg snip_under rfl (by rw [snip_size,hcl]) ?_)
        | (refine wpList_stW rfl 38 (.tmp 6) (.tmp 13) rfl (wr.heap.size) (cc.toArray) rfl rfl 38 (#[.int .i64 0,.string ⟨#[]⟩,.int .i64 0,.bool false,.bool false,.int .i64 0,.string ⟨#[]⟩,.bool false,.slice none 0 0,.int .i64 0,.int .i64 0,.bool false,.slice none 0 0,.slice none 0 0,.bool false,.bool false,.slice none 0 0,.slice none 0 0]) (heap_alloc_new wr _) (snip_size) (by simp [hcl]) rfl (HONE.out) (W:=W5) (HW5.out) ?_)
        | (refine wpList_ldW rfl 38 (.tmp 6) rfl wr.heap.size 0 rfl cc _ (range_blk (ds:=[]) (by simpa using HBX.out)) snip_under rfl (by rw [snip_size,hcl]) ?_)
        | (go_at_call 27;refine HFLD.out.mono ?_))
       first | rintro e w1 rfl hb1 | rintro e w1 ⟨rfl,hb1⟩
       obtain ⟨q0,_,_,q3,_,_,_,_⟩:=HA.out.box ((hb1.block _ (heap_lt HBX.out)).trans HBX.out)
       have hpc1:=cell_kept hb1 _ _ HPC.out
       have hbw1:=bel2 (bel2 HB.out HB5.out) hb1
       go_wp2
       go_roundw
       case rel=>exact ⟨j+1+1,by go_num,by omega,hbw1,HEQ⟩
       case measure=>simp [intOf];omega
    ·have hkb:(yk == 0)=false:=by rw [beq_eq_false_iff_ne];exact hk0
     have hFF2:R=((!yh || (decide (0 < d) && fitL (d - 1) false ys)) && fitL d (prevT ks (i+1)) (ks.drop (i+1))):=by rw [hFF,decide_eq_false hk0];rfl
     clear hk0 hFF hfs
     cases yh with
     | false =>
      have HEQ:Hid (fitL d (prevT ks (i+1)) (ks.drop (i+1))=R):=Lib.hid (by rw [hFF2];rfl)
      clear hFF2
      go_wp2_with (first
       | (refine wpList_ldW rfl 38 (.tmp 12) rfl b (o+(i) * 18) rfl cc _ hrg snip_under rfl (by rw [snip_size,hcl]) ?_)
       | (refine wpList_stW rfl 38 (.tmp 6) (.tmp 13) rfl (wr.heap.size) (cc.toArray) rfl rfl 38 (#[.int .i64 0,.string ⟨#[]⟩,.int .i64 0,.bool false,.bool false,.int .i64 0,.string ⟨#[]⟩,.bool false,.slice none 0 0,.int .i64 0,.int .i64 0,.bool false,.slice none 0 0,.slice none 0 0,.bool false,.bool false,.slice none 0 0,.slice none 0 0]) (heap_alloc_new wr _) (snip_size) (by simp [hcl]) rfl (HONE.out) (W:=W5) (HW5.out) ?_)
       | (refine wpList_ldW rfl 38 (.tmp 6) rfl wr.heap.size 0 rfl cc _ (range_blk (ds:=[]) (by simpa using HBX.out)) snip_under rfl (by rw [snip_size,hcl]) ?_)
       | (go_at_call 27;refine HFLD.out.mono ?_))
      first | rintro e w1 rfl hb1 | rintro e w1 ⟨rfl,hb1⟩
      obtain ⟨q0,_,_,q3,_,_,q17,_⟩:=HA.out.box ((hb1.block _ (heap_lt HBX.out)).trans HBX.out)
      have hbw1:=bel2 (bel2 HB.out HB5.out) hb1
      go_wp2
      go_roundw
      case rel=>exact ⟨i+1,by go_num,by omega,hbw1,HEQ⟩
      case measure=>simp [intOf];omega
     | true =>
      by_cases hdz:d=0
      ·have HR0:Hid (R=false):=Lib.hid (by rw [hFF2,show decide (0 < d)=false from decide_eq_false (by omega)];rfl)
       have hdb:((d:Int) == 0)=true:=by rw [beq_iff_eq];omega
       clear hFF2 hdz
       go_wp2_with (first
        | (refine wpList_ldW rfl 38 (.tmp 12) rfl b (o+(i) * 18) rfl cc _ hrg snip_under rfl (by rw [snip_size,hcl]) ?_)
        | (refine wpList_stW rfl 38 (.tmp 6) (.tmp 13) rfl (wr.heap.size) (cc.toArray) rfl rfl 38 (#[.int .i64 0,.string ⟨#[]⟩,.int .i64 0,.bool false,.bool false,.int .i64 0,.string ⟨#[]⟩,.bool false,.slice none 0 0,.int .i64 0,.int .i64 0,.bool false,.slice none 0 0,.slice none 0 0,.bool false,.bool false,.slice none 0 0,.slice none 0 0]) (heap_alloc_new wr _) (snip_size) (by simp [hcl]) rfl (HONE.out) (W:=W5) (HW5.out) ?_)
        | (refine wpList_ldW rfl 38 (.tmp 6) rfl wr.heap.size 0 rfl cc _ (range_blk (ds:=[]) (by simpa using HBX.out)) snip_under rfl (by rw [snip_size,hcl]) ?_)
        | (go_at_call 27;refine HFLD.out.mono ?_))
       first | rintro e w1 rfl hb1 | rintro e w1 ⟨rfl,hb1⟩
       obtain ⟨q0,_,_,q3,_,_,q17,_⟩:=HA.out.box ((hb1.block _ (heap_lt HBX.out)).trans HBX.out)
       have hbw1:=bel2 (bel2 HB.out HB5.out) hb1
       go_wp2
       go_ret
       exact ⟨by rw [HR0.out];rfl,hbw1⟩
      ·have hdb:((d:Int) == 0)=false:=by rw [beq_eq_false_iff_ne];omega
       have hdp:0 < d:=by omega
       have HI:Hid (∀ (S:Nat→Prop) (a:Option Addr) (c:Nat) (w:World),SnSl w S a ys.length ys→Calls Tryz.prog 16 #[.slice a ys.length c,.int .i64 ((d:Int) - 1)] w fun e w'=>e=.returned (.bool (fitL (d - 1) false ys))∧Below w.heap.size w w'):=Lib.hid (by
        have h9:FtG (d - 1) ys:=HIH.out rfl hdp
        have h8:(((d - 1:Nat)):Int)=(d:Int) - 1:=by omega
        intro S a c w h
        rw [← h8];exact h9 S a c w h)
       have hFF3:R=(fitL (d - 1) false ys && fitL d (prevT ks (i+1)) (ks.drop (i+1))):=by rw [hFF2,decide_eq_true hdp];rfl
       clear hFF2 HIH hdz
       cases hgg:fitL (d - 1) false ys with
       | false =>
        rw [hgg] at HI hFF3
        have HR0:Hid (R=false):=Lib.hid (by rw [hFF3];rfl)
        clear hFF3 hgg
        go_wp2_with (first
         | (refine wpList_ldW rfl 38 (.tmp 12) rfl b (o+(i) * 18) rfl cc _ hrg snip_under rfl (by rw [snip_size,hcl]) ?_)
         | (refine wpList_stW rfl 38 (.tmp 6) (.tmp 13) rfl (wr.heap.size) (cc.toArray) rfl rfl 38 (#[.int .i64 0,.string ⟨#[]⟩,.int .i64 0,.bool false,.bool false,.int .i64 0,.string ⟨#[]⟩,.bool false,.slice none 0 0,.int .i64 0,.int .i64 0,.bool false,.slice none 0 0,.slice none 0 0,.bool false,.bool false,.slice none 0 0,.slice none 0 0]) (heap_alloc_new wr _) (snip_size) (by simp [hcl]) rfl (HONE.out) (W:=W5) (HW5.out) ?_)
         | (refine wpList_ldW rfl 38 (.tmp 6) rfl wr.heap.size 0 rfl cc _ (range_blk (ds:=[]) (by simpa using HBX.out)) snip_under rfl (by rw [snip_size,hcl]) ?_)
         | (go_at_call 27;refine HFLD.out.mono ?_))
        first | rintro e w1 rfl hb1 | rintro e w1 ⟨rfl,hb1⟩
        obtain ⟨q0,_,_,q3,_,_,q17,_⟩:=HA.out.box ((hb1.block _ (heap_lt HBX.out)).trans HBX.out)
        have hbw1:=bel2 (bel2 HB.out HB5.out) hb1
        have HKC:=Lib.hid (HI.out S ka kc w1 (HKV.out.later hb1))
        go_wp2_with (go_at_call 16;refine HKC.out.mono ?_)
        first | rintro e' w2 rfl hb2 | rintro e' w2 ⟨rfl,hb2⟩
        have hbw2:=bel2 hbw1 hb2
        go_wp2
        go_ret
        exact ⟨by rw [HR0.out];rfl,hbw2⟩
       | true =>
        rw [hgg] at HI hFF3
        have HEQ:Hid (fitL d (prevT ks (i+1)) (ks.drop (i+1))=R):=Lib.hid (by rw [hFF3];rfl)
        clear hFF3 hgg
        go_wp2_with (first
         | (refine wpList_ldW rfl 38 (.tmp 12) rfl b (o+(i) * 18) rfl cc _ hrg snip_under rfl (by rw [snip_size,hcl]) ?_)
         | (refine wpList_stW rfl 38 (.tmp 6) (.tmp 13) rfl (wr.heap.size) (cc.toArray) rfl rfl 38 (#[.int .i64 0,.string ⟨#[]⟩,.int .i64 0,.bool false,.bool false,.int .i64 0,.string ⟨#[]⟩,.bool false,.slice none 0 0,.int .i64 0,.int .i64 0,.bool false,.slice none 0 0,.slice none 0 0,.bool false,.bool false,.slice none 0 0,.slice none 0 0]) (heap_alloc_new wr _) (snip_size) (by simp [hcl]) rfl (HONE.out) (W:=W5) (HW5.out) ?_)
         | (refine wpList_ldW rfl 38 (.tmp 6) rfl wr.heap.size 0 rfl cc _ (range_blk (ds:=[]) (by simpa using HBX.out)) snip_under rfl (by rw [snip_size,hcl]) ?_)
         | (go_at_call 27;refine HFLD.out.mono ?_))
        first | rintro e w1 rfl hb1 | rintro e w1 ⟨rfl,hb1⟩
        obtain ⟨q0,_,_,q3,_,_,q17,_⟩:=HA.out.box ((hb1.block _ (heap_lt HBX.out)).trans HBX.out)
        have hbw1:=bel2 (bel2 HB.out HB5.out) hb1
        have HKC:=Lib.hid (HI.out S ka kc w1 (HKV.out.later hb1))
        go_wp2_with (go_at_call 16;refine HKC.out.mono ?_)
        first | rintro e' w2 rfl hb2 | rintro e' w2 ⟨rfl,hb2⟩
        have hbw2:=bel2 hbw1 hb2
        go_wp2
        go_roundw
        case rel=>exact ⟨i+1,by go_num,by omega,hbw2,HEQ⟩
        case measure=>simp [intOf];omega
theorem fits_any0:∀ (N:Nat) (ks:List Sn),Sn.partsL ks < N→Sn.smallL ks→ks.length≤1000000→∀ d:Nat,d≤1000→FtG d ks
 | 0,ks,h,_,_,_,_=>by omega
 | N+1,ks,h,hsm,hkl,d,hd9=>fitsG_step ks hsm hkl d hd9 (fun y hy _ _=>by
   have h1:=Sn.parts_mem hy
   have h2:=Sn.small_mem hsm y hy
   obtain ⟨yk,yt,yn,yh,yu,yf,yo,ys⟩:=y
   obtain ⟨_,_,h5,_,h6⟩:=h2
   simp only [Sn.parts] at h1
   exact fits_any0 N ys (by omega) h6 h5 (d - 1) (by omega))
theorem NMay_any (S:Nat→Prop) (ks:List Sn) (hsm:Sn.smallL ks) (hkl:ks.length≤1000000) (a:Option Addr) (c:Nat) (w:World) (hx:SnSl w S a ks.length ks) :
  Calls Tryz.prog 9 #[.slice a ks.length c] w fun e w'=>e=.returned (.bool (maySn ks))∧Below w.heap.size w w':=by
 have HF:=Lib.hid (fits_any0 (Sn.partsL ks+1) ks (by omega) hsm hkl 32 (by omega) S a c w hx)
 rw [fitL_may] at HF
 clear hx hsm
 go_enter Tryz.func9,Tryz.ntmps9
 go_wp2_with (go_at_call 16;refine HF.out.mono ?_)
 first | rintro e w1 rfl hb1 | rintro e w1 ⟨rfl,hb1⟩
 go_wp2
 go_ret
 exact ⟨rfl,hb1⟩
end Go.Proofs.YtbmakifbppocaaaGreatDoor
set_option maxRecDepth 100000
namespace Go.Proofs.YtbmakifbppocaaaGreatDoor
def alB (c:UInt8):Prop:=(48≤c.toNat∧c.toNat≤57)∨(97≤c.toNat∧c.toNat≤122)
structure Pc where
 f:UInt8
 t:UInt8
 s:Bool
def Pc.ok (p:Pc):Prop:=alB p.f∧alB p.t∧p.f.toNat≤p.t.toNat∧(p.s=true→p.f=p.t)
def Pc.str (p:Pc):Str:=if p.s=true then [p.f] else [p.f,45,p.t]
def Pc.row (p:Pc):Row:=([p.f],[p.t])
end Go.Proofs.YtbmakifbppocaaaGreatDoor
set_option maxRecDepth 100000
namespace Go.Proofs.YtbmakifbppocaaaGreatDoor
def flagS (f:Tf):Str:=(if f.all=true then [103] else [])++(if f.fold=true then [105] else [])
def formS (f:Tf):Str:=47 :: (f.rx.tell++47 :: (showF f.fs++47 :: flagS f))
def nameT (k:Int) (t:Str) (n:Int):Str:=if k=3 then t else dec n
namespace Sn
mutual
def tell:Sn→Str
 | mk k t n h u f o ks =>
  if k=0 then quot three t
  else if k=2 then 36 :: 123 :: (dec n++124 :: (joinQ o++[124,125]))
  else 36 :: 123 :: (nameT k t n++((if h=true then 58 :: tellL ks else [])++((if u=true then formS f else [])++[125])))
def tellL:List Sn→Str
 | []=>[]
 | x :: r=>tell x++tellL r
end
end Sn
end Go.Proofs.YtbmakifbppocaaaGreatDoor
set_option maxRecDepth 100000
namespace Go.Proofs.YtbmakifbppocaaaGreatDoor
open Go.RowKit
def SqRel (B g:Nat) (th l acc0:Str) (w0:World) (R:Str) (q:Value) (wr:World):Prop :=
 ∃ (i:Nat) (acc:Str),i≤l.length∧q=.int .i64 i∧Bld B g acc wr∧Fr B [g] [5] w0 wr∧acc.length≤acc0.length+2 * i∧Hid (acc++quot th (l.drop i)=R)
set_option maxHeartbeats 2000000 in
theorem SQuote_any (B g:Nat) (l th acc0:Str) (w:World) (hbl0:Bld B g acc0 w) (hs:l.length≤1000000) (ha:acc0.length≤20000000) (hB0:B≤w.heap.size) :
  Calls Tryz.prog 17 #[.pointer (some ⟨g,0,none⟩),.string ⟨(l).toArray⟩,.string ⟨(th).toArray⟩] w fun e w'=>e=.returned (.tuple #[])∧Bld B g (acc0++quot th l) w'∧Fr B [g] [5] w w':=by
 obtain ⟨R,hR⟩:∃ R,acc0++quot th l=R:=⟨_,rfl⟩
 rw [hR]
 have HR0:Hid (acc0++quot th (l.drop 0)=R):=Lib.hid hR
 have HBL0:=Lib.hid hbl0
 clear hR hbl0
 go_enter Tryz.func17,Tryz.ntmps17
 go_wp2
 go_loopw [6] (fun q wr=>SqRel B g th l acc0 w R q wr) (fun q _=>l.length - (intOf q).toNat)
 case atStart=>exact ⟨0,acc0,by omega,rfl,HBL0.out,Fr.refl _ _ _ _,by omega,HR0⟩
 case round =>
  obtain ⟨i,acc,hi,rfl,hbl,hfr,hacc,HF⟩:=hrel
  clear HR0 HBL0
  have hBr:B≤wr.heap.size:=Nat.le_trans hB0 hfr.size
  cases hd:l.drop i with
  | nil =>
   have h2:=drop_nil hd
   have HF':Hid (acc=R):=Lib.hid (by rw [← HF.out,hd];simp [quot])
   have HBL:=Lib.hid hbl
   have HFR:=Lib.hid hfr
   clear hd HF hbl hfr
   go_wp2
   go_end0
   exact ⟨rfl,HF'.out ▸ HBL.out,HFR.out⟩
  | cons c r =>
   obtain ⟨h2,h3,hr⟩:=drop_cons hd
   have HF':Hid (acc++((if th.contains c=true then [92,c] else [c])++quot th r)=R):=Lib.hid (by rw [← HF.out,hd];rfl)
   have Hr:=Lib.hid hr
   have hc256:=u8_lt c
   have HFR:=Lib.hid hfr
   clear hd HF hr hfr
   by_cases hc:th.contains c=true
   ·obtain ⟨k,hk⟩:=idx_hit hc
    have HK:=Lib.hid hk
    have HC:=Lib.hid hc
    clear hk hc
    go_wp2_with (first | (go_at_call 28;refine (IndexByte_eq _ HK.out).mono ?_;rintro e w1 ⟨rfl,rfl⟩) | (go_at_call 20;refine (WriteByte_any B _ (acc) (92) _ hbl (by first | omega | (simp;omega)) (by omega) (by omega) (by omega)).mono ?_))
    first | rintro e w2 rfl hbl2 hfr2 | rintro e w2 ⟨rfl,hbl2,hfr2⟩
    have hB2:B≤w2.heap.size:=Nat.le_trans hBr hfr2.size
    go_wp2_with (go_at_call 20;refine (WriteByte_any B _ (acc++[92]) ((c.toNat:Int)) _ hbl2 (by first | omega | (simp;omega)) (by omega) (by omega) (by omega)).mono ?_)
    first | rintro e w3 rfl hbl3 hfr3 | rintro e w3 ⟨rfl,hbl3,hfr3⟩
    go_wp2_with fail
    go_roundw
    case rel =>
     refine ⟨i+1,acc++[92,c],by omega,by go_num,?_,(HFR.out.trans hfr2).trans hfr3,by simp;omega,Lib.hid ?_⟩
     ·simpa using hbl3
     ·rw [Hr.out,← HF'.out,if_pos HC.out];simp
    case measure=>simp [intOf];omega
   ·have hk:=idx_miss hc
    have HK:=Lib.hid hk
    have HC:=Lib.hid hc
    clear hk hc
    go_wp2_with (first | (go_at_call 28;refine (IndexByte_eq _ HK.out).mono ?_;rintro e w1 ⟨rfl,rfl⟩) | (go_at_call 20;refine (WriteByte_any B _ (acc) ((c.toNat:Int)) _ hbl (by first | omega | (simp;omega)) (by omega) (by omega) (by omega)).mono ?_))
    first | rintro e w2 rfl hbl2 hfr2 | rintro e w2 ⟨rfl,hbl2,hfr2⟩
    go_wp2_with fail
    go_roundw
    case rel =>
     refine ⟨i+1,acc++[c],by omega,by go_num,?_,HFR.out.trans hfr2,by simp;omega,Lib.hid ?_⟩
     ·simpa using hbl2
     ·rw [Hr.out,← HF'.out,if_neg HC.out];simp
    case measure=>simp [intOf];omega
def Tf.tiny (f:Tf):Prop:=f.small∧f.fs.length≤1000∧(∀ g ∈ f.fs,g.thn.length≤10000∧g.els.length≤10000)∧f.rx.tell.length≤1000000∧(showF f.fs).length≤1000000
set_option maxHeartbeats 2000000 in
theorem XShow_yes (S:Nat→Prop) (f:Tf) (hti:f.tiny) (hm:tfMay f=true) (fc:List Value) (w:World) (hv:TfV w S fc f) (ht:Tab w) :
  Calls Tryz.prog 31 #[.agg fc.toArray] w fun e w'=>e=.returned (.tuple #[.string ⟨(formS f).toArray⟩,.int .i64 0])∧Below w.heap.size w w':=by
 obtain ⟨rk,rch,rng,rrs,rlo,rhi,rlz,rks,ra,rcp,rka,rkc,fa,fcp,hc⟩:=hv.open_
 obtain ⟨W0,hW0⟩:∃ W0,W0=w.alloc (.cells fc.toArray 35):=⟨_,rfl⟩
 have hb0:Below w.heap.size w W0:=by rw [hW0];exact (Below.refl _ _).alloc (Nat.le_refl _) _
 have HB1:Hid (W0.heap[w.heap.size]?=some (.cells fc.toArray 35 (0,0))):=Lib.hid (by rw [hW0];exact heap_alloc_new w _)
 have HFL:=Lib.hid hv.len
 have HMY:=Lib.hid (XMay_any S f hti.1 fc W0 (hv.keep (Kept.all hb0)))
 rw [hm] at HMY
 have HT0:=Lib.hid (ht.keep hb0)
 have HW0:=Lib.hid hW0
 obtain ⟨X,fs,fd,al⟩:=f
 obtain ⟨⟨hx,hp,hfs⟩,t2,t3,t4,t5⟩:=hti
 have hx1:X=.mk rk rch rng rrs rlo rhi rlz rks:=hc.rx
 have hfce:fc=[.int .i64 rk,.string ⟨(rch).toArray⟩,.bool rng,.slice ra rrs.length rcp,.int .i64 rlo,.int .i64 rhi,.bool rlz,.slice rka rks.length rkc,.slice fa fs.length fcp,.bool fd,.bool al]:=hc.eq
 have HXV:Hid (RxV W0 S [.int .i64 rk,.string ⟨(rch).toArray⟩,.bool rng,.slice ra rrs.length rcp,.int .i64 rlo,.int .i64 rhi,.bool rlz,.slice rka rks.length rkc] X):=Lib.hid (hx1 ▸ hc.rv.later hb0)
 have HFS:Hid (SlS W0 S fa 5 fs.length (fcells fs)):=Lib.hid (hc.fv.keep (Kept.all hb0))
 have hm2:(mayB X && mayFs fs)=true:=hm
 rw [Bool.and_eq_true] at hm2
 have HMX:=Lib.hid hm2.1
 have HMF:=Lib.hid hm2.2
 have HPP:=Lib.hid hp
 have HXS:=Lib.hid hx
 have hTL:X.tell.length≤1000000:=t4
 have hTF:(showF fs).length≤1000000:=t5
 have HTL:Hid (X.tell.length≤10000000):=Lib.hid (by omega)
 have HG:Hid (∀ g ∈ fs,g.thn.length≤10000∧g.els.length≤10000):=Lib.hid t3
 have HFN:Hid (fs.length≤1000):=Lib.hid t2
 have HFO:Hid (formS ⟨X,fs,fd,al⟩=47 :: (X.tell++47 :: (showF fs++47 :: ((if al=true then [103] else [])++(if fd=true then [105] else []))))):=Lib.hid rfl
 have HFCE:=Lib.hid hfce
 clear hv hc hx hx1 hW0 hp hfs hm hm2 t2 t3 t4 t5 ht hfce
 cases al with
 | true =>
  cases fd with
  | true =>
   go_enter Tryz.func31,Tryz.ntmps31
   go_upto_region 1 with fail
   rw [← HW0.out]
   clear HW0
   go_wp2_with (first
    | (refine wpList_ldW rfl 35 (.tmp 1) rfl w.heap.size 0 rfl fc _ (range_blk (ds:=[]) (by simpa using HB1.out)) form_under rfl (by rw [form_size,HFL.out]) ?_)
    | (go_at_call 44;refine HMY.out.mono ?_))
   first | rintro e w1 rfl hb1 | rintro e w1 ⟨rfl,hb1⟩
   have HX1:=Lib.hid ((hb1.block _ (heap_lt HB1.out)).trans HB1.out)
   have HRX:=Lib.hid (Show_yes S X _ w1 HPP.out HXS.out (HXV.out.later hb1) (HT0.out.keep hb1) HMX.out HTL.out)
   go_wp2_with (first
    | (refine wpList_ldW rfl 32 (.tmp 13) rfl w.heap.size 0 rfl [.int .i64 rk,.string ⟨(rch).toArray⟩,.bool rng,.slice ra rrs.length rcp,.int .i64 rlo,.int .i64 rhi,.bool rlz,.slice rka rks.length rkc] _ (range_blk (ds:=[.slice fa fs.length fcp,.bool true,.bool true]) (HFCE.out ▸ HX1.out)) rx_under rfl (by rw [rx_size];rfl) ?_)
    | (go_at_call 45;refine HRX.out.mono ?_))
   first | rintro e w2 rfl hb2 | rintro e w2 ⟨rfl,hb2⟩
   have HX2:=Lib.hid ((hb2.block _ (heap_lt HX1.out)).trans HX1.out)
   have z8:=blk_cell (HFCE.out ▸ HX2.out) 8 rfl
   have hbw2:=bel2 (bel2 hb0 hb1) hb2
   have HFS2:=Lib.hid (Show_any fa fcp 10000 fs w2 (HFS.out.keep (Kept.all ((hb1.trans (hb2.mono hb1.size))))).sl ((HT0.out.keep hb1).keep hb2) HG.out (by omega) HFN.out HMF.out)
   go_wp2_with (go_at_call 46;refine HFS2.out.mono ?_)
   first | rintro e w3 rfl hb3 | rintro e w3 ⟨rfl,hb3⟩
   have HX3:=Lib.hid ((hb3.block _ (heap_lt HX2.out)).trans HX2.out)
   have z10:=blk_cell (HFCE.out ▸ HX3.out) 10 rfl
   have z9:=blk_cell (HFCE.out ▸ HX3.out) 9 rfl
   have hbw3:=bel2 hbw2 hb3
   clear z8
   go_wp2
   go_ret2
   exact ⟨by rw [HFO.out];simp,hbw3⟩
  | false =>
   go_enter Tryz.func31,Tryz.ntmps31
   go_upto_region 1 with fail
   rw [← HW0.out]
   clear HW0
   go_wp2_with (first
    | (refine wpList_ldW rfl 35 (.tmp 1) rfl w.heap.size 0 rfl fc _ (range_blk (ds:=[]) (by simpa using HB1.out)) form_under rfl (by rw [form_size,HFL.out]) ?_)
    | (go_at_call 44;refine HMY.out.mono ?_))
   first | rintro e w1 rfl hb1 | rintro e w1 ⟨rfl,hb1⟩
   have HX1:=Lib.hid ((hb1.block _ (heap_lt HB1.out)).trans HB1.out)
   have HRX:=Lib.hid (Show_yes S X _ w1 HPP.out HXS.out (HXV.out.later hb1) (HT0.out.keep hb1) HMX.out HTL.out)
   go_wp2_with (first
    | (refine wpList_ldW rfl 32 (.tmp 13) rfl w.heap.size 0 rfl [.int .i64 rk,.string ⟨(rch).toArray⟩,.bool rng,.slice ra rrs.length rcp,.int .i64 rlo,.int .i64 rhi,.bool rlz,.slice rka rks.length rkc] _ (range_blk (ds:=[.slice fa fs.length fcp,.bool false,.bool true]) (HFCE.out ▸ HX1.out)) rx_under rfl (by rw [rx_size];rfl) ?_)
    | (go_at_call 45;refine HRX.out.mono ?_))
   first | rintro e w2 rfl hb2 | rintro e w2 ⟨rfl,hb2⟩
   have HX2:=Lib.hid ((hb2.block _ (heap_lt HX1.out)).trans HX1.out)
   have z8:=blk_cell (HFCE.out ▸ HX2.out) 8 rfl
   have hbw2:=bel2 (bel2 hb0 hb1) hb2
   have HFS2:=Lib.hid (Show_any fa fcp 10000 fs w2 (HFS.out.keep (Kept.all ((hb1.trans (hb2.mono hb1.size))))).sl ((HT0.out.keep hb1).keep hb2) HG.out (by omega) HFN.out HMF.out)
   go_wp2_with (go_at_call 46;refine HFS2.out.mono ?_)
   first | rintro e w3 rfl hb3 | rintro e w3 ⟨rfl,hb3⟩
   have HX3:=Lib.hid ((hb3.block _ (heap_lt HX2.out)).trans HX2.out)
   have z10:=blk_cell (HFCE.out ▸ HX3.out) 10 rfl
   have z9:=blk_cell (HFCE.out ▸ HX3.out) 9 rfl
   have hbw3:=bel2 hbw2 hb3
   clear z8
   go_wp2
   go_ret2
   exact ⟨by rw [HFO.out];simp,hbw3⟩
 | false =>
  cases fd with
  | true =>
   go_enter Tryz.func31,Tryz.ntmps31
   go_upto_region 1 with fail
   rw [← HW0.out]
   clear HW0
   go_wp2_with (first
    | (refine wpList_ldW rfl 35 (.tmp 1) rfl w.heap.size 0 rfl fc _ (range_blk (ds:=[]) (by simpa using HB1.out)) form_under rfl (by rw [form_size,HFL.out]) ?_)
    | (go_at_call 44;refine HMY.out.mono ?_))
   first | rintro e w1 rfl hb1 | rintro e w1 ⟨rfl,hb1⟩
   have HX1:=Lib.hid ((hb1.block _ (heap_lt HB1.out)).trans HB1.out)
   have HRX:=Lib.hid (Show_yes S X _ w1 HPP.out HXS.out (HXV.out.later hb1) (HT0.out.keep hb1) HMX.out HTL.out)
   go_wp2_with (first
    | (refine wpList_ldW rfl 32 (.tmp 13) rfl w.heap.size 0 rfl [.int .i64 rk,.string ⟨(rch).toArray⟩,.bool rng,.slice ra rrs.length rcp,.int .i64 rlo,.int .i64 rhi,.bool rlz,.slice rka rks.length rkc] _ (range_blk (ds:=[.slice fa fs.length fcp,.bool true,.bool false]) (HFCE.out ▸ HX1.out)) rx_under rfl (by rw [rx_size];rfl) ?_)
    | (go_at_call 45;refine HRX.out.mono ?_))
   first | rintro e w2 rfl hb2 | rintro e w2 ⟨rfl,hb2⟩
   have HX2:=Lib.hid ((hb2.block _ (heap_lt HX1.out)).trans HX1.out)
   have z8:=blk_cell (HFCE.out ▸ HX2.out) 8 rfl
   have hbw2:=bel2 (bel2 hb0 hb1) hb2
   have HFS2:=Lib.hid (Show_any fa fcp 10000 fs w2 (HFS.out.keep (Kept.all ((hb1.trans (hb2.mono hb1.size))))).sl ((HT0.out.keep hb1).keep hb2) HG.out (by omega) HFN.out HMF.out)
   go_wp2_with (go_at_call 46;refine HFS2.out.mono ?_)
   first | rintro e w3 rfl hb3 | rintro e w3 ⟨rfl,hb3⟩
   have HX3:=Lib.hid ((hb3.block _ (heap_lt HX2.out)).trans HX2.out)
   have z10:=blk_cell (HFCE.out ▸ HX3.out) 10 rfl
   have z9:=blk_cell (HFCE.out ▸ HX3.out) 9 rfl
   have hbw3:=bel2 hbw2 hb3
   clear z8
   go_wp2
   go_ret2
   exact ⟨by rw [HFO.out];simp,hbw3⟩
  | false =>
   go_enter Tryz.func31,Tryz.ntmps31
   go_upto_region 1 with fail
   rw [← HW0.out]
   clear HW0
   go_wp2_with (first
    | (refine wpList_ldW rfl 35 (.tmp 1) rfl w.heap.size 0 rfl fc _ (range_blk (ds:=[]) (by simpa using HB1.out)) form_under rfl (by rw [form_size,HFL.out]) ?_)
    | (go_at_call 44;refine HMY.out.mono ?_))
   first | rintro e w1 rfl hb1 | rintro e w1 ⟨rfl,hb1⟩
   have HX1:=Lib.hid ((hb1.block _ (heap_lt HB1.out)).trans HB1.out)
   have HRX:=Lib.hid (Show_yes S X _ w1 HPP.out HXS.out (HXV.out.later hb1) (HT0.out.keep hb1) HMX.out HTL.out)
   go_wp2_with (first
    | (refine wpList_ldW rfl 32 (.tmp 13) rfl w.heap.size 0 rfl [.int .i64 rk,.string ⟨(rch).toArray⟩,.bool rng,.slice ra rrs.length rcp,.int .i64 rlo,.int .i64 rhi,.bool rlz,.slice rka rks.length rkc] _ (range_blk (ds:=[.slice fa fs.length fcp,.bool false,.bool false]) (HFCE.out ▸ HX1.out)) rx_under rfl (by rw [rx_size];rfl) ?_)
    | (go_at_call 45;refine HRX.out.mono ?_))
   first | rintro e w2 rfl hb2 | rintro e w2 ⟨rfl,hb2⟩
   have HX2:=Lib.hid ((hb2.block _ (heap_lt HX1.out)).trans HX1.out)
   have z8:=blk_cell (HFCE.out ▸ HX2.out) 8 rfl
   have hbw2:=bel2 (bel2 hb0 hb1) hb2
   have HFS2:=Lib.hid (Show_any fa fcp 10000 fs w2 (HFS.out.keep (Kept.all ((hb1.trans (hb2.mono hb1.size))))).sl ((HT0.out.keep hb1).keep hb2) HG.out (by omega) HFN.out HMF.out)
   go_wp2_with (go_at_call 46;refine HFS2.out.mono ?_)
   first | rintro e w3 rfl hb3 | rintro e w3 ⟨rfl,hb3⟩
   have HX3:=Lib.hid ((hb3.block _ (heap_lt HX2.out)).trans HX2.out)
   have z10:=blk_cell (HFCE.out ▸ HX3.out) 10 rfl
   have z9:=blk_cell (HFCE.out ▸ HX3.out) 9 rfl
   have hbw3:=bel2 hbw2 hb3
   clear z8
   go_wp2
   go_ret2
   exact ⟨by rw [HFO.out];simp,hbw3⟩
end Go.Proofs.YtbmakifbppocaaaGreatDoor
set_option maxRecDepth 100000
namespace Go.Proofs.YtbmakifbppocaaaGreatDoor
open Go.RowKit
theorem Lead_any (c:UInt8) {b:Bool} (w:World) (h:insideB c=b):Calls Tryz.prog 96 #[.int .u8 c.toNat] w fun e w'=>e=.returned (.bool (!b))∧w=w':=by
 subst h
 have h256:=u8_lt c
 go_enter Tryz.func96,Tryz.ntmps96
 go_wp2
 all_goals
  go_ret
  refine ⟨ret_bool ?_,rfl⟩
  rw [Bool.eq_iff_iff];simp [insideB] <;> omega
/-- A text's characters, told with the one at hand. -/
def splitR:Str→Str→List Str
 | cur,[]=>[cur]
 | cur,c :: r=>if insideB c=true then splitR (cur++[c]) r else cur :: splitR [c] r
def splitL:Str→List Str
 | []=>[]
 | c :: r=>splitR [c] r
theorem splitR_len:∀ (r cur:Str),1≤(splitR cur r).length
 | [],cur=>by simp [splitR]
 | c :: r,cur=>by simp only [splitR];split <;> simp [splitR_len]
theorem splitR_one:∀ (r cur:Str),((splitR cur r).length=1) ↔ r.all insideB=true
 | [],cur=>by simp [splitR]
 | c :: r,cur=>by
  have:=splitR_len r [c]
  have ih:=splitR_one r (cur++[c])
  simp only [splitR]
  cases h:insideB c with
  | true=>rw [if_pos rfl];simp [h,ih]
  | false=>rw [if_neg (by simp)];simp [h];intro e;rw [e] at this;simp at this
theorem splitR_cnt:∀ (r cur:Str),(splitR cur r).length≤r.length+1
 | [],cur=>by simp [splitR]
 | c :: r,cur=>by
  have h1:=splitR_cnt r (cur++[c])
  have h2:=splitR_cnt r [c]
  simp only [splitR];split <;> simp <;> omega
theorem proper_split (c:UInt8) (r:Str):properB (c :: r)=(!insideB c && decide ((splitL (c :: r)).length=1)):=by
 rw [Bool.eq_iff_iff];simp only [properB,Bool.and_eq_true,decide_eq_true_eq,splitL,splitR_one]
theorem splitL_cnt (l:Str):(splitL l).length≤l.length:=by
 cases l with
 | nil=>simp [splitL]
 | cons c r=>have:=splitR_cnt r [c];simp only [splitL,List.length_cons];omega
theorem str_info:(Tryz.prog.info? 9).map (fun i=>(i.zero,i.size,i.bytes))=some (some (.string ⟨#[]⟩),1,16):=by kernel_rfl
def SpRelR (l:Str) (T:List Str) (w:World) (o f q:Value) (wr:World):Prop :=
 ∃ (i fr:Nat) (out:List Str),q=.int .i64 i∧f=.int .i64 fr∧wr.ownsRow w.heap.size 9 1 o out.length (scells out)∧Below w.heap.size w wr∧1≤i ∧
  ((i≤l.length∧fr < i∧Hid (out++splitR ((l.drop fr).take (i - fr)) (l.drop i)=T))∨(i=l.length+1∧Hid (out=T)))
def SplitPost (l:Str) (w:World) (e:Ending) (w':World):Prop :=
 ∃ (a:Option Addr) (c:Nat),e=.returned (.slice a (splitL l).length c)∧w'.ownsRow w.heap.size 9 1 (.slice a (splitL l).length c) (splitL l).length (scells (splitL l))∧Below w.heap.size w w'
set_option maxHeartbeats 1000000 in
theorem RSplit_any (l:Str) (w:World) (hl:l.length≤1000000) :
  Calls Tryz.prog 97 #[.string ⟨(l).toArray⟩] w fun e w'=>SplitPost l w e w':=by
 obtain ⟨T,hT⟩:∃ T,splitL l=T:=⟨_,rfl⟩
 unfold SplitPost
 rw [hT]
 have hTN:T.length≤l.length:=by rw [← hT];exact splitL_cnt l
 have HT:=Lib.hid hT
 clear hT
 have HI0:Hid ((1≤l.length∧0 < 1∧Hid (([]:List Str)++splitR ((l.drop 0).take (1 - 0)) (l.drop 1)=T))∨(1=l.length+1∧Hid (([]:List Str)=T))):=Lib.hid (by
  cases l with
  | nil=>exact .inr ⟨rfl,Lib.hid (by rw [← HT.out];rfl)⟩
  | cons c r=>exact .inl ⟨by simp,by omega,Lib.hid (by rw [← HT.out];simp [splitL])⟩)
 obtain ⟨iu,hiu⟩:=info_parts str_info
 go_enter Tryz.func97,Tryz.ntmps97
 go_wp2
 go_loopw [3,4,5] (fun o f q wr=>SpRelR l T w o f q wr) (fun _ _ q _=>l.length+1 - (intOf q).toNat)
 case atStart=>exact ⟨1,0,[],rfl,rfl,World.ownsRow_nil _ _ _ _,Below.refl _ _,by omega,HI0.out⟩
 case round =>
  obtain ⟨i,fr,out,rfl,rfl,hown,hb,hi1,HF⟩:=hrel
  clear HI0 HT
  have hB:=hb.size
  rcases HF with ⟨hi,hfi,HF⟩ | ⟨hi,HF⟩
  ·have hol:out.length≤l.length:=by have h:=congrArg List.length HF.out;simp only [List.length_append] at h;omega
   by_cases hil:i=l.length
   ·subst hil
    have HE:Hid (out++[(l.drop fr).take (l.length - fr)]=T):=Lib.hid (by rw [← HF.out,List.drop_length];rfl)
    clear HF
    go_wp2_with (at_builtin;refine wpList_app1 w.heap.size 9 rfl _ _ 36 rfl Tryz.underlying36 hiu rfl (by decide) rfl hown rfl (by first | rfl | simp) rfl (by simp [Value.oneCell']) (by omega) (by decide) hB ?_)
    intro v1 w1 ho1 hg1 hb1 hne1
    go_wp2
    go_roundw
    case rel=>exact ⟨l.length+1,l.length,_,by go_num,rfl,by rw [← HE.out];simpa [scells] using ho1,hb.trans (hb1.mono (Nat.le_refl _)),by omega,.inr ⟨rfl,Lib.hid rfl⟩⟩
    case measure=>simp [intOf] <;> omega
   ·have hlt:i < l.length:=by omega
    have hne:((i:Int) == l.length)=false:=by rw [beq_eq_false_iff_ne];omega
    cases hd:l.drop i with
    | nil=>have:=drop_nil hd;omega
    | cons c r =>
     obtain ⟨_,h3,hr⟩:=drop_cons hd
     have HF2:Hid (out++splitR ((l.drop fr).take (i - fr)) (c :: r)=T):=Lib.hid (by rw [← HF.out,hd])
     have Hr:=Lib.hid hr
     have HD:=Lib.hid hd
     clear hd HF hr hil
     cases hc:insideB c with
     | true =>
      go_wp2_with (go_at_call 96;refine (Lead_any c _ hc).mono ?_;rintro e w1 ⟨rfl,rfl⟩)
      go_roundw
      case rel =>
       refine ⟨i+1,fr,out,by go_num,rfl,hown,hb,by omega,.inl ⟨by omega,by omega,Lib.hid ?_⟩⟩
       rw [Hr.out,← HF2.out];simp only [splitR];rw [if_pos hc]
       congr 2
       rw [show i+1 - fr=i - fr+1 by omega,List.take_add_one]
       congr 1
       rw [List.getElem?_drop,show fr+(i - fr)=i by omega,List.getElem?_eq_getElem hlt,h3];rfl
      case measure=>simp [intOf] <;> omega
     | false =>
      go_wp2_with (first | (go_at_call 96;refine (Lead_any c _ hc).mono ?_;rintro e w1 ⟨rfl,rfl⟩) | (at_builtin;refine wpList_app1 w.heap.size 9 rfl _ _ 36 rfl Tryz.underlying36 hiu rfl (by decide) rfl hown rfl (by first | rfl | simp) rfl (by simp [Value.oneCell']) (by omega) (by decide) hB ?_))
      intro v1 w1 ho1 hg1 hb1 hne1
      go_wp2
      go_roundw
      case rel =>
       refine ⟨i+1,i,out++[(l.drop fr).take (i - fr)],by go_num,rfl,by simpa [scells] using ho1,hb.trans (hb1.mono (Nat.le_refl _)),by omega,.inl ⟨by omega,by omega,Lib.hid ?_⟩⟩
       rw [Hr.out,← HF2.out];simp only [splitR];rw [if_neg (by rw [hc];simp),HD.out,show i+1 - i=1 by omega];simp
      case measure=>simp [intOf] <;> omega
  ·obtain ⟨oa,oc,rfl⟩:=own_form hown
   have h2:l.length < i:=by omega
   have HE:=HF
   have HOW:=Lib.hid hown
   clear HF hi hown
   go_wp2
   go_ret
   refine ⟨oa,oc,?_,?_,hb⟩
   ·rw [← HE.out];rfl
   ·rw [← HE.out];exact HOW.out
theorem RProper_any (l:Str) (w:World) (hl:l.length≤1000000) :
  Calls Tryz.prog 86 #[.string ⟨(l).toArray⟩] w fun e w'=>e=.returned (.bool (properB l))∧Below w.heap.size w w':=by
 cases l with
 | nil =>
  go_enter Tryz.func86,Tryz.ntmps86
  go_wp2
  go_ret
  exact ⟨rfl,Below.refl _ _⟩
 | cons c r =>
  obtain ⟨n,hn⟩:∃ n,(splitL (c :: r)).length=n:=⟨_,rfl⟩
  have hP:=proper_split c r
  rw [hn] at hP
  rw [hP]
  have HN:=Lib.hid hn
  have HL:=Lib.hid hl
  have hnl:n≤1000001:=by have:=splitL_cnt (c :: r);simp only [List.length_cons] at this hl;omega
  clear hP hn hl
  cases hc:insideB c with
  | true =>
   go_enter Tryz.func86,Tryz.ntmps86
   go_wp2_with (go_at_call 96;refine (Lead_any c _ hc).mono ?_;rintro e w1 ⟨rfl,rfl⟩)
   go_ret
   exact ⟨rfl,Below.refl _ _⟩
  | false =>
   go_enter Tryz.func86,Tryz.ntmps86
   go_wp2_with (first | (go_at_call 96;refine (Lead_any c _ hc).mono ?_;rintro e w1 ⟨rfl,rfl⟩) | (go_at_call 97;refine (RSplit_any (c :: r) _ HL.out).mono ?_;rintro e w1 ⟨a,cp,rfl,_,hb1⟩;rw [HN.out]))
   go_ret
   refine ⟨ret_bool ?_,hb1⟩
   rw [Bool.eq_iff_iff];simp;try omega
end Go.Proofs.YtbmakifbppocaaaGreatDoor
set_option maxRecDepth 100000
namespace Go.Proofs.YtbmakifbppocaaaGreatDoor
open Go.RowKit
theorem RProper_eq {l:Str} {b:Bool} (w:World) (h:properB l=b) (hl:l.length≤1000000) :
  Calls Tryz.prog 86 #[.string ⟨(l).toArray⟩] w fun e w'=>e=.returned (.bool b)∧Below w.heap.size w w':=by
 subst h;exact RProper_any l w hl
set_option maxHeartbeats 2000000 in
theorem RRowsMay_any (a:Option Addr) (n c:Nat) (rs:List (Str × Str)) (w:World) (h:Sl w w.heap.size a 2 n (rcells rs)) (hn:n≤1000000) (hsz:∀ r ∈ rs,r.1.length≤1000000∧r.2.length≤1000000) :
  Calls Tryz.prog 87 #[.slice a n c] w fun e w'=>e=.returned (.bool (rowsB rs))∧Below w.heap.size w w':=by
 obtain rfl:=h.row_len
 generalize hR:rowsB rs=R
 have HR:=Lib.hid hR
 clear hR
 have HR0:Hid (rowsL none (rs.drop 0)=R):=HR
 have HSl:=Lib.hid h
 have HSz:=Lib.hid hsz
 clear HR h hsz
 go_enter Tryz.func87,Tryz.ntmps87
 go_wp2
 go_loopw [3] (fun q wr=>MayRel rs R w q wr) (fun q _=>rs.length - (intOf q).toNat)
 case atStart=>exact ⟨0,none,by omega,rfl,Below.refl _ _,Lib.hid (.inl ⟨rfl,rfl⟩),HR0⟩
 case round =>
  obtain ⟨k,p,hk,rfl,hb,HP,HF⟩:=hrel
  clear HR0
  have hB:=hb.size
  cases hd:rs.drop k with
  | nil =>
   have h2:rs.length≤k:=by simpa using hd
   have HE:Hid (R=true):=Lib.hid (by rw [← HF.out,hd];rfl)
   clear hd HF
   go_wp2
   go_ret
   exact ⟨ret_bool HE.out.symm,hb⟩
  | cons r0 r =>
   obtain ⟨h2,h3,hr⟩:=ldrop_cons hd
   have HF':Hid (rowsL p (r0 :: r)=R):=Lib.hid (by rw [← HF.out,hd])
   have Hr:=Lib.hid hr
   obtain ⟨b,o,rfl,hbB,c0,c1⟩:=(HSl.out.keep hb).row h3
   obtain ⟨z1,z2⟩:=HSz.out r0 (List.mem_of_getElem? h3)
   have HE3:=Lib.hid h3
   obtain ⟨f,t⟩:=r0
   replace z1:f.length≤1000000:=z1
   replace z2:t.length≤1000000:=z2
   clear hd HF hr h3
   have e0:∀ x:ExtOf (wr.alloc (.cells #[.string ⟨(f).toArray⟩,.string ⟨(t).toArray⟩] 63)),x.val.cell? ⟨wr.heap.size,0,none⟩=some (.string ⟨(f).toArray⟩):=ExtOf.cell (by simp)
   have e1:∀ x:ExtOf (wr.alloc (.cells #[.string ⟨(f).toArray⟩,.string ⟨(t).toArray⟩] 63)),x.val.cell? ⟨wr.heap.size,1,none⟩=some (.string ⟨(t).toArray⟩):=ExtOf.cell (by simp)
   obtain ⟨pf,hpf⟩:∃ b,properB f=b:=⟨_,rfl⟩
   obtain ⟨pt,hpt⟩:∃ b,properB t=b:=⟨_,rfl⟩
   have HP1:=Lib.hid hpf
   have HP2:=Lib.hid hpt
   clear hpf hpt
   cases pf with
   | false =>
    have HE:Hid (R=false):=Lib.hid (by rw [← HF'.out];simp only [rowsL];rw [show rowB (f,t)=false from by simp [rowB,HP1.out]];rfl)
    go_wp2
    refine wp_region_ext (by kernel_rfl) (by kernel_rfl) ?_
    repeat (go_big_quiet_step (((go_at_call 86;first | exact ext_call (RProper_eq _ HP1.out (by omega)) | exact ext_call (RProper_eq _ HP2.out (by omega))))))
    refine wpQuiet_nil ?_
    rintro _ ⟨xq,rfl⟩
    go_wp2
    go_ret
    exact ⟨ret_bool HE.out.symm,(hb.alloc hB _).trans (xq.ext.mono (by simp;omega))⟩
   | true =>
    cases pt with
    | false =>
     have HE:Hid (R=false):=Lib.hid (by rw [← HF'.out];simp only [rowsL];rw [show rowB (f,t)=false from by simp [rowB,HP2.out]];rfl)
     go_wp2
     refine wp_region_ext (by kernel_rfl) (by kernel_rfl) ?_
     repeat (go_big_quiet_step (((go_at_call 86;first | exact ext_call (RProper_eq _ HP1.out (by omega)) | exact ext_call (RProper_eq _ HP2.out (by omega))))))
     refine wpQuiet_nil ?_
     rintro _ ⟨xq,rfl⟩
     go_wp2
     go_ret
     exact ⟨ret_bool HE.out.symm,(hb.alloc hB _).trans (xq.ext.mono (by simp;omega))⟩
    | true =>
     cases hle:leS f t with
     | false =>
      have HE:Hid (R=false):=Lib.hid (by rw [← HF'.out];simp only [rowsL];rw [show rowB (f,t)=false from by simp [rowB,hle]];rfl)
      go_wp2
      refine wp_region_ext (by kernel_rfl) (by kernel_rfl) ?_
      repeat (go_big_quiet_step (((go_at_call 86;first | exact ext_call (RProper_eq _ HP1.out (by omega)) | exact ext_call (RProper_eq _ HP2.out (by omega))))))
      refine wpQuiet_nil ?_
      rintro _ ⟨xq,rfl⟩
      go_wp2
      go_ret
      exact ⟨ret_bool HE.out.symm,(hb.alloc hB _).trans (xq.ext.mono (by simp;omega))⟩
     | true =>
      have HB:Hid (rowB (f,t)=true):=Lib.hid (by simp [rowB,HP1.out,HP2.out,hle])
      rcases HP.out with ⟨hk0,hp0⟩ | ⟨j,r',hkj,hj,hpj⟩
      ·have hk0':decide (0 < k)=false:=by rw [decide_eq_false_iff_not];omega
       have HL:Hid (p=none):=Lib.hid hp0
       clear hk0 hp0
       go_wp2
       refine wp_region_ext (by kernel_rfl) (by kernel_rfl) ?_
       repeat (go_big_quiet_step (((go_at_call 86;first | exact ext_call (RProper_eq _ HP1.out (by omega)) | exact ext_call (RProper_eq _ HP2.out (by omega))))))
       refine wpQuiet_nil ?_
       rintro _ ⟨xq,rfl⟩
       go_wp2
       go_roundw
       case rel=>exact ⟨k+1,some t,by omega,by go_num,(hb.alloc hB _).trans (xq.ext.mono (by simp;omega)),Lib.hid (.inr ⟨k,(f,t),rfl,HE3.out,rfl⟩),Lib.hid (by rw [Hr.out,← HF'.out];simp only [rowsL];rw [HB.out];simp [HL.out])⟩
       case measure=>simp [intOf];omega
      ·obtain ⟨b',o',hab,_,d0,d1⟩:=(HSl.out.keep hb).row hj
       obtain ⟨rfl,rfl⟩:b=b'∧o=o':=by simpa using hab
       obtain ⟨f',t'⟩:=r'
       have HPJ:=Lib.hid hpj
       subst hkj
       clear hj hpj hab
       have d2:∀ x:ExtOf (wr.alloc (.cells #[.string ⟨(f).toArray⟩,.string ⟨(t).toArray⟩] 63)),x.val.cell? ⟨b,o+j * 2+1,none⟩=some (.string ⟨(t').toArray⟩):=ExtOf.cell (by rw [World.cell?_alloc_lt _ _ _ (by simp;omega)];exact d1)
       go_wp2
       refine wp_region_ext (by kernel_rfl) (by kernel_rfl) ?_
       repeat (go_big_quiet_step (((go_at_call 86;first | exact ext_call (RProper_eq _ HP1.out (by omega)) | exact ext_call (RProper_eq _ HP2.out (by omega))))))
       refine wpQuiet_nil ?_
       rintro _ ⟨xq,rfl⟩
       cases hL1:leS f t' with
       | true =>
        have HE:Hid (R=false):=Lib.hid (by rw [← HF'.out,HPJ.out];simp only [rowsL];rw [HB.out,hL1];rfl)
        go_wp2
        go_ret
        exact ⟨ret_bool HE.out.symm,(hb.alloc hB _).trans (xq.ext.mono (by simp;omega))⟩
       | false =>
        have HL:=Lib.hid hL1
        go_wp2
        go_roundw
        case rel=>exact ⟨j+1+1,some t,by omega,by go_num,(hb.alloc hB _).trans (xq.ext.mono (by simp;omega)),Lib.hid (.inr ⟨j+1,(f,t),rfl,HE3.out,rfl⟩),Lib.hid (by rw [Hr.out,← HF'.out,HPJ.out];simp only [rowsL];rw [HB.out,HL.out];rfl)⟩
        case measure=>simp [intOf];omega
end Go.Proofs.YtbmakifbppocaaaGreatDoor
set_option maxRecDepth 100000
namespace Go.Proofs.YtbmakifbppocaaaGreatDoor
open Go.RowKit
set_option maxHeartbeats 1000000 in
theorem RBare_any (k:Int) (c:Str) (ng:Bool) (ra:Option Addr) (rn rc:Nat) (lo hi:Int) (lz:Bool) (ka:Option Addr) (kn kc:Nat) (w:World) :
  Calls Tryz.prog 85 #[.agg #[.int .i64 k,.string ⟨(c).toArray⟩,.bool ng,.slice ra rn rc,.int .i64 lo,.int .i64 hi,.bool lz,.slice ka kn kc]] w fun e w'=>e=.returned (.bool (bareV c ng rn lo hi lz))∧Below w.heap.size w w':=by
 generalize hR:bareV c ng rn lo hi lz=R
 have HR:=Lib.hid hR
 clear hR
 have hbw:∀ o:Obj,Below w.heap.size w (w.alloc o):=fun o=>(Below.refl _ _).alloc (Nat.le_refl _) _
 have HBW:=Lib.hid hbw
 clear hbw
 cases c <;> cases ng <;> cases lz
 all_goals
  go_enter Tryz.func85,Tryz.ntmps85
  go_wp2
  all_goals
   go_ret
   refine ⟨ret_bool ?_,HBW.out _⟩
   rw [← HR.out,Bool.eq_iff_iff];simp [bareV, *]
theorem RBare_eq {k:Int} {c:Str} {ng:Bool} {ra:Option Addr} {rn rc:Nat} {lo hi:Int} {lz:Bool} {ka:Option Addr} {kn kc:Nat} {b:Bool} (w:World) (h:bareV c ng rn lo hi lz=b) :
  Calls Tryz.prog 85 #[.agg #[.int .i64 k,.string ⟨(c).toArray⟩,.bool ng,.slice ra rn rc,.int .i64 lo,.int .i64 hi,.bool lz,.slice ka kn kc]] w fun e w'=>e=.returned (.bool b)∧Below w.heap.size w w'∧∀ a u,w.cell? a=some u→w'.cell? a=some u:=by
 subst h
 exact (RBare_any k c ng ra rn rc lo hi lz ka kn kc w).mono fun _ _ ⟨h1,h2⟩=>⟨h1,h2,cell_kept h2⟩
def repOk (c:Str) (ng:Bool) (rn:Nat) (lo hi:Int) (ks:List Rx):Bool:=bareV c ng rn 0 0 false && oneB ks && decide (0≤lo∧lo≤255∧(hi=-1∨lo≤hi∧hi≤255))
set_option maxHeartbeats 4000000 in
theorem RRepeat_any (S:Nat→Prop) (K:Int) (c:Str) (ng:Bool) (ra:Option Addr) (rn rc:Nat) (lo hi:Int) (lz:Bool) (ka:Option Addr) (ks:List Rx) (kc:Nat) (w:World)
  (hx:RxSl w S ka ks.length ks) (hkl:ks.length≤1000000) :
  Calls Tryz.prog 88 #[.agg #[.int .i64 K,.string ⟨(c).toArray⟩,.bool ng,.slice ra rn rc,.int .i64 lo,.int .i64 hi,.bool lz,.slice ka ks.length kc]] w fun e w'=>e=.returned (.bool (repOk c ng rn lo hi ks))∧Below w.heap.size w w':=by
 generalize hR:repOk c ng rn lo hi ks=R
 have HR:=Lib.hid hR
 clear hR
 have hq:∀ {o:Obj},Below w.heap.size w (w.alloc o):=(Below.refl _ _).alloc (Nat.le_refl _) _
 have HQ:=@Lib.hid _ @hq
 clear hq
 rcases ks with _ | ⟨x,_ | ⟨y,ks⟩⟩
 ·have HS:Hid (R=false):=Lib.hid (by rw [← HR.out];simp [repOk,oneB])
  go_enter Tryz.func88,Tryz.ntmps88
  go_wp2
  go_ret
  exact ⟨ret_bool HS.out.symm,HQ.out⟩
 ·by_cases hb:0≤lo∧lo≤255∧(hi=-1∨lo≤hi∧hi≤255)
  ·obtain ⟨xk,xc,xn,xr,xl,xh,xz,xs⟩:=x
   obtain ⟨b,o,_,_,_,_,rfl,_,hbB,_,_,_,q0,_⟩:=hx.cells (m:=0) rfl
   simp only [Nat.zero_mul,Nat.add_zero] at q0
   obtain ⟨bv,hbv⟩:∃ bv,bareV c ng rn 0 0 false=bv:=⟨_,rfl⟩
   have HB:=Lib.hid hbv
   have HS:Hid (R=(bv && repB xk)):=Lib.hid (by rw [← HR.out];unfold repOk;rw [hbv,decide_eq_true hb,Bool.and_true];rfl)
   clear hbv hx
   obtain ⟨g1,g2,g3⟩:=hb
   rcases g3 with rfl | ⟨g3,g4⟩
   all_goals
    cases bv
    all_goals
     go_enter Tryz.func88,Tryz.ntmps88
     go_wp2_with (go_at_call 85;refine (RBare_eq _ HB.out).mono ?_;rintro e w1 ⟨rfl,hb1,_⟩)
     all_goals first
      | (exfalso;omega)
      | (go_ret;refine ⟨ret_bool ?_,HQ.out.trans (hb1.mono (by simp))⟩;rw [HS.out];first | rfl | (clear HS HR;rw [Bool.eq_iff_iff];simp_all [repB]))
  ·have HS:Hid (R=false):=Lib.hid (by rw [← HR.out];unfold repOk;rw [decide_eq_false hb,Bool.and_false])
   have hb':lo < 0∨(0≤lo∧255 < lo)∨(0≤lo∧lo≤255∧hi≠-1∧hi < lo)∨(0≤lo∧lo≤255∧hi≠-1∧lo≤hi∧255 < hi):=by omega
   clear hb hx
   rcases hb' with g | ⟨g1,g2⟩ | ⟨g1,g2,g3,g4⟩ | ⟨g1,g2,g3,g4,g5⟩
   ·go_enter Tryz.func88,Tryz.ntmps88
    go_wp2
    go_ret
    exact ⟨ret_bool HS.out.symm,HQ.out⟩
   ·go_enter Tryz.func88,Tryz.ntmps88
    go_wp2
    go_ret
    exact ⟨ret_bool HS.out.symm,HQ.out⟩
   ·have e3:(hi == -1)=false:=by rw [beq_eq_false_iff_ne];exact g3
    have e4:(hi != -1)=true:=by rw [bne_iff_ne];exact g3
    have G3:=Lib.hid g3
    clear g3
    go_enter Tryz.func88,Tryz.ntmps88
    go_wp2_with fail
    all_goals first
     | (go_ret;exact ⟨ret_bool HS.out.symm,HQ.out⟩)
     | (exfalso;have:=G3.out;omega)
     | (exfalso;have:=G3.out;simp_all;omega)
   ·have e3:(hi == -1)=false:=by rw [beq_eq_false_iff_ne];exact g3
    have e4:(hi != -1)=true:=by rw [bne_iff_ne];exact g3
    have G3:=Lib.hid g3
    clear g3
    go_enter Tryz.func88,Tryz.ntmps88
    go_wp2_with fail
    all_goals first
     | (go_ret;exact ⟨ret_bool HS.out.symm,HQ.out⟩)
     | (exfalso;have:=G3.out;omega)
     | (exfalso;have:=G3.out;simp_all;omega)
 ·have HS:Hid (R=false):=Lib.hid (by rw [← HR.out];simp [repOk,oneB])
  have e9:((ks.length:Int)+1+1 == 1)=false:=by rw [beq_eq_false_iff_ne];omega
  have e8:((ks.length:Int)+1+1 != 1)=true:=by rw [bne_iff_ne];omega
  go_enter Tryz.func88,Tryz.ntmps88
  go_wp2_with fail
  all_goals first
   | (exfalso;omega)
   | (go_ret;exact ⟨ret_bool HS.out.symm,HQ.out⟩)
   | go_ways
end Go.Proofs.YtbmakifbppocaaaGreatDoor
