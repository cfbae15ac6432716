/- walk of snode.fits, snode.May, in general -/
import Derived.Test.YtdcnncgpomcaaaaGreatDoorSc26
set_option maxRecDepth 100000
set_option maxHeartbeats 4000000
namespace Go.Proofs.YtdcnncgpomcaaaaGreatDoor
open Go.RowKit
theorem fitL_nil (d:Nat) (pt:Bool):fitL d pt []=true:=by rw [fitL]
theorem FK (d:Nat) (pt:Bool) (k:Int) (t:Str) (n:Int) (h u:Bool) (f:Tf) (o:List Str) (ks r:List Sn):fitL d pt (.mk k t n h u f o ks::r)=(l6 (.mk k t n h u f o ks)&&(!(decide (k=0)&&pt)&&((!h||(decide (0<d)&&fitL (d-1) false ks))&&fitL d (decide (k=0)) r))):=by rw [fitL]
def FgRel (ks:List Sn) (d:Nat) (R:Bool) (w:World) (q:Value) (wr:World):Prop:=∃i:Nat,q=.int .i64 i∧i≤ks.length∧Below w.heap.size w wr∧Hid (fitL d (rI ks i) (ks.drop i)=R)
def FtG (d:Nat) (ks:List Sn):Prop:=∀(S:Nat→Prop) (a:Option Addr) (c:Nat) (w:World),SnSl w S a ks.length ks→Calls Tryz.prog 22 #[.slice a ks.length c,.int .i64 (d:Int)] w fun e w'=>e=.returned (.bool (fitL d false ks))∧Below w.heap.size w w'
theorem Dw (ks:List Sn) (i:Nat) (hi:i≤ks.length):i=0∨∃j p,i=j+1∧ks[j]?=some p∧rI ks i=decide (p.kind=0):=by
 cases i with
 | zero=>exact .inl rfl
 | succ j =>
  have hlt:j<ks.length:=gj;exact .inr ⟨j,ks[j],rfl,Hw hlt,by simp [rI,Hw hlt]⟩
theorem BD {t:Str} {n:Int} {h u:Bool} {f:Tf} {o:List Str} {ks:List Sn} (hf:l6 (.mk 0 t n h u f o ks)=true):h=false:=by
 have hf':(!t.isEmpty&&(decide (n=0)&&(o.isEmpty&&(!h&&(!u&&(ks.isEmpty&&tfZ f))))))=true:=hf;simp only [Ie,IP] at hf';exact hf'.2.2.2.1
theorem DR (ks:List Sn) (hsm:Sn.smallL ks) (hkl:ks.length≤1000000) (d:Nat) (hd9:d≤1000)
  (IH0:∀y∈ks,y.has=true→0<d→FtG (d-1) y.kids):FtG d ks:=by
 intro S a c w hx;have HX:=ab hx;obtain⟨R,hR⟩:∃R,fitL d false ks=R:=⟨_,rfl⟩;rw [hR];have HRR:=ab hR;have HSM:=ab (fun y hy=>Sn.small_mem hsm y hy);have IH:=ab IH0;clear hx hsm IH0 hR;go_enter Tryz.func22,Tryz.ntmps22
 go_wp2
 go_loopw [9] (fun q wr=>FgRel ks d R w q wr) (fun q _=>ks.length-(intOf q).toNat)
 case atStart=>exact⟨0,rfl,by omega,Below.refl _ _,HRR⟩
 case round =>
  obtain⟨i,rfl,hi,hb,HF⟩:=hrel;have hB:=hb.size;clear HRR;cases hd:ks.drop i with
  | nil =>
   have h2:ks.length≤i:=gX;have HR0:Hid (R=true):=ab (by rw [←HF.out,hd,fitL_nil]);clear hd HF;go_wp2
   go_ret
   exact⟨by rw [HR0.out];rfl,hb⟩
  | cons y r =>
   obtain⟨h2,h3,hr⟩:=kV hd;have hym:=In h3;have hys:=HSM.out y hym;have hih:=IH.out y hym;have hpn:rI ks (i+1)=decide (y.kind=0):=by simp [rI,h3]
   have hfl:=fld_any hys;obtain⟨yk,yt,yn,yh,yu,yf,yo,ys⟩:=y;have hFF:R=(l6 (.mk yk yt yn yh yu yf yo ys)&&(!(decide (yk=0)&&rI ks i)&&((!yh||(decide (0<d)&&fitL (d-1) false ys))&&fitL d (rI ks (i+1)) (ks.drop (i+1))))):=by
    rw [←HF.out,hd,hr,hpn,FK];rfl
   obtain⟨b,o,cc,rfl,hS,hbB,hyv,hcc⟩:=(HX.out.later hb).at_ h3;have hrg:wr.rangeAt b (o+i*18) cc:=fun j v hj=>by rw [IJ];exact hcc j v hj
   have hcl:=hyv.len;obtain⟨fc,oa,oc,ka,kc,hA⟩:=hyv.at_;obtain⟨W5,hW5⟩:∃W5,W5=wr.alloc (.cells cc.toArray 44):=⟨_,rfl⟩;have HW5:Hid ((wr.alloc (.cells #[.int .i64 0,.string ⟨#[]⟩,.int .i64 0,.bool false,.bool false,.int .i64 0,.string ⟨#[]⟩,.bool false,.slice none 0 0,.int .i64 0,.int .i64 0,.bool false,.slice none 0 0,.slice none 0 0,.bool false,.bool false,.slice none 0 0,.slice none 0 0] 44)).setRow wr.heap.size cc.toArray=W5):=ab gS;have hb5:Below wr.heap.size wr W5:=by rw [hW5];exact(Below.refl _ _).alloc (Ia _) _
   have HBX:Hid (W5.heap[wr.heap.size]?=some (.cells cc.toArray 44 (0,0))):=ab iK;have HFLD:=ab (hfl S cc W5 (hyv.later hb5));have HKV:=ab (hA.kv.later hb5);have HA:=ab hA;have HONE:Hid (∀u∈cc.toArray.toList,u.oneCell'=true):=ab (fun u hu=>hyv.one u iD);have HIH:=ab hih;have HB:=ab hb;have HB5:=ab hb5;clear hd hr h3 hyv hcc hW5 hA hfl hys hym hih HF hpn;cases hfs:l6 (.mk yk yt yn yh yu yf yo ys) with
   | false =>
    rw [hfs] at HFLD hFF;have HR0:Hid (R=false):=ab (by rw [hFF];rfl);clear hFF hfs;exact aZ
   | true =>
    rw [hfs,Im] at hFF;rw [hfs] at HFLD;by_cases hk0:yk=0
    ·subst hk0
     obtain rfl:yh=false:=BD hfs;have hFF2:R=(!(rI ks i)&&fitL d (rI ks (i+1)) (ks.drop (i+1))):=hFF;clear hFF hfs;rcases Dw ks i hi with h0|⟨j,p,hj,hpj,hpk⟩
     ·have HEQ:Hid (fitL d (rI ks (i+1)) (ks.drop (i+1))=R):=ab (by rw [hFF2,show rI ks i=false by rw [h0];rfl];rfl)
      have gi:decide ((0:Int)<(i:Int))=false:=Ix gj;have gin:decide (0<i)=false:=Ix gj;clear hFF2 h0;exact aX
     ·obtain⟨pk,pt,pn,ph,pu,pf,po,ps⟩:=p
      obtain⟨b',o',cc',hae,_,_,hpv,hpc⟩:=(HX.out.later (bel2 HB.out HB5.out)).at_ hpj;obtain⟨rfl,rfl⟩:b=b'∧o=o':=by injection hae with hae;injection hae with h1 h2 _;exact⟨h1,h2⟩
      obtain⟨fc',oa',oc',ka',kc',hPA⟩:=hpv.at_;have HPC:Hid (W5.cell? ⟨b,o+j*18,none⟩=some (.int .i64 pk)):=ab (by have:=hpc 0 _ hPA.c0;simpa using this);by_cases hpz:pk=0
      ·have hpkb:(pk==0)=true:=by rw [Hp];exact hpz
       have HR0:Hid (R=false):=ab (by rw [hFF2,hpk,show decide ((Sn.mk pk pt pn ph pu pf po ps).kind=0)=true from Iw hpz];rfl);subst hj;clear hFF2 hpj hpk hae hpv hpc hPA hpz;go_wp2_with (first
        | (refine kA rfl 44 (.tmp 12) rfl b (o+(j+1)*18) rfl cc _ hrg kC rfl gG ?_)
        | (refine kK rfl 44 (.tmp 6) (.tmp 13) rfl (wr.heap.size) (cc.toArray) rfl rfl 44 (#[.int .i64 0,.string ⟨#[]⟩,.int .i64 0,.bool false,.bool false,.int .i64 0,.string ⟨#[]⟩,.bool false,.slice none 0 0,.int .i64 0,.int .i64 0,.bool false,.slice none 0 0,.slice none 0 0,.bool false,.bool false,.slice none 0 0,.slice none 0 0]) (heap_alloc_new wr _) (kF) ii rfl (HONE.out) (W:=W5) (HW5.out) ?_)
        | (refine kA rfl 44 (.tmp 6) rfl wr.heap.size 0 rfl cc _ (kG (ds:=[]) je) kC rfl gG ?_)
        | (go_at_call 36;refine HFLD.out.mono ?_))
       first|rintro e w1 rfl hb1|rintro e w1 ⟨rfl,hb1⟩
       obtain⟨q0,_,_,q3,_,_,_,_⟩:=HA.out.box ((hb1.block _ (ky HBX.out)).trans HBX.out);have hpc1:=lp hb1 _ _ HPC.out;have hbw1:=bel2 (bel2 HB.out HB5.out) hb1;go_wp2
       go_ret
       exact⟨by rw [HR0.out];rfl,hbw1⟩
      ·have hpkb:(pk==0)=false:=by rw [Iu];exact hpz
       have HEQ:Hid (fitL d (rI ks (i+1)) (ks.drop (i+1))=R):=ab (by rw [hFF2,hpk,show decide ((Sn.mk pk pt pn ph pu pf po ps).kind=0)=false from Ix hpz];rfl);subst hj;clear hFF2 hpj hpk hae hpv hpc hPA hpz;go_wp2_with (first
        | (refine kA rfl 44 (.tmp 12) rfl b (o+(j+1)*18) rfl cc _ hrg kC rfl gG ?_)
        | (refine kK rfl 44 (.tmp 6) (.tmp 13) rfl (wr.heap.size) (cc.toArray) rfl rfl 44 (#[.int .i64 0,.string ⟨#[]⟩,.int .i64 0,.bool false,.bool false,.int .i64 0,.string ⟨#[]⟩,.bool false,.slice none 0 0,.int .i64 0,.int .i64 0,.bool false,.slice none 0 0,.slice none 0 0,.bool false,.bool false,.slice none 0 0,.slice none 0 0]) (heap_alloc_new wr _) (kF) ii rfl (HONE.out) (W:=W5) (HW5.out) ?_)
        | (refine kA rfl 44 (.tmp 6) rfl wr.heap.size 0 rfl cc _ (kG (ds:=[]) je) kC rfl gG ?_)
        | (go_at_call 36;refine HFLD.out.mono ?_))
       first|rintro e w1 rfl hb1|rintro e w1 ⟨rfl,hb1⟩
       obtain⟨q0,_,_,q3,_,_,_,_⟩:=HA.out.box ((hb1.block _ (ky HBX.out)).trans HBX.out);have hpc1:=lp hb1 _ _ HPC.out;have hbw1:=bel2 (bel2 HB.out HB5.out) hb1;go_wp2
       go_roundw
       case rel=>exact⟨j+1+1,by go_num,by omega,hbw1,HEQ⟩
       case measure=>simp [intOf];omega
    ·have hkb:(yk==0)=false:=by rw [Iu];exact hk0
     have hFF2:R=((!yh||(decide (0<d)&&fitL (d-1) false ys))&&fitL d (rI ks (i+1)) (ks.drop (i+1))):=by rw [hFF,Ix hk0];rfl
     clear hk0 hFF hfs;cases yh with
     | false =>
      have HEQ:Hid (fitL d (rI ks (i+1)) (ks.drop (i+1))=R):=ab (by rw [hFF2];rfl);clear hFF2;exact aX
     | true =>
      by_cases hdz:d=0
      ·have HR0:Hid (R=false):=ab (by rw [hFF2,show decide (0<d)=false from Ix gj];rfl)
       have hdb:((d:Int)==0)=true:=by rw [Hp];omega
       clear hFF2 hdz;exact aZ
      ·have hdb:((d:Int)==0)=false:=by rw [Iu];omega
       have hdp:0<d:=gj;have HI:Hid (∀(S:Nat→Prop) (a:Option Addr) (c:Nat) (w:World),SnSl w S a ys.length ys→Calls Tryz.prog 22 #[.slice a ys.length c,.int .i64 ((d:Int)-1)] w fun e w'=>e=.returned (.bool (fitL (d-1) false ys))∧Below w.heap.size w w'):=ab (by
        have h9:FtG (d-1) ys:=HIH.out rfl hdp;have h8:(((d-1:Nat)):Int)=(d:Int)-1:=gj;intro S a c w h;rw [←h8];exact h9 S a c w h)
       have hFF3:R=(fitL (d-1) false ys&&fitL d (rI ks (i+1)) (ks.drop (i+1))):=by rw [hFF2,Iw hdp];rfl
       clear hFF2 HIH hdz;cases hgg:fitL (d-1) false ys with
       | false =>
        rw [hgg] at HI hFF3;have HR0:Hid (R=false):=ab (by rw [hFF3];rfl);clear hFF3 hgg;go_wp2_with (first
         | (refine kA rfl 44 (.tmp 12) rfl b (o+(i)*18) rfl cc _ hrg kC rfl gG ?_)
         | (refine kK rfl 44 (.tmp 6) (.tmp 13) rfl (wr.heap.size) (cc.toArray) rfl rfl 44 (#[.int .i64 0,.string ⟨#[]⟩,.int .i64 0,.bool false,.bool false,.int .i64 0,.string ⟨#[]⟩,.bool false,.slice none 0 0,.int .i64 0,.int .i64 0,.bool false,.slice none 0 0,.slice none 0 0,.bool false,.bool false,.slice none 0 0,.slice none 0 0]) (heap_alloc_new wr _) (kF) ii rfl (HONE.out) (W:=W5) (HW5.out) ?_)
         | (refine kA rfl 44 (.tmp 6) rfl wr.heap.size 0 rfl cc _ (kG (ds:=[]) je) kC rfl gG ?_)
         | (go_at_call 36;refine HFLD.out.mono ?_))
        first|rintro e w1 rfl hb1|rintro e w1 ⟨rfl,hb1⟩
        obtain⟨q0,_,_,q3,_,_,q17,_⟩:=HA.out.box ((hb1.block _ (ky HBX.out)).trans HBX.out);have hbw1:=bel2 (bel2 HB.out HB5.out) hb1;have HKC:=ab (HI.out S ka kc w1 (HKV.out.later hb1));go_wp2_with (go_at_call 22;refine HKC.out.mono ?_)
        first|rintro e' w2 rfl hb2|rintro e' w2 ⟨rfl,hb2⟩
        have hbw2:=bel2 hbw1 hb2;go_wp2
        go_ret
        exact⟨by rw [HR0.out];rfl,hbw2⟩
       | true =>
        rw [hgg] at HI hFF3;have HEQ:Hid (fitL d (rI ks (i+1)) (ks.drop (i+1))=R):=ab (by rw [hFF3];rfl);clear hFF3 hgg;go_wp2_with (first
         | (refine kA rfl 44 (.tmp 12) rfl b (o+(i)*18) rfl cc _ hrg kC rfl gG ?_)
         | (refine kK rfl 44 (.tmp 6) (.tmp 13) rfl (wr.heap.size) (cc.toArray) rfl rfl 44 (#[.int .i64 0,.string ⟨#[]⟩,.int .i64 0,.bool false,.bool false,.int .i64 0,.string ⟨#[]⟩,.bool false,.slice none 0 0,.int .i64 0,.int .i64 0,.bool false,.slice none 0 0,.slice none 0 0,.bool false,.bool false,.slice none 0 0,.slice none 0 0]) (heap_alloc_new wr _) (kF) ii rfl (HONE.out) (W:=W5) (HW5.out) ?_)
         | (refine kA rfl 44 (.tmp 6) rfl wr.heap.size 0 rfl cc _ (kG (ds:=[]) je) kC rfl gG ?_)
         | (go_at_call 36;refine HFLD.out.mono ?_))
        first|rintro e w1 rfl hb1|rintro e w1 ⟨rfl,hb1⟩
        obtain⟨q0,_,_,q3,_,_,q17,_⟩:=HA.out.box ((hb1.block _ (ky HBX.out)).trans HBX.out);have hbw1:=bel2 (bel2 HB.out HB5.out) hb1;have HKC:=ab (HI.out S ka kc w1 (HKV.out.later hb1));go_wp2_with (go_at_call 22;refine HKC.out.mono ?_)
        first|rintro e' w2 rfl hb2|rintro e' w2 ⟨rfl,hb2⟩
        have hbw2:=bel2 hbw1 hb2;go_wp2
        go_roundw
        case rel=>exact⟨i+1,by go_num,by omega,hbw2,HEQ⟩
        case measure=>simp [intOf];omega
theorem zn:∀(N:Nat) (ks:List Sn),Sn.partsL ks<N→Sn.smallL ks→ks.length≤1000000→∀d:Nat,d≤1000→FtG d ks
 | 0,ks,h,_,_,_,_=>by omega
 | N+1,ks,h,hsm,hkl,d,hd9=>DR ks hsm hkl d hd9 (fun y hy _ _=>by
   have h1:=Sn.parts_mem hy;have h2:=Sn.small_mem hsm y hy;obtain⟨yk,yt,yn,yh,yu,yf,yo,ys⟩:=y;obtain⟨_,_,h5,_,h6⟩:=h2;simp only [Sn.parts] at h1;exact zn N ys gj h6 h5 (d-1) gj)
theorem oG (S:Nat→Prop) (ks:List Sn) (hsm:Sn.smallL ks) (hkl:ks.length≤1000000) (a:Option Addr) (c:Nat) (w:World) (hx:SnSl w S a ks.length ks) :
  Calls Tryz.prog 11 #[.slice a ks.length c] w fun e w'=>e=.returned (.bool (oB ks))∧Below w.heap.size w w':=by
 have HF:=ab (zn (Sn.partsL ks+1) ks gj hsm hkl 32 gj S a c w hx);rw [fitL_may] at HF;clear hx hsm;go_enter Tryz.func11,Tryz.ntmps11
 go_wp2_with (go_at_call 22;refine HF.out.mono ?_)
 first|rintro e w1 rfl hb1|rintro e w1 ⟨rfl,hb1⟩
 go_wp2
 go_ret
 exact⟨rfl,hb1⟩
def opS (bare:Bool):Str:=if bare=true then [40,63,58] else [40]
theorem Ey {s:Str} (h:∀c∈s,kI c=false):kX s=s.map fun c=>[c]:=by
 induction s with
 | nil=>rfl
 | cons c s ih =>
  have e:kX ([c]++s)=kX [c]++kX s:=lO _ [c] s (Ia _) (by
   cases s with
   | nil=>trivial
   | cons d s=>exact h d gz)
  rw [show c::s=[c]++s from rfl,e,ih (fun d hd=>h d (Il _ hd))];rfl
theorem oW {s t:Str} (hs:nE s) (ht:nE t):nE (s++t):=by
 cases s with
 | nil=>exact ht
 | cons c s=>exact hs
theorem Eo (bare:Bool):kX (opS bare)=opn bare:=by cases bare<;>rfl
theorem wg (bare:Bool) {s t:Str} (hs:nE s) (ht:nE t):kX (opS bare++(s++41::t))=opn bare++(kX s++[41]::kX t):=by
 have h41:nE (41::t):=show kI 41=false by decide
 rw [lO _ (opS bare) _ (Ia _) (oW hs h41),lO _ s _ (Ia _) h41,show (41:UInt8)::t=[41]++t from rfl,lO _ [41] t (Ia _) ht,Eo];rfl
def lzS (b:Bool):Str:=if b=true then [63] else []
def sgl (s:Str):List Str:=s.map fun c=>[c]
def isD (d:UInt8):Prop:=48≤d.toNat∧d.toNat≤57
theorem F9 {d:UInt8} (h:isD d):digS [d]=some (d.toNat-48):=by unfold digS;exact Hu h
def dval (a:Nat) (d:UInt8):Nat:=10*a+(d.toNat-48)
theorem zl:∀(ds:Str) (k acc:Nat) (z:List Str),(∀d∈ds,isD d)→k+ds.length≤3→numL k acc (sgl ds++z)=numL (k+ds.length) (ds.foldl dval acc) z
 | [],k,acc,z,_,_=>rfl
 | d::ds,k,acc,z,h,hk=>by
  simp only [H7] at hk;have e:sgl (d::ds)++z=[d]::(sgl ds++z):=rfl;rw [e,numL];simp only [F9 (h d (Ik ..))];rw [Hx gj,zl ds (k+1) _ z (fun x hx=>h x (Il _ hx)) gj];rw [Iv,H7,show k+1+ds.length=k+(ds.length+1) by omega];rfl
theorem Ax:∀(ds:Str) (k acc:Nat) (z:List Str),(∀d∈ds,isD d)→k≤3→3<k+ds.length→numL k acc (sgl ds++z)=none
 | [],k,acc,z,_,h1,h2=>by simp at h2;omega
 | d::ds,k,acc,z,h,h1,h2=>by
  simp only [H7] at h2;have e:sgl (d::ds)++z=[d]::(sgl ds++z):=rfl;rw [e,numL];simp only [F9 (h d (Ik ..))];by_cases h3:k=3
  ·rw [Hu h3]
  ·rw [Hx h3];exact Ax ds (k+1) _ z (fun x hx=>h x (Il _ hx)) gj gj
theorem decD (n:Nat):(∀d∈Lib.decDigits n,isD d)∧(Lib.decDigits n).foldl dval 0=n∧(n≤999→(Lib.decDigits n).length≤3)∧(1000≤n→4≤(Lib.decDigits n).length)∧1≤(Lib.decDigits n).length:=by
 have one:∀m,m<10→isD (UInt8.ofNat (48+m))∧(UInt8.ofNat (48+m)).toNat-48=m:=by
  intro m hm;have e:(UInt8.ofNat (48+m)).toNat=48+m:=by simp;omega
  exact⟨by unfold isD;omega,by omega⟩
 have st:∀m,Lib.decDigits m=if m<10 then [UInt8.ofNat (48+m)] else Lib.decDigits (m / 10)++[UInt8.ofNat (48+m % 10)]:=by
  intro m;rw [Lib.decDigits.eq_1 m];by_cases h:m<10
  ·rw [Hu h,dif_pos h]
  ·rw [Hx h,dif_neg h]
 have key:∀N n,n≤N→(∀d∈Lib.decDigits n,isD d)∧(Lib.decDigits n).foldl dval 0=n∧1≤(Lib.decDigits n).length:=by
  intro N;induction N with
  | zero =>
   intro n hn;obtain rfl:n=0:=gj;rw [st 0,Hu gj];refine⟨fun d hd=>?_,rfl,by simp⟩;rw [IC] at hd;rw [hd];exact(one 0 gj).1
  | succ N ih =>
   intro n hn;rw [st n];by_cases h:n<10
   ·rw [Hu h]
    refine⟨fun d hd=>?_,?_,by simp⟩
    ·rw [IC] at hd;rw [hd];exact(one n h).1
    ·simp only [List.foldl,dval];have:=(one n h).2;omega
   ·rw [Hx h]
    obtain⟨i1,i2,i3⟩:=ih (n / 10) gj;refine⟨fun d hd=>?_,?_,by simp⟩
    ·rcases IB.1 hd with hd|hd
     ·exact i1 d hd
     ·rw [IC] at hd;rw [hd];exact(one (n % 10) gj).1
    ·rw [List.foldl_append,i2];simp only [List.foldl,dval];have:=(one (n % 10) gj).2;omega
 obtain⟨k1,k2,k3⟩:=key n n (Ia _);have len:∀m,(Lib.decDigits m).length=if m<10 then 1 else(Lib.decDigits (m / 10)).length+1:=by
  intro m;rw [st m];by_cases h:m<10
  ·rw [Hu h,Hu h];rfl
  ·rw [Hx h,Hx h];simp
 refine⟨k1,k2,fun h=>?_,fun h=>?_,k3⟩
 ·rw [len n];split
  ·omega
  ·rw [len (n / 10)];split
   ·omega
   ·rw [len (n / 10 / 10),Hu gj];omega
 ·rw [len n,Hx gj,len (n / 10),Hx gj,len (n / 10 / 10),Hx gj]
  have:=(key (n / 10 / 10 / 10) _ (Ia _)).2.2
  omega
theorem uf (n:Nat) {c:Str} (z:List Str) (hc:digS c=none):numL 0 0 (sgl (Lib.decDigits n)++c::z)=if n≤255 then some (n,c::z) else none:=by
 obtain⟨d1,d2,d3,d4,d5⟩:=decD n;by_cases h:n≤999
 ·rw [zl _ 0 0 _ d1 (by have:=d3 h;omega),d2,numL]
  simp only [hc];by_cases h2:n≤255
  ·rw [Hu ⟨by omega,h2⟩,Hu h2]
  ·rw [Hx gj,Hx h2]
 ·rw [Ax _ 0 0 _ d1 gj (by have:=d4 gj;omega),Hx gj]
theorem bounds_a (a:Nat) (z:List Str):me (sgl (Lib.decDigits a++[125])++z)=if a≤255 then some ((a:Int),(a:Int),z) else none:=by
 have e:sgl (Lib.decDigits a++[125])++z=sgl (Lib.decDigits a)++[125]::z:=by simp [sgl]
 unfold me;rw [e,uf a z rfl];by_cases h:a≤255
 ·rw [Hu h,Hu h];simp only [kN,if_true]
 ·rw [Hx h,Hx h]
theorem bounds_b (a:Nat) (z:List Str):me (sgl (Lib.decDigits a++[44,125])++z)=if a≤255 then some ((a:Int),-1,z) else none:=by
 have e:sgl (Lib.decDigits a++[44,125])++z=sgl (Lib.decDigits a)++[44]::[125]::z:=by simp [sgl]
 unfold me;rw [e,uf a _ rfl];by_cases h:a≤255
 ·rw [Hu h,Hu h];simp only [kN,if_true,Hx (show ¬([44]:Str)=[125] by decide)]
 ·rw [Hx h,Hx h]
theorem bounds_c (a b:Nat) (z:List Str):me (sgl (Lib.decDigits a++44::(Lib.decDigits b++[125]))++z)=if a≤255∧b≤255∧a≤b then some ((a:Int),(b:Int),z) else none:=by
 have e:sgl (Lib.decDigits a++44::(Lib.decDigits b++[125]))++z=sgl (Lib.decDigits a)++[44]::(sgl (Lib.decDigits b)++[125]::z):=by simp [sgl]
 obtain⟨d1,_,_,_,d5⟩:=decD b;have ht:kN [125] (sgl (Lib.decDigits b)++[125]::z)=none:=by
  cases hb:Lib.decDigits b with
  | nil=>rw [hb] at d5;simp at d5
  | cons d ds =>
   have:=d1 d (by rw [hb];exact Ik ..)
   unfold isD at this;have hne:¬[d]=([125]:Str):=by intro e;injection e with e;subst e;revert this;decide
   show (if [d]=([125]:Str) then _ else none)=none
   rw [Hx hne]
 unfold me;rw [e,uf a _ rfl];by_cases h:a≤255
 ·rw [Hu h]
  simp only [kN,if_true,Hx (show ¬([44]:Str)=[125] by decide)] at ht ⊢;simp only [ht,uf b z (show digS [125]=none from rfl)];by_cases h2:b≤255
  ·rw [Hu h2]
   by_cases h3:a≤b
   ·rw [Hu ⟨h,h2,h3⟩];simp only [if_true];rw [Hu h3]
   ·rw [Hx (fun q=>h3 q.2.2)];simp only [if_true];rw [Hx h3]
  ·rw [Hx h2,Hx (fun q=>h2 q.2.1)]
 ·rw [Hx h,Hx (fun q=>h q.1)]
theorem G6 (a:Nat):∀c∈Lib.decDigits a,kI c=false:=fun c hc=>by
 have:=(decD a).1 c hc
 unfold isD at this;simp [kI];omega
def alB (c:UInt8):Prop:=(48≤c.toNat∧c.toNat≤57)∨(97≤c.toNat∧c.toNat≤122)
structure Pc where
 f:UInt8
 t:UInt8
 s:Bool
def Pc.ok (p:Pc):Prop:=alB p.f∧alB p.t∧p.f.toNat≤p.t.toNat∧(p.s=true→p.f=p.t)
def Pc.str (p:Pc):Str:=if p.s=true then [p.f] else [p.f,45,p.t]
def Pc.row (p:Pc):Row:=([p.f],[p.t])
theorem Hl:∀{r:Str},(∀x∈r,kI x=true)→r.takeWhile kI=r∧r.dropWhile kI=[]
 | [],_=>⟨rfl,rfl⟩
 | x::r,h=>by
  obtain⟨i1,i2⟩:=Hl (r:=r) (fun y hy=>h y (Il _ hy));have hx:=h x (Ik ..);rw [List.takeWhile_cons_of_pos hx,List.dropWhile_cons_of_pos hx,i1,i2];exact⟨rfl,rfl⟩
theorem su {c:Str} (h:lG c=true):kX c=[c]:=by
 cases c with
 | nil=>cases h
 | cons b r =>
  have h2:r.all kI=true:=by
   have:(!kI b&&r.all kI)=true:=h
   exact(Bool.and_eq_true_iff.1 this).2
  have h3:∀x∈r,kI x=true:=List.all_eq_true.1 h2;rw [mQ,(Hl h3).1,(Hl h3).2];rfl
theorem rY {c:Str} (h:lG c=true):nE c∧c≠[]:=by
 cases c with
 | nil=>cases h
 | cons b r =>
  have h1:(!kI b&&r.all kI)=true:=h;exact⟨by show kI b=false;have:=(Bool.and_eq_true_iff.1 h1).1;simpa using this,by simp⟩
def escC (th c:Str):List Str :=
 if c=[10] then [[92],[110]] else if c=[13] then [[92],[114]] else if c=[9] then [[92],[116]] else if c=[12] then [[92],[102]] else if c=[11] then [[92],[118]]
 else if th.contains (c.headD 0)=true then [[92],c] else [c]
theorem uE (th:Str) {c:Str} (h:lG c=true):kX (escL th c)=escC th c∧nE (escL th c):=by
 obtain⟨h1,h2⟩:=rY h;unfold escL escC;iterate 5 (split;· exact⟨rfl,show kI 92=false by decide⟩)
 split
 ·refine⟨?_,show kI 92=false by decide⟩
  rw [show (92:UInt8)::c=[92]++c from rfl,lO _ [92] c (Ia _) h1,su h];rfl
 ·exact⟨su h,h1⟩
theorem escC_ok (th:Str) {c:Str} (h:c≠[]) (hl:c.length≤1000000):okC (escC th c):=by
 unfold escC;intro p hp
 (repeat' split at hp)<;>simp at hp<;>(try rcases hp with rfl|rfl)<;>(try subst hp)<;>first|exact⟨by simp,by simp⟩|exact⟨h,hl⟩
theorem oM {r:Row} (h:rowB r=true):lG r.1=true∧lG r.2=true∧leS r.1 r.2=true:=by
 unfold rowB at h;simp only [Ie] at h;exact⟨h.1.1,h.1.2,h.2⟩
theorem qH:∀{rs:List Row} {p:Option Str},nC p rs=true→∀r∈rs,rowB r=true
 | [],_,_,r,h=>by cases h
 | r0::rs,p,h,r,hr=>by
  simp only [nC,Ie] at h;rcases Ii.1 hr with rfl|hr
  ·exact h.1.1
  ·exact qH h.2 r hr
theorem Gm {a b:Str} (h:leS a b=false):Op.bytesLess b a=true:=by
 unfold leS at h;simp only [Bool.or_eq_false_iff,Iu] at h;rcases oK a b with h1|h1|h1
 ·rw [h1] at h;exact absurd h.1 gv
 ·exact absurd h1 h.2
 ·exact h1
theorem leS_ltS {a b c:Str} (h1:leS a b=true) (h2:Op.bytesLess b c=true):Op.bytesLess a c=true:=by
 unfold leS at h1;rw [H8,Hp] at h1;rcases h1 with h1|rfl
 ·exact nr h1 h2
 ·exact h2
theorem xP {a b c:Str} (h1:Op.bytesLess a b=true) (h2:leS b c=true):Op.bytesLess a c=true:=by
 unfold leS at h2;rw [H8,Hp] at h2;rcases h2 with h2|rfl
 ·exact nr h1 h2
 ·exact h1
theorem CD:∀{rs:List Row} {t:Str},nC (some t) rs=true→∀r∈rs,Op.bytesLess t r.1=true
 | [],_,_,r,h=>by cases h
 | r0::rs,t,h,r,hr=>by
  simp only [nC,Ie,IP] at h;obtain⟨⟨h1,h2⟩,h3⟩:=h;have h4:=Gm h2;rcases Ii.1 hr with rfl|hr
  ·exact h4
  ·exact nr (xP h4 (oM h1).2.2) (CD h3 r hr)
theorem AH:∀{rs:List Row} {p:Option Str},nC p rs=true→Srt rs
 | [],_,_=>List.Pairwise.nil
 | r0::rs,p,h=>by
  simp only [nC,Ie] at h;obtain⟨⟨h1,_⟩,h3⟩:=h;refine List.Pairwise.cons (fun r hr=>qG ?_) (AH h3);unfold ltR;rw [vd];exact .inl (leS_ltS (oM h1).2.2 (CD h3 r hr))
theorem GU:∀(rs out:List Row) (p:Option Str),nC p rs=true→(p=out.getLast?.map (·.2))→rs.foldl mrgS out=out++rs
 | [],out,_,_,_=>by simp
 | r::rs,out,p,h,hp=>by
  simp only [nC,Ie] at h;obtain⟨⟨h1,h2⟩,h3⟩:=h;have e:mrgS out r=out++[r]:=by
   rcases List.eq_nil_or_concat out with rfl|⟨B,q,rfl⟩
   ·rfl
   ·rw [List.concat_eq_append] at hp ⊢
    rw [List.getLast?_concat,Option.map_some] at hp;subst hp;simp only [IP] at h2;exact uq h2
  rw [Iv,e,GU rs (out++[r]) (some r.2) h3 (by rw [List.getLast?_concat];rfl)];simp
theorem zB {rs:List Row} (h:oF rs=true):mJ rs=rs:=by
 have h1:filR rs=rs:=List.filter_eq_self.2 (qH h);obtain⟨p1,s1⟩:=ru (filR rs);rw [h1] at p1 s1;have h2:stL rs=rs:=Eb p1 s1 (AH h);unfold mJ mrgL;rw [h1,h2,GU rs [] none h rfl];rfl
theorem xp (th:Str) (h0:th.contains 93=true∧th.contains 94=true∧th.contains 45=true) {c:Str} (h:lG c=true):∃f r,escC th c=f::r∧f≠[93]∧f≠[94]∧f≠[45]:=by
 unfold escC;iterate 5 (split;· exact⟨_,_,rfl,by decide,by decide,by decide⟩)
 split
 ·exact⟨_,_,rfl,by decide,by decide,by decide⟩
 ·rename_i hn
  refine⟨_,_,rfl,?_,?_,?_⟩<;>rintro rfl
  ·exact hn h0.1
  ·exact hn h0.2.1
  ·exact hn h0.2.2
theorem Du {c:Str} (h:wb c=true):∃b,c=[b]∧((97≤b.toNat∧b.toNat≤122)∨(65≤b.toNat∧b.toNat≤90)∨(48≤b.toNat∧b.toNat≤57)∨b.toNat=95):=by
 match c,h with
 | [b],h =>
  simp only [wb,H8,Hs] at h;exact⟨b,rfl,by rcases h with((h|h)|h)|h<;>simp [h]⟩
def noWd (b:UInt8):Prop:=¬((97≤b.toNat∧b.toNat≤122)∨(65≤b.toNat∧b.toNat≤90)∨(48≤b.toNat∧b.toNat≤57)∨b.toNat=95)
theorem ww {c:Str} (h0:c≠[]) (h:noWd (c.headD 0)):mS c=none∧bigS c=none∧mj c=some c∧c≠[98]∧c≠[66]:=by
 have ne:∀b:UInt8,¬noWd b→c≠[b]:=by rintro b hb rfl;exact hb h
 have l:∀b:UInt8,(97≤b.toNat∧b.toNat≤122)∨(65≤b.toNat∧b.toNat≤90)∨(48≤b.toNat∧b.toNat≤57)∨b.toNat=95→c≠[b]:=fun b hb=>ne b (fun q=>q hb)
 have hw:wb c=false:=by
  cases hw:wb c with
  | false=>rfl
  | true=>obtain⟨b,rfl,hb⟩:=Du hw;exact absurd hb h
 refine⟨?_,?_,?_,l 98 gv,l 66 gv⟩
 ·unfold mS
  split
  ·rename_i b
   have:nI b=false:=by
    unfold nI;simp only [Bool.or_eq_false_iff,Iu];refine⟨⟨?_,?_⟩,?_⟩<;>rintro rfl
    ·exact l 100 gv rfl
    ·exact l 119 gv rfl
    ·exact l 115 gv rfl
   rw [this];rfl
  ·rfl
 ·unfold bigS
  rw [Hx (l 68 gv),Hx (l 87 gv),Hx (l 83 gv)]
 ·unfold mj
  rw [Hx h0,Hx (l 110 gv),Hx (l 114 gv),Hx (l 116 gv),Hx (l 102 gv),Hx (l 118 gv),Hu (.inr hw)]
def okTh (th:Str):Prop:=(∀b∈th,noWd b)∧th.contains 92=true∧th.contains 93=true
theorem tD {th:Str} {b:UInt8} (h:th.contains b=true):b∈th:=by simpa using h
theorem CJ {th:Str} (ht:okTh th) {c:Str} (h:lG c=true) (z:List Str):nv (escC th c++z)=some (c,[],z):=by
 obtain⟨_,h0⟩:=rY h;unfold escC;iterate 5 (split;· rename_i hc;rw [hc];rfl)
 split
 ·rename_i hs
  obtain⟨a1,a2,a3,_,_⟩:=ww h0 (ht.1 _ (tD hs));show nv ([92]::c::z)=_
  simp only [nv,Hx (show ¬([92]:Str)=[93] by decide),if_true,a1,a3]
 ·rename_i hs
  have h1:c≠[93]:=by rintro rfl;exact hs ht.2.2
  have h2:c≠[92]:=by rintro rfl;exact hs ht.2.1
  show nv (c::z)=_
  simp only [nv,Hx h1,Hx h2]
theorem CL {th:Str} (h:(th.all fun b=>!(decide (97≤b.toNat∧b.toNat≤122)||decide (65≤b.toNat∧b.toNat≤90)||decide (48≤b.toNat∧b.toNat≤57)||decide (b.toNat=95)))=true):∀b∈th,noWd b:=by
 intro b hb;have:=List.all_eq_true.1 h b hb
 simp only [IP,Bool.or_eq_false_iff,Io] at this;unfold noWd;rintro(h|h|h|h)
 ·exact this.1.1.1 h
 ·exact this.1.1.2 h
 ·exact this.1.2 h
 ·exact this.2 h
theorem tV {c f:Str} {s:List Str} (h:f≠c):kN c (f::s)=none:=by simp only [kN,Hx h]
theorem Ec {r z:List Str} {rows:List Row} (h:ly (r.length+1) [] r=some (rows,z)):mx ([94]::r)=.ok (setR (mJ rows) true,z):=by
 unfold mx;have t:kN [94] ([94]::r)=some r:=rfl;simp only [t,Option.isSome,Option.getD,h]
theorem GW {r z:List Str} {rows:List Row} (t:kN [94] r=none) (h:ly (r.length+1) [] r=some (rows,z)):mx r=.ok (setR (mJ rows) false,z):=by
 unfold mx;simp only [t,Option.isSome,Option.getD,h]
def At (l:List Str) (y:Rx):Prop:=okC l∧(∃c r,l=c::r∧c≠[41]∧c≠[124])∧∀n z,okC z→(l++z).length≤n→n≤200000→lD (patF n) (l++z) 0=lJ y z
def Rd0 (l:List Str) (x:Rx):Prop:=okC l∧patF (l.length+1) l 0=.ok (x,[])
theorem term_rd {l:List Str} {x:Rx} {c:Str} {r:List Str} (e:l=c::r) (h1:c≠[41]) (h2:c≠[124]) (ho:okC l) (ht:lD (patF l.length) l 0=.ok (x,[])) (hk:x.kind≠0∧x.kind≠1):Rd0 l x:=by
 subst e;refine⟨ho,?_⟩;have hT:InvT [x]:=fun y hy=>by rw [IC] at hy;rw [hy];exact hk
 have hseq:seqR [x]=x:=by unfold seqR;rw [mn (fun y hy=>(hT y hy).1)]
 show patL (fun r'=>lD (patF (c::r).length) r' 0) (r.length+1+1) [] [] (c::r)=_
 simp only [patL,Hx h1,Hx h2,ht];rw [Iz,Iz,hseq,nX hk.2]
theorem At.quant {l q:List Str} {y x:Rx} (h:At l y) (ho:okC q) (hq:lJ y q=.ok (x,[])) (hk:x.kind≠0∧x.kind≠1) (hl:(l++q).length≤200000):Rd0 (l++q) x:=by
 obtain⟨h1,⟨c,r,rfl,h2,h3⟩,h4⟩:=h;exact term_rd (c:=c) (r:=r++q) rfl h2 h3 (ur h1 ho) (by rw [h4 _ q ho (Ia _) hl,hq]) hk
theorem At.rd {l:List Str} {y:Rx} (h:At l y) (hk:y.kind≠0∧y.kind≠1) (hl:l.length≤200000):Rd0 l y:=by
 have:=h.quant (q:=[]) (fun p hp=>by cases hp) rfl hk jC
 simpa using this
theorem okC_one {c:Str} (h:c≠[]) (hl:c.length≤1000000):okC [c]:=fun p hp=>by rw [IC] at hp;rw [hp];exact⟨h,hl⟩
theorem sc {pat:List Str→Nat→Res} {l z:List Str} {y:Rx} (he:mF (l++z)=none) (ha:lS pat (l++z) 0=.ok (y,z)):lD pat (l++z) 0=lJ y z:=by
 unfold lD;simp only [he,ha]
theorem At.any:At [[46]] (rxK 3) :=
 ⟨okC_one gv gv,⟨_,_,rfl,by decide,by decide⟩,fun n z _ _ _=>sc (l:=[[46]]) (by simp [mF]) (by simp [lS])⟩
theorem At.grp {l:List Str} {x:Rx} (h:Rd0 l x) (bare:Bool) (hd:x.deep+1≤16):At (wrp bare l) (grpR (gk bare) x):=by
 have hr:Rdg l x:=Rdg.of h.1 h.2;obtain⟨ro,hro⟩:=Cp bare;refine⟨(hr.wrap bare).1,?_,fun n z hz h1 h2=>?_⟩
 ·unfold wrp;rw [hro];exact⟨_,_,rfl,by decide,by decide⟩
 ·have e1:wrp bare l++z=opn bare++(l++[41]::z):=by simp [wrp]
  rw [e1,hr.term (z:=z) bare n 0 hz gj (by rw [e1,hro] at h1;simp only [IA,H7,Ig] at h1 ⊢;omega) h2,Hu gj]
theorem EX {lo hi:Int} (lz:Bool) (y:Rx) (h:0≤lo∧lo≤255∧(hi=-1∨lo≤hi∧hi≤255)) :
  lJ y (kX (oftS lo hi++lzS lz))=.ok (repR lo hi lz y,[])∧nE (oftS lo hi++lzS lz):=by
 obtain⟨h1,h2,h3⟩:=h;have br:∀(B:Str) (a b:Int),(∀c∈B,kI c=false)→(∀z,me (sgl B++z)=some (a,b,z))→lJ y (kX (123::(B++lzS lz)))=.ok (repR a b lz y,[])∧nE (123::(B++lzS lz)):=by
  intro B a b hB hb;refine⟨?_,show kI 123=false by decide⟩;have e:kX (123::(B++lzS lz))=[123]::(sgl B++sgl (lzS lz)):=by
   rw [Ey]
   ·simp [sgl]
   ·intro c hc
    rcases Ii.1 hc with rfl|hc
    ·decide
    rcases IB.1 hc with hc|hc
    ·exact hB c hc
    ·cases lz
     ·simp [lzS] at hc
     ·simp [lzS] at hc;subst hc;decide
  rw [e];simp only [lJ,Hx (show ¬([123]:Str)=[42] by decide),Hx (show ¬([123]:Str)=[43] by decide),Hx (show ¬([123]:Str)=[63] by decide),if_true,hb];cases lz<;>rfl
 unfold oftS;by_cases c1:lo=0∧hi=-1
 ·rw [Hu c1,c1.1,c1.2];cases lz<;>exact⟨rfl,show kI 42=false by decide⟩
 rw [Hx c1];by_cases c2:lo=1∧hi=-1
 ·rw [Hu c2,c2.1,c2.2];cases lz<;>exact⟨rfl,show kI 43=false by decide⟩
 rw [Hx c2];by_cases c3:lo=0∧hi=1
 ·rw [Hu c3,c3.1,c3.2];cases lz<;>exact⟨rfl,show kI 63=false by decide⟩
 rw [Hx c3];have da:=G6 lo.toNat;have asc:∀(t:Str),(t.all fun c=>!kI c)=true→∀c∈Lib.decDigits lo.toNat++t,kI c=false:=by
  intro t ht c hc;rcases IB.1 hc with hc|hc
  ·exact da c hc
  ·have:=List.all_eq_true.1 ht c hc;simpa using this
 by_cases c4:lo=hi
 ·rw [Hu c4]
  exact br (Lib.decDigits lo.toNat++[125]) lo hi (asc _ gv) (fun z=>by rw [bounds_a,Hu gj,←c4,Int.toNat_of_nonneg h1])
 rw [Hx c4];by_cases c5:hi=-1
 ·rw [Hu c5]
  have:=br (Lib.decDigits lo.toNat++[44,125]) lo (-1) (asc _ gv) (fun z=>by rw [bounds_b,Hu gj,Int.toNat_of_nonneg h1])
  rw [c5];exact this
 rw [Hx c5];have hasc:∀c∈Lib.decDigits lo.toNat++44::(Lib.decDigits hi.toNat++[125]),kI c=false:=by
  intro c hc;rcases IB.1 hc with hc|hc
  ·exact da c hc
  rcases Ii.1 hc with rfl|hc
  ·decide
  rcases IB.1 hc with hc|hc
  ·exact G6 _ c hc
  ·rw [IC] at hc;subst hc;decide
 exact br (Lib.decDigits lo.toNat++44::(Lib.decDigits hi.toNat++[125])) lo hi hasc (fun z=>by
  rw [bounds_c,Hu ⟨by omega,by omega,by omega⟩,Int.toNat_of_nonneg h1,Int.toNat_of_nonneg gj])
theorem rd_nil:Rd0 [] (nw []):=⟨fun p hp=>(by cases hp),rfl⟩
theorem FY {x:Rx} {ks:List Rx} (hx:x.kind≠0∧x.kind≠1) (hk:InvT ks):seqR [x,seqR ks]=seqR (x::ks):=by
 have h1:InvT [x]:=fun y hy=>by rw [IC] at hy;rw [hy];exact hx
 have:=CA h1 hk
 have e:seqR [x]=x:=by unfold seqR;rw [mn (fun y hy=>(h1 y hy).1)]
 rw [e] at this;exact this
theorem oy {k:Int} {c:Str} {ng:Bool} {rs:List Row} {lo hi:Int} {lz:Bool} {ks:List Rx} (h:rU (.mk k c ng rs lo hi lz ks)=true):c=[]∧ng=false∧rs=[]∧lo=0∧hi=0∧lz=false:=by
 simp only [rU,Ie,IP,Rx.chr,Rx.neg,Rx.rows,Rx.lo,Rx.hi,Rx.lazy] at h;obtain⟨⟨⟨⟨⟨h1,h2⟩,h3⟩,h4⟩,h5⟩,h6⟩:=h;exact⟨of_decide_eq_true h1,h2,of_decide_eq_true h3,of_decide_eq_true h4,of_decide_eq_true h5,h6⟩
theorem zZ:∀{ks:List Rx} {x:Rx},x∈ks→x.deep≤Rx.deepL ks
 | [],_,h=>by cases h
 | y::r,x,h=>by
  simp only [Rx.deepL];rcases Ii.1 h with rfl|h
  ·omega
  ·have:=zZ h;omega
def th1N:Str:=[94,36,92,46,42,43,63,40,41,91,93,123,125,124]
def th2N:Str:=[94,45,92,91,93]
def vg (r:Str × Str):Str:=escL th2N r.1++(if r.2=r.1 then [] else 45::escL th2N r.2)
def yU (ng:Bool) (rs:List (Str × Str)):Str:=91::((if ng=true then [94] else [])++(rs.flatMap vg++[93]))
namespace Rx
mutual
def tellN:Rx→Str
 | mk k c ng rs lo hi lz ks =>
  if k=0 then tellNL ks
  else if k=1 then tellNA false ks
  else if k=2 then escL th1N c
  else if k=3 then [46]
  else if k=8 then [94]
  else if k=9 then [36]
  else if k=10 then [92,98]
  else if k=11 then [92,66]
  else if k=4 then yU ng rs
  else if k=5 then 40::(tellNL ks++[41])
  else if k=6 then 40::63::58::(tellNL ks++[41])
  else tellNL ks++(oftS lo hi++(if lz=true then [63] else []))
def tellNL:List Rx→Str
 | []=>[]
 | x::r=>tellN x++tellNL r
def tellNA:Bool→List Rx→Str
 | _,[]=>[]
 | b,x::r=>(if b=true then [124] else [])++(tellN x++tellNA true r)
end
end Rx
def pZ (r:Row):List Str:=escC th2N r.1++(if r.2=r.1 then [] else [45]::escC th2N r.2)
theorem FT:okTh th2N:=⟨CL gv,by decide,by decide⟩
theorem th1_okN:okTh th1N:=⟨CL gv,by decide,by decide⟩
theorem wu {r:Row} (h:rowB r=true):∃f s,pZ r=f::s∧f≠[93]∧f≠[94]∧f≠[45]:=by
 obtain⟨f,s,e,h1⟩:=xp th2N gv (oM h).1;unfold pZ;rw [e];exact⟨f,_,rfl,h1⟩
theorem wn:∀(rs:List Row) (z:List Str),(∀r∈rs,rowB r=true)→∃f s,rs.flatMap pZ++[93]::z=f::s∧(f=[93]∨f≠[93]∧f≠[94]∧f≠[45])
 | [],z,_=>⟨[93],z,rfl,.inl rfl⟩
 | r::rs,z,h=>by
  obtain⟨f,s,e,h1⟩:=wu (h r (Ik ..));rw [If,e];exact⟨f,_,rfl,.inr h1⟩
theorem tB:∀(rs:List Row) (n:Nat) (acc:List Row) (z:List Str),(∀r∈rs,rowB r=true)→rs.length<n→ly n acc (rs.flatMap pZ++[93]::z)=some (acc++rs,z)
 | [],n,acc,z,_,hn=>by
  obtain⟨n,rfl⟩:∃m,n=m+1:=⟨n-1,by simp at hn;omega⟩;rw [IK];simp only [List.flatMap_nil,Iz,ly,kN,if_true]
 | r::rs,n,acc,z,h,hn=>by
  obtain⟨n,rfl⟩:∃m,n=m+1:=⟨n-1,by simp at hn;omega⟩;simp only [H7] at hn;have hr:=h r (Ik ..);have hrs:∀q∈rs,rowB q=true:=fun q hq=>h q (Il _ hq)
  obtain⟨p1,p2,p3⟩:=oM hr;have ih:=fun acc=>tB rs n acc z hrs gj
  obtain⟨g,t,ge,gh⟩:=wn rs z hrs;obtain⟨f,s,fe,f1,f2,f3⟩:=xp th2N gv p1;obtain⟨f',s',fe',f1',f2',f3'⟩:=xp th2N gv p2;have i1:=fun z=>CJ FT p1 z
  have i2:=fun z=>CJ FT p2 z
  have t1:∀z,kN [93] (escC th2N r.1++z)=none:=fun z=>by rw [fe];exact tV f1
  have t2:∀z,kN [93] (escC th2N r.2++z)=none:=fun z=>by rw [fe'];exact tV f1'
  by_cases he:r.2=r.1
  ·have e:(r::rs).flatMap pZ++[93]::z=escC th2N r.1++(rs.flatMap pZ++[93]::z):=by
    rw [If];unfold pZ;rw [Hu he];simp
   have t45:kN [45] (rs.flatMap pZ++[93]::z)=none:=by
    rw [ge];refine tV ?_;rcases gh with rfl|gh
    ·decide
    ·exact gh.2.2
   rw [e];simp only [ly,t1,i1,t45,ne_eq,not_true_eq_false,if_false];rw [ih,II];have:((r.1,r.1):Row)=r:=by rw [←he];rw [he];exact Prod.ext rfl he.symm
   rw [this];rfl
  ·have e:(r::rs).flatMap pZ++[93]::z=escC th2N r.1++[45]::(escC th2N r.2++(rs.flatMap pZ++[93]::z)):=by
    rw [If];unfold pZ;rw [Hx he];simp
   have t45:∀z:List Str,kN [45] ([45]::z)=some z:=fun z=>by simp only [kN,if_true]
   have hless:¬(Op.bytesLess r.2 r.1=true):=by
    intro hl;unfold leS at p3;rw [H8,Hp] at p3;rcases p3 with p3|p3
    ·rw [pi p3] at hl;cases hl
    ·exact he p3.symm
   rw [e];simp only [ly,t1,i1,t45,t2,i2,ne_eq,not_true_eq_false,if_false,if_true,false_or,Hx hless];rw [ih,II];rfl
def BN (ng:Bool) (rs:List Row):List Str:=[91]::((if ng=true then [[94]] else [])++(rs.flatMap pZ++[[93]]))
theorem Dz {r:Row} (h:rowB r=true) (t:Str) (ht:nE t):kX (vg r++t)=pZ r++kX t∧nE (vg r++t):=by
 obtain⟨p1,p2,p3⟩:=oM h;obtain⟨a1,a2⟩:=uE th2N p1;obtain⟨b1,b2⟩:=uE th2N p2;unfold vg pZ;by_cases he:r.2=r.1
 ·rw [Hu he,Hu he,IK,IK]
  exact⟨by rw [lO _ _ _ (Ia _) ht,a1],oW a2 ht⟩
 ·rw [Hx he,Hx he]
  have h45:nE (45::(escL th2N r.2++t)):=show kI 45=false by decide
  refine⟨?_,?_⟩
  ·rw [II,IA,lO _ _ _ (Ia _) h45,a1,show (45:UInt8)::(escL th2N r.2++t)=[45]++(escL th2N r.2++t) from rfl,lO _ [45] _ (Ia _) (oW b2 ht),lO _ _ _ (Ia _) ht,b1]
   simp [show kX [45]=[[45]] from rfl]
  ·rw [II];exact oW a2 h45
theorem ux:∀(rs:List Row),(∀r∈rs,rowB r=true)→∀t:Str,nE t→kX (rs.flatMap vg++t)=rs.flatMap pZ++kX t∧nE (rs.flatMap vg++t)
 | [],_,t,ht=>⟨rfl,ht⟩
 | r::rs,h,t,ht=>by
  obtain⟨i1,i2⟩:=ux rs (fun q hq=>h q (Il _ hq)) t ht;obtain⟨j1,j2⟩:=Dz (h r (Ik ..)) _ i2;rw [If,If,II,II,j1,i1];exact⟨rfl,j2⟩
theorem D2 {ng:Bool} {rs:List Row} (h:oF rs=true):kX (yU ng rs)=BN ng rs∧nE (yU ng rs):=by
 obtain⟨i1,i2⟩:=ux rs (qH h) [93] (show kI 93=false by decide);refine⟨?_,show kI 91=false by decide⟩;unfold yU BN;cases ng with
 | true =>
  show kX ([91,94]++(rs.flatMap vg++[93]))=_
  rw [lO _ [91,94] _ (Ia _) i2,i1];rfl
 | false =>
  show kX ([91]++(rs.flatMap vg++[93]))=_
  rw [lO _ [91] _ (Ia _) i2,i1];rfl
theorem D5 {ng:Bool} {rs:List Row} (h:oF rs=true) (z:List Str) (pat:List Str→Nat→Res) (d:Nat):lS pat (BN ng rs++z) d=.ok (setR rs ng,z):=by
 have hal:=qH h;have e:BN ng rs++z=[91]::((if ng=true then [[94]] else [])++(rs.flatMap pZ++[93]::z)):=by unfold BN;simp
 rw [e];have ha:∀r:List Str,lS pat ([91]::r) d=mx r:=fun r=>by simp [lS]
 rw [ha];obtain⟨f,s,fe,fh⟩:=wn rs z hal;have t94:kN [94] (rs.flatMap pZ++[93]::z)=none:=by
  rw [fe];refine tV ?_;rcases fh with rfl|fh
  ·decide
  ·exact fh.2.1
 have hl:rs.length≤(rs.flatMap pZ++[93]::z).length:=by
  clear fe fh t94 e h;induction rs with
  | nil=>simp
  | cons r rs ih =>
   obtain⟨f,s,fe,_⟩:=wu (hal r (Ik ..));have:=ih (fun q hq=>hal q (Il _ hq))
   rw [If,fe];simp only [Ig,H7] at this ⊢;omega
 have run:∀k,rs.length<k→ly k [] (rs.flatMap pZ++[93]::z)=some (rs,z):=fun k hk=>by rw [tB rs k [] z hal hk,Iz]
 have hrun:=run _ (Nat.lt_succ_of_le hl);cases ng with
 | true =>
  have:=Ec hrun
  rw [zB h] at this;exact this
 | false =>
  have:=GW t94 hrun
  rw [zB h] at this;exact this
theorem At.charN {c:Str} (h:lG c=true) (hl:c.length≤1000000):At (escC th1N c) (chrR c):=by
 obtain⟨_,h0⟩:=rY h;refine⟨escC_ok th1N h0 hl,?_,fun n z hz h1 h2=>?_⟩
 ·unfold escC
  iterate 5 (split;· exact⟨_,_,rfl,by decide,by decide⟩)
  split
  ·exact⟨_,_,rfl,by decide,by decide⟩
  ·rename_i hs
   exact⟨_,_,rfl,by rintro rfl;exact hs gv,by rintro rfl;exact hs gv⟩
 ·have esc:∀(c2:Str) (y:Rx),c2≠[98]→c2≠[66]→escM (c2::z)=.ok (y,z)→lD (patF n) ([[92],c2]++z) 0=lJ y z:=by
   intro c2 y h98 h66 he;refine sc ?_ ?_
   ·show mF ([92]::c2::z)=none
    simp [mF,kN,h98,h66]
   ·show lS (patF n) ([92]::c2::z) 0=_
    rw [←he];simp [lS]
  unfold escC;iterate 5 (split;· rename_i hc;rw [hc];exact esc _ _ gv gv rfl)
  split
  ·rename_i hs
   obtain⟨a1,a2,a3,a4,a5⟩:=ww h0 (th1_okN.1 _ (tD hs));exact esc c (chrR c) a4 a5 (by simp only [escM,a1,a2,a3])
  ·rename_i hs
   have ne:∀b:UInt8,th1N.contains b=true→c≠[b]:=by rintro b hb rfl;exact hs hb
   refine sc ?_ ?_
   ·show mF (c::z)=none
    simp only [mF,Hx (ne 94 gv),Hx (ne 36 gv),Hx (ne 92 gv)]
   ·show lS (patF n) (c::z) 0=_
    have hn:ql c=false:=by
     unfold ql;simp only [Bool.or_eq_false_iff,Io];exact⟨⟨⟨⟨⟨⟨⟨ne 42 gv,ne 43 gv⟩,ne 63 gv⟩,ne 41 gv⟩,ne 123 gv⟩,ne 124 gv⟩,ne 94 gv⟩,ne 36 gv⟩
    simp only [lS,Hx (ne 46 gv),Hx (ne 40 gv),Hx (ne 91 gv),Hx (ne 92 gv),hn];rfl
theorem At.setN {ng:Bool} {rs:List Row} (h:oF rs=true) (ho:okC (BN ng rs)):At (BN ng rs) (setR rs ng):=by
 refine⟨ho,⟨_,_,rfl,by decide,by decide⟩,fun n z _ _ _=>sc ?_ (D5 h z _ 0)⟩;show mF ([91]::(_++z))=none
 simp [mF]
theorem yR:∀(ks:List Rx),(∀x∈ks,nE x.tellN∧Rd0 (kX x.tellN) x∧x.kind≠0∧x.kind≠1)→(Rx.tellNL ks).length≤100000→nE (Rx.tellNL ks)∧Rd0 (kX (Rx.tellNL ks)) (seqR ks)
 | [],_,_=>⟨trivial,rd_nil⟩
 | x::r,h,hl=>by
  simp only [Rx.tellNL,Ig] at hl ⊢;obtain⟨a1,a2,a3⟩:=h x (Ik ..);have hr:=fun y hy=>h y (Il x hy)
  obtain⟨b1,b2⟩:=yR r hr gj;have hT:InvT r:=fun y hy=>(hr y hy).2.2
  have l1:=nR x.tellN;have l2:=nR (Rx.tellNL r);refine⟨oW a1 b1,?_⟩;rw [lO _ _ _ (Ia _) b1,←FY a3 hT];exact⟨ur a2.1 b2.1,FW a2.1 b2.1 gj a2.2 b2.2 a3.2 (mK hT).1⟩
theorem Ar:∀(r:List Rx) (x:Rx),(∀y∈x::r,nE y.tellN∧Rd0 (kX y.tellN) y∧y.kind≠1)→(x.tellN++Rx.tellNA true r).length≤100000→nE (x.tellN++Rx.tellNA true r)∧Rd0 (kX (x.tellN++Rx.tellNA true r)) (altR (x::r))
 | [],x,h,_=>by
  obtain⟨a1,a2,a3⟩:=h x (Ik ..);simp only [Rx.tellNA,IK];rw [nX a3];exact⟨a1,a2⟩
 | y::r,x,h,hl=>by
  obtain⟨a1,a2,a3⟩:=h x (Ik ..);have hr:=fun z hz=>h z (Il x hz)
  have e:x.tellN++Rx.tellNA true (y::r)=x.tellN++124::(y.tellN++Rx.tellNA true r):=by simp [Rx.tellNA]
  rw [e] at hl ⊢;simp only [Ig,H7] at hl;obtain⟨b1,b2⟩:=Ar r y hr iE;have h124:nE (124::(y.tellN++Rx.tellNA true r)):=show kI 124=false by decide
  have l1:=nR x.tellN;have l2:=nR (y.tellN++Rx.tellNA true r);rw [Ig] at l2;refine⟨oW a1 h124,?_⟩;have hA:InvA (y::r):=fun z hz=>(hr z hz).2.2
  have h1:InvA [x]:=fun z hz=>by rw [IC] at hz;rw [hz];exact a3
  have e2:altR [x,altR (y::r)]=altR (x::y::r):=by
   have:=C7 h1 hA gz gz
   rw [nX a3] at this;exact this
  rw [lO _ _ _ (Ia _) h124,show (124:UInt8)::(y.tellN++Rx.tellNA true r)=[124]++(y.tellN++Rx.tellNA true r) from rfl,lO _ [124] _ (Ia _) b1,←e2];have e3:kX x.tellN++(kX [124]++kX (y.tellN++Rx.tellNA true r))=kX x.tellN++[124]::kX (y.tellN++Rx.tellNA true r):=rfl;rw [e3];refine⟨ur a2.1 ?_,G3 a2.1 b2.1 gj a2.2 b2.2⟩;intro p hp;rcases Ii.1 hp with rfl|hp
  ·exact⟨by simp,by simp⟩
  ·exact b2.1 p hp
theorem tU {k:Int} (h:k=8∨k=9∨k=10∨k=11):nE (rxK k).tellN∧Rd0 (kX (rxK k).tellN) (rxK k):=by
 have ok1:∀l:List Str,(l.all fun p=>decide (p≠[]∧p.length≤1000))=true→okC l:=by
  intro l h p hp;have:=List.all_eq_true.1 h p hp
  simp only [Hs] at this;exact⟨this.1,by omega⟩
 rcases h with rfl|rfl|rfl|rfl
 ·exact⟨show kI 94=false by decide,ok1 [[94]] gv,rfl⟩
 ·exact⟨show kI 36=false by decide,ok1 [[36]] gv,rfl⟩
 ·exact⟨show kI 92=false by decide,ok1 [[92],[98]] gv,rfl⟩
 ·exact⟨show kI 92=false by decide,ok1 [[92],[66]] gv,rfl⟩
theorem we:∀{ks:List Rx} {x:Rx},x∈ks→x.tellN.length≤(Rx.tellNL ks).length
 | [],_,h=>by cases h
 | y::r,x,h=>by
  simp only [Rx.tellNL,Ig];rcases Ii.1 h with rfl|h
  ·omega
  ·have:=we h;omega
theorem wP:∀{ks:List Rx} {b:Bool} {x:Rx},x∈ks→x.tellN.length≤(Rx.tellNA b ks).length
 | [],_,_,h=>by cases h
 | y::r,b,x,h=>by
  simp only [Rx.tellNA,Ig];rcases Ii.1 h with rfl|h
  ·omega
  ·have:=wP (b:=true) h;omega
theorem CR:∀(N:Nat) (x:Rx),x.parts≤N→x.wf=true→x.deep≤16→x.tellN.length≤100000→nE x.tellN∧Rd0 (kX x.tellN) x∧(repB x.kind=true→At (kX x.tellN) x)
 | 0,x,h,_,_,_=>by have:=Rx.parts_pos x;omega
 | N+1,.mk k c ng rs lo hi lz ks,hp,hw,hd,hl=>by
  obtain⟨hf,hks⟩:=wf_mk hw;simp only [Rx.parts] at hp;have hdk:Rx.deepL ks≤16:=by simp only [Rx.deep] at hd;omega
  have IH:∀y∈ks,y.tellN.length≤100000→nE y.tellN∧Rd0 (kX y.tellN) y∧(repB y.kind=true→At (kX y.tellN) y):=fun y hy hyl=>by
   have:=Rx.parts_mem hy
   have:=zZ hy
   exact CR N y gj (xY hks hy) gj hyl
  have fin:∀{l:List Str} {y:Rx},At l y→(y.kind≠0∧y.kind≠1)→l.length≤100000→Rd0 l y∧(repB y.kind=true→At l y):=fun h1 h2 h3=>⟨h1.rd h2 gj,fun _=>h1⟩
  have hsl:=nR (Rx.mk k c ng rs lo hi lz ks).tellN;rcases A8 hf with rfl|rfl|rfl|rfl|rfl|rfl|rfl|rfl|rfl|rfl|rfl|rfl
  ·-- a sequence
   simp only [lf,Hx (show ¬(0:Int)=2 by decide),Hx (show ¬(0:Int)=4 by decide),Hx (show ¬(0:Int)=7 by decide),if_true,Ie,Hs] at hf;obtain⟨⟨hb,hn⟩,ha⟩:=hf;obtain⟨rfl,rfl,rfl,rfl,rfl,rfl⟩:=oy hb;have hT:InvT ks:=fun y hy=>by have:=List.all_eq_true.1 ha y hy;simpa using this
   have e:(Rx.mk 0 [] false [] 0 0 false ks).tellN=Rx.tellNL ks:=by simp only [Rx.tellN,if_true]
   rw [e] at hl ⊢;obtain⟨g1,g2⟩:=yR ks (fun y hy=>by obtain⟨i1,i2,_⟩:=IH y hy (by have:=we hy;omega);exact⟨i1,i2,hT y hy⟩) hl;have e2:seqR ks=.mk 0 [] false [] 0 0 false ks:=by
    unfold seqR;rw [mn (fun y hy=>(hT y hy).1)];rcases ks with _|⟨a,_|⟨b,l⟩⟩
    ·rfl
    ·simp at hn
    ·rfl
   rw [e2] at g2;exact⟨g1,g2,fun h=>by cases h⟩
  ·-- alternatives
   simp only [lf,Hx (show ¬(1:Int)=2 by decide),Hx (show ¬(1:Int)=4 by decide),Hx (show ¬(1:Int)=7 by decide),Hx (show ¬(1:Int)=0 by decide),if_true,Ie,Hs] at hf;obtain⟨⟨hb,hn⟩,ha⟩:=hf;obtain⟨rfl,rfl,rfl,rfl,rfl,rfl⟩:=oy hb;have hA:InvA ks:=fun y hy=>by have:=List.all_eq_true.1 ha y hy;simpa using this
   rcases ks with _|⟨a,_|⟨b,l⟩⟩
   ·simp at hn
   ·simp at hn
   ·have e:(Rx.mk 1 [] false [] 0 0 false (a::b::l)).tellN=a.tellN++Rx.tellNA true (b::l):=by simp only [Rx.tellN,Hx (show ¬(1:Int)=0 by decide),if_true,Rx.tellNA];simp
    have e0:(Rx.tellNA false (a::b::l)).length=(a.tellN++Rx.tellNA true (b::l)).length:=by simp only [Rx.tellNA];simp
    rw [e] at hl ⊢;obtain⟨g1,g2⟩:=Ar (b::l) a (fun y hy=>by obtain⟨i1,i2,_⟩:=IH y hy (by have:=wP (b:=false) hy;omega);exact⟨i1,i2,hA y hy⟩) hl;have e2:altR (a::b::l)=.mk 1 [] false [] 0 0 false (a::b::l):=by
     unfold altR;rw [mn hA];rfl
    rw [e2] at g2;exact⟨g1,g2,fun h=>by cases h⟩
  ·-- a character
   simp only [lf,if_true,Ie,Hs] at hf;obtain⟨⟨hb,rfl⟩,hc⟩:=hf;obtain⟨_,rfl,rfl,rfl,rfl,rfl⟩:=oy hb;have e:(Rx.mk 2 c false [] 0 0 false []).tellN=escL th1N c:=by simp only [Rx.tellN,Hx (show ¬(2:Int)=0 by decide),Hx (show ¬(2:Int)=1 by decide),if_true]
   rw [e] at hl hsl ⊢;obtain⟨s1,s2⟩:=uE th1N hc;rw [s1] at hsl ⊢;have hcl:c.length≤1000000:=by
    have:c.length≤(escL th1N c).length+1:=by unfold escL;(repeat' split)<;>simp_all<;>omega
    omega
   exact⟨s2,fin (At.charN hc hcl) ⟨by show (2:Int)≠0;decide,by show (2:Int)≠1;decide⟩ gj⟩
  ·-- any
   simp [lf] at hf
   obtain⟨hb,rfl⟩:=hf;obtain⟨rfl,rfl,rfl,rfl,rfl,rfl⟩:=oy hb;exact⟨show kI 46=false by decide,fin At.any ⟨by show (3:Int)≠0;decide,by show (3:Int)≠1;decide⟩ gv⟩
  ·-- a class
   simp only [lf,Hx (show ¬(4:Int)=2 by decide),if_true,Ie,Hs] at hf;obtain⟨⟨hb,rfl⟩,hr⟩:=hf;obtain⟨rfl,_,_,rfl,rfl,rfl⟩:=oy hb;have e:(Rx.mk 4 [] ng rs 0 0 false []).tellN=yU ng rs:=by simp [Rx.tellN]
   rw [e] at hl hsl ⊢;obtain⟨s1,s2⟩:=D2 (ng:=ng) hr;have ho:okC (kX (yU ng rs)):=sb gj;rw [s1] at hsl ho ⊢;exact⟨s2,fin (At.setN hr ho) ⟨by show (4:Int)≠0;decide,by show (4:Int)≠1;decide⟩ gj⟩
  ·-- a group
   simp [lf] at hf
   obtain⟨hb,hn⟩:=hf;obtain⟨rfl,rfl,rfl,rfl,rfl,rfl⟩:=oy hb;rcases ks with _|⟨y,_|⟨b,l⟩⟩
   ·simp at hn
   ·have e:(Rx.mk 5 [] false [] 0 0 false [y]).tellN=opS false++(y.tellN++41::[]):=by simp [Rx.tellN,Rx.tellNL,opS]
    rw [e] at hl hsl ⊢;obtain⟨i1,i2,_⟩:=IH y (Ik ..) ji;have s:=wg false i1 (t:=[]) trivial;rw [s] at hsl ⊢;have hyd:y.deep+1≤16:=by simp [Rx.deep,Rx.deepL] at hd;omega
    have hq:(wrp false (kX y.tellN)).length≤100000:=by
     have:(wrp false (kX y.tellN)).length=(opn false++(kX y.tellN++[41]::kX [])).length:=rfl
     rw [this];omega
    exact⟨show kI 40=false by decide,fin (At.grp i2 false hyd) ⟨by show (5:Int)≠0;decide,by show (5:Int)≠1;decide⟩ hq⟩
   ·simp at hn
  ·-- a bare group
   simp [lf] at hf
   obtain⟨hb,hn⟩:=hf;obtain⟨rfl,rfl,rfl,rfl,rfl,rfl⟩:=oy hb;rcases ks with _|⟨y,_|⟨b,l⟩⟩
   ·simp at hn
   ·have e:(Rx.mk 6 [] false [] 0 0 false [y]).tellN=opS true++(y.tellN++41::[]):=by simp [Rx.tellN,Rx.tellNL,opS]
    rw [e] at hl hsl ⊢;obtain⟨i1,i2,_⟩:=IH y (Ik ..) ji;have s:=wg true i1 (t:=[]) trivial;rw [s] at hsl ⊢;have hyd:y.deep+1≤16:=by simp [Rx.deep,Rx.deepL] at hd;omega
    have hq:(wrp true (kX y.tellN)).length≤100000:=by
     have:(wrp true (kX y.tellN)).length=(opn true++(kX y.tellN++[41]::kX [])).length:=rfl
     rw [this];omega
    exact⟨show kI 40=false by decide,fin (At.grp i2 true hyd) ⟨by show (6:Int)≠0;decide,by show (6:Int)≠1;decide⟩ hq⟩
   ·simp at hn
  ·-- a repeat
   simp only [lf,Hx (show ¬(7:Int)=2 by decide),Hx (show ¬(7:Int)=4 by decide),if_true,Ie,Hs] at hf;obtain⟨⟨hb,hk⟩,hbd⟩:=hf;obtain⟨rfl,rfl,rfl,_,_,_⟩:=oy hb;rcases ks with _|⟨y,_|⟨b,l⟩⟩
   ·cases hk
   ·have e:(Rx.mk 7 [] false [] lo hi lz [y]).tellN=y.tellN++(oftS lo hi++lzS lz):=by simp [Rx.tellN,Rx.tellNL,lzS]
    rw [e] at hl hsl ⊢;obtain⟨i1,i2,i3⟩:=IH y (Ik ..) ji;obtain⟨q1,q2⟩:=EX lz y hbd;have s:=lO _ y.tellN (oftS lo hi++lzS lz) (Ia _) q2;rw [s] at hsl ⊢;have ho:okC (kX (oftS lo hi++lzS lz)):=sb (by rw [Ig] at hl;omega);exact⟨oW i1 q2,(i3 hk).quant ho q1 ⟨by show (7:Int)≠0;decide,by show (7:Int)≠1;decide⟩ gj,fun h=>by cases h⟩
   ·cases hk
  all_goals
   simp [lf] at hf
   obtain⟨hb,rfl⟩:=hf;obtain⟨rfl,rfl,rfl,rfl,rfl,rfl⟩:=oy hb
  ·obtain⟨g1,g2⟩:=tU (k:=8) gv;exact⟨g1,g2,fun h=>by cases h⟩
  ·obtain⟨g1,g2⟩:=tU (k:=9) gv;exact⟨g1,g2,fun h=>by cases h⟩
  ·obtain⟨g1,g2⟩:=tU (k:=10) gv;exact⟨g1,g2,fun h=>by cases h⟩
  ·obtain⟨g1,g2⟩:=tU (k:=11) gv;exact⟨g1,g2,fun h=>by cases h⟩
theorem DL {x:Rx} (hm:mayB x=true) (hl:x.tellN.length≤256):qy x.tellN=.ok x:=by
 simp only [mayB,okB,Ie,Hs] at hm;obtain⟨g1,g2,_⟩:=CR _ x (Ia _) hm.1.1 gj gj;exact readM_ok.2 ⟨hl,g1,g2.2⟩
end Go.Proofs.YtdcnncgpomcaaaaGreatDoor
