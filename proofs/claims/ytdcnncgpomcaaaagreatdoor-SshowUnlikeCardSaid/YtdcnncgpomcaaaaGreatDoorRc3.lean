/- walks of rxtree: flat -/
import Derived.Test.YtdcnncgpomcaaaaGreatDoorRc2
import Derived.StillTailTactics
set_option maxRecDepth 100000
set_option maxHeartbeats 4000000
namespace Go.Proofs.YtdcnncgpomcaaaaGreatDoor
open Go.RowKit
def mi (kd:Int) (xs:List Rx):List Rx:=xs.flatMap fun x=>if x.kind=kd then x.kids else [x]
theorem Fe (kd:Int) (xs:List Rx) (x:Rx):mi kd (xs++[x])=mi kd xs++(if x.kind=kd then x.kids else [x]):=by simp [mi]
theorem sY (kd:Int):∀xs:List Rx,(mi kd xs).length≤Rx.partsL xs
 | []=>by simp [mi]
 | x::r=>by
  have ih:=sY kd r;have he:mi kd (x::r)=(if x.kind=kd then x.kids else [x])++mi kd r:=by simp [mi]
  have hp:=Rx.parts_pos x;have hk:x.kids.length+1≤x.parts:=by
   obtain⟨_,_,_,_,_,_,_,ks⟩:=x;have:=Rx.len_parts ks
   simp only [Rx.kids,Rx.parts];omega
  rw [he,JA];simp only [Rx.partsL];split
  ·omega
  ·simp;omega
theorem Cm (xs:List Rx):∀i:Nat,Rx.partsL (xs.take i)≤Rx.partsL xs:=by
 induction xs with
 | nil=>intro i;simp
 | cons x r ih =>
  intro i;cases i with
  | zero=>simp [Rx.partsL]
  | succ i=>have:=ih i;simp only [List.take_succ_cons,Rx.partsL];omega
def FlRel (kd:Int) (xs:List Rx) (w:World) (v q:Value) (wr:World):Prop :=
 ∃i:Nat,i≤xs.length∧q=.int .i64 i∧Below w.heap.size w wr∧OwnX wr w.heap.size v (mi kd (xs.take i))
theorem Kept.trans {S:Nat→Prop} {a b c:World} (h1:Kept S a b) (h2:Kept S b c):Kept S a c :=
 ⟨Jv h1.1 h2.1,fun k hk hl=>(h2.2 k hk (Jt hl h1.1)).trans (h1.2 k hk hl)⟩
theorem Kept.sub {S S':Nat→Prop} {a b:World} (h:Kept S a b) (hS:∀k,S' k→S k):Kept S' a b:=⟨h.1,fun k hk hl=>h.2 k (hS k hk) hl⟩
theorem uE {w:World} {B:Nat} {e:TypeId} {sz:Nat} {v:Value} {n:Nat} {xs:List Value} (h:w.ownsRow B e sz v n xs) {a:Addr} (ha:v.ownBlock≠some a.block) (u:Value):(w.setCell a u).ownsRow B e sz v n xs :=
 ownsRow_setCell_other h ha u
theorem DK (S:Nat→Prop) (kd:Int) (a:Option Addr) (c:Nat) (xs:List Rx) (w:World) (hx:RxSl w S a xs.length xs) (hp:Rx.partsL xs≤1000000) (hsm:Rx.smallL xs) :
  Calls Tryz.prog 127 #[.int .i64 kd,.slice a xs.length c] w fun e w'=>∃a' c',e=.returned (.slice a' (mi kd xs).length c')∧RxSl w' (fun b=>w.heap.size≤b) a' (mi kd xs).length (mi kd xs)∧Below w.heap.size w w':=by
 have HX:=ab hx;have HSM:=ab hsm;have hlp:=Rx.len_parts xs;obtain⟨ix,hix⟩:=info_parts Cy;clear hx hsm;go_enter Tryz.func127,Tryz.ntmps127
 go_wp2
 go_loopw [5,10] (fun v q wr=>FlRel kd xs w v q wr) (fun _ q _=>xs.length-(intOf q).toNat)
 case atStart=>exact eW
 case round =>
  obtain⟨i,hik,rfl,hb,hox⟩:=hrel;have hB:=hb.size;cases hd:xs.drop i with
  | nil =>
   have h2:xs.length≤i:=it;rw [List.take_of_length_le h2] at hox;obtain⟨css,hown,hrv⟩:=hox;obtain⟨va,vc,rfl⟩:=lD hown;have HXS:=ab (OwnX.sl ⟨css,hown,hrv⟩).2;clear hd hown hrv;go_wp2
   go_ret
   exact⟨va,vc,rfl,HXS.out,hb⟩
  | cons y r =>
   obtain⟨h2,h3,hr⟩:=lC hd;have hym:=JH h3;have hyp:=Rx.parts_mem hym;have HYS:=ab (oG HSM.out hym);have HTK:Hid (mi kd (xs.take (i+1))=mi kd (xs.take i)++(if y.kind=kd then y.kids else [y])):=ab (by
    rw [List.take_add_one,h3];exact Fe kd _ y)
   have hfl:=sY kd (xs.take i);have hpt:=Cm xs i;obtain⟨yk,yc,yn,yr,yl,yh,yz,ys⟩:=y;have hyl:=Rx.len_parts ys;simp only [Rx.parts] at hyp;obtain⟨b,o,ya,yrc,yka,ykc,rfl,hS,hbB,_,_,hyv,c0,c1,c2,c3,c4,c5,c6,c7⟩:=(HX.out.later hb).cells h3;obtain⟨w0,hw0⟩:∃w0,w0=wr.alloc (.cells #[.int .i64 yk,.string ⟨yc.toArray⟩,.bool yn,.slice ya yr.length yrc,.int .i64 yl,.int .i64 yh,.bool yz,.slice yka ys.length ykc] 38):=⟨_,rfl⟩;have hb0:Below wr.heap.size wr w0:=by rw [hw0];exact(Below.refl _ _).alloc (Ju _) _
   have hbx0:w0.heap[wr.heap.size]?=some (.cells #[.int .i64 yk,.string ⟨yc.toArray⟩,.bool yn,.slice ya yr.length yrc,.int .i64 yl,.int .i64 yh,.bool yz,.slice yka ys.length ykc] 38 (0,0)):=by rw [hw0];exact heap_alloc_new wr _
   have HYV:=ab (hyv.later hb0);have hz0:w0.heap.size=wr.heap.size+1:=by rw [hw0];simp
   have HW0:=ab hw0;rw [hw0] at HYV;unfold rxc at HYV;obtain⟨css,hown,hrv⟩:=hox;generalize hFL:mi kd (xs.take i)=fl at *
   obtain⟨va,vc,rfl⟩:=lD hown;have hlt:=hown.lt;clear hd hr h3 hyv hym hw0;go_wp2_with (go_at_call 60;refine(wy S _ _ (Ju _) HYS.out _ _ HYV.out).mono ?_)
   rintro e w3 ⟨cc',rfl,hcv,hb3⟩;rw [←HW0.out] at hb3 hcv;obtain⟨za,zc,zka,zkc,rfl,hzr,hzx⟩:=hcv.open_;have hb3':=bel2 hb0 hb3;have hz3:=hb3.size;have hbx3:=(hb3.block _ (kT hbx0)).trans hbx0;have HBX3:=ab hbx3;obtain⟨e0,e1,e2,e3,e4,e5,e6,e7,e8⟩:=kY hbx3;have HOWN3:=ab (lh hown hb3');have HRV0:=ab hrv;have HCV3:=ab hcv;have HZX:=ab hzx;clear hown hrv hcv hzr hzx hbx3;have hgo:∀g,va=some g→g.block≠wr.heap.size:=fun g hg e=>by have:=(hlt g.block (by rw [hg];rfl)).2;omega
   have hob:(Value.slice va fl.length vc).ownBlock≠some wr.heap.size:=fun e=>by have:=(hlt _ e).2;omega
   have hkF:Kept (fun b=>b≠wr.heap.size) w3 ((((((((((w3).setCell ⟨wr.heap.size,0,none⟩ (.int .i64 yk)).setCell ⟨wr.heap.size,1,none⟩ (.string ⟨yc.toArray⟩)).setCell ⟨wr.heap.size,2,none⟩ (.bool yn)).setCell ⟨wr.heap.size,3,none⟩ (.slice za yr.length zc)).setCell ⟨wr.heap.size,4,none⟩ (.int .i64 yl)).setCell ⟨wr.heap.size,5,none⟩ (.int .i64 yh)).setCell ⟨wr.heap.size,6,none⟩ (.bool yz)).setCell ⟨wr.heap.size,7,none⟩ (.slice zka ys.length zkc))):=by
    iterate 7 (refine Kept.trans ?_ (Kept.setLow _ (fun b hb=>hb)))
    exact Kept.setLow _ (fun b hb=>hb)
   have hoF:((((((((((w3).setCell ⟨wr.heap.size,0,none⟩ (.int .i64 yk)).setCell ⟨wr.heap.size,1,none⟩ (.string ⟨yc.toArray⟩)).setCell ⟨wr.heap.size,2,none⟩ (.bool yn)).setCell ⟨wr.heap.size,3,none⟩ (.slice za yr.length zc)).setCell ⟨wr.heap.size,4,none⟩ (.int .i64 yl)).setCell ⟨wr.heap.size,5,none⟩ (.int .i64 yh)).setCell ⟨wr.heap.size,6,none⟩ (.bool yz)).setCell ⟨wr.heap.size,7,none⟩ (.slice zka ys.length zkc))).ownsRow w.heap.size 38 8 (.slice va fl.length vc) fl.length css.flatten:=by
    iterate 8 (refine uE ?_ hob _)
    exact HOWN3.out
   have hrF:RxVs ((((((((((w3).setCell ⟨wr.heap.size,0,none⟩ (.int .i64 yk)).setCell ⟨wr.heap.size,1,none⟩ (.string ⟨yc.toArray⟩)).setCell ⟨wr.heap.size,2,none⟩ (.bool yn)).setCell ⟨wr.heap.size,3,none⟩ (.slice za yr.length zc)).setCell ⟨wr.heap.size,4,none⟩ (.int .i64 yl)).setCell ⟨wr.heap.size,5,none⟩ (.int .i64 yh)).setCell ⟨wr.heap.size,6,none⟩ (.bool yz)).setCell ⟨wr.heap.size,7,none⟩ (.slice zka ys.length zkc))) (fun b=>w.heap.size≤b∧(Value.slice va fl.length vc).ownBlock≠some b) css fl :=
    ((RxVs.keep (S:=fun b=>(w.heap.size≤b∧(Value.slice va fl.length vc).ownBlock≠some b)∧b<wr.heap.size) (hkF.sub fun b hb e=>by have:=hb.2;omega)
     ((HRV0.out.mono (fun b hb hl=>⟨hb,hl⟩)).later hb3')).mono fun b hb _=>hb.1)
   have hcF:RxV ((((((((((w3).setCell ⟨wr.heap.size,0,none⟩ (.int .i64 yk)).setCell ⟨wr.heap.size,1,none⟩ (.string ⟨yc.toArray⟩)).setCell ⟨wr.heap.size,2,none⟩ (.bool yn)).setCell ⟨wr.heap.size,3,none⟩ (.slice za yr.length zc)).setCell ⟨wr.heap.size,4,none⟩ (.int .i64 yl)).setCell ⟨wr.heap.size,5,none⟩ (.int .i64 yh)).setCell ⟨wr.heap.size,6,none⟩ (.bool yz)).setCell ⟨wr.heap.size,7,none⟩ (.slice zka ys.length zkc))) (fun b=>w.heap.size≤b∧(Value.slice va fl.length vc).ownBlock≠some b) [.int .i64 yk,.string ⟨yc.toArray⟩,.bool yn,.slice za yr.length zc,.int .i64 yl,.int .i64 yh,.bool yz,.slice zka ys.length zkc] (.mk yk yc yn yr yl yh yz ys) :=
    (HCV3.out.keep (hkF.sub fun b hb e=>by have:w0.heap.size≤b:=hb;omega)).mono fun b hb _=>by
     have hb':w0.heap.size≤b:=hb;exact⟨by omega,fun e=>by have:=(hlt b e).2;omega⟩
   have hbF:Below w.heap.size w ((((((((((w3).setCell ⟨wr.heap.size,0,none⟩ (.int .i64 yk)).setCell ⟨wr.heap.size,1,none⟩ (.string ⟨yc.toArray⟩)).setCell ⟨wr.heap.size,2,none⟩ (.bool yn)).setCell ⟨wr.heap.size,3,none⟩ (.slice za yr.length zc)).setCell ⟨wr.heap.size,4,none⟩ (.int .i64 yl)).setCell ⟨wr.heap.size,5,none⟩ (.int .i64 yh)).setCell ⟨wr.heap.size,6,none⟩ (.bool yz)).setCell ⟨wr.heap.size,7,none⟩ (.slice zka ys.length zkc))):=by
    iterate 8 (refine Below.setCell ?_ gV _)
    exact bel2 hb hb3'
   have HOF:=ab hoF;have HRF:=ab hrF;have HCF:=ab hcF;have hzF:w.heap.size≤((((((((((w3).setCell ⟨wr.heap.size,0,none⟩ (.int .i64 yk)).setCell ⟨wr.heap.size,1,none⟩ (.string ⟨yc.toArray⟩)).setCell ⟨wr.heap.size,2,none⟩ (.bool yn)).setCell ⟨wr.heap.size,3,none⟩ (.slice za yr.length zc)).setCell ⟨wr.heap.size,4,none⟩ (.int .i64 yl)).setCell ⟨wr.heap.size,5,none⟩ (.int .i64 yh)).setCell ⟨wr.heap.size,6,none⟩ (.bool yz)).setCell ⟨wr.heap.size,7,none⟩ (.slice zka ys.length zkc))).heap.size:=hbF.size;clear hkF hoF hrF hcF;by_cases hkk:yk=kd
   ·have hkb:(yk==kd)=true:=by simpa using hkk
    have HTK2:Hid (mi kd (xs.take (i+1))=fl++ys):=ab (by rw [HTK.out,Jl (show (Rx.mk yk yc yn yr yl yh yz ys).kind=kd from hkk)];rfl);obtain⟨_,_,_,_,hq,_,hzF2⟩:=HCF.out.open_;unfold rxc at hq;simp only [List.cons.injEq,Value.slice.injEq,and_true,true_and] at hq;obtain⟨⟨rfl,rfl⟩,rfl,rfl⟩:=hq;obtain⟨ds,hds,hdv⟩:=hzF2;have HDS:=ab hds.sl;have HDV:=ab hdv;clear hkk hds hdv;unfold rxc;go_wp2_with (at_builtin;refine lJ w.heap.size 38 rfl _ _ 36 rfl Tryz.underlying36 hix rfl gR rfl HOF.out rfl HDS.out HDV.out.one gN gN gR hzF ?_)
    intro v1 w4 ho1 hg1 hb4 hmv;have hox4:OwnX w4 w.heap.size v1 (mi kd (xs.take (i+1))):=by
     rw [HTK2.out];exact OwnX.app HRF.out HDV.out rfl ho1 hg1 hmv
    have hb4':=hbF.trans hb4;exact cB
   ·have hkb:(yk==kd)=false:=by simpa using hkk
    have HTK2:Hid (mi kd (xs.take (i+1))=fl++[.mk yk yc yn yr yl yh yz ys]):=ab (by rw [HTK.out,Jo (show ¬(Rx.mk yk yc yn yr yl yh yz ys).kind=kd from hkk)]);have hsl:=Sl.lit (n:=1) (sz:=8) (heap_alloc_new ((((((((((w3).setCell ⟨wr.heap.size,0,none⟩ (.int .i64 yk)).setCell ⟨wr.heap.size,1,none⟩ (.string ⟨yc.toArray⟩)).setCell ⟨wr.heap.size,2,none⟩ (.bool yn)).setCell ⟨wr.heap.size,3,none⟩ (.slice za yr.length zc)).setCell ⟨wr.heap.size,4,none⟩ (.int .i64 yl)).setCell ⟨wr.heap.size,5,none⟩ (.int .i64 yh)).setCell ⟨wr.heap.size,6,none⟩ (.bool yz)).setCell ⟨wr.heap.size,7,none⟩ (.slice zka ys.length zkc))) (.cells #[.int .i64 yk,.string ⟨yc.toArray⟩,.bool yn,.slice za yr.length zc,.int .i64 yl,.int .i64 yh,.bool yz,.slice zka ys.length zkc] 38)) rfl;have hszF:((((((((((w3).setCell ⟨wr.heap.size,0,none⟩ (.int .i64 yk)).setCell ⟨wr.heap.size,1,none⟩ (.string ⟨yc.toArray⟩)).setCell ⟨wr.heap.size,2,none⟩ (.bool yn)).setCell ⟨wr.heap.size,3,none⟩ (.slice za yr.length zc)).setCell ⟨wr.heap.size,4,none⟩ (.int .i64 yl)).setCell ⟨wr.heap.size,5,none⟩ (.int .i64 yh)).setCell ⟨wr.heap.size,6,none⟩ (.bool yz)).setCell ⟨wr.heap.size,7,none⟩ (.slice zka ys.length zkc))).heap.size=w3.heap.size:=jP;rw [hszF] at hsl;have hone:=HCF.out.one;have ho3:=lh HOF.out ((Below.refl ((((((((((w3).setCell ⟨wr.heap.size,0,none⟩ (.int .i64 yk)).setCell ⟨wr.heap.size,1,none⟩ (.string ⟨yc.toArray⟩)).setCell ⟨wr.heap.size,2,none⟩ (.bool yn)).setCell ⟨wr.heap.size,3,none⟩ (.slice za yr.length zc)).setCell ⟨wr.heap.size,4,none⟩ (.int .i64 yl)).setCell ⟨wr.heap.size,5,none⟩ (.int .i64 yh)).setCell ⟨wr.heap.size,6,none⟩ (.bool yz)).setCell ⟨wr.heap.size,7,none⟩ (.slice zka ys.length zkc))).heap.size ((((((((((w3).setCell ⟨wr.heap.size,0,none⟩ (.int .i64 yk)).setCell ⟨wr.heap.size,1,none⟩ (.string ⟨yc.toArray⟩)).setCell ⟨wr.heap.size,2,none⟩ (.bool yn)).setCell ⟨wr.heap.size,3,none⟩ (.slice za yr.length zc)).setCell ⟨wr.heap.size,4,none⟩ (.int .i64 yl)).setCell ⟨wr.heap.size,5,none⟩ (.int .i64 yh)).setCell ⟨wr.heap.size,6,none⟩ (.bool yz)).setCell ⟨wr.heap.size,7,none⟩ (.slice zka ys.length zkc)))).alloc (Ju _) (.cells #[.int .i64 yk,.string ⟨yc.toArray⟩,.bool yn,.slice za yr.length zc,.int .i64 yl,.int .i64 yh,.bool yz,.slice zka ys.length zkc] 38));have hrv3:=HRF.out.later ((Below.refl ((((((((((w3).setCell ⟨wr.heap.size,0,none⟩ (.int .i64 yk)).setCell ⟨wr.heap.size,1,none⟩ (.string ⟨yc.toArray⟩)).setCell ⟨wr.heap.size,2,none⟩ (.bool yn)).setCell ⟨wr.heap.size,3,none⟩ (.slice za yr.length zc)).setCell ⟨wr.heap.size,4,none⟩ (.int .i64 yl)).setCell ⟨wr.heap.size,5,none⟩ (.int .i64 yh)).setCell ⟨wr.heap.size,6,none⟩ (.bool yz)).setCell ⟨wr.heap.size,7,none⟩ (.slice zka ys.length zkc))).heap.size ((((((((((w3).setCell ⟨wr.heap.size,0,none⟩ (.int .i64 yk)).setCell ⟨wr.heap.size,1,none⟩ (.string ⟨yc.toArray⟩)).setCell ⟨wr.heap.size,2,none⟩ (.bool yn)).setCell ⟨wr.heap.size,3,none⟩ (.slice za yr.length zc)).setCell ⟨wr.heap.size,4,none⟩ (.int .i64 yl)).setCell ⟨wr.heap.size,5,none⟩ (.int .i64 yh)).setCell ⟨wr.heap.size,6,none⟩ (.bool yz)).setCell ⟨wr.heap.size,7,none⟩ (.slice zka ys.length zkc)))).alloc (Ju _) (.cells #[.int .i64 yk,.string ⟨yc.toArray⟩,.bool yn,.slice za yr.length zc,.int .i64 yl,.int .i64 yh,.bool yz,.slice zka ys.length zkc] 38))
    have hcv3:=HCF.out.later ((Below.refl ((((((((((w3).setCell ⟨wr.heap.size,0,none⟩ (.int .i64 yk)).setCell ⟨wr.heap.size,1,none⟩ (.string ⟨yc.toArray⟩)).setCell ⟨wr.heap.size,2,none⟩ (.bool yn)).setCell ⟨wr.heap.size,3,none⟩ (.slice za yr.length zc)).setCell ⟨wr.heap.size,4,none⟩ (.int .i64 yl)).setCell ⟨wr.heap.size,5,none⟩ (.int .i64 yh)).setCell ⟨wr.heap.size,6,none⟩ (.bool yz)).setCell ⟨wr.heap.size,7,none⟩ (.slice zka ys.length zkc))).heap.size ((((((((((w3).setCell ⟨wr.heap.size,0,none⟩ (.int .i64 yk)).setCell ⟨wr.heap.size,1,none⟩ (.string ⟨yc.toArray⟩)).setCell ⟨wr.heap.size,2,none⟩ (.bool yn)).setCell ⟨wr.heap.size,3,none⟩ (.slice za yr.length zc)).setCell ⟨wr.heap.size,4,none⟩ (.int .i64 yl)).setCell ⟨wr.heap.size,5,none⟩ (.int .i64 yh)).setCell ⟨wr.heap.size,6,none⟩ (.bool yz)).setCell ⟨wr.heap.size,7,none⟩ (.slice zka ys.length zkc)))).alloc (Ju _) (.cells #[.int .i64 yk,.string ⟨yc.toArray⟩,.bool yn,.slice za yr.length zc,.int .i64 yl,.int .i64 yh,.bool yz,.slice zka ys.length zkc] 38));have HO3:=ab ho3;have HSL:=ab hsl;have HRV3':=ab hrv3;have HCV3':=ab hcv3;have HONE:=ab hone;have hzF':w.heap.size≤(((((((((((w3).setCell ⟨wr.heap.size,0,none⟩ (.int .i64 yk)).setCell ⟨wr.heap.size,1,none⟩ (.string ⟨yc.toArray⟩)).setCell ⟨wr.heap.size,2,none⟩ (.bool yn)).setCell ⟨wr.heap.size,3,none⟩ (.slice za yr.length zc)).setCell ⟨wr.heap.size,4,none⟩ (.int .i64 yl)).setCell ⟨wr.heap.size,5,none⟩ (.int .i64 yh)).setCell ⟨wr.heap.size,6,none⟩ (.bool yz)).setCell ⟨wr.heap.size,7,none⟩ (.slice zka ys.length zkc))).alloc (.cells #[.int .i64 yk,.string ⟨yc.toArray⟩,.bool yn,.slice za yr.length zc,.int .i64 yl,.int .i64 yh,.bool yz,.slice zka ys.length zkc] 38)).heap.size:=by rw [JO];omega
    have hbF':=hbF.alloc hzF (.cells #[.int .i64 yk,.string ⟨yc.toArray⟩,.bool yn,.slice za yr.length zc,.int .i64 yl,.int .i64 yh,.bool yz,.slice zka ys.length zkc] 38);clear hkk ho3 hsl hrv3 hcv3 hone;unfold rxc;go_wp2_with (at_builtin;refine lJ w.heap.size 38 rfl _ _ 36 rfl Tryz.underlying36 hix rfl gR rfl HO3.out rfl HSL.out HONE.out gN gN gR hzF' ?_)
    intro v1 w4 ho1 hg1 hb4 hmv;have hox4:OwnX w4 w.heap.size v1 (mi kd (xs.take (i+1))):=by
     rw [HTK2.out];exact OwnX.app (ds:=[_]) (m:=1) HRV3'.out (.cons HCV3'.out .nil) rfl (by simpa using ho1) hg1 hmv
    have hb4':=hbF'.trans hb4;exact cB
def ow (l:List Rx):Rx:=.mk 0 [] false [] 0 0 false l
def tR (l:List Rx):Rx:=.mk 1 [] false [] 0 0 false l
def seqR (xs:List Rx):Rx:=match mi 0 xs with|[x]=>x|l=>ow l
def altR (xs:List Rx):Rx:=match mi 1 xs with|[]=>ow []|[x]=>x|l=>tR l
theorem Seq_any (S:Nat→Prop) (a:Option Addr) (c:Nat) (xs:List Rx) (w:World) (hx:RxSl w S a xs.length xs) (hp:Rx.partsL xs≤1000000) (hsm:Rx.smallL xs) :
  Calls Tryz.prog 122 #[.slice a xs.length c] w fun e w'=>∃cc',e=.returned (.agg cc'.toArray)∧RxV w' (fun b=>w.heap.size≤b) cc' (seqR xs)∧Below w.heap.size w w':=by
 unfold seqR;obtain⟨w0,hw0⟩:∃w0,w0=w.alloc (.cells #[.int .i64 0,.string ⟨#[]⟩,.bool false,.slice none 0 0,.int .i64 0,.int .i64 0,.bool false,.slice none 0 0] 38):=⟨_,rfl⟩;have hb0:Below w.heap.size w w0:=by rw [hw0];exact(Below.refl _ _).alloc (Ju _) _
 have hz0:w0.heap.size=w.heap.size+1:=by rw [hw0];simp
 have hby0:w0.heap[w.heap.size]?=some (.cells #[.int .i64 0,.string ⟨#[]⟩,.bool false,.slice none 0 0,.int .i64 0,.int .i64 0,.bool false,.slice none 0 0] 38 (0,0)):=by rw [hw0];exact heap_alloc_new w _
 have HX0:=ab (hx.later hb0);rw [hw0] at HX0;have HSM:=ab hsm;have HW0:=ab hw0;have HBY0:=ab hby0;have hfl:=sY 0 xs;clear hx hsm hw0 hby0;generalize hL:mi 0 xs=L at *
 go_enter Tryz.func122,Tryz.ntmps122
 go_wp2_with (go_at_call 127;refine(DK S 0 _ _ xs _ HX0.out hp HSM.out).mono ?_)
 rintro e w1 ⟨a1,c1,rfl,hx1,hb1⟩;rw [hL] at hx1 ⊢;rw [←HW0.out] at hb1 hx1;have hbw1:=bel2 hb0 hb1;obtain⟨f0,f1,f2,f3,f4,f5,f6,f7,f8⟩:=kY (c:=[]) ((hb1.block _ (kT HBY0.out)).trans HBY0.out);replace hx1:RxSl w1 (fun b=>w.heap.size+1≤b) a1 L.length L:=hx1.mono fun b hb _=>by have:w0.heap.size≤b:=hb;show w.heap.size+1≤b;omega
 clear hL hb1;rcases L with _|⟨y,_|⟨z,L⟩⟩
 ·have HX1:=ab hx1
  clear hx1;go_wp2
  refine JM (v:=.agg #[.int .i64 0,.string ⟨[].toArray⟩,.bool false,.slice none ([]:List (Str × Str)).length 0,.int .i64 0,.int .i64 0,.bool false,.slice a1 ([]:List Rx).length c1]) jc rfl ?_;refine⟨rxc 0 [] false none ([]:List (Str × Str)).length 0 0 0 false a1 ([]:List Rx).length c1,rfl,RxV.mono (S:=fun b=>w.heap.size+1≤b) (fun b hb _=>by have:w.heap.size+1≤b:=hb;show w.heap.size≤b;omega) (RxV.close ?_ ?_),?_⟩
  ·exact bZ
  ·exact cF
  ·exact fX
 ·obtain⟨yk,yc,yn,yr,yl,yh,yz,ys⟩:=y
  obtain⟨b,o,ya,yrc,yka,ykc,rfl,hS,hbB,hyr,hyx,hyv,c0,c1',c2,c3,c4,c5,c6,c7⟩:=hx1.cells (m:=0) rfl;simp only [Nat.zero_mul,Nat.add_zero] at c0 c1' c2 c3 c4 c5 c6 c7;have HYR:=ab hyr;have HYX:=ab hyx;clear hyr hyx hyv;go_wp2
  refine JM (v:=.agg #[.int .i64 yk,.string ⟨yc.toArray⟩,.bool yn,.slice ya yr.length yrc,.int .i64 yl,.int .i64 yh,.bool yz,.slice yka ys.length ykc]) jc rfl ?_;exact bL
 ·have HX1:=ab hx1
  have hne:(((z::L).length:Int)+1==1)=false:=by rw [JP];simp;omega
  have hne2:((L.length:Int)+1+1==1)=false:=by rw [JP];omega
  clear hx1;go_wp2
  refine JM (v:=.agg #[.int .i64 0,.string ⟨[].toArray⟩,.bool false,.slice none ([]:List (Str × Str)).length 0,.int .i64 0,.int .i64 0,.bool false,.slice a1 (y::z::L).length c1]) jc rfl ?_;refine⟨rxc 0 [] false none ([]:List (Str × Str)).length 0 0 0 false a1 (y::z::L).length c1,rfl,RxV.mono (S:=fun b=>w.heap.size+1≤b) (fun b hb _=>by have:w.heap.size+1≤b:=hb;show w.heap.size≤b;omega) (RxV.close ?_ ?_),?_⟩
  ·exact bZ
  ·exact cF
  ·exact fX
theorem Alt_any (S:Nat→Prop) (a:Option Addr) (c:Nat) (xs:List Rx) (w:World) (hx:RxSl w S a xs.length xs) (hp:Rx.partsL xs≤1000000) (hsm:Rx.smallL xs) :
  Calls Tryz.prog 121 #[.slice a xs.length c] w fun e w'=>∃cc',e=.returned (.agg cc'.toArray)∧RxV w' (fun b=>w.heap.size≤b) cc' (altR xs)∧Below w.heap.size w w':=by
 unfold altR;obtain⟨w0,hw0⟩:∃w0,w0=w.alloc (.cells #[.int .i64 0,.string ⟨#[]⟩,.bool false,.slice none 0 0,.int .i64 0,.int .i64 0,.bool false,.slice none 0 0] 38):=⟨_,rfl⟩;have hb0:Below w.heap.size w w0:=by rw [hw0];exact(Below.refl _ _).alloc (Ju _) _
 have hz0:w0.heap.size=w.heap.size+1:=by rw [hw0];simp
 have hby0:w0.heap[w.heap.size]?=some (.cells #[.int .i64 0,.string ⟨#[]⟩,.bool false,.slice none 0 0,.int .i64 0,.int .i64 0,.bool false,.slice none 0 0] 38 (0,0)):=by rw [hw0];exact heap_alloc_new w _
 have HX0:=ab (hx.later hb0);rw [hw0] at HX0;have HSM:=ab hsm;have HW0:=ab hw0;have HBY0:=ab hby0;have hfl:=sY 1 xs;clear hx hsm hw0 hby0;generalize hL:mi 1 xs=L at *
 go_enter Tryz.func121,Tryz.ntmps121
 go_wp2_with (go_at_call 127;refine(DK S 1 _ _ xs _ HX0.out hp HSM.out).mono ?_)
 rintro e w1 ⟨a1,c1,rfl,hx1,hb1⟩;rw [hL] at hx1 ⊢;rw [←HW0.out] at hb1 hx1;have hbw1:=bel2 hb0 hb1;obtain⟨f0,f1,f2,f3,f4,f5,f6,f7,f8⟩:=kY (c:=[]) ((hb1.block _ (kT HBY0.out)).trans HBY0.out);replace hx1:RxSl w1 (fun b=>w.heap.size+1≤b) a1 L.length L:=hx1.mono fun b hb _=>by have:w0.heap.size≤b:=hb;show w.heap.size+1≤b;omega
 clear hL hb1;rcases L with _|⟨y,_|⟨z,L⟩⟩
 ·clear hx1
  go_wp2
  refine JM (v:=.agg #[.int .i64 0,.string ⟨[].toArray⟩,.bool false,.slice none ([]:List (Str × Str)).length 0,.int .i64 0,.int .i64 0,.bool false,.slice none ([]:List Rx).length 0]) jd rfl ?_;refine⟨rxc 0 [] false none ([]:List (Str × Str)).length 0 0 0 false none ([]:List Rx).length 0,rfl,RxV.mono (S:=fun b=>w.heap.size+1≤b) (fun b hb _=>by have:w.heap.size+1≤b:=hb;show w.heap.size≤b;omega) (RxV.close ?_ ?_),?_⟩
  ·exact bZ
  ·iterate 8 (refine RxSl.keep ?_ (Kept.setLow _ (fun b hb=>by have:w.heap.size+1≤b:=hb;simp;omega)))
   exact⟨[],SlS.none_ _ _ _ _,.nil⟩
  ·exact fX
 ·obtain⟨yk,yc,yn,yr,yl,yh,yz,ys⟩:=y
  obtain⟨b,o,ya,yrc,yka,ykc,rfl,hS,hbB,hyr,hyx,hyv,c0,c1',c2,c3,c4,c5,c6,c7⟩:=hx1.cells (m:=0) rfl;simp only [Nat.zero_mul,Nat.add_zero] at c0 c1' c2 c3 c4 c5 c6 c7;have HYR:=ab hyr;have HYX:=ab hyx;clear hyr hyx hyv;go_wp2
  refine JM (v:=.agg #[.int .i64 yk,.string ⟨yc.toArray⟩,.bool yn,.slice ya yr.length yrc,.int .i64 yl,.int .i64 yh,.bool yz,.slice yka ys.length ykc]) jd rfl ?_;exact bL
 ·have HX1:=ab hx1
  have hne0:((L.length:Int)+1+1==0)=false:=by rw [JP];omega
  have hne2:((L.length:Int)+1+1==1)=false:=by rw [JP];omega
  clear hx1;go_wp2
  refine JM (v:=.agg #[.int .i64 1,.string ⟨[].toArray⟩,.bool false,.slice none ([]:List (Str × Str)).length 0,.int .i64 0,.int .i64 0,.bool false,.slice a1 (y::z::L).length c1]) jd rfl ?_;refine⟨rxc 1 [] false none ([]:List (Str × Str)).length 0 0 0 false a1 (y::z::L).length c1,rfl,RxV.mono (S:=fun b=>w.heap.size+1≤b) (fun b hb _=>by have:w.heap.size+1≤b:=hb;show w.heap.size≤b;omega) (RxV.close ?_ ?_),?_⟩
  ·exact bZ
  ·exact cF
  ·exact fX
theorem mJ:∀a:Str,Op.bytesLess a a=false
 | []=>rfl
 | c::r=>by simp [Op.bytesLess,mJ r]
theorem n9:∀{a b c:Str},Op.bytesLess a b=true→Op.bytesLess b c=true→Op.bytesLess a c=true
 | _,[],_,h,_=>by simp [Op.bytesLess] at h
 | _,_::_,[],_,h=>by simp [Op.bytesLess] at h
 | [],_::_,_::_,_,_=>rfl
 | x::a,y::b,z::c,h1,h2=>by
  simp only [Op.bytesLess,Js,Jy,Jj,Ji] at h1 h2 ⊢;rcases h1 with h1|⟨rfl,h1⟩<;>rcases h2 with h2|⟨rfl,h2⟩
  ·exact .inl (UInt8.lt_trans h1 h2)
  ·exact .inl h1
  ·exact .inl h2
  ·exact .inr ⟨rfl,n9 h1 h2⟩
theorem pi:∀a b:Str,Op.bytesLess a b=true∨a=b∨Op.bytesLess b a=true
 | [],[]=>.inr (.inl rfl)
 | [],_::_=>.inl rfl
 | _::_,[]=>.inr (.inr rfl)
 | x::a,y::b=>by
  simp only [Op.bytesLess,Js,Jy,Jj,Ji];rcases Nat.lt_trichotomy x.toNat y.toNat with h|h|h
  ·exact .inl (.inl (UInt8.lt_iff_toNat_lt.2 h))
  ·obtain rfl:=Jk.1 h
   rcases pi a b with h|rfl|h
   ·exact .inl (.inr ⟨rfl,h⟩)
   ·exact .inr (.inl rfl)
   ·exact .inr (.inr (.inr ⟨rfl,h⟩))
  ·exact .inr (.inr (.inl (UInt8.lt_iff_toNat_lt.2 h)))
theorem qp {a b:Str} (h:Op.bytesLess a b=true):Op.bytesLess b a=false:=by
 cases h2:Op.bytesLess b a with
 | false=>rfl
 | true=>have:=n9 h h2;rw [mJ] at this;cases this
def cmpS (a b:Str):Int:=if Op.bytesLess a b=true then -1 else if a=b then 0 else 1
def cmpR (a b:Str × Str):Int:=if cmpS a.1 b.1=0 then cmpS a.2 b.2 else cmpS a.1 b.1
theorem un (a b:Str):(cmpS a b=-1∧Op.bytesLess a b=true)∨(cmpS a b=0∧a=b)∨(cmpS a b=1∧Op.bytesLess b a=true):=by
 unfold cmpS;rcases pi a b with h|rfl|h
 ·rw [Jl h];exact .inl ⟨rfl,h⟩
 ·rw [Jo (by rw [mJ];simp),Jl rfl];exact .inr (.inl ⟨rfl,rfl⟩)
 ·have h2:=qp h
  rw [Jo (by rw [h2];simp),Jo (by rintro rfl;rw [mJ] at h;cases h)];exact .inr (.inr ⟨rfl,h⟩)
theorem Ir (a:Str) (w:World):Calls Tryz.prog 149 #[.string ⟨a.toArray⟩] w fun e w'=>e=.returned (.bool false)∧w=w':=by
 go_enter Tryz.func149,Tryz.ntmps149
 go_wp2
 go_ret
 exact⟨lM gU,rfl⟩
theorem wQ (a b:Str) (w:World):Calls Tryz.prog 146 #[.string ⟨a.toArray⟩,.string ⟨b.toArray⟩] w fun e w'=>e=.returned (.int .i64 (cmpS a b))∧w=w':=by
 have hc:=ab (un a b);generalize hR:cmpS a b=R
 have HR:=ab hR;clear hR;rcases pi a b with h|rfl|h
 ·have HE:Hid (R=-1):=ab (by rw [←HR.out];unfold cmpS;rw [Jl h])
  exact ce
 ·have HE:Hid (R=0):=ab (by rw [←HR.out];unfold cmpS;rw [Jo (by rw [mJ];simp),Jl rfl])
  have h1:=mJ a;have h2:leS a a=true:=by simp [leS]
  exact ce
 ·have h2:=qp h
  have hne:a≠b:=by rintro rfl;rw [mJ] at h;cases h
  have HE:Hid (R=1):=ab (by rw [←HR.out];unfold cmpS;rw [Jo (by rw [h2];simp),Jo hne]);have h3:leS a b=false:=by simp [leS,h2,hne]
  have h4:(a==b)=false:=by simpa using hne
  exact ce
def OrRel (a b:Int) (w:World) (q:Value) (wr:World):Prop:=wr=w∧(q=.int .i64 0∨(q=.int .i64 1∧a=0)∨(q=.int .i64 2∧a=0∧b=0))
theorem Or_any (a b:Int) (g c:Nat) (w:World) (h0:w.cell? ⟨g,0,none⟩=some (.int .i64 a)) (h1:w.cell? ⟨g,1,none⟩=some (.int .i64 b)) :
  Calls Tryz.prog 145 #[.slice (some ⟨g,0,none⟩) 2 c] w fun e w'=>e=.returned (.int .i64 (if a=0 then b else a))∧w=w':=by
 go_enter Tryz.func145,Tryz.ntmps145
 by_cases ha:a=0
 ·subst ha
  by_cases hb:b=0
  ·subst hb
   go_wp2
   go_loopw [8] (fun q wr=>OrRel 0 0 w q wr) (fun q _=>2-(intOf q).toNat)
   case atStart=>exact⟨rfl,.inl rfl⟩
   case round =>
    obtain⟨rfl,rfl|⟨rfl,_⟩|⟨rfl,_⟩⟩:=hrel
    ·exact eB
    ·go_wp2
     go_roundw
     case rel=>exact⟨rfl,.inr (.inr ⟨rfl,rfl,rfl⟩)⟩
     case measure=>simp [intOf]
    ·exact dq
  ·have hbb:(b==0)=false:=kL
   have hbb':(b != 0)=true:=kL;have HB:=ab hb;clear hb;go_wp2
   go_loopw [8] (fun q wr=>OrRel 0 b w q wr) (fun q _=>2-(intOf q).toNat)
   case atStart=>exact⟨rfl,.inl rfl⟩
   case round =>
    obtain⟨rfl,rfl|⟨rfl,_⟩|⟨rfl,_,hx⟩⟩:=hrel
    ·exact eB
    ·go_wp2
     go_ret
     exact⟨nA gU,rfl⟩
    ·exact absurd hx HB.out
 ·have haa:(a==0)=false:=by simpa using ha
  have haa':(a != 0)=true:=by simpa using ha
  have HA:=ab ha;clear ha;go_wp2
  go_loopw [8] (fun q wr=>OrRel a b w q wr) (fun q _=>2-(intOf q).toNat)
  case atStart=>exact⟨rfl,.inl rfl⟩
  case round =>
   obtain⟨rfl,rfl|⟨rfl,hx⟩|⟨rfl,hx,_⟩⟩:=hrel
   ·go_wp2
    go_ret
    exact⟨nA (by first|rfl|rw [Jo HA.out]),rfl⟩
   ·exact absurd hx HA.out
   ·exact absurd hx HA.out
theorem vj (a b:Str × Str) (w:World) :
  Calls Tryz.prog 144 #[.agg #[.string ⟨(a.1).toArray⟩,.string ⟨(a.2).toArray⟩],.agg #[.string ⟨(b.1).toArray⟩,.string ⟨(b.2).toArray⟩]] w fun e w'=>e=.returned (.int .i64 (cmpR a b))∧Below w.heap.size w w':=by
 obtain⟨a1,a2⟩:=a;obtain⟨b1,b2⟩:=b;generalize hR:cmpR (a1,a2) (b1,b2)=R
 have HR:=ab hR;clear hR;obtain⟨W,hW⟩:∃W,W=(w.alloc (.cells #[.string ⟨a1.toArray⟩,.string ⟨a2.toArray⟩] 93)).alloc (.cells #[.string ⟨b1.toArray⟩,.string ⟨b2.toArray⟩] 93):=⟨_,rfl⟩;have hb0:Below w.heap.size w W:=by rw [hW];exact((Below.refl _ _).alloc (Ju _) _).alloc gU _
 have d0:W.cell? ⟨w.heap.size,0,none⟩=some (.string ⟨a1.toArray⟩):=by rw [hW];simp
 have d1:W.cell? ⟨w.heap.size,1,none⟩=some (.string ⟨a2.toArray⟩):=by rw [hW];simp
 have d2:W.cell? ⟨w.heap.size+1,0,none⟩=some (.string ⟨b1.toArray⟩):=by rw [hW];simp
 have d3:W.cell? ⟨w.heap.size+1,1,none⟩=some (.string ⟨b2.toArray⟩):=by rw [hW];simp
 have HC1:Hid (∀w,Calls Tryz.prog 146 #[.string ⟨a1.toArray⟩,.string ⟨b1.toArray⟩] w fun e w'=>e=.returned (.int .i64 (cmpS a1 b1))∧w'=w):=ab (fun w=>(wQ a1 b1 w).mono fun _ _ ⟨h1,h2⟩=>⟨h1,h2.symm⟩);have HC2:Hid (∀w,Calls Tryz.prog 146 #[.string ⟨a2.toArray⟩,.string ⟨b2.toArray⟩] w fun e w'=>e=.returned (.int .i64 (cmpS a2 b2))∧w'=w):=ab (fun w=>(wQ a2 b2 w).mono fun _ _ ⟨h1,h2⟩=>⟨h1,h2.symm⟩);generalize hc1:cmpS a1 b1=c1 at *
 generalize hc2:cmpS a2 b2=c2 at *
 have HRR:Hid (R=if c1=0 then c2 else c1):=ab (by rw [←HR.out];unfold cmpR;rw [←hc1,←hc2]);clear hc1 hc2 HR;go_enter Tryz.func144,Tryz.ntmps144
 go_wp2
 rw [←hW];clear hW;go_still_tail 10,gT
 still_call (HC1.out _)
 repeat still_step
 still_call (HC2.out _)
 repeat still_step
 try refine wpStill_nil ?_
 change wpList _ _ _ _ _ W.drew
 have hs0:=heap_alloc_new W.drew (.cells #[.int .i64 c1,.int .i64 c2] 3);have z0:(W.drew.alloc (.cells #[.int .i64 c1,.int .i64 c2] 3)).cell? ⟨W.heap.size,0,none⟩=some (.int .i64 c1):=by show (W.drew.alloc _).cell? ⟨W.drew.heap.size,0,none⟩=_;rw [Jw hs0];rfl
 have z1:(W.drew.alloc (.cells #[.int .i64 c1,.int .i64 c2] 3)).cell? ⟨W.heap.size,1,none⟩=some (.int .i64 c2):=by show (W.drew.alloc _).cell? ⟨W.drew.heap.size,1,none⟩=_;rw [Jw hs0];rfl
 go_wp2_with (go_at_call 145;refine(Or_any c1 c2 _ _ _ z0 z1).mono ?_;rintro e w1 ⟨rfl,rfl⟩;rw [←HRR.out])
 go_ret
 exact⟨rfl,(hb0.drew).alloc hb0.size _⟩
abbrev Row:=Str × Str
def RO (w:World) (B g cap:Nat) (rs:List Row):Prop:=w.ownsRow B 93 2 (.slice (some ⟨g,0,none⟩) rs.length cap) rs.length (lw rs)
theorem RO.at_ {w:World} {B g cap:Nat} {rs:List Row} (h:RO w B g cap rs) {i:Nat} {r:Row} (hi:rs[i]?=some r) :
  w.cell? ⟨g,i*2,none⟩=some (.string ⟨(r.1).toArray⟩)∧w.cell? ⟨g,i*2+1,none⟩=some (.string ⟨(r.2).toArray⟩):=by
 have hlt:=(Jx.1 hi).1;obtain⟨c1,c2⟩:=xf hi;exact⟨by rw [h.cellAt _ gN];exact c1,by rw [h.cellAt _ gN];exact c2⟩
theorem RO.free {w:World} {B g cap:Nat} {rs:List Row} (h:RO w B g cap rs) (j:Nat):w.frozen? ⟨g,j,none⟩=false:=h.frozenAt j
theorem xX:∀(rs:List Row) (i:Nat) (y:Row),i<rs.length→lw (rs.set i y)=((lw rs).set (i*2) (.string ⟨(y.1).toArray⟩)).set (i*2+1) (.string ⟨(y.2).toArray⟩)
 | [],i,y,h=>by simp at h
 | r::rs,0,y,_=>by simp [lw]
 | r::rs,i+1,y,h=>by
  have ih:=xX rs i y gQ;have h1:∀l:List Row,lw (r::l)=.string ⟨(r.1).toArray⟩::.string ⟨(r.2).toArray⟩::lw l:=fun l=>by simp [lw]
  rw [List.set_cons_succ,h1,h1,ih,show (i+1)*2=i*2+2 by omega];rfl
theorem RO.set {w:World} {B g cap:Nat} {rs:List Row} (h:RO w B g cap rs) {i:Nat} (y:Row) (hi:i<rs.length) :
  RO ((w.setCell ⟨g,i*2,none⟩ (.string ⟨(y.1).toArray⟩)).setCell ⟨g,i*2+1,none⟩ (.string ⟨(y.2).toArray⟩)) B g cap (rs.set i y):=by
 have h1:=((h.stored (i*2) (.string ⟨(y.1).toArray⟩)).1.stored (i*2+1) (.string ⟨(y.2).toArray⟩)).1;unfold RO;rw [xX rs i y hi,List.length_set];exact h1
theorem lp {w w':World} {g:Nat} (h:w.grownBy w' (some g)) (o:Nat) (u:Value):w.grownBy (w'.setCell ⟨g,o,none⟩ u) (some g) :=
 ⟨h.os,h.tape,h.output,by simp [World.setCell];exact h.size,fun k hk hne=>(heap_setCell_other w' ⟨g,o,none⟩ k u (fun e=>hne (by simp [e]))).trans (h.block k hk hne)⟩
theorem pA {w w' w2:World} {row:Option Nat} (h:w.grownBy w' row) (hb:Below w'.heap.size w' w2):w.grownBy w2 row :=
 ⟨hb.os.trans h.os,hb.tape.trans h.tape,hb.output.trans h.output,Jv h.size hb.size,fun k hk hne=>(hb.block k (Jt hk h.size)).trans (h.block k hk hne)⟩
theorem kR {a b c:World} {row:Option Nat} (h1:a.grownBy b row) (h2:b.grownBy c row):a.grownBy c row :=
 ⟨h2.os.trans h1.os,h2.tape.trans h1.tape,h2.output.trans h1.output,Jv h1.size h2.size,fun k hk hne=>(h2.block k (Jt hk h1.size) hne).trans (h1.block k hk hne)⟩
theorem lF (w:World) (row:Option Nat):w.grownBy w row:=⟨rfl,rfl,rfl,Ju _,fun _ _ _=>rfl⟩
theorem r7 {w w':World} {row:Option Nat} (h:w.grownBy w' row):w.grownBy w'.drew row:=⟨h.os,h.tape,h.output,h.size,h.block⟩
def oA (rs:List Row) (i j:Nat):List Row:=match rs[i]?,rs[j]? with|some x,some y=>(rs.set i y).set j x|_,_=>rs
theorem oP (rs:List Row) (i j:Nat):(oA rs i j).length=rs.length:=by
 unfold oA;split<;>simp
theorem DC {rs:List Row} {i j:Nat} {x y:Row} (hi:rs[i]?=some x) (hj:rs[j]?=some y):oA rs i j=(rs.set i y).set j x:=by
 unfold oA;rw [hi,hj]
theorem RO.swap {w:World} {B g cap:Nat} {rs:List Row} (h:RO w B g cap rs) {i j:Nat} {x y:Row} (hi:rs[i]?=some x) (hj:rs[j]?=some y) :
  RO ((((w.setCell ⟨g,i*2,none⟩ (.string ⟨(y.1).toArray⟩)).setCell ⟨g,i*2+1,none⟩ (.string ⟨(y.2).toArray⟩)).setCell ⟨g,j*2,none⟩ (.string ⟨(x.1).toArray⟩)).setCell ⟨g,j*2+1,none⟩ (.string ⟨(x.2).toArray⟩)).drew B g cap (oA rs i j):=by
 have h1:=(Jx.1 hi).1;have h2:=(Jx.1 hj).1;rw [DC hi hj];exact((h.set y h1).set x (by simpa using h2):RO _ _ _ _ _)
def SwRel (B g cap a b n:Nat) (N:Nat) (R:List Row) (w:World) (q:Value) (wr:World):Prop :=
 ∃(i:Nat) (rs:List Row),i≤n∧q=.int .i64 i∧RO wr B g cap rs∧w.grownBy wr (some g)∧rs.length=N ∧
  Hid ((List.range' i (n-i)).foldl (fun l k=>oA l (a+k) (b+k)) rs=R)
def vJ (rs:List Row) (a b n:Nat):List Row:=(List.range' 0 n).foldl (fun l k=>oA l (a+k) (b+k)) rs
theorem zW (B g cap:Nat) (rs:List Row) (a b n:Nat) (f:Value) (w:World) (h:RO w B g cap rs) (ha:a+n≤rs.length) (hb:b+n≤rs.length) (hl:rs.length≤1000000) :
  Calls Tryz.prog 153 #[.slice (some ⟨g,0,none⟩) rs.length cap,.int .i64 a,.int .i64 b,.int .i64 n,f] w fun e w'=>e=.returned (.tuple #[])∧RO w' B g cap (vJ rs a b n)∧w.grownBy w' (some g):=by
 obtain⟨R,hR⟩:∃R,vJ rs a b n=R:=⟨_,rfl⟩;rw [hR];have HR0:Hid ((List.range' 0 (n-0)).foldl (fun l k=>oA l (a+k) (b+k)) rs=R):=ab hR;obtain⟨N,hN⟩:∃N,N=rs.length:=⟨_,rfl⟩;have HN:=ab hN;have HRO:=ab h;rw [←hN] at ha hb hl ⊢;clear hR h hN;go_enter Tryz.func153,Tryz.ntmps153
 go_wp2
 go_loopw [10] (fun q wr=>SwRel B g cap a b n N R w q wr) (fun q _=>n-(intOf q).toNat)
 case atStart=>exact⟨0,rs,by omega,rfl,HRO.out,lF _ _,HN.out.symm,HR0⟩
 case round =>
  obtain⟨i,l,hin,rfl,hro,hg,hlN,HF⟩:=hrel;clear HR0 HRO HN;by_cases h2:i<n
  ·obtain⟨x,hx⟩:∃x,l[a+i]?=some x:=⟨_,Jn gN⟩
   obtain⟨y,hy⟩:∃y,l[b+i]?=some y:=⟨_,Jn gN⟩;obtain⟨c1,c2⟩:=hro.at_ hx;obtain⟨c3,c4⟩:=hro.at_ hy;have f:=fun j=>hro.free j
   have HF2:Hid ((List.range' (i+1) (n-(i+1))).foldl (fun l k=>oA l (a+k) (b+k)) (oA l (a+i) (b+i))=R):=ab (by
    rw [←HF.out,show n-i=(n-(i+1))+1 by omega,List.range'_succ,JQ])
   have hsw:=hro.swap hx hy;have HSW:=ab hsw;have hgs:=r7 (lp (lp (lp (lp hg ((a+i)*2) (.string ⟨(y.1).toArray⟩)) ((a+i)*2+1) (.string ⟨(y.2).toArray⟩)) ((b+i)*2) (.string ⟨(x.1).toArray⟩)) ((b+i)*2+1) (.string ⟨(x.2).toArray⟩));have HGS:=ab hgs;have hro2:=hro.set y (i:=a+i) gN;obtain⟨z,hz⟩:∃z,(l.set (a+i) y)[b+i]?=some z:=⟨_,Jn gV⟩;obtain⟨c5,c6⟩:=hro2.at_ hz;have f2:=fun j=>hro2.free j
   obtain⟨x1,x2⟩:=x;obtain⟨y1,y2⟩:=y;clear hsw hgs HF hro hx hy hz hro2;go_wp2
   go_region
   go_wp2
   exact⟨⟨i+1,oA l (a+i) (b+i),by omega,by go_num,HSW.out,HGS.out,by rw [oP];exact hlN,HF2⟩,by simp [intOf];omega⟩
  ·have hni:i=n:=gN
   have HE:Hid (l=R):=ab (by rw [←HF.out,hni,Nat.sub_self];rfl);clear HF;go_wp2
   go_end0
   exact⟨rfl,by rw [←HE.out];exact hro,hg⟩
theorem sC (a b:Nat):∀(ks:List Nat) (rs:List Row),(ks.foldl (fun l k=>oA l (a+k) (b+k)) rs).length=rs.length
 | [],rs=>rfl
 | k::ks,rs=>by rw [JQ,sC a b ks,oP]
theorem rL (rs:List Row) (a b n:Nat):(vJ rs a b n).length=rs.length:=sC _ _ _ _
theorem rC {B g cap N:Nat} {rs:List Row} {a b n:Nat} {az bz nz:Int} (f:Value) (w:World) (h:RO w B g cap rs) (hN:rs.length=N) (h1:az=a) (h2:bz=b) (h3:nz=n) (ha:a+n≤N) (hb:b+n≤N) (hl:N≤1000000) :
  Calls Tryz.prog 153 #[.slice (some ⟨g,0,none⟩) N cap,.int .i64 az,.int .i64 bz,.int .i64 nz,f] w fun e w'=>e=.returned (.tuple #[])∧RO w' B g cap (vJ rs a b n)∧w.grownBy w' (some g):=by
 subst h1 h2 h3 hN;exact zW B g cap rs a b n f w h ha hb hl
def rotL:Nat→List Row→Nat→Nat→Nat→List Row
 | 0,rs,_,_,_=>rs
 | k+1,rs,m,i,j =>
  if i=j then vJ rs (m-i) m i
  else if j<i then rotL k (vJ rs (m-i) m j) m (i-j) j
  else rotL k (vJ rs (m-i) (m+j-i) i) m i (j-i)
def RtRel (B g cap m N:Nat) (R:List Row) (w:World) (p q:Value) (wr:World):Prop :=
 ∃(i j k:Nat) (rs:List Row),p=.int .i64 i∧q=.int .i64 j∧0<i∧0<j∧i≤m∧m+j≤N∧i+j≤k∧RO wr B g cap rs∧w.grownBy wr (some g)∧rs.length=N∧Hid (rotL k rs m i j=R)
theorem Fh (B g cap N:Nat) (rs:List Row) (a m b:Nat) (f:Value) (w:World) (h:RO w B g cap rs) (hN:rs.length=N) (ha:a<m) (hb:m<b) (hbn:b≤N) (hl:N≤1000000) :
  Calls Tryz.prog 152 #[.slice (some ⟨g,0,none⟩) N cap,.int .i64 a,.int .i64 m,.int .i64 b,f] w fun e w'=>e=.returned (.tuple #[])∧RO w' B g cap (rotL (b-a) rs m (m-a) (b-m))∧w.grownBy w' (some g):=by
 obtain⟨R,hR⟩:∃R,rotL (b-a) rs m (m-a) (b-m)=R:=⟨_,rfl⟩;rw [hR];have HR:=ab hR;have HRO:=ab h;clear hR h;go_enter Tryz.func152,Tryz.ntmps152
 go_wp2
 go_loopw [10,11] (fun p q wr=>RtRel B g cap m N R w p q wr) (fun p q _=>(intOf p).toNat+(intOf q).toNat)
 case atStart=>exact⟨m-a,b-m,b-a,rs,by go_num,by go_num,by omega,by omega,by omega,by omega,by omega,HRO.out,lF _ _,hN,HR⟩
 case round =>
  obtain⟨i,j,k,l,rfl,rfl,hi,hj,him,hjn,hk,hro,hg,hlN,HF⟩:=hrel;clear HR HRO hN;obtain⟨k,rfl⟩:∃k',k=k'+1:=⟨k-1,by omega⟩;by_cases hij:i=j
  ·subst hij
   have HE:Hid (vJ l (m-i) m i=R):=ab (by rw [←HF.out];simp only [rotL];rw [Jl trivial]);have HO:=ab (rC (az:=(m:Int)-i) (bz:=m) (nz:=i) f wr hro hlN gN rfl rfl (a:=m-i) (b:=m) (n:=i) gN gN hl);clear HF hro;go_wp2_with (go_at_call 153;refine HO.out.mono ?_;rintro e w1 ⟨rfl,hr1,hg1⟩)
   go_end0
   exact⟨rfl,by rw [←HE.out];exact hr1,kR hg hg1⟩
  ·have e1:((i:Int)==j)=false:=by rw [JP];omega
   have e2:((i:Int) != j)=true:=by rw [bne_iff_ne];omega
   by_cases hlt:j<i
   ·have HE:Hid (rotL k (vJ l (m-i) m j) m (i-j) j=R):=ab (by rw [←HF.out];simp only [rotL];rw [Jo hij,Jl hlt])
    have HO:=ab (rC (az:=(m:Int)-i) (bz:=m) (nz:=j) f wr hro hlN gN rfl rfl (a:=m-i) (b:=m) (n:=j) gN gN hl);clear HF hro hij;go_wp2_with (go_at_call 153;refine HO.out.mono ?_;rintro e w1 ⟨rfl,hr1,hg1⟩)
    go_roundw
    case rel=>exact⟨i-j,j,k,_,by go_num,rfl,by omega,by omega,by omega,by omega,by omega,hr1,kR hg hg1,by rw [rL];exact hlN,HE⟩
    case measure=>simp [intOf];omega
   ·have HE:Hid (rotL k (vJ l (m-i) (m+j-i) i) m i (j-i)=R):=ab (by rw [←HF.out];simp only [rotL];rw [Jo hij,Jo hlt])
    have HO:=ab (rC (az:=(m:Int)-i) (bz:=(m:Int)+j-i) (nz:=i) f wr hro hlN gN gN rfl (a:=m-i) (b:=m+j-i) (n:=i) gN gN hl);have hlt2:i<j:=gN;clear HF hro hij;go_wp2_with (go_at_call 153;refine HO.out.mono ?_;rintro e w1 ⟨rfl,hr1,hg1⟩)
    go_roundw
    case rel=>exact⟨i,j-i,k,_,rfl,by go_num,by omega,by omega,by omega,by omega,by omega,hr1,kR hg hg1,by rw [rL];exact hlN,HE⟩
    case measure=>simp [intOf];omega
def tg (a:Nat):Nat→List Row→List Row
 | 0,rs=>rs
 | j+1,rs=>match rs[j+1]?,rs[j]? with
  | some x,some y=>if a<j+1∧cmpR x y<0 then tg a j (oA rs (j+1) j) else rs
  | _,_=>rs
def oW (a:Nat):Nat→Nat→List Row→List Row
 | 0,_,rs=>rs
 | k+1,i,rs=>oW a k (i+1) (tg a i rs)
theorem wI (a:Nat):∀(j:Nat) (rs:List Row),(tg a j rs).length=rs.length
 | 0,rs=>rfl
 | j+1,rs=>by
  simp only [tg];split
  ·split
   ·rw [wI a j,oP]
   ·rfl
  ·rfl
theorem sk (a:Nat):∀(k i:Nat) (rs:List Row),(oW a k i rs).length=rs.length
 | 0,_,_=>rfl
 | k+1,i,rs=>by simp only [oW];rw [sk a k,wI]
def InRel (B g cap a b N:Nat) (R:List Row) (w:World) (q:Value) (wr:World):Prop :=
 ∃(i:Nat) (rs:List Row),q=.int .i64 i∧a<i∧(i≤b∨i=a+1)∧RO wr B g cap rs∧w.grownBy wr (some g)∧rs.length=N∧Hid (oW a (b-i) i rs=R)
def IjRel (B g cap a i N:Nat) (R:List Row) (w:World) (q:Value) (wr:World):Prop :=
 ∃(j:Nat) (rs:List Row),q=.int .i64 j∧a≤j∧j≤i∧RO wr B g cap rs∧w.grownBy wr (some g)∧rs.length=N∧Hid (tg a j rs=R)
theorem zT (B g cap N:Nat) (rs:List Row) (a b:Nat) (w:World) (h:RO w B g cap rs) (hN:rs.length=N) (hbn:b≤N) (hl:N≤1000000) (haN:a≤N) :
  Calls Tryz.prog 150 #[.slice (some ⟨g,0,none⟩) N cap,.int .i64 a,.int .i64 b,.func (.func 144) #[] #[]] w fun e w'=>e=.returned (.tuple #[])∧RO w' B g cap (oW a (b-(a+1)) (a+1) rs)∧w.grownBy w' (some g):=by
 obtain⟨R,hR⟩:∃R,oW a (b-(a+1)) (a+1) rs=R:=⟨_,rfl⟩;rw [hR];have HR:=ab hR;have HRO:=ab h;clear hR h;go_enter Tryz.func150,Tryz.ntmps150
 go_wp2
 go_loopw [8] (fun q wr=>InRel B g cap a b N R w q wr) (fun q _=>b-(intOf q).toNat)
 case atStart=>exact⟨a+1,rs,by go_num,by omega,.inr rfl,HRO.out,lF _ _,hN,HR⟩
 case round =>
  obtain⟨i,l,rfl,hai,hib,hro,hg,hlN,HF⟩:=hrel;clear HR HRO hN;by_cases hlt:i<b
  ·obtain⟨T,hT⟩:∃T,tg a i l=T:=⟨_,rfl⟩
   have HT0:=ab hT;have HTN:T.length=N:=by rw [←hT,wI];exact hlN
   have HE:Hid (oW a (b-(i+1)) (i+1) T=R):=ab (by rw [←HF.out,show b-i=(b-(i+1))+1 by omega];simp only [oW];rw [hT]);have HRO:=ab hro;clear HF hT hib hro;obtain⟨wo,rfl⟩:∃wo:World,wo=wr:=⟨_,rfl⟩;go_wp2
   go_loopw [9] (fun q wk=>IjRel B g cap a i N T wo q wk) (fun q _=>(intOf q).toNat)
   case atStart=>exact⟨i,l,rfl,by omega,by omega,HRO.out,lF _ _,hlN,HT0⟩
   case round =>
    obtain⟨j,lj,rfl,haj,hji,hroj,hgj,hljN,HG⟩:=hrel;clear HT0 HRO hlN;by_cases hja:a<j
    ·obtain⟨j,rfl⟩:∃j',j=j'+1:=⟨j-1,by omega⟩
     obtain⟨x,hx⟩:∃x,lj[j+1]?=some x:=⟨_,Jn gN⟩;obtain⟨y,hy⟩:∃y,lj[j]?=some y:=⟨_,Jn gN⟩;obtain⟨c1,c2⟩:=hroj.at_ hx;obtain⟨c3,c4⟩:=hroj.at_ hy;obtain⟨x1,x2⟩:=x;obtain⟨y1,y2⟩:=y;obtain⟨cv,hcv⟩:∃cv,cmpR (x1,x2) (y1,y2)=cv:=⟨_,rfl⟩;have HG2:Hid ((if a<j+1∧cv<0 then tg a j (oA lj (j+1) j) else lj)=T):=ab (by
      rw [←HG.out,←hcv];simp only [tg];rw [hx,hy])
     have HCV:Hid (∀w:World,Calls Tryz.prog 144 #[.agg #[.string ⟨x1.toArray⟩,.string ⟨x2.toArray⟩],.agg #[.string ⟨y1.toArray⟩,.string ⟨y2.toArray⟩]] w fun e w'=>e=.returned (.int .i64 cv)∧Below w.heap.size w w'):=ab (fun w=>by
      rw [←hcv];exact vj (x1,x2) (y1,y2) w)
     have d1:∀x:ExtOf wr,x.val.cell? ⟨g,(j+1)*2,none⟩=some (.string ⟨x1.toArray⟩):=ExtOf.cell c1;have d2:∀x:ExtOf wr,x.val.cell? ⟨g,(j+1)*2+1,none⟩=some (.string ⟨x2.toArray⟩):=ExtOf.cell c2;have d3:∀x:ExtOf wr,x.val.cell? ⟨g,j*2,none⟩=some (.string ⟨y1.toArray⟩):=ExtOf.cell c3;have d4:∀x:ExtOf wr,x.val.cell? ⟨g,j*2+1,none⟩=some (.string ⟨y2.toArray⟩):=ExtOf.cell c4;have HX:=ab hx;have HY:=ab hy;have HROJ:=ab hroj;have hgt:decide (a<j+1)=true:=JR gN;have hgt2:decide ((a:Int)<(j:Int)+1)=true:=JR gN;clear hcv hx hy hroj HG c1 c2 c3 c4;go_wp2
     refine kZ gT gT ?_;repeat (go_big_quiet_step ((go_at_call 144;exact lW (HCV.out _))))
     refine wpQuiet_nil ?_;rintro _ ⟨xq,rfl⟩;have hrq:RO xq.val B g cap lj:=lh HROJ.out xq.ext;have hgq:=pA hgj xq.ext;obtain⟨w5,hw5⟩:∃w5,w5=xq.val:=⟨_,rfl⟩;rw [←hw5] at hrq hgq ⊢;clear hw5;clear xq;by_cases hc0:cv<0
     ·have hc0':decide (cv<0)=true:=JR hc0
      have HE2:Hid (tg a j (oA lj (j+1) j)=T):=ab (by rw [←HG2.out,Jl ⟨hja,hc0⟩]);obtain⟨c1,c2⟩:=hrq.at_ HX.out;obtain⟨c3,c4⟩:=hrq.at_ HY.out;have f:=fun k=>hrq.free k
      have hro2:=hrq.set (y1,y2) (i:=j+1) gN;obtain⟨z,hz⟩:∃z,(lj.set (j+1) (y1,y2))[j]?=some z:=⟨_,Jn gV⟩;obtain⟨c5,c6⟩:=hro2.at_ hz;have f2:=fun k=>hro2.free k
      dsimp only at c1 c2 c3 c4 c5 c6 f2
      clear c5 c6 f2;obtain⟨z1,z2⟩:=z;have c5:((w5.setCell ⟨g,(j+1)*2,none⟩ (.string ⟨y1.toArray⟩)).setCell ⟨g,(j+1)*2+1,none⟩ (.string ⟨y2.toArray⟩)).cell? ⟨g,j*2,none⟩=some (.string ⟨z1.toArray⟩):=(hro2.at_ hz).1;have c6:((w5.setCell ⟨g,(j+1)*2,none⟩ (.string ⟨y1.toArray⟩)).setCell ⟨g,(j+1)*2+1,none⟩ (.string ⟨y2.toArray⟩)).cell? ⟨g,j*2+1,none⟩=some (.string ⟨z2.toArray⟩):=(hro2.at_ hz).2;have hsw:=hrq.swap HX.out HY.out;dsimp only at hsw
      have HSW:=ab hsw;have HGS:=ab (r7 (lp (lp (lp (lp hgq ((j+1)*2) (.string ⟨y1.toArray⟩)) ((j+1)*2+1) (.string ⟨y2.toArray⟩)) (j*2) (.string ⟨x1.toArray⟩)) (j*2+1) (.string ⟨x2.toArray⟩)));go_wp2
      clear hrq hgq hro2 hz hc0 HG2 d1 d2 d3 d4 hsw hgt hgt2 hc0';go_region
      go_wp2
      go_roundw
      case rel=>exact⟨j,oA lj (j+1) j,by go_num,by omega,by omega,HSW.out,HGS.out,by rw [oP];exact hljN,HE2⟩
      case measure=>simp [intOf]
     ·have hc0':decide (cv<0)=false:=JT hc0
      have HE2:Hid (lj=T):=ab (by rw [←HG2.out,Jo (fun q=>hc0 q.2)]);have hc9:0≤cv:=gN;clear hc0 HG2 d1 d2 d3 d4;go_wp2
      exact⟨⟨i+1,T,by go_num,by omega,.inl gN,by rw [←HE2.out];exact hrq,kR hg hgq,HTN,HE⟩,by simp [intOf];omega⟩
    ·have hja':j≤a:=gN
     have HE2:Hid (lj=T):=ab (by
      rw [←HG.out];cases j with
      | zero=>rfl
      | succ j =>
       simp only [tg];split
       ·rw [Jo (fun q=>hja q.1)]
       ·rfl)
     have hgt:decide (a<j)=false:=JT gN;clear hja HG;go_wp2
     refine kZ gT gT ?_;repeat (go_big_quiet_step ((fail)))
     refine wpQuiet_nil ?_;rintro _ ⟨xq,rfl⟩;go_wp2
     exact⟨⟨i+1,T,by go_num,by omega,.inl gN,by rw [←HE2.out];exact lh hroj xq.ext,kR hg (pA hgj xq.ext),HTN,HE⟩,by simp [intOf];omega⟩
  ·have HE:Hid (l=R):=ab (by rw [←HF.out,show b-i=0 by omega];rfl)
   clear HF;go_wp2
   go_end0
   exact⟨rfl,by rw [←HE.out];exact hro,hg⟩
def bs (p:Nat→Bool):Nat→Nat→Nat→Nat
 | 0,i,_=>i
 | k+1,i,j=>if i<j then(if p ((i+j) / 2)=true then bs p k ((i+j) / 2+1) j else bs p k i ((i+j) / 2)) else i
theorem zE (p:Nat→Bool):∀(k i j:Nat),i≤j→i≤bs p k i j∧bs p k i j≤j
 | 0,i,j,h=>by simp [bs];exact h
 | k+1,i,j,h=>by
  simp only [bs];split
  ·split
   ·have:=zE p k ((i+j) / 2+1) j gN;omega
   ·have:=zE p k i ((i+j) / 2) gN;omega
  ·omega
def ltAt (rs:List Row) (x y:Nat):Bool:=match rs[x]?,rs[y]? with|some r,some s=>decide (cmpR r s<0)|_,_=>false
theorem zA {rs:List Row} {x y:Nat} {r s:Row} (h1:rs[x]?=some r) (h2:rs[y]?=some s):ltAt rs x y=decide (cmpR r s<0):=by
 unfold ltAt;rw [h1,h2]
def upSw (rs:List Row) (a n:Nat):List Row:=(List.range' a n).foldl (fun l k=>oA l k (k+1)) rs
def dnSw:Nat→List Row→Nat→List Row
 | 0,rs,_=>rs
 | n+1,rs,m=>dnSw n (oA rs m (m-1)) (m-1)
theorem Dk:∀(n:Nat) (rs:List Row) (m:Nat),(dnSw n rs m).length=rs.length
 | 0,_,_=>rfl
 | n+1,rs,m=>by simp only [dnSw];rw [Dk n,oP]
theorem upSw_len (rs:List Row) (a n:Nat):(upSw rs a n).length=rs.length:=by
 unfold upSw;have:∀(ks:List Nat) (rs:List Row),(ks.foldl (fun l k=>oA l k (k+1)) rs).length=rs.length:=by
  intro ks;induction ks with
  | nil=>intro rs;rfl
  | cons k ks ih=>intro rs;rw [JQ,ih,oP]
 exact this _ _
def wY (B g cap:Nat) (rs:List Row) (p:Nat→Bool) (lo hi T:Nat) (w:World) (q s:Value) (wr:World):Prop :=
 ∃(i j k:Nat),q=.int .i64 i∧s=.int .i64 j∧lo≤i∧i≤j∧j≤hi∧j-i≤k∧RO wr B g cap rs∧w.grownBy wr (some g)∧Hid (bs p k i j=T)
def UpRel (B g cap N i:Nat) (R:List Row) (w:World) (q:Value) (wr:World):Prop :=
 ∃(k:Nat) (rs:List Row),q=.int .i64 k∧k+1≤i∧RO wr B g cap rs∧w.grownBy wr (some g)∧rs.length=N∧Hid (upSw rs k (i-1-k)=R)
theorem Ay (B g cap N:Nat) (rs:List Row) (a b:Nat) (w:World) (h:RO w B g cap rs) (hN:rs.length=N) (hab:a+1<b) (hbn:b≤N) (hl:N≤1000000) :
  Calls Tryz.prog 151 #[.slice (some ⟨g,0,none⟩) N cap,.int .i64 a,.int .i64 ((a:Int)+1),.int .i64 b,.func (.func 144) #[] #[]] w fun e w'=>e=.returned (.tuple #[])∧RO w' B g cap (upSw rs a (bs (fun h=>ltAt rs h a) b (a+1) b-1-a))∧w.grownBy w' (some g):=by
 obtain⟨T,hT⟩:∃T,bs (fun h=>ltAt rs h a) b (a+1) b=T:=⟨_,rfl⟩;have hbd:=zE (fun h=>ltAt rs h a) b (a+1) b gN;rw [hT] at hbd ⊢;have HT:=ab hT;have HRO:=ab h;have e1:((a:Int)+1-a)=1:=gN;obtain⟨R,hR⟩:∃R,upSw rs a (T-1-a)=R:=⟨_,rfl⟩;have HR:=ab hR;rw [hR];clear hT h hR;go_enter Tryz.func151,Tryz.ntmps151
 go_wp2
 go_loopw [10,11] (fun q s wr=>wY B g cap rs (fun h=>ltAt rs h a) (a+1) b T w q s wr) (fun q s _=>(intOf s).toNat-(intOf q).toNat)
 case atStart=>exact⟨a+1,b,b,by go_num,rfl,by omega,by omega,by omega,by omega,HRO.out,lF _ _,HT⟩
 case round =>
  obtain⟨i,j,k,rfl,rfl,hi,hij,hj,hk,hro,hg,HF⟩:=hrel;clear HT HRO;by_cases hlt:i<j
  ·obtain⟨k,rfl⟩:∃k',k=k'+1:=⟨k-1,by omega⟩
   obtain⟨H,hH⟩:∃H,(i+j) / 2=H:=⟨_,rfl⟩;have hH2:((i:Int)+j) / 2=(H:Int):=gN;have hHb:i≤H∧H<j:=gN;obtain⟨x,hx⟩:∃x,rs[H]?=some x:=⟨_,Jn gN⟩;obtain⟨y,hy⟩:∃y,rs[a]?=some y:=⟨_,Jn gN⟩;obtain⟨c1,c2⟩:=hro.at_ hx;obtain⟨c3,c4⟩:=hro.at_ hy;obtain⟨x1,x2⟩:=x;obtain⟨y1,y2⟩:=y;obtain⟨cv,hcv⟩:∃cv,cmpR (x1,x2) (y1,y2)=cv:=⟨_,rfl⟩;have HCV:Hid (∀w:World,Calls Tryz.prog 144 #[.agg #[.string ⟨x1.toArray⟩,.string ⟨x2.toArray⟩],.agg #[.string ⟨y1.toArray⟩,.string ⟨y2.toArray⟩]] w fun e w'=>e=.returned (.int .i64 cv)∧Below w.heap.size w w'):=ab (fun w=>by
    rw [←hcv];exact vj (x1,x2) (y1,y2) w)
   have d1:∀x:ExtOf wr,x.val.cell? ⟨g,(H)*2,none⟩=some (.string ⟨x1.toArray⟩):=ExtOf.cell c1;have d2:∀x:ExtOf wr,x.val.cell? ⟨g,(H)*2+1,none⟩=some (.string ⟨x2.toArray⟩):=ExtOf.cell c2;have d3:∀x:ExtOf wr,x.val.cell? ⟨g,(a)*2,none⟩=some (.string ⟨y1.toArray⟩):=ExtOf.cell c3;have d4:∀x:ExtOf wr,x.val.cell? ⟨g,(a)*2+1,none⟩=some (.string ⟨y2.toArray⟩):=ExtOf.cell c4;have HX:=ab hx;have HY:=ab hy;have HROJ:=ab hro;clear hx hy c1 c2 c3 c4;have HF2:Hid ((if cv<0 then bs (fun h=>ltAt rs h a) k (H+1) j else bs (fun h=>ltAt rs h a) k i H)=T):=ab (by
    have hp:ltAt rs H a=decide (cv<0):=by rw [zA HX.out HY.out,hcv]
    rw [←HF.out];simp only [bs,hlt,if_true,hH,hp,Jj])
   clear hcv hH HF hro;go_wp2
   refine kZ gT gT ?_;repeat (go_big_quiet_step ((go_at_call 144;exact lW (HCV.out _))))
   refine wpQuiet_nil ?_;rintro _ ⟨xq,rfl⟩;have hrq:RO xq.val B g cap rs:=lh HROJ.out xq.ext;have hgq:=pA hg xq.ext;clear d1 d2 d3 d4;by_cases hc0:cv<0
   ·have hc0':decide (cv<0)=true:=JR hc0
    have HE2:=ab ((Jl hc0).symm.trans HF2.out);exact fG
   ·have hc0':decide (cv<0)=false:=JT hc0
    have hc9:0≤cv:=gN;have HE2:=ab ((Jo hc0).symm.trans HF2.out);clear hc0;exact fI
  ·have hij2:i=T:=by
    exact dl
   subst hij2;have HRO:=ab hro;clear HF hro hk;obtain⟨wo,rfl⟩:∃wo:World,wo=wr:=⟨_,rfl⟩;go_wp2
   go_loopw [13] (fun q wk=>UpRel B g cap N i R wo q wk) (fun q _=>i-(intOf q).toNat)
   case atStart=>exact⟨a,rs,rfl,by omega,HRO.out,lF _ _,hN,HR⟩
   case round =>
    obtain⟨m,l,rfl,hmi,hrol,hgl,hlN,HG⟩:=hrel;clear HR HRO;by_cases hm:m+1<i
    ·obtain⟨x,hx⟩:∃x,l[m]?=some x:=⟨_,Jn gN⟩
     obtain⟨y,hy⟩:∃y,l[m+1]?=some y:=⟨_,Jn gN⟩;have HG2:Hid (upSw (oA l m (m+1)) (m+1) (i-1-(m+1))=R):=ab (by
      rw [←HG.out,show i-1-m=(i-1-(m+1))+1 by omega];simp only [upSw];rw [List.range'_succ,JQ])
     clear HG;obtain⟨c1,c2⟩:=(hrol).at_ hx;obtain⟨c3,c4⟩:=(hrol).at_ hy;have f:=fun k=>(hrol).free k
     have hro2:=(hrol).set y (i:=m) gN;obtain⟨z,hz⟩:∃z,(l.set m y)[(m+1)]?=some z:=⟨_,Jn gV⟩;obtain⟨c5,c6⟩:=hro2.at_ hz;have f2:=fun k=>hro2.free k
     have HSW:=ab ((hrol).swap hx hy);have HGS:=ab (r7 (lp (lp (lp (lp hgl ((m)*2) (.string ⟨(y.1).toArray⟩)) ((m)*2+1) (.string ⟨(y.2).toArray⟩)) (((m+1))*2) (.string ⟨(x.1).toArray⟩)) (((m+1))*2+1) (.string ⟨(x.2).toArray⟩)));clear hx hy hz hro2 hrol hgl;obtain⟨x1,x2⟩:=x;obtain⟨y1,y2⟩:=y;go_wp2
     go_region
     go_wp2
     go_roundw
     case rel=>exact⟨m+1,oA l m (m+1),by go_num,by omega,HSW.out,HGS.out,by rw [oP];exact hlN,HG2⟩
     case measure=>simp [intOf];omega
    ·have HE:Hid (l=R):=ab (by rw [←HG.out,show i-1-m=0 by omega];rfl)
     exact dr
def DnRel (B g cap N i hi:Nat) (R:List Row) (w:World) (q:Value) (wr:World):Prop :=
 ∃(k:Nat) (rs:List Row),q=.int .i64 k∧i≤k∧k≤hi∧RO wr B g cap rs∧w.grownBy wr (some g)∧rs.length=N∧Hid (dnSw (k-i) rs k=R)
theorem zg (B g cap N:Nat) (rs:List Row) (a m:Nat) (w:World) (h:RO w B g cap rs) (hN:rs.length=N) (ham:a+1<m) (hbn:m+1≤N) (hl:N≤1000000) :
  Calls Tryz.prog 151 #[.slice (some ⟨g,0,none⟩) N cap,.int .i64 a,.int .i64 m,.int .i64 ((m:Int)+1),.func (.func 144) #[] #[]] w fun e w'=>e=.returned (.tuple #[])∧RO w' B g cap (dnSw (m-bs (fun h=>!ltAt rs m h) m a m) rs m)∧w.grownBy w' (some g):=by
 obtain⟨T,hT⟩:∃T,bs (fun h=>!ltAt rs m h) m a m=T:=⟨_,rfl⟩;have hbd:=zE (fun h=>!ltAt rs m h) m a m gN;rw [hT] at hbd ⊢;have HT:=ab hT;have HRO:=ab h;have e1:((m:Int)-a==1)=false:=by rw [JP];omega
 have e2:((m:Int)+1-m)=1:=gN;obtain⟨R,hR⟩:∃R,dnSw (m-T) rs m=R:=⟨_,rfl⟩;have HR:=ab hR;rw [hR];clear hT h hR;go_enter Tryz.func151,Tryz.ntmps151
 go_wp2
 go_loopw [14,15] (fun q s wr=>wY B g cap rs (fun h=>!ltAt rs m h) a m T w q s wr) (fun q s _=>(intOf s).toNat-(intOf q).toNat)
 case atStart=>exact⟨a,m,m,rfl,rfl,by omega,by omega,by omega,by omega,HRO.out,lF _ _,HT⟩
 case round =>
  obtain⟨i,j,k,rfl,rfl,hi,hij,hj,hk,hro,hg,HF⟩:=hrel;clear HT HRO;by_cases hlt:i<j
  ·obtain⟨k,rfl⟩:∃k',k=k'+1:=⟨k-1,by omega⟩
   obtain⟨H,hH⟩:∃H,(i+j) / 2=H:=⟨_,rfl⟩;have hH2:((i:Int)+j) / 2=(H:Int):=gN;have hHb:i≤H∧H<j:=gN;obtain⟨x,hx⟩:∃x,rs[m]?=some x:=⟨_,Jn gN⟩;obtain⟨y,hy⟩:∃y,rs[H]?=some y:=⟨_,Jn gN⟩;obtain⟨c1,c2⟩:=hro.at_ hx;obtain⟨c3,c4⟩:=hro.at_ hy;obtain⟨x1,x2⟩:=x;obtain⟨y1,y2⟩:=y;obtain⟨cv,hcv⟩:∃cv,cmpR (x1,x2) (y1,y2)=cv:=⟨_,rfl⟩;have HCV:Hid (∀w:World,Calls Tryz.prog 144 #[.agg #[.string ⟨x1.toArray⟩,.string ⟨x2.toArray⟩],.agg #[.string ⟨y1.toArray⟩,.string ⟨y2.toArray⟩]] w fun e w'=>e=.returned (.int .i64 cv)∧Below w.heap.size w w'):=ab (fun w=>by
    rw [←hcv];exact vj (x1,x2) (y1,y2) w)
   have d1:∀x:ExtOf wr,x.val.cell? ⟨g,(m)*2,none⟩=some (.string ⟨x1.toArray⟩):=ExtOf.cell c1;have d2:∀x:ExtOf wr,x.val.cell? ⟨g,(m)*2+1,none⟩=some (.string ⟨x2.toArray⟩):=ExtOf.cell c2;have d3:∀x:ExtOf wr,x.val.cell? ⟨g,(H)*2,none⟩=some (.string ⟨y1.toArray⟩):=ExtOf.cell c3;have d4:∀x:ExtOf wr,x.val.cell? ⟨g,(H)*2+1,none⟩=some (.string ⟨y2.toArray⟩):=ExtOf.cell c4;have HX:=ab hx;have HY:=ab hy;have HROJ:=ab hro;clear hx hy c1 c2 c3 c4;have HF2:Hid ((if cv<0 then bs (fun h=>!ltAt rs m h) k i H else bs (fun h=>!ltAt rs m h) k (H+1) j)=T):=ab (by
    have hp:(!ltAt rs m H)=!decide (cv<0):=by rw [zA HX.out HY.out,hcv]
    rw [←HF.out];simp only [bs,hlt,if_true,hH,hp];by_cases hc:cv<0<;>simp [hc])
   clear hcv hH HF hro;go_wp2
   refine kZ gT gT ?_;repeat (go_big_quiet_step ((go_at_call 144;exact lW (HCV.out _))))
   refine wpQuiet_nil ?_;rintro _ ⟨xq,rfl⟩;have hrq:RO xq.val B g cap rs:=lh HROJ.out xq.ext;have hgq:=pA hg xq.ext;clear d1 d2 d3 d4;by_cases hc0:cv<0
   ·have hc0':decide (cv<0)=true:=JR hc0
    exact gM
   ·have hc0':decide (cv<0)=false:=JT hc0
    exact gL
  ·have hij2:i=T:=by
    exact dl
   subst hij2;have HRO:=ab hro;clear HF hro hk;obtain⟨wo,rfl⟩:∃wo:World,wo=wr:=⟨_,rfl⟩;go_wp2
   go_loopw [17] (fun q wk=>DnRel B g cap N i m R wo q wk) (fun q _=>(intOf q).toNat)
   case atStart=>exact⟨m,rs,rfl,by omega,by omega,HRO.out,lF _ _,hN,HR⟩
   case round =>
    obtain⟨d,l,rfl,hid,hdm,hrol,hgl,hlN,HG⟩:=hrel;clear HR HRO;by_cases hm:i<d
    ·obtain⟨d,rfl⟩:∃d',d=d'+1:=⟨d-1,by omega⟩
     obtain⟨x,hx⟩:∃x,l[d+1]?=some x:=⟨_,Jn gN⟩;obtain⟨y,hy⟩:∃y,l[d]?=some y:=⟨_,Jn gN⟩;have HG2:Hid (dnSw (d-i) (oA l (d+1) d) d=R):=ab (by
      rw [←HG.out,show d+1-i=(d-i)+1 by omega];simp only [dnSw];rw [Nat.add_sub_cancel])
     clear HG;obtain⟨c1,c2⟩:=(hrol).at_ hx;obtain⟨c3,c4⟩:=(hrol).at_ hy;have f:=fun k=>(hrol).free k
     have hro2:=(hrol).set y (i:=(d+1)) gN;obtain⟨z,hz⟩:∃z,(l.set (d+1) y)[d]?=some z:=⟨_,Jn gV⟩;obtain⟨c5,c6⟩:=hro2.at_ hz;have f2:=fun k=>hro2.free k
     have HSW:=ab ((hrol).swap hx hy);have HGS:=ab (r7 (lp (lp (lp (lp hgl (((d+1))*2) (.string ⟨(y.1).toArray⟩)) (((d+1))*2+1) (.string ⟨(y.2).toArray⟩)) ((d)*2) (.string ⟨(x.1).toArray⟩)) ((d)*2+1) (.string ⟨(x.2).toArray⟩)));clear hx hy hz hro2 hrol hgl;obtain⟨x1,x2⟩:=x;obtain⟨y1,y2⟩:=y;have ed:(d:Int)+1-1=d:=gN;go_wp2
     clear ed;go_region
     go_wp2
     go_roundw
     case rel=>exact⟨d,oA l (d+1) d,by go_num,by omega,by omega,HSW.out,HGS.out,by rw [oP];exact hlN,HG2⟩
     case measure=>simp [intOf]
    ·have HE:Hid (l=R):=ab (by rw [←HG.out,show d-i=0 by omega];rfl)
     exact dr
end Go.Proofs.YtdcnncgpomcaaaaGreatDoor
