/- walks of rxtree: flat -/
import Derived.Test.YtjggmmaojklmpaaGreatDoorKb4
import Derived.StillTailTactics
set_option maxRecDepth 100000
set_option maxHeartbeats 4000000
namespace Go.Proofs.YtjggmmaojklmpaaGreatDoor
open Go.RowKit
def kD (kd:Int) (xs:List Rx):List Rx:=xs.flatMap fun x=>if x.kind=kd then x.kids else [x]
theorem A7 (kd:Int) (xs:List Rx) (x:Rx):kD kd (xs++[x])=kD kd xs++(if x.kind=kd then x.kids else [x]):=by simp [kD]
theorem pD (kd:Int):∀xs:List Rx,(kD kd xs).length≤Rx.partsL xs
 | []=>by simp [kD]
 | x::r=>by
  have ih:=pD kd r;have he:kD kd (x::r)=(if x.kind=kd then x.kids else [x])++kD kd r:=by simp [kD]
  have hp:=Rx.parts_pos x;have hk:x.kids.length+1≤x.parts:=by
   obtain⟨_,_,_,_,_,_,_,ks⟩:=x;have:=Rx.len_parts ks
   simp only [Rx.kids,Rx.parts];omega
  rw [he,DE];simp only [Rx.partsL];split
  ·omega
  ·simp;omega
theorem xJ (xs:List Rx):∀i:Nat,Rx.partsL (xs.take i)≤Rx.partsL xs:=by
 induction xs with
 | nil=>intro i;simp
 | cons x r ih =>
  intro i;cases i with
  | zero=>simp [Rx.partsL]
  | succ i=>have:=ih i;simp only [List.take_succ_cons,Rx.partsL];omega
def FlRel (kd:Int) (xs:List Rx) (w:World) (v q:Value) (wr:World):Prop :=
 ∃i:Nat,i≤xs.length∧q=.int .i64 i∧Below w.heap.size w wr∧OwnX wr w.heap.size v (kD kd (xs.take i))
theorem Kept.trans {S:Nat→Prop} {a b c:World} (h1:Kept S a b) (h2:Kept S b c):Kept S a c :=
 ⟨Dz h1.1 h2.1,fun k hk hl=>(h2.2 k hk (DA hl h1.1)).trans (h1.2 k hk hl)⟩
theorem Kept.sub {S S':Nat→Prop} {a b:World} (h:Kept S a b) (hS:∀k,S' k→S k):Kept S' a b:=⟨h.1,fun k hk hl=>h.2 k (hS k hk) hl⟩
theorem qN {w:World} {B:Nat} {e:TypeId} {sz:Nat} {v:Value} {n:Nat} {xs:List Value} (h:w.ownsRow B e sz v n xs) {a:Addr} (ha:v.ownBlock≠some a.block) (u:Value):(w.setCell a u).ownsRow B e sz v n xs :=
 ownsRow_setCell_other h ha u
theorem ym (S:Nat→Prop) (kd:Int) (a:Option Addr) (c:Nat) (xs:List Rx) (w:World) (hx:RxSl w S a xs.length xs) (hp:Rx.partsL xs≤1000000) (hsm:Rx.smallL xs) :
  Calls Tryz.prog 98 #[.int .i64 kd,.slice a xs.length c] w fun e w'=>∃a' c',e=.returned (.slice a' (kD kd xs).length c')∧RxSl w' (fun b=>w.heap.size≤b) a' (kD kd xs).length (kD kd xs)∧Below w.heap.size w w':=by
 have HX:=ab hx;have HSM:=ab hsm;have hlp:=Rx.len_parts xs;obtain⟨ix,hix⟩:=info_parts xf;clear hx hsm;go_enter Tryz.func98,Tryz.ntmps98
 go_wp2
 go_loopw [5,10] (fun v q wr=>FlRel kd xs w v q wr) (fun _ q _=>xs.length-(intOf q).toNat)
 case atStart=>exact eE
 case round =>
  obtain⟨i,hik,rfl,hb,hox⟩:=hrel;have hB:=hb.size;cases hd:xs.drop i with
  | nil =>
   have h2:xs.length≤i:=gm;rw [List.take_of_length_le h2] at hox;obtain⟨css,hown,hrv⟩:=hox;obtain⟨va,vc,rfl⟩:=jX hown;have HXS:=ab (OwnX.sl ⟨css,hown,hrv⟩).2;clear hd hown hrv;go_wp2
   go_ret
   exact⟨va,vc,rfl,HXS.out,hb⟩
  | cons y r =>
   obtain⟨h2,h3,hr⟩:=jO hd;have hym:=DL h3;have hyp:=Rx.parts_mem hym;have HYS:=ab (kV HSM.out hym);have HTK:Hid (kD kd (xs.take (i+1))=kD kd (xs.take i)++(if y.kind=kd then y.kids else [y])):=ab (by
    rw [List.take_add_one,h3];exact A7 kd _ y)
   have hfl:=pD kd (xs.take i);have hpt:=xJ xs i;obtain⟨yk,yc,yn,yr,yl,yh,yz,ys⟩:=y;have hyl:=Rx.len_parts ys;simp only [Rx.parts] at hyp;obtain⟨b,o,ya,yrc,yka,ykc,rfl,hS,hbB,_,_,hyv,c0,c1,c2,c3,c4,c5,c6,c7⟩:=(HX.out.later hb).cells h3;obtain⟨w0,hw0⟩:∃w0,w0=wr.alloc (.cells #[.int .i64 yk,.string ⟨yc.toArray⟩,.bool yn,.slice ya yr.length yrc,.int .i64 yl,.int .i64 yh,.bool yz,.slice yka ys.length ykc] 25):=⟨_,rfl⟩;have hb0:Below wr.heap.size wr w0:=by rw [hw0];exact(Below.refl _ _).alloc (Dv _) _
   have hbx0:w0.heap[wr.heap.size]?=some (.cells #[.int .i64 yk,.string ⟨yc.toArray⟩,.bool yn,.slice ya yr.length yrc,.int .i64 yl,.int .i64 yh,.bool yz,.slice yka ys.length ykc] 25 (0,0)):=by rw [hw0];exact heap_alloc_new wr _
   have HYV:=ab (hyv.later hb0);have hz0:w0.heap.size=wr.heap.size+1:=by rw [hw0];simp
   have HW0:=ab hw0;rw [hw0] at HYV;unfold rxc at HYV;obtain⟨css,hown,hrv⟩:=hox;generalize hFL:kD kd (xs.take i)=fl at *
   obtain⟨va,vc,rfl⟩:=jX hown;have hlt:=hown.lt;clear hd hr h3 hyv hym hw0;go_wp2_with (go_at_call 119;refine(uY S _ _ (Dv _) HYS.out _ _ HYV.out).mono ?_)
   rintro e w3 ⟨cc',rfl,hcv,hb3⟩;rw [←HW0.out] at hb3 hcv;obtain⟨za,zc,zka,zkc,rfl,hzr,hzx⟩:=hcv.open_;have hb3':=bel2 hb0 hb3;have hz3:=hb3.size;have hbx3:=(hb3.block _ (jA hbx0)).trans hbx0;have HBX3:=ab hbx3;obtain⟨e0,e1,e2,e3,e4,e5,e6,e7,e8⟩:=jD hbx3;have HOWN3:=ab (jP hown hb3');have HRV0:=ab hrv;have HCV3:=ab hcv;have HZX:=ab hzx;clear hown hrv hcv hzr hzx hbx3;have hgo:∀g,va=some g→g.block≠wr.heap.size:=fun g hg e=>by have:=(hlt g.block (by rw [hg];rfl)).2;omega
   have hob:(Value.slice va fl.length vc).ownBlock≠some wr.heap.size:=fun e=>by have:=(hlt _ e).2;omega
   have hkF:Kept (fun b=>b≠wr.heap.size) w3 ((((((((((w3).setCell ⟨wr.heap.size,0,none⟩ (.int .i64 yk)).setCell ⟨wr.heap.size,1,none⟩ (.string ⟨yc.toArray⟩)).setCell ⟨wr.heap.size,2,none⟩ (.bool yn)).setCell ⟨wr.heap.size,3,none⟩ (.slice za yr.length zc)).setCell ⟨wr.heap.size,4,none⟩ (.int .i64 yl)).setCell ⟨wr.heap.size,5,none⟩ (.int .i64 yh)).setCell ⟨wr.heap.size,6,none⟩ (.bool yz)).setCell ⟨wr.heap.size,7,none⟩ (.slice zka ys.length zkc))):=by
    iterate 7 (refine Kept.trans ?_ (Kept.setLow _ (fun b hb=>hb)))
    exact Kept.setLow _ (fun b hb=>hb)
   have hoF:((((((((((w3).setCell ⟨wr.heap.size,0,none⟩ (.int .i64 yk)).setCell ⟨wr.heap.size,1,none⟩ (.string ⟨yc.toArray⟩)).setCell ⟨wr.heap.size,2,none⟩ (.bool yn)).setCell ⟨wr.heap.size,3,none⟩ (.slice za yr.length zc)).setCell ⟨wr.heap.size,4,none⟩ (.int .i64 yl)).setCell ⟨wr.heap.size,5,none⟩ (.int .i64 yh)).setCell ⟨wr.heap.size,6,none⟩ (.bool yz)).setCell ⟨wr.heap.size,7,none⟩ (.slice zka ys.length zkc))).ownsRow w.heap.size 25 8 (.slice va fl.length vc) fl.length css.flatten:=by
    iterate 8 (refine qN ?_ hob _)
    exact HOWN3.out
   have hrF:RxVs ((((((((((w3).setCell ⟨wr.heap.size,0,none⟩ (.int .i64 yk)).setCell ⟨wr.heap.size,1,none⟩ (.string ⟨yc.toArray⟩)).setCell ⟨wr.heap.size,2,none⟩ (.bool yn)).setCell ⟨wr.heap.size,3,none⟩ (.slice za yr.length zc)).setCell ⟨wr.heap.size,4,none⟩ (.int .i64 yl)).setCell ⟨wr.heap.size,5,none⟩ (.int .i64 yh)).setCell ⟨wr.heap.size,6,none⟩ (.bool yz)).setCell ⟨wr.heap.size,7,none⟩ (.slice zka ys.length zkc))) (fun b=>w.heap.size≤b∧(Value.slice va fl.length vc).ownBlock≠some b) css fl :=
    ((RxVs.keep (S:=fun b=>(w.heap.size≤b∧(Value.slice va fl.length vc).ownBlock≠some b)∧b<wr.heap.size) (hkF.sub fun b hb e=>by have:=hb.2;omega)
     ((HRV0.out.mono (fun b hb hl=>⟨hb,hl⟩)).later hb3')).mono fun b hb _=>hb.1)
   have hcF:RxV ((((((((((w3).setCell ⟨wr.heap.size,0,none⟩ (.int .i64 yk)).setCell ⟨wr.heap.size,1,none⟩ (.string ⟨yc.toArray⟩)).setCell ⟨wr.heap.size,2,none⟩ (.bool yn)).setCell ⟨wr.heap.size,3,none⟩ (.slice za yr.length zc)).setCell ⟨wr.heap.size,4,none⟩ (.int .i64 yl)).setCell ⟨wr.heap.size,5,none⟩ (.int .i64 yh)).setCell ⟨wr.heap.size,6,none⟩ (.bool yz)).setCell ⟨wr.heap.size,7,none⟩ (.slice zka ys.length zkc))) (fun b=>w.heap.size≤b∧(Value.slice va fl.length vc).ownBlock≠some b) [.int .i64 yk,.string ⟨yc.toArray⟩,.bool yn,.slice za yr.length zc,.int .i64 yl,.int .i64 yh,.bool yz,.slice zka ys.length zkc] (.mk yk yc yn yr yl yh yz ys) :=
    (HCV3.out.keep (hkF.sub fun b hb e=>by have:w0.heap.size≤b:=hb;omega)).mono fun b hb _=>by
     have hb':w0.heap.size≤b:=hb;exact⟨by omega,fun e=>by have:=(hlt b e).2;omega⟩
   have hbF:Below w.heap.size w ((((((((((w3).setCell ⟨wr.heap.size,0,none⟩ (.int .i64 yk)).setCell ⟨wr.heap.size,1,none⟩ (.string ⟨yc.toArray⟩)).setCell ⟨wr.heap.size,2,none⟩ (.bool yn)).setCell ⟨wr.heap.size,3,none⟩ (.slice za yr.length zc)).setCell ⟨wr.heap.size,4,none⟩ (.int .i64 yl)).setCell ⟨wr.heap.size,5,none⟩ (.int .i64 yh)).setCell ⟨wr.heap.size,6,none⟩ (.bool yz)).setCell ⟨wr.heap.size,7,none⟩ (.slice zka ys.length zkc))):=by
    iterate 8 (refine Below.setCell ?_ fY _)
    exact bel2 hb hb3'
   have HOF:=ab hoF;have HRF:=ab hrF;have HCF:=ab hcF;have hzF:w.heap.size≤((((((((((w3).setCell ⟨wr.heap.size,0,none⟩ (.int .i64 yk)).setCell ⟨wr.heap.size,1,none⟩ (.string ⟨yc.toArray⟩)).setCell ⟨wr.heap.size,2,none⟩ (.bool yn)).setCell ⟨wr.heap.size,3,none⟩ (.slice za yr.length zc)).setCell ⟨wr.heap.size,4,none⟩ (.int .i64 yl)).setCell ⟨wr.heap.size,5,none⟩ (.int .i64 yh)).setCell ⟨wr.heap.size,6,none⟩ (.bool yz)).setCell ⟨wr.heap.size,7,none⟩ (.slice zka ys.length zkc))).heap.size:=hbF.size;clear hkF hoF hrF hcF;by_cases hkk:yk=kd
   ·have hkb:(yk==kd)=true:=by simpa using hkk
    have HTK2:Hid (kD kd (xs.take (i+1))=fl++ys):=ab (by rw [HTK.out,Dr (show (Rx.mk yk yc yn yr yl yh yz ys).kind=kd from hkk)];rfl);obtain⟨_,_,_,_,hq,_,hzF2⟩:=HCF.out.open_;unfold rxc at hq;simp only [List.cons.injEq,Value.slice.injEq,and_true,true_and] at hq;obtain⟨⟨rfl,rfl⟩,rfl,rfl⟩:=hq;obtain⟨ds,hds,hdv⟩:=hzF2;have HDS:=ab hds.sl;have HDV:=ab hdv;clear hkk hds hdv;unfold rxc;go_wp2_with (at_builtin;refine kf w.heap.size 25 rfl _ _ 23 rfl Tryz.underlying23 hix rfl fU rfl HOF.out rfl HDS.out HDV.out.one fR fR fU hzF ?_)
    intro v1 w4 ho1 hg1 hb4 hmv;have hox4:OwnX w4 w.heap.size v1 (kD kd (xs.take (i+1))):=by
     rw [HTK2.out];exact OwnX.app HRF.out HDV.out rfl ho1 hg1 hmv
    have hb4':=hbF.trans hb4;exact cH
   ·have hkb:(yk==kd)=false:=by simpa using hkk
    have HTK2:Hid (kD kd (xs.take (i+1))=fl++[.mk yk yc yn yr yl yh yz ys]):=ab (by rw [HTK.out,Du (show ¬(Rx.mk yk yc yn yr yl yh yz ys).kind=kd from hkk)]);have hsl:=Sl.lit (n:=1) (sz:=8) (heap_alloc_new ((((((((((w3).setCell ⟨wr.heap.size,0,none⟩ (.int .i64 yk)).setCell ⟨wr.heap.size,1,none⟩ (.string ⟨yc.toArray⟩)).setCell ⟨wr.heap.size,2,none⟩ (.bool yn)).setCell ⟨wr.heap.size,3,none⟩ (.slice za yr.length zc)).setCell ⟨wr.heap.size,4,none⟩ (.int .i64 yl)).setCell ⟨wr.heap.size,5,none⟩ (.int .i64 yh)).setCell ⟨wr.heap.size,6,none⟩ (.bool yz)).setCell ⟨wr.heap.size,7,none⟩ (.slice zka ys.length zkc))) (.cells #[.int .i64 yk,.string ⟨yc.toArray⟩,.bool yn,.slice za yr.length zc,.int .i64 yl,.int .i64 yh,.bool yz,.slice zka ys.length zkc] 25)) rfl;have hszF:((((((((((w3).setCell ⟨wr.heap.size,0,none⟩ (.int .i64 yk)).setCell ⟨wr.heap.size,1,none⟩ (.string ⟨yc.toArray⟩)).setCell ⟨wr.heap.size,2,none⟩ (.bool yn)).setCell ⟨wr.heap.size,3,none⟩ (.slice za yr.length zc)).setCell ⟨wr.heap.size,4,none⟩ (.int .i64 yl)).setCell ⟨wr.heap.size,5,none⟩ (.int .i64 yh)).setCell ⟨wr.heap.size,6,none⟩ (.bool yz)).setCell ⟨wr.heap.size,7,none⟩ (.slice zka ys.length zkc))).heap.size=w3.heap.size:=jp;rw [hszF] at hsl;have hone:=HCF.out.one;have ho3:=jP HOF.out ((Below.refl ((((((((((w3).setCell ⟨wr.heap.size,0,none⟩ (.int .i64 yk)).setCell ⟨wr.heap.size,1,none⟩ (.string ⟨yc.toArray⟩)).setCell ⟨wr.heap.size,2,none⟩ (.bool yn)).setCell ⟨wr.heap.size,3,none⟩ (.slice za yr.length zc)).setCell ⟨wr.heap.size,4,none⟩ (.int .i64 yl)).setCell ⟨wr.heap.size,5,none⟩ (.int .i64 yh)).setCell ⟨wr.heap.size,6,none⟩ (.bool yz)).setCell ⟨wr.heap.size,7,none⟩ (.slice zka ys.length zkc))).heap.size ((((((((((w3).setCell ⟨wr.heap.size,0,none⟩ (.int .i64 yk)).setCell ⟨wr.heap.size,1,none⟩ (.string ⟨yc.toArray⟩)).setCell ⟨wr.heap.size,2,none⟩ (.bool yn)).setCell ⟨wr.heap.size,3,none⟩ (.slice za yr.length zc)).setCell ⟨wr.heap.size,4,none⟩ (.int .i64 yl)).setCell ⟨wr.heap.size,5,none⟩ (.int .i64 yh)).setCell ⟨wr.heap.size,6,none⟩ (.bool yz)).setCell ⟨wr.heap.size,7,none⟩ (.slice zka ys.length zkc)))).alloc (Dv _) (.cells #[.int .i64 yk,.string ⟨yc.toArray⟩,.bool yn,.slice za yr.length zc,.int .i64 yl,.int .i64 yh,.bool yz,.slice zka ys.length zkc] 25));have hrv3:=HRF.out.later ((Below.refl ((((((((((w3).setCell ⟨wr.heap.size,0,none⟩ (.int .i64 yk)).setCell ⟨wr.heap.size,1,none⟩ (.string ⟨yc.toArray⟩)).setCell ⟨wr.heap.size,2,none⟩ (.bool yn)).setCell ⟨wr.heap.size,3,none⟩ (.slice za yr.length zc)).setCell ⟨wr.heap.size,4,none⟩ (.int .i64 yl)).setCell ⟨wr.heap.size,5,none⟩ (.int .i64 yh)).setCell ⟨wr.heap.size,6,none⟩ (.bool yz)).setCell ⟨wr.heap.size,7,none⟩ (.slice zka ys.length zkc))).heap.size ((((((((((w3).setCell ⟨wr.heap.size,0,none⟩ (.int .i64 yk)).setCell ⟨wr.heap.size,1,none⟩ (.string ⟨yc.toArray⟩)).setCell ⟨wr.heap.size,2,none⟩ (.bool yn)).setCell ⟨wr.heap.size,3,none⟩ (.slice za yr.length zc)).setCell ⟨wr.heap.size,4,none⟩ (.int .i64 yl)).setCell ⟨wr.heap.size,5,none⟩ (.int .i64 yh)).setCell ⟨wr.heap.size,6,none⟩ (.bool yz)).setCell ⟨wr.heap.size,7,none⟩ (.slice zka ys.length zkc)))).alloc (Dv _) (.cells #[.int .i64 yk,.string ⟨yc.toArray⟩,.bool yn,.slice za yr.length zc,.int .i64 yl,.int .i64 yh,.bool yz,.slice zka ys.length zkc] 25))
    have hcv3:=HCF.out.later ((Below.refl ((((((((((w3).setCell ⟨wr.heap.size,0,none⟩ (.int .i64 yk)).setCell ⟨wr.heap.size,1,none⟩ (.string ⟨yc.toArray⟩)).setCell ⟨wr.heap.size,2,none⟩ (.bool yn)).setCell ⟨wr.heap.size,3,none⟩ (.slice za yr.length zc)).setCell ⟨wr.heap.size,4,none⟩ (.int .i64 yl)).setCell ⟨wr.heap.size,5,none⟩ (.int .i64 yh)).setCell ⟨wr.heap.size,6,none⟩ (.bool yz)).setCell ⟨wr.heap.size,7,none⟩ (.slice zka ys.length zkc))).heap.size ((((((((((w3).setCell ⟨wr.heap.size,0,none⟩ (.int .i64 yk)).setCell ⟨wr.heap.size,1,none⟩ (.string ⟨yc.toArray⟩)).setCell ⟨wr.heap.size,2,none⟩ (.bool yn)).setCell ⟨wr.heap.size,3,none⟩ (.slice za yr.length zc)).setCell ⟨wr.heap.size,4,none⟩ (.int .i64 yl)).setCell ⟨wr.heap.size,5,none⟩ (.int .i64 yh)).setCell ⟨wr.heap.size,6,none⟩ (.bool yz)).setCell ⟨wr.heap.size,7,none⟩ (.slice zka ys.length zkc)))).alloc (Dv _) (.cells #[.int .i64 yk,.string ⟨yc.toArray⟩,.bool yn,.slice za yr.length zc,.int .i64 yl,.int .i64 yh,.bool yz,.slice zka ys.length zkc] 25));have HO3:=ab ho3;have HSL:=ab hsl;have HRV3':=ab hrv3;have HCV3':=ab hcv3;have HONE:=ab hone;have hzF':w.heap.size≤(((((((((((w3).setCell ⟨wr.heap.size,0,none⟩ (.int .i64 yk)).setCell ⟨wr.heap.size,1,none⟩ (.string ⟨yc.toArray⟩)).setCell ⟨wr.heap.size,2,none⟩ (.bool yn)).setCell ⟨wr.heap.size,3,none⟩ (.slice za yr.length zc)).setCell ⟨wr.heap.size,4,none⟩ (.int .i64 yl)).setCell ⟨wr.heap.size,5,none⟩ (.int .i64 yh)).setCell ⟨wr.heap.size,6,none⟩ (.bool yz)).setCell ⟨wr.heap.size,7,none⟩ (.slice zka ys.length zkc))).alloc (.cells #[.int .i64 yk,.string ⟨yc.toArray⟩,.bool yn,.slice za yr.length zc,.int .i64 yl,.int .i64 yh,.bool yz,.slice zka ys.length zkc] 25)).heap.size:=by rw [D0];omega
    have hbF':=hbF.alloc hzF (.cells #[.int .i64 yk,.string ⟨yc.toArray⟩,.bool yn,.slice za yr.length zc,.int .i64 yl,.int .i64 yh,.bool yz,.slice zka ys.length zkc] 25);clear hkk ho3 hsl hrv3 hcv3 hone;unfold rxc;go_wp2_with (at_builtin;refine kf w.heap.size 25 rfl _ _ 23 rfl Tryz.underlying23 hix rfl fU rfl HO3.out rfl HSL.out HONE.out fR fR fU hzF' ?_)
    intro v1 w4 ho1 hg1 hb4 hmv;have hox4:OwnX w4 w.heap.size v1 (kD kd (xs.take (i+1))):=by
     rw [HTK2.out];exact OwnX.app (ds:=[_]) (m:=1) HRV3'.out (.cons HCV3'.out .nil) rfl (by simpa using ho1) hg1 hmv
    have hb4':=hbF'.trans hb4;exact cH
def mB (l:List Rx):Rx:=.mk 0 [] false [] 0 0 false l
def sQ (l:List Rx):Rx:=.mk 1 [] false [] 0 0 false l
def seqR (xs:List Rx):Rx:=match kD 0 xs with|[x]=>x|l=>mB l
def altR (xs:List Rx):Rx:=match kD 1 xs with|[]=>mB []|[x]=>x|l=>sQ l
theorem Seq_any (S:Nat→Prop) (a:Option Addr) (c:Nat) (xs:List Rx) (w:World) (hx:RxSl w S a xs.length xs) (hp:Rx.partsL xs≤1000000) (hsm:Rx.smallL xs) :
  Calls Tryz.prog 77 #[.slice a xs.length c] w fun e w'=>∃cc',e=.returned (.agg cc'.toArray)∧RxV w' (fun b=>w.heap.size≤b) cc' (seqR xs)∧Below w.heap.size w w':=by
 unfold seqR;obtain⟨w0,hw0⟩:∃w0,w0=w.alloc (.cells #[.int .i64 0,.string ⟨#[]⟩,.bool false,.slice none 0 0,.int .i64 0,.int .i64 0,.bool false,.slice none 0 0] 25):=⟨_,rfl⟩;have hb0:Below w.heap.size w w0:=by rw [hw0];exact(Below.refl _ _).alloc (Dv _) _
 have hz0:w0.heap.size=w.heap.size+1:=by rw [hw0];simp
 have hby0:w0.heap[w.heap.size]?=some (.cells #[.int .i64 0,.string ⟨#[]⟩,.bool false,.slice none 0 0,.int .i64 0,.int .i64 0,.bool false,.slice none 0 0] 25 (0,0)):=by rw [hw0];exact heap_alloc_new w _
 have HX0:=ab (hx.later hb0);rw [hw0] at HX0;have HSM:=ab hsm;have HW0:=ab hw0;have HBY0:=ab hby0;have hfl:=pD 0 xs;clear hx hsm hw0 hby0;generalize hL:kD 0 xs=L at *
 go_enter Tryz.func77,Tryz.ntmps77
 go_wp2_with (go_at_call 98;refine(ym S 0 _ _ xs _ HX0.out hp HSM.out).mono ?_)
 rintro e w1 ⟨a1,c1,rfl,hx1,hb1⟩;rw [hL] at hx1 ⊢;rw [←HW0.out] at hb1 hx1;have hbw1:=bel2 hb0 hb1;obtain⟨f0,f1,f2,f3,f4,f5,f6,f7,f8⟩:=jD (c:=[]) ((hb1.block _ (jA HBY0.out)).trans HBY0.out);replace hx1:RxSl w1 (fun b=>w.heap.size+1≤b) a1 L.length L:=hx1.mono fun b hb _=>by have:w0.heap.size≤b:=hb;show w.heap.size+1≤b;omega
 clear hL hb1;rcases L with _|⟨y,_|⟨z,L⟩⟩
 ·have HX1:=ab hx1
  clear hx1;go_wp2
  refine DX (v:=.agg #[.int .i64 0,.string ⟨[].toArray⟩,.bool false,.slice none ([]:List (Str × Str)).length 0,.int .i64 0,.int .i64 0,.bool false,.slice a1 ([]:List Rx).length c1]) hJ rfl ?_;refine⟨rxc 0 [] false none ([]:List (Str × Str)).length 0 0 0 false a1 ([]:List Rx).length c1,rfl,RxV.mono (S:=fun b=>w.heap.size+1≤b) (fun b hb _=>by have:w.heap.size+1≤b:=hb;show w.heap.size≤b;omega) (RxV.close ?_ ?_),?_⟩
  ·exact cg
  ·exact cJ
  ·exact fq
 ·obtain⟨yk,yc,yn,yr,yl,yh,yz,ys⟩:=y
  obtain⟨b,o,ya,yrc,yka,ykc,rfl,hS,hbB,hyr,hyx,hyv,c0,c1',c2,c3,c4,c5,c6,c7⟩:=hx1.cells (m:=0) rfl;simp only [Nat.zero_mul,Nat.add_zero] at c0 c1' c2 c3 c4 c5 c6 c7;have HYR:=ab hyr;have HYX:=ab hyx;clear hyr hyx hyv;go_wp2
  refine DX (v:=.agg #[.int .i64 yk,.string ⟨yc.toArray⟩,.bool yn,.slice ya yr.length yrc,.int .i64 yl,.int .i64 yh,.bool yz,.slice yka ys.length ykc]) hJ rfl ?_;exact bP
 ·have HX1:=ab hx1
  have hne:(((z::L).length:Int)+1==1)=false:=by rw [DV];simp;omega
  have hne2:((L.length:Int)+1+1==1)=false:=by rw [DV];omega
  clear hx1;go_wp2
  refine DX (v:=.agg #[.int .i64 0,.string ⟨[].toArray⟩,.bool false,.slice none ([]:List (Str × Str)).length 0,.int .i64 0,.int .i64 0,.bool false,.slice a1 (y::z::L).length c1]) hJ rfl ?_;refine⟨rxc 0 [] false none ([]:List (Str × Str)).length 0 0 0 false a1 (y::z::L).length c1,rfl,RxV.mono (S:=fun b=>w.heap.size+1≤b) (fun b hb _=>by have:w.heap.size+1≤b:=hb;show w.heap.size≤b;omega) (RxV.close ?_ ?_),?_⟩
  ·exact cg
  ·exact cJ
  ·exact fq
theorem Alt_any (S:Nat→Prop) (a:Option Addr) (c:Nat) (xs:List Rx) (w:World) (hx:RxSl w S a xs.length xs) (hp:Rx.partsL xs≤1000000) (hsm:Rx.smallL xs) :
  Calls Tryz.prog 76 #[.slice a xs.length c] w fun e w'=>∃cc',e=.returned (.agg cc'.toArray)∧RxV w' (fun b=>w.heap.size≤b) cc' (altR xs)∧Below w.heap.size w w':=by
 unfold altR;obtain⟨w0,hw0⟩:∃w0,w0=w.alloc (.cells #[.int .i64 0,.string ⟨#[]⟩,.bool false,.slice none 0 0,.int .i64 0,.int .i64 0,.bool false,.slice none 0 0] 25):=⟨_,rfl⟩;have hb0:Below w.heap.size w w0:=by rw [hw0];exact(Below.refl _ _).alloc (Dv _) _
 have hz0:w0.heap.size=w.heap.size+1:=by rw [hw0];simp
 have hby0:w0.heap[w.heap.size]?=some (.cells #[.int .i64 0,.string ⟨#[]⟩,.bool false,.slice none 0 0,.int .i64 0,.int .i64 0,.bool false,.slice none 0 0] 25 (0,0)):=by rw [hw0];exact heap_alloc_new w _
 have HX0:=ab (hx.later hb0);rw [hw0] at HX0;have HSM:=ab hsm;have HW0:=ab hw0;have HBY0:=ab hby0;have hfl:=pD 1 xs;clear hx hsm hw0 hby0;generalize hL:kD 1 xs=L at *
 go_enter Tryz.func76,Tryz.ntmps76
 go_wp2_with (go_at_call 98;refine(ym S 1 _ _ xs _ HX0.out hp HSM.out).mono ?_)
 rintro e w1 ⟨a1,c1,rfl,hx1,hb1⟩;rw [hL] at hx1 ⊢;rw [←HW0.out] at hb1 hx1;have hbw1:=bel2 hb0 hb1;obtain⟨f0,f1,f2,f3,f4,f5,f6,f7,f8⟩:=jD (c:=[]) ((hb1.block _ (jA HBY0.out)).trans HBY0.out);replace hx1:RxSl w1 (fun b=>w.heap.size+1≤b) a1 L.length L:=hx1.mono fun b hb _=>by have:w0.heap.size≤b:=hb;show w.heap.size+1≤b;omega
 clear hL hb1;rcases L with _|⟨y,_|⟨z,L⟩⟩
 ·clear hx1
  go_wp2
  refine DX (v:=.agg #[.int .i64 0,.string ⟨[].toArray⟩,.bool false,.slice none ([]:List (Str × Str)).length 0,.int .i64 0,.int .i64 0,.bool false,.slice none ([]:List Rx).length 0]) hZ rfl ?_;refine⟨rxc 0 [] false none ([]:List (Str × Str)).length 0 0 0 false none ([]:List Rx).length 0,rfl,RxV.mono (S:=fun b=>w.heap.size+1≤b) (fun b hb _=>by have:w.heap.size+1≤b:=hb;show w.heap.size≤b;omega) (RxV.close ?_ ?_),?_⟩
  ·exact cg
  ·iterate 8 (refine RxSl.keep ?_ (Kept.setLow _ (fun b hb=>by have:w.heap.size+1≤b:=hb;simp;omega)))
   exact⟨[],SlS.none_ _ _ _ _,.nil⟩
  ·exact fq
 ·obtain⟨yk,yc,yn,yr,yl,yh,yz,ys⟩:=y
  obtain⟨b,o,ya,yrc,yka,ykc,rfl,hS,hbB,hyr,hyx,hyv,c0,c1',c2,c3,c4,c5,c6,c7⟩:=hx1.cells (m:=0) rfl;simp only [Nat.zero_mul,Nat.add_zero] at c0 c1' c2 c3 c4 c5 c6 c7;have HYR:=ab hyr;have HYX:=ab hyx;clear hyr hyx hyv;go_wp2
  refine DX (v:=.agg #[.int .i64 yk,.string ⟨yc.toArray⟩,.bool yn,.slice ya yr.length yrc,.int .i64 yl,.int .i64 yh,.bool yz,.slice yka ys.length ykc]) hZ rfl ?_;exact bP
 ·have HX1:=ab hx1
  have hne0:((L.length:Int)+1+1==0)=false:=by rw [DV];omega
  have hne2:((L.length:Int)+1+1==1)=false:=by rw [DV];omega
  clear hx1;go_wp2
  refine DX (v:=.agg #[.int .i64 1,.string ⟨[].toArray⟩,.bool false,.slice none ([]:List (Str × Str)).length 0,.int .i64 0,.int .i64 0,.bool false,.slice a1 (y::z::L).length c1]) hZ rfl ?_;refine⟨rxc 1 [] false none ([]:List (Str × Str)).length 0 0 0 false a1 (y::z::L).length c1,rfl,RxV.mono (S:=fun b=>w.heap.size+1≤b) (fun b hb _=>by have:w.heap.size+1≤b:=hb;show w.heap.size≤b;omega) (RxV.close ?_ ?_),?_⟩
  ·exact cg
  ·exact cJ
  ·exact fq
theorem kK:∀a:Str,Op.bytesLess a a=false
 | []=>rfl
 | c::r=>by simp [Op.bytesLess,kK r]
theorem ma:∀{a b c:Str},Op.bytesLess a b=true→Op.bytesLess b c=true→Op.bytesLess a c=true
 | _,[],_,h,_=>by simp [Op.bytesLess] at h
 | _,_::_,[],_,h=>by simp [Op.bytesLess] at h
 | [],_::_,_::_,_,_=>rfl
 | x::a,y::b,z::c,h1,h2=>by
  simp only [Op.bytesLess,DC,Dy,Dp,Do] at h1 h2 ⊢;rcases h1 with h1|⟨rfl,h1⟩<;>rcases h2 with h2|⟨rfl,h2⟩
  ·exact .inl (UInt8.lt_trans h1 h2)
  ·exact .inl h1
  ·exact .inl h2
  ·exact .inr ⟨rfl,ma h1 h2⟩
theorem mI:∀a b:Str,Op.bytesLess a b=true∨a=b∨Op.bytesLess b a=true
 | [],[]=>.inr (.inl rfl)
 | [],_::_=>.inl rfl
 | _::_,[]=>.inr (.inr rfl)
 | x::a,y::b=>by
  simp only [Op.bytesLess,DC,Dy,Dp,Do];rcases Nat.lt_trichotomy x.toNat y.toNat with h|h|h
  ·exact .inl (.inl (UInt8.lt_iff_toNat_lt.2 h))
  ·obtain rfl:=Dq.1 h
   rcases mI a b with h|rfl|h
   ·exact .inl (.inr ⟨rfl,h⟩)
   ·exact .inr (.inl rfl)
   ·exact .inr (.inr (.inr ⟨rfl,h⟩))
  ·exact .inr (.inr (.inl (UInt8.lt_iff_toNat_lt.2 h)))
theorem nA {a b:Str} (h:Op.bytesLess a b=true):Op.bytesLess b a=false:=by
 cases h2:Op.bytesLess b a with
 | false=>rfl
 | true=>have:=ma h h2;rw [kK] at this;cases this
def cmpS (a b:Str):Int:=if Op.bytesLess a b=true then -1 else if a=b then 0 else 1
def cmpR (a b:Str × Str):Int:=if cmpS a.1 b.1=0 then cmpS a.2 b.2 else cmpS a.1 b.1
theorem qx (a b:Str):(cmpS a b=-1∧Op.bytesLess a b=true)∨(cmpS a b=0∧a=b)∨(cmpS a b=1∧Op.bytesLess b a=true):=by
 unfold cmpS;rcases mI a b with h|rfl|h
 ·rw [Dr h];exact .inl ⟨rfl,h⟩
 ·rw [Du (by rw [kK];simp),Dr rfl];exact .inr (.inl ⟨rfl,rfl⟩)
 ·have h2:=nA h
  rw [Du (by rw [h2];simp),Du (by rintro rfl;rw [kK] at h;cases h)];exact .inr (.inr ⟨rfl,h⟩)
theorem Cl (a:Str) (w:World):Calls Tryz.prog 169 #[.string ⟨a.toArray⟩] w fun e w'=>e=.returned (.bool false)∧w=w':=by
 go_enter Tryz.func169,Tryz.ntmps169
 go_wp2
 go_ret
 exact⟨jG fX,rfl⟩
theorem rN (a b:Str) (w:World):Calls Tryz.prog 161 #[.string ⟨a.toArray⟩,.string ⟨b.toArray⟩] w fun e w'=>e=.returned (.int .i64 (cmpS a b))∧w=w':=by
 have hc:=ab (qx a b);generalize hR:cmpS a b=R
 have HR:=ab hR;clear hR;rcases mI a b with h|rfl|h
 ·have HE:Hid (R=-1):=ab (by rw [←HR.out];unfold cmpS;rw [Dr h])
  exact cq
 ·have HE:Hid (R=0):=ab (by rw [←HR.out];unfold cmpS;rw [Du (by rw [kK];simp),Dr rfl])
  have h1:=kK a;have h2:leS a a=true:=by simp [leS]
  exact cq
 ·have h2:=nA h
  have hne:a≠b:=by rintro rfl;rw [kK] at h;cases h
  have HE:Hid (R=1):=ab (by rw [←HR.out];unfold cmpS;rw [Du (by rw [h2];simp),Du hne]);have h3:leS a b=false:=by simp [leS,h2,hne]
  have h4:(a==b)=false:=by simpa using hne
  exact cq
def OrRel (a b:Int) (w:World) (q:Value) (wr:World):Prop:=wr=w∧(q=.int .i64 0∨(q=.int .i64 1∧a=0)∨(q=.int .i64 2∧a=0∧b=0))
theorem Or_any (a b:Int) (g c:Nat) (w:World) (h0:w.cell? ⟨g,0,none⟩=some (.int .i64 a)) (h1:w.cell? ⟨g,1,none⟩=some (.int .i64 b)) :
  Calls Tryz.prog 160 #[.slice (some ⟨g,0,none⟩) 2 c] w fun e w'=>e=.returned (.int .i64 (if a=0 then b else a))∧w=w':=by
 go_enter Tryz.func160,Tryz.ntmps160
 by_cases ha:a=0
 ·subst ha
  by_cases hb:b=0
  ·subst hb
   go_wp2
   go_loopw [8] (fun q wr=>OrRel 0 0 w q wr) (fun q _=>2-(intOf q).toNat)
   case atStart=>exact⟨rfl,.inl rfl⟩
   case round =>
    obtain⟨rfl,rfl|⟨rfl,_⟩|⟨rfl,_⟩⟩:=hrel
    ·exact et
    ·go_wp2
     go_roundw
     case rel=>exact⟨rfl,.inr (.inr ⟨rfl,rfl,rfl⟩)⟩
     case measure=>simp [intOf]
    ·exact cM
  ·have hbb:(b==0)=false:=by simpa using hb
   have hbb':(b != 0)=true:=by simpa using hb
   have HB:=ab hb;clear hb;go_wp2
   go_loopw [8] (fun q wr=>OrRel 0 b w q wr) (fun q _=>2-(intOf q).toNat)
   case atStart=>exact⟨rfl,.inl rfl⟩
   case round =>
    obtain⟨rfl,rfl|⟨rfl,_⟩|⟨rfl,_,hx⟩⟩:=hrel
    ·exact et
    ·go_wp2
     go_ret
     exact⟨lC fX,rfl⟩
    ·exact absurd hx HB.out
 ·have haa:(a==0)=false:=by simpa using ha
  have haa':(a != 0)=true:=by simpa using ha
  have HA:=ab ha;clear ha;go_wp2
  go_loopw [8] (fun q wr=>OrRel a b w q wr) (fun q _=>2-(intOf q).toNat)
  case atStart=>exact⟨rfl,.inl rfl⟩
  case round =>
   obtain⟨rfl,rfl|⟨rfl,hx⟩|⟨rfl,hx,_⟩⟩:=hrel
   ·go_wp2
    go_ret
    exact⟨lC (by first|rfl|rw [Du HA.out]),rfl⟩
   ·exact absurd hx HA.out
   ·exact absurd hx HA.out
theorem qU (a b:Str × Str) (w:World) :
  Calls Tryz.prog 159 #[.agg #[.string ⟨(a.1).toArray⟩,.string ⟨(a.2).toArray⟩],.agg #[.string ⟨(b.1).toArray⟩,.string ⟨(b.2).toArray⟩]] w fun e w'=>e=.returned (.int .i64 (cmpR a b))∧Below w.heap.size w w':=by
 obtain⟨a1,a2⟩:=a;obtain⟨b1,b2⟩:=b;generalize hR:cmpR (a1,a2) (b1,b2)=R
 have HR:=ab hR;clear hR;obtain⟨W,hW⟩:∃W,W=(w.alloc (.cells #[.string ⟨a1.toArray⟩,.string ⟨a2.toArray⟩] 62)).alloc (.cells #[.string ⟨b1.toArray⟩,.string ⟨b2.toArray⟩] 62):=⟨_,rfl⟩;have hb0:Below w.heap.size w W:=by rw [hW];exact((Below.refl _ _).alloc (Dv _) _).alloc fX _
 have d0:W.cell? ⟨w.heap.size,0,none⟩=some (.string ⟨a1.toArray⟩):=by rw [hW];simp
 have d1:W.cell? ⟨w.heap.size,1,none⟩=some (.string ⟨a2.toArray⟩):=by rw [hW];simp
 have d2:W.cell? ⟨w.heap.size+1,0,none⟩=some (.string ⟨b1.toArray⟩):=by rw [hW];simp
 have d3:W.cell? ⟨w.heap.size+1,1,none⟩=some (.string ⟨b2.toArray⟩):=by rw [hW];simp
 have HC1:Hid (∀w,Calls Tryz.prog 161 #[.string ⟨a1.toArray⟩,.string ⟨b1.toArray⟩] w fun e w'=>e=.returned (.int .i64 (cmpS a1 b1))∧w'=w):=ab (fun w=>(rN a1 b1 w).mono fun _ _ ⟨h1,h2⟩=>⟨h1,h2.symm⟩);have HC2:Hid (∀w,Calls Tryz.prog 161 #[.string ⟨a2.toArray⟩,.string ⟨b2.toArray⟩] w fun e w'=>e=.returned (.int .i64 (cmpS a2 b2))∧w'=w):=ab (fun w=>(rN a2 b2 w).mono fun _ _ ⟨h1,h2⟩=>⟨h1,h2.symm⟩);generalize hc1:cmpS a1 b1=c1 at *
 generalize hc2:cmpS a2 b2=c2 at *
 have HRR:Hid (R=if c1=0 then c2 else c1):=ab (by rw [←HR.out];unfold cmpR;rw [←hc1,←hc2]);clear hc1 hc2 HR;go_enter Tryz.func159,Tryz.ntmps159
 go_wp2
 rw [←hW];clear hW;go_still_tail 10,fW
 still_call (HC1.out _)
 repeat still_step
 still_call (HC2.out _)
 repeat still_step
 try refine wpStill_nil ?_
 change wpList _ _ _ _ _ W.drew
 have hs0:=heap_alloc_new W.drew (.cells #[.int .i64 c1,.int .i64 c2] 3);have z0:(W.drew.alloc (.cells #[.int .i64 c1,.int .i64 c2] 3)).cell? ⟨W.heap.size,0,none⟩=some (.int .i64 c1):=by show (W.drew.alloc _).cell? ⟨W.drew.heap.size,0,none⟩=_;rw [DB hs0];rfl
 have z1:(W.drew.alloc (.cells #[.int .i64 c1,.int .i64 c2] 3)).cell? ⟨W.heap.size,1,none⟩=some (.int .i64 c2):=by show (W.drew.alloc _).cell? ⟨W.drew.heap.size,1,none⟩=_;rw [DB hs0];rfl
 go_wp2_with (go_at_call 160;refine(Or_any c1 c2 _ _ _ z0 z1).mono ?_;rintro e w1 ⟨rfl,rfl⟩;rw [←HRR.out])
 go_ret
 exact⟨rfl,(hb0.drew).alloc hb0.size _⟩
abbrev Row:=Str × Str
def RO (w:World) (B g cap:Nat) (rs:List Row):Prop:=w.ownsRow B 62 2 (.slice (some ⟨g,0,none⟩) rs.length cap) rs.length (jN rs)
theorem RO.at_ {w:World} {B g cap:Nat} {rs:List Row} (h:RO w B g cap rs) {i:Nat} {r:Row} (hi:rs[i]?=some r) :
  w.cell? ⟨g,i*2,none⟩=some (.string ⟨(r.1).toArray⟩)∧w.cell? ⟨g,i*2+1,none⟩=some (.string ⟨(r.2).toArray⟩):=by
 have hlt:=(Dw.1 hi).1;obtain⟨c1,c2⟩:=sP hi;exact⟨by rw [h.cellAt _ fR];exact c1,by rw [h.cellAt _ fR];exact c2⟩
theorem RO.free {w:World} {B g cap:Nat} {rs:List Row} (h:RO w B g cap rs) (j:Nat):w.frozen? ⟨g,j,none⟩=false:=h.frozenAt j
theorem tI:∀(rs:List Row) (i:Nat) (y:Row),i<rs.length→jN (rs.set i y)=((jN rs).set (i*2) (.string ⟨(y.1).toArray⟩)).set (i*2+1) (.string ⟨(y.2).toArray⟩)
 | [],i,y,h=>by simp at h
 | r::rs,0,y,_=>by simp [jN]
 | r::rs,i+1,y,h=>by
  have ih:=tI rs i y gT;have h1:∀l:List Row,jN (r::l)=.string ⟨(r.1).toArray⟩::.string ⟨(r.2).toArray⟩::jN l:=fun l=>by simp [jN]
  rw [List.set_cons_succ,h1,h1,ih,show (i+1)*2=i*2+2 by omega];rfl
theorem RO.set {w:World} {B g cap:Nat} {rs:List Row} (h:RO w B g cap rs) {i:Nat} (y:Row) (hi:i<rs.length) :
  RO ((w.setCell ⟨g,i*2,none⟩ (.string ⟨(y.1).toArray⟩)).setCell ⟨g,i*2+1,none⟩ (.string ⟨(y.2).toArray⟩)) B g cap (rs.set i y):=by
 have h1:=((h.stored (i*2) (.string ⟨(y.1).toArray⟩)).1.stored (i*2+1) (.string ⟨(y.2).toArray⟩)).1;unfold RO;rw [tI rs i y hi,List.length_set];exact h1
theorem jR {w w':World} {g:Nat} (h:w.grownBy w' (some g)) (o:Nat) (u:Value):w.grownBy (w'.setCell ⟨g,o,none⟩ u) (some g) :=
 ⟨h.os,h.tape,h.output,by simp [World.setCell];exact h.size,fun k hk hne=>(heap_setCell_other w' ⟨g,o,none⟩ k u (fun e=>hne (by simp [e]))).trans (h.block k hk hne)⟩
theorem mL {w w' w2:World} {row:Option Nat} (h:w.grownBy w' row) (hb:Below w'.heap.size w' w2):w.grownBy w2 row :=
 ⟨hb.os.trans h.os,hb.tape.trans h.tape,hb.output.trans h.output,Dz h.size hb.size,fun k hk hne=>(hb.block k (DA hk h.size)).trans (h.block k hk hne)⟩
theorem jy {a b c:World} {row:Option Nat} (h1:a.grownBy b row) (h2:b.grownBy c row):a.grownBy c row :=
 ⟨h2.os.trans h1.os,h2.tape.trans h1.tape,h2.output.trans h1.output,Dz h1.size h2.size,fun k hk hne=>(h2.block k (DA hk h1.size) hne).trans (h1.block k hk hne)⟩
theorem km (w:World) (row:Option Nat):w.grownBy w row:=⟨rfl,rfl,rfl,Dv _,fun _ _ _=>rfl⟩
theorem oK {w w':World} {row:Option Nat} (h:w.grownBy w' row):w.grownBy w'.drew row:=⟨h.os,h.tape,h.output,h.size,h.block⟩
def l5 (rs:List Row) (i j:Nat):List Row:=match rs[i]?,rs[j]? with|some x,some y=>(rs.set i y).set j x|_,_=>rs
theorem mi (rs:List Row) (i j:Nat):(l5 rs i j).length=rs.length:=by
 unfold l5;split<;>simp
theorem zy {rs:List Row} {i j:Nat} {x y:Row} (hi:rs[i]?=some x) (hj:rs[j]?=some y):l5 rs i j=(rs.set i y).set j x:=by
 unfold l5;rw [hi,hj]
theorem RO.swap {w:World} {B g cap:Nat} {rs:List Row} (h:RO w B g cap rs) {i j:Nat} {x y:Row} (hi:rs[i]?=some x) (hj:rs[j]?=some y) :
  RO ((((w.setCell ⟨g,i*2,none⟩ (.string ⟨(y.1).toArray⟩)).setCell ⟨g,i*2+1,none⟩ (.string ⟨(y.2).toArray⟩)).setCell ⟨g,j*2,none⟩ (.string ⟨(x.1).toArray⟩)).setCell ⟨g,j*2+1,none⟩ (.string ⟨(x.2).toArray⟩)).drew B g cap (l5 rs i j):=by
 have h1:=(Dw.1 hi).1;have h2:=(Dw.1 hj).1;rw [zy hi hj];exact((h.set y h1).set x (by simpa using h2):RO _ _ _ _ _)
def SwRel (B g cap a b n:Nat) (N:Nat) (R:List Row) (w:World) (q:Value) (wr:World):Prop :=
 ∃(i:Nat) (rs:List Row),i≤n∧q=.int .i64 i∧RO wr B g cap rs∧w.grownBy wr (some g)∧rs.length=N ∧
  Hid ((List.range' i (n-i)).foldl (fun l k=>l5 l (a+k) (b+k)) rs=R)
def sC (rs:List Row) (a b n:Nat):List Row:=(List.range' 0 n).foldl (fun l k=>l5 l (a+k) (b+k)) rs
theorem uQ (B g cap:Nat) (rs:List Row) (a b n:Nat) (f:Value) (w:World) (h:RO w B g cap rs) (ha:a+n≤rs.length) (hb:b+n≤rs.length) (hl:rs.length≤1000000) :
  Calls Tryz.prog 175 #[.slice (some ⟨g,0,none⟩) rs.length cap,.int .i64 a,.int .i64 b,.int .i64 n,f] w fun e w'=>e=.returned (.tuple #[])∧RO w' B g cap (sC rs a b n)∧w.grownBy w' (some g):=by
 obtain⟨R,hR⟩:∃R,sC rs a b n=R:=⟨_,rfl⟩;rw [hR];have HR0:Hid ((List.range' 0 (n-0)).foldl (fun l k=>l5 l (a+k) (b+k)) rs=R):=ab hR;obtain⟨N,hN⟩:∃N,N=rs.length:=⟨_,rfl⟩;have HN:=ab hN;have HRO:=ab h;rw [←hN] at ha hb hl ⊢;clear hR h hN;go_enter Tryz.func175,Tryz.ntmps175
 go_wp2
 go_loopw [10] (fun q wr=>SwRel B g cap a b n N R w q wr) (fun q _=>n-(intOf q).toNat)
 case atStart=>exact⟨0,rs,by omega,rfl,HRO.out,km _ _,HN.out.symm,HR0⟩
 case round =>
  obtain⟨i,l,hin,rfl,hro,hg,hlN,HF⟩:=hrel;clear HR0 HRO HN;by_cases h2:i<n
  ·obtain⟨x,hx⟩:∃x,l[a+i]?=some x:=⟨_,Dt fR⟩
   obtain⟨y,hy⟩:∃y,l[b+i]?=some y:=⟨_,Dt fR⟩;obtain⟨c1,c2⟩:=hro.at_ hx;obtain⟨c3,c4⟩:=hro.at_ hy;have f:=fun j=>hro.free j
   have HF2:Hid ((List.range' (i+1) (n-(i+1))).foldl (fun l k=>l5 l (a+k) (b+k)) (l5 l (a+i) (b+i))=R):=ab (by
    rw [←HF.out,show n-i=(n-(i+1))+1 by omega,List.range'_succ,D1])
   have hsw:=hro.swap hx hy;have HSW:=ab hsw;have hgs:=oK (jR (jR (jR (jR hg ((a+i)*2) (.string ⟨(y.1).toArray⟩)) ((a+i)*2+1) (.string ⟨(y.2).toArray⟩)) ((b+i)*2) (.string ⟨(x.1).toArray⟩)) ((b+i)*2+1) (.string ⟨(x.2).toArray⟩));have HGS:=ab hgs;have hro2:=hro.set y (i:=a+i) fR;obtain⟨z,hz⟩:∃z,(l.set (a+i) y)[b+i]?=some z:=⟨_,Dt fY⟩;obtain⟨c5,c6⟩:=hro2.at_ hz;have f2:=fun j=>hro2.free j
   obtain⟨x1,x2⟩:=x;obtain⟨y1,y2⟩:=y;clear hsw hgs HF hro hx hy hz hro2;go_wp2
   go_region
   go_wp2
   exact⟨⟨i+1,l5 l (a+i) (b+i),by omega,by go_num,HSW.out,HGS.out,by rw [mi];exact hlN,HF2⟩,by simp [intOf];omega⟩
  ·have hni:i=n:=fR
   have HE:Hid (l=R):=ab (by rw [←HF.out,hni,Nat.sub_self];rfl);clear HF;go_wp2
   go_end0
   exact⟨rfl,by rw [←HE.out];exact hro,hg⟩
theorem o7 (a b:Nat):∀(ks:List Nat) (rs:List Row),(ks.foldl (fun l k=>l5 l (a+k) (b+k)) rs).length=rs.length
 | [],rs=>rfl
 | k::ks,rs=>by rw [D1,o7 a b ks,mi]
theorem og (rs:List Row) (a b n:Nat):(sC rs a b n).length=rs.length:=o7 _ _ _ _
theorem oC {B g cap N:Nat} {rs:List Row} {a b n:Nat} {az bz nz:Int} (f:Value) (w:World) (h:RO w B g cap rs) (hN:rs.length=N) (h1:az=a) (h2:bz=b) (h3:nz=n) (ha:a+n≤N) (hb:b+n≤N) (hl:N≤1000000) :
  Calls Tryz.prog 175 #[.slice (some ⟨g,0,none⟩) N cap,.int .i64 az,.int .i64 bz,.int .i64 nz,f] w fun e w'=>e=.returned (.tuple #[])∧RO w' B g cap (sC rs a b n)∧w.grownBy w' (some g):=by
 subst h1 h2 h3 hN;exact uQ B g cap rs a b n f w h ha hb hl
def rotL:Nat→List Row→Nat→Nat→Nat→List Row
 | 0,rs,_,_,_=>rs
 | k+1,rs,m,i,j =>
  if i=j then sC rs (m-i) m i
  else if j<i then rotL k (sC rs (m-i) m j) m (i-j) j
  else rotL k (sC rs (m-i) (m+j-i) i) m i (j-i)
def RtRel (B g cap m N:Nat) (R:List Row) (w:World) (p q:Value) (wr:World):Prop :=
 ∃(i j k:Nat) (rs:List Row),p=.int .i64 i∧q=.int .i64 j∧0<i∧0<j∧i≤m∧m+j≤N∧i+j≤k∧RO wr B g cap rs∧w.grownBy wr (some g)∧rs.length=N∧Hid (rotL k rs m i j=R)
theorem AT (B g cap N:Nat) (rs:List Row) (a m b:Nat) (f:Value) (w:World) (h:RO w B g cap rs) (hN:rs.length=N) (ha:a<m) (hb:m<b) (hbn:b≤N) (hl:N≤1000000) :
  Calls Tryz.prog 174 #[.slice (some ⟨g,0,none⟩) N cap,.int .i64 a,.int .i64 m,.int .i64 b,f] w fun e w'=>e=.returned (.tuple #[])∧RO w' B g cap (rotL (b-a) rs m (m-a) (b-m))∧w.grownBy w' (some g):=by
 obtain⟨R,hR⟩:∃R,rotL (b-a) rs m (m-a) (b-m)=R:=⟨_,rfl⟩;rw [hR];have HR:=ab hR;have HRO:=ab h;clear hR h;go_enter Tryz.func174,Tryz.ntmps174
 go_wp2
 go_loopw [10,11] (fun p q wr=>RtRel B g cap m N R w p q wr) (fun p q _=>(intOf p).toNat+(intOf q).toNat)
 case atStart=>exact⟨m-a,b-m,b-a,rs,by go_num,by go_num,by omega,by omega,by omega,by omega,by omega,HRO.out,km _ _,hN,HR⟩
 case round =>
  obtain⟨i,j,k,l,rfl,rfl,hi,hj,him,hjn,hk,hro,hg,hlN,HF⟩:=hrel;clear HR HRO hN;obtain⟨k,rfl⟩:∃k',k=k'+1:=⟨k-1,by omega⟩;by_cases hij:i=j
  ·subst hij
   have HE:Hid (sC l (m-i) m i=R):=ab (by rw [←HF.out];simp only [rotL];rw [Dr trivial]);have HO:=ab (oC (az:=(m:Int)-i) (bz:=m) (nz:=i) f wr hro hlN fR rfl rfl (a:=m-i) (b:=m) (n:=i) fR fR hl);clear HF hro;go_wp2_with (go_at_call 175;refine HO.out.mono ?_;rintro e w1 ⟨rfl,hr1,hg1⟩)
   go_end0
   exact⟨rfl,by rw [←HE.out];exact hr1,jy hg hg1⟩
  ·have e1:((i:Int)==j)=false:=by rw [DV];omega
   have e2:((i:Int) != j)=true:=by rw [bne_iff_ne];omega
   by_cases hlt:j<i
   ·have HE:Hid (rotL k (sC l (m-i) m j) m (i-j) j=R):=ab (by rw [←HF.out];simp only [rotL];rw [Du hij,Dr hlt])
    have HO:=ab (oC (az:=(m:Int)-i) (bz:=m) (nz:=j) f wr hro hlN fR rfl rfl (a:=m-i) (b:=m) (n:=j) fR fR hl);clear HF hro hij;go_wp2_with (go_at_call 175;refine HO.out.mono ?_;rintro e w1 ⟨rfl,hr1,hg1⟩)
    go_roundw
    case rel=>exact⟨i-j,j,k,_,by go_num,rfl,by omega,by omega,by omega,by omega,by omega,hr1,jy hg hg1,by rw [og];exact hlN,HE⟩
    case measure=>simp [intOf];omega
   ·have HE:Hid (rotL k (sC l (m-i) (m+j-i) i) m i (j-i)=R):=ab (by rw [←HF.out];simp only [rotL];rw [Du hij,Du hlt])
    have HO:=ab (oC (az:=(m:Int)-i) (bz:=(m:Int)+j-i) (nz:=i) f wr hro hlN fR fR rfl (a:=m-i) (b:=m+j-i) (n:=i) fR fR hl);have hlt2:i<j:=fR;clear HF hro hij;go_wp2_with (go_at_call 175;refine HO.out.mono ?_;rintro e w1 ⟨rfl,hr1,hg1⟩)
    go_roundw
    case rel=>exact⟨i,j-i,k,_,rfl,by go_num,by omega,by omega,by omega,by omega,by omega,hr1,jy hg hg1,by rw [og];exact hlN,HE⟩
    case measure=>simp [intOf];omega
def py (a:Nat):Nat→List Row→List Row
 | 0,rs=>rs
 | j+1,rs=>match rs[j+1]?,rs[j]? with
  | some x,some y=>if a<j+1∧cmpR x y<0 then py a j (l5 rs (j+1) j) else rs
  | _,_=>rs
def my (a:Nat):Nat→Nat→List Row→List Row
 | 0,_,rs=>rs
 | k+1,i,rs=>my a k (i+1) (py a i rs)
theorem rI (a:Nat):∀(j:Nat) (rs:List Row),(py a j rs).length=rs.length
 | 0,rs=>rfl
 | j+1,rs=>by
  simp only [py];split
  ·split
   ·rw [rI a j,mi]
   ·rfl
  ·rfl
theorem oP (a:Nat):∀(k i:Nat) (rs:List Row),(my a k i rs).length=rs.length
 | 0,_,_=>rfl
 | k+1,i,rs=>by simp only [my];rw [oP a k,rI]
def InRel (B g cap a b N:Nat) (R:List Row) (w:World) (q:Value) (wr:World):Prop :=
 ∃(i:Nat) (rs:List Row),q=.int .i64 i∧a<i∧(i≤b∨i=a+1)∧RO wr B g cap rs∧w.grownBy wr (some g)∧rs.length=N∧Hid (my a (b-i) i rs=R)
def IjRel (B g cap a i N:Nat) (R:List Row) (w:World) (q:Value) (wr:World):Prop :=
 ∃(j:Nat) (rs:List Row),q=.int .i64 j∧a≤j∧j≤i∧RO wr B g cap rs∧w.grownBy wr (some g)∧rs.length=N∧Hid (py a j rs=R)
theorem ur (B g cap N:Nat) (rs:List Row) (a b:Nat) (w:World) (h:RO w B g cap rs) (hN:rs.length=N) (hbn:b≤N) (hl:N≤1000000) (haN:a≤N) :
  Calls Tryz.prog 172 #[.slice (some ⟨g,0,none⟩) N cap,.int .i64 a,.int .i64 b,.func (.func 159) #[] #[]] w fun e w'=>e=.returned (.tuple #[])∧RO w' B g cap (my a (b-(a+1)) (a+1) rs)∧w.grownBy w' (some g):=by
 obtain⟨R,hR⟩:∃R,my a (b-(a+1)) (a+1) rs=R:=⟨_,rfl⟩;rw [hR];have HR:=ab hR;have HRO:=ab h;clear hR h;go_enter Tryz.func172,Tryz.ntmps172
 go_wp2
 go_loopw [8] (fun q wr=>InRel B g cap a b N R w q wr) (fun q _=>b-(intOf q).toNat)
 case atStart=>exact⟨a+1,rs,by go_num,by omega,.inr rfl,HRO.out,km _ _,hN,HR⟩
 case round =>
  obtain⟨i,l,rfl,hai,hib,hro,hg,hlN,HF⟩:=hrel;clear HR HRO hN;by_cases hlt:i<b
  ·obtain⟨T,hT⟩:∃T,py a i l=T:=⟨_,rfl⟩
   have HT0:=ab hT;have HTN:T.length=N:=by rw [←hT,rI];exact hlN
   have HE:Hid (my a (b-(i+1)) (i+1) T=R):=ab (by rw [←HF.out,show b-i=(b-(i+1))+1 by omega];simp only [my];rw [hT]);have HRO:=ab hro;clear HF hT hib hro;obtain⟨wo,rfl⟩:∃wo:World,wo=wr:=⟨_,rfl⟩;go_wp2
   go_loopw [9] (fun q wk=>IjRel B g cap a i N T wo q wk) (fun q _=>(intOf q).toNat)
   case atStart=>exact⟨i,l,rfl,by omega,by omega,HRO.out,km _ _,hlN,HT0⟩
   case round =>
    obtain⟨j,lj,rfl,haj,hji,hroj,hgj,hljN,HG⟩:=hrel;clear HT0 HRO hlN;by_cases hja:a<j
    ·obtain⟨j,rfl⟩:∃j',j=j'+1:=⟨j-1,by omega⟩
     obtain⟨x,hx⟩:∃x,lj[j+1]?=some x:=⟨_,Dt fR⟩;obtain⟨y,hy⟩:∃y,lj[j]?=some y:=⟨_,Dt fR⟩;obtain⟨c1,c2⟩:=hroj.at_ hx;obtain⟨c3,c4⟩:=hroj.at_ hy;obtain⟨x1,x2⟩:=x;obtain⟨y1,y2⟩:=y;obtain⟨cv,hcv⟩:∃cv,cmpR (x1,x2) (y1,y2)=cv:=⟨_,rfl⟩;have HG2:Hid ((if a<j+1∧cv<0 then py a j (l5 lj (j+1) j) else lj)=T):=ab (by
      rw [←HG.out,←hcv];simp only [py];rw [hx,hy])
     have HCV:Hid (∀w:World,Calls Tryz.prog 159 #[.agg #[.string ⟨x1.toArray⟩,.string ⟨x2.toArray⟩],.agg #[.string ⟨y1.toArray⟩,.string ⟨y2.toArray⟩]] w fun e w'=>e=.returned (.int .i64 cv)∧Below w.heap.size w w'):=ab (fun w=>by
      rw [←hcv];exact qU (x1,x2) (y1,y2) w)
     have d1:∀x:ExtOf wr,x.val.cell? ⟨g,(j+1)*2,none⟩=some (.string ⟨x1.toArray⟩):=ExtOf.cell c1;have d2:∀x:ExtOf wr,x.val.cell? ⟨g,(j+1)*2+1,none⟩=some (.string ⟨x2.toArray⟩):=ExtOf.cell c2;have d3:∀x:ExtOf wr,x.val.cell? ⟨g,j*2,none⟩=some (.string ⟨y1.toArray⟩):=ExtOf.cell c3;have d4:∀x:ExtOf wr,x.val.cell? ⟨g,j*2+1,none⟩=some (.string ⟨y2.toArray⟩):=ExtOf.cell c4;have HX:=ab hx;have HY:=ab hy;have HROJ:=ab hroj;have hgt:decide (a<j+1)=true:=DN fR;have hgt2:decide ((a:Int)<(j:Int)+1)=true:=DN fR;clear hcv hx hy hroj HG c1 c2 c3 c4;go_wp2
     refine jF fW fW ?_;repeat (go_big_quiet_step ((go_at_call 159;exact kg (HCV.out _))))
     refine wpQuiet_nil ?_;rintro _ ⟨xq,rfl⟩;have hrq:RO xq.val B g cap lj:=jP HROJ.out xq.ext;have hgq:=mL hgj xq.ext;obtain⟨w5,hw5⟩:∃w5,w5=xq.val:=⟨_,rfl⟩;rw [←hw5] at hrq hgq ⊢;clear hw5;clear xq;by_cases hc0:cv<0
     ·have hc0':decide (cv<0)=true:=DN hc0
      have HE2:Hid (py a j (l5 lj (j+1) j)=T):=ab (by rw [←HG2.out,Dr ⟨hja,hc0⟩]);obtain⟨c1,c2⟩:=hrq.at_ HX.out;obtain⟨c3,c4⟩:=hrq.at_ HY.out;have f:=fun k=>hrq.free k
      have hro2:=hrq.set (y1,y2) (i:=j+1) fR;obtain⟨z,hz⟩:∃z,(lj.set (j+1) (y1,y2))[j]?=some z:=⟨_,Dt fY⟩;obtain⟨c5,c6⟩:=hro2.at_ hz;have f2:=fun k=>hro2.free k
      dsimp only at c1 c2 c3 c4 c5 c6 f2
      clear c5 c6 f2;obtain⟨z1,z2⟩:=z;have c5:((w5.setCell ⟨g,(j+1)*2,none⟩ (.string ⟨y1.toArray⟩)).setCell ⟨g,(j+1)*2+1,none⟩ (.string ⟨y2.toArray⟩)).cell? ⟨g,j*2,none⟩=some (.string ⟨z1.toArray⟩):=(hro2.at_ hz).1;have c6:((w5.setCell ⟨g,(j+1)*2,none⟩ (.string ⟨y1.toArray⟩)).setCell ⟨g,(j+1)*2+1,none⟩ (.string ⟨y2.toArray⟩)).cell? ⟨g,j*2+1,none⟩=some (.string ⟨z2.toArray⟩):=(hro2.at_ hz).2;have hsw:=hrq.swap HX.out HY.out;dsimp only at hsw
      have HSW:=ab hsw;have HGS:=ab (oK (jR (jR (jR (jR hgq ((j+1)*2) (.string ⟨y1.toArray⟩)) ((j+1)*2+1) (.string ⟨y2.toArray⟩)) (j*2) (.string ⟨x1.toArray⟩)) (j*2+1) (.string ⟨x2.toArray⟩)));go_wp2
      clear hrq hgq hro2 hz hc0 HG2 d1 d2 d3 d4 hsw hgt hgt2 hc0';go_region
      go_wp2
      go_roundw
      case rel=>exact⟨j,l5 lj (j+1) j,by go_num,by omega,by omega,HSW.out,HGS.out,by rw [mi];exact hljN,HE2⟩
      case measure=>simp [intOf]
     ·have hc0':decide (cv<0)=false:=DU hc0
      have HE2:Hid (lj=T):=ab (by rw [←HG2.out,Du (fun q=>hc0 q.2)]);have hc9:0≤cv:=fR;clear hc0 HG2 d1 d2 d3 d4;go_wp2
      exact⟨⟨i+1,T,by go_num,by omega,.inl fR,by rw [←HE2.out];exact hrq,jy hg hgq,HTN,HE⟩,by simp [intOf];omega⟩
    ·have hja':j≤a:=fR
     have HE2:Hid (lj=T):=ab (by
      rw [←HG.out];cases j with
      | zero=>rfl
      | succ j =>
       simp only [py];split
       ·rw [Du (fun q=>hja q.1)]
       ·rfl)
     have hgt:decide (a<j)=false:=DU fR;clear hja HG;go_wp2
     refine jF fW fW ?_;repeat (go_big_quiet_step ((fail)))
     refine wpQuiet_nil ?_;rintro _ ⟨xq,rfl⟩;go_wp2
     exact⟨⟨i+1,T,by go_num,by omega,.inl fR,by rw [←HE2.out];exact jP hroj xq.ext,jy hg (mL hgj xq.ext),HTN,HE⟩,by simp [intOf];omega⟩
  ·have HE:Hid (l=R):=ab (by rw [←HF.out,show b-i=0 by omega];rfl)
   clear HF;go_wp2
   go_end0
   exact⟨rfl,by rw [←HE.out];exact hro,hg⟩
def bs (p:Nat→Bool):Nat→Nat→Nat→Nat
 | 0,i,_=>i
 | k+1,i,j=>if i<j then(if p ((i+j) / 2)=true then bs p k ((i+j) / 2+1) j else bs p k i ((i+j) / 2)) else i
theorem um (p:Nat→Bool):∀(k i j:Nat),i≤j→i≤bs p k i j∧bs p k i j≤j
 | 0,i,j,h=>by simp [bs];exact h
 | k+1,i,j,h=>by
  simp only [bs];split
  ·split
   ·have:=um p k ((i+j) / 2+1) j fR;omega
   ·have:=um p k i ((i+j) / 2) fR;omega
  ·omega
def ltAt (rs:List Row) (x y:Nat):Bool:=match rs[x]?,rs[y]? with|some r,some s=>decide (cmpR r s<0)|_,_=>false
theorem uP {rs:List Row} {x y:Nat} {r s:Row} (h1:rs[x]?=some r) (h2:rs[y]?=some s):ltAt rs x y=decide (cmpR r s<0):=by
 unfold ltAt;rw [h1,h2]
def upSw (rs:List Row) (a n:Nat):List Row:=(List.range' a n).foldl (fun l k=>l5 l k (k+1)) rs
def dnSw:Nat→List Row→Nat→List Row
 | 0,rs,_=>rs
 | n+1,rs,m=>dnSw n (l5 rs m (m-1)) (m-1)
theorem yD:∀(n:Nat) (rs:List Row) (m:Nat),(dnSw n rs m).length=rs.length
 | 0,_,_=>rfl
 | n+1,rs,m=>by simp only [dnSw];rw [yD n,mi]
theorem upSw_len (rs:List Row) (a n:Nat):(upSw rs a n).length=rs.length:=by
 unfold upSw;have:∀(ks:List Nat) (rs:List Row),(ks.foldl (fun l k=>l5 l k (k+1)) rs).length=rs.length:=by
  intro ks;induction ks with
  | nil=>intro rs;rfl
  | cons k ks ih=>intro rs;rw [D1,ih,mi]
 exact this _ _
def rK (B g cap:Nat) (rs:List Row) (p:Nat→Bool) (lo hi T:Nat) (w:World) (q s:Value) (wr:World):Prop :=
 ∃(i j k:Nat),q=.int .i64 i∧s=.int .i64 j∧lo≤i∧i≤j∧j≤hi∧j-i≤k∧RO wr B g cap rs∧w.grownBy wr (some g)∧Hid (bs p k i j=T)
def UpRel (B g cap N i:Nat) (R:List Row) (w:World) (q:Value) (wr:World):Prop :=
 ∃(k:Nat) (rs:List Row),q=.int .i64 k∧k+1≤i∧RO wr B g cap rs∧w.grownBy wr (some g)∧rs.length=N∧Hid (upSw rs k (i-1-k)=R)
theorem wL (B g cap N:Nat) (rs:List Row) (a b:Nat) (w:World) (h:RO w B g cap rs) (hN:rs.length=N) (hab:a+1<b) (hbn:b≤N) (hl:N≤1000000) :
  Calls Tryz.prog 173 #[.slice (some ⟨g,0,none⟩) N cap,.int .i64 a,.int .i64 ((a:Int)+1),.int .i64 b,.func (.func 159) #[] #[]] w fun e w'=>e=.returned (.tuple #[])∧RO w' B g cap (upSw rs a (bs (fun h=>ltAt rs h a) b (a+1) b-1-a))∧w.grownBy w' (some g):=by
 obtain⟨T,hT⟩:∃T,bs (fun h=>ltAt rs h a) b (a+1) b=T:=⟨_,rfl⟩;have hbd:=um (fun h=>ltAt rs h a) b (a+1) b fR;rw [hT] at hbd ⊢;have HT:=ab hT;have HRO:=ab h;have e1:((a:Int)+1-a)=1:=fR;obtain⟨R,hR⟩:∃R,upSw rs a (T-1-a)=R:=⟨_,rfl⟩;have HR:=ab hR;rw [hR];clear hT h hR;go_enter Tryz.func173,Tryz.ntmps173
 go_wp2
 go_loopw [10,11] (fun q s wr=>rK B g cap rs (fun h=>ltAt rs h a) (a+1) b T w q s wr) (fun q s _=>(intOf s).toNat-(intOf q).toNat)
 case atStart=>exact⟨a+1,b,b,by go_num,rfl,by omega,by omega,by omega,by omega,HRO.out,km _ _,HT⟩
 case round =>
  obtain⟨i,j,k,rfl,rfl,hi,hij,hj,hk,hro,hg,HF⟩:=hrel;clear HT HRO;by_cases hlt:i<j
  ·obtain⟨k,rfl⟩:∃k',k=k'+1:=⟨k-1,by omega⟩
   obtain⟨H,hH⟩:∃H,(i+j) / 2=H:=⟨_,rfl⟩;have hH2:((i:Int)+j) / 2=(H:Int):=fR;have hHb:i≤H∧H<j:=fR;obtain⟨x,hx⟩:∃x,rs[H]?=some x:=⟨_,Dt fR⟩;obtain⟨y,hy⟩:∃y,rs[a]?=some y:=⟨_,Dt fR⟩;obtain⟨c1,c2⟩:=hro.at_ hx;obtain⟨c3,c4⟩:=hro.at_ hy;obtain⟨x1,x2⟩:=x;obtain⟨y1,y2⟩:=y;obtain⟨cv,hcv⟩:∃cv,cmpR (x1,x2) (y1,y2)=cv:=⟨_,rfl⟩;have HCV:Hid (∀w:World,Calls Tryz.prog 159 #[.agg #[.string ⟨x1.toArray⟩,.string ⟨x2.toArray⟩],.agg #[.string ⟨y1.toArray⟩,.string ⟨y2.toArray⟩]] w fun e w'=>e=.returned (.int .i64 cv)∧Below w.heap.size w w'):=ab (fun w=>by
    rw [←hcv];exact qU (x1,x2) (y1,y2) w)
   have d1:∀x:ExtOf wr,x.val.cell? ⟨g,(H)*2,none⟩=some (.string ⟨x1.toArray⟩):=ExtOf.cell c1;have d2:∀x:ExtOf wr,x.val.cell? ⟨g,(H)*2+1,none⟩=some (.string ⟨x2.toArray⟩):=ExtOf.cell c2;have d3:∀x:ExtOf wr,x.val.cell? ⟨g,(a)*2,none⟩=some (.string ⟨y1.toArray⟩):=ExtOf.cell c3;have d4:∀x:ExtOf wr,x.val.cell? ⟨g,(a)*2+1,none⟩=some (.string ⟨y2.toArray⟩):=ExtOf.cell c4;have HX:=ab hx;have HY:=ab hy;have HROJ:=ab hro;clear hx hy c1 c2 c3 c4;have HF2:Hid ((if cv<0 then bs (fun h=>ltAt rs h a) k (H+1) j else bs (fun h=>ltAt rs h a) k i H)=T):=ab (by
    have hp:ltAt rs H a=decide (cv<0):=by rw [uP HX.out HY.out,hcv]
    rw [←HF.out];simp only [bs,hlt,if_true,hH,hp,Dp])
   clear hcv hH HF hro;go_wp2
   refine jF fW fW ?_;repeat (go_big_quiet_step ((go_at_call 159;exact kg (HCV.out _))))
   refine wpQuiet_nil ?_;rintro _ ⟨xq,rfl⟩;have hrq:RO xq.val B g cap rs:=jP HROJ.out xq.ext;have hgq:=mL hg xq.ext;clear d1 d2 d3 d4;by_cases hc0:cv<0
   ·have hc0':decide (cv<0)=true:=DN hc0
    have HE2:=ab ((Dr hc0).symm.trans HF2.out);exact eT
   ·have hc0':decide (cv<0)=false:=DU hc0
    have hc9:0≤cv:=fR;have HE2:=ab ((Du hc0).symm.trans HF2.out);clear hc0;exact eV
  ·have hij2:i=T:=by
    exact dy
   subst hij2;have HRO:=ab hro;clear HF hro hk;obtain⟨wo,rfl⟩:∃wo:World,wo=wr:=⟨_,rfl⟩;go_wp2
   go_loopw [13] (fun q wk=>UpRel B g cap N i R wo q wk) (fun q _=>i-(intOf q).toNat)
   case atStart=>exact⟨a,rs,rfl,by omega,HRO.out,km _ _,hN,HR⟩
   case round =>
    obtain⟨m,l,rfl,hmi,hrol,hgl,hlN,HG⟩:=hrel;clear HR HRO;by_cases hm:m+1<i
    ·obtain⟨x,hx⟩:∃x,l[m]?=some x:=⟨_,Dt fR⟩
     obtain⟨y,hy⟩:∃y,l[m+1]?=some y:=⟨_,Dt fR⟩;have HG2:Hid (upSw (l5 l m (m+1)) (m+1) (i-1-(m+1))=R):=ab (by
      rw [←HG.out,show i-1-m=(i-1-(m+1))+1 by omega];simp only [upSw];rw [List.range'_succ,D1])
     clear HG;obtain⟨c1,c2⟩:=(hrol).at_ hx;obtain⟨c3,c4⟩:=(hrol).at_ hy;have f:=fun k=>(hrol).free k
     have hro2:=(hrol).set y (i:=m) fR;obtain⟨z,hz⟩:∃z,(l.set m y)[(m+1)]?=some z:=⟨_,Dt fY⟩;obtain⟨c5,c6⟩:=hro2.at_ hz;have f2:=fun k=>hro2.free k
     have HSW:=ab ((hrol).swap hx hy);have HGS:=ab (oK (jR (jR (jR (jR hgl ((m)*2) (.string ⟨(y.1).toArray⟩)) ((m)*2+1) (.string ⟨(y.2).toArray⟩)) (((m+1))*2) (.string ⟨(x.1).toArray⟩)) (((m+1))*2+1) (.string ⟨(x.2).toArray⟩)));clear hx hy hz hro2 hrol hgl;obtain⟨x1,x2⟩:=x;obtain⟨y1,y2⟩:=y;go_wp2
     go_region
     go_wp2
     go_roundw
     case rel=>exact⟨m+1,l5 l m (m+1),by go_num,by omega,HSW.out,HGS.out,by rw [mi];exact hlN,HG2⟩
     case measure=>simp [intOf];omega
    ·have HE:Hid (l=R):=ab (by rw [←HG.out,show i-1-m=0 by omega];rfl)
     exact dz
def DnRel (B g cap N i hi:Nat) (R:List Row) (w:World) (q:Value) (wr:World):Prop :=
 ∃(k:Nat) (rs:List Row),q=.int .i64 k∧i≤k∧k≤hi∧RO wr B g cap rs∧w.grownBy wr (some g)∧rs.length=N∧Hid (dnSw (k-i) rs k=R)
theorem tZ (B g cap N:Nat) (rs:List Row) (a m:Nat) (w:World) (h:RO w B g cap rs) (hN:rs.length=N) (ham:a+1<m) (hbn:m+1≤N) (hl:N≤1000000) :
  Calls Tryz.prog 173 #[.slice (some ⟨g,0,none⟩) N cap,.int .i64 a,.int .i64 m,.int .i64 ((m:Int)+1),.func (.func 159) #[] #[]] w fun e w'=>e=.returned (.tuple #[])∧RO w' B g cap (dnSw (m-bs (fun h=>!ltAt rs m h) m a m) rs m)∧w.grownBy w' (some g):=by
 obtain⟨T,hT⟩:∃T,bs (fun h=>!ltAt rs m h) m a m=T:=⟨_,rfl⟩;have hbd:=um (fun h=>!ltAt rs m h) m a m fR;rw [hT] at hbd ⊢;have HT:=ab hT;have HRO:=ab h;have e1:((m:Int)-a==1)=false:=by rw [DV];omega
 have e2:((m:Int)+1-m)=1:=fR;obtain⟨R,hR⟩:∃R,dnSw (m-T) rs m=R:=⟨_,rfl⟩;have HR:=ab hR;rw [hR];clear hT h hR;go_enter Tryz.func173,Tryz.ntmps173
 go_wp2
 go_loopw [14,15] (fun q s wr=>rK B g cap rs (fun h=>!ltAt rs m h) a m T w q s wr) (fun q s _=>(intOf s).toNat-(intOf q).toNat)
 case atStart=>exact⟨a,m,m,rfl,rfl,by omega,by omega,by omega,by omega,HRO.out,km _ _,HT⟩
 case round =>
  obtain⟨i,j,k,rfl,rfl,hi,hij,hj,hk,hro,hg,HF⟩:=hrel;clear HT HRO;by_cases hlt:i<j
  ·obtain⟨k,rfl⟩:∃k',k=k'+1:=⟨k-1,by omega⟩
   obtain⟨H,hH⟩:∃H,(i+j) / 2=H:=⟨_,rfl⟩;have hH2:((i:Int)+j) / 2=(H:Int):=fR;have hHb:i≤H∧H<j:=fR;obtain⟨x,hx⟩:∃x,rs[m]?=some x:=⟨_,Dt fR⟩;obtain⟨y,hy⟩:∃y,rs[H]?=some y:=⟨_,Dt fR⟩;obtain⟨c1,c2⟩:=hro.at_ hx;obtain⟨c3,c4⟩:=hro.at_ hy;obtain⟨x1,x2⟩:=x;obtain⟨y1,y2⟩:=y;obtain⟨cv,hcv⟩:∃cv,cmpR (x1,x2) (y1,y2)=cv:=⟨_,rfl⟩;have HCV:Hid (∀w:World,Calls Tryz.prog 159 #[.agg #[.string ⟨x1.toArray⟩,.string ⟨x2.toArray⟩],.agg #[.string ⟨y1.toArray⟩,.string ⟨y2.toArray⟩]] w fun e w'=>e=.returned (.int .i64 cv)∧Below w.heap.size w w'):=ab (fun w=>by
    rw [←hcv];exact qU (x1,x2) (y1,y2) w)
   have d1:∀x:ExtOf wr,x.val.cell? ⟨g,(m)*2,none⟩=some (.string ⟨x1.toArray⟩):=ExtOf.cell c1;have d2:∀x:ExtOf wr,x.val.cell? ⟨g,(m)*2+1,none⟩=some (.string ⟨x2.toArray⟩):=ExtOf.cell c2;have d3:∀x:ExtOf wr,x.val.cell? ⟨g,(H)*2,none⟩=some (.string ⟨y1.toArray⟩):=ExtOf.cell c3;have d4:∀x:ExtOf wr,x.val.cell? ⟨g,(H)*2+1,none⟩=some (.string ⟨y2.toArray⟩):=ExtOf.cell c4;have HX:=ab hx;have HY:=ab hy;have HROJ:=ab hro;clear hx hy c1 c2 c3 c4;have HF2:Hid ((if cv<0 then bs (fun h=>!ltAt rs m h) k i H else bs (fun h=>!ltAt rs m h) k (H+1) j)=T):=ab (by
    have hp:(!ltAt rs m H)=!decide (cv<0):=by rw [uP HX.out HY.out,hcv]
    rw [←HF.out];simp only [bs,hlt,if_true,hH,hp];by_cases hc:cv<0<;>simp [hc])
   clear hcv hH HF hro;go_wp2
   refine jF fW fW ?_;repeat (go_big_quiet_step ((go_at_call 159;exact kg (HCV.out _))))
   refine wpQuiet_nil ?_;rintro _ ⟨xq,rfl⟩;have hrq:RO xq.val B g cap rs:=jP HROJ.out xq.ext;have hgq:=mL hg xq.ext;clear d1 d2 d3 d4;by_cases hc0:cv<0
   ·have hc0':decide (cv<0)=true:=DN hc0
    exact fQ
   ·have hc0':decide (cv<0)=false:=DU hc0
    exact fP
  ·have hij2:i=T:=by
    exact dy
   subst hij2;have HRO:=ab hro;clear HF hro hk;obtain⟨wo,rfl⟩:∃wo:World,wo=wr:=⟨_,rfl⟩;go_wp2
   go_loopw [17] (fun q wk=>DnRel B g cap N i m R wo q wk) (fun q _=>(intOf q).toNat)
   case atStart=>exact⟨m,rs,rfl,by omega,by omega,HRO.out,km _ _,hN,HR⟩
   case round =>
    obtain⟨d,l,rfl,hid,hdm,hrol,hgl,hlN,HG⟩:=hrel;clear HR HRO;by_cases hm:i<d
    ·obtain⟨d,rfl⟩:∃d',d=d'+1:=⟨d-1,by omega⟩
     obtain⟨x,hx⟩:∃x,l[d+1]?=some x:=⟨_,Dt fR⟩;obtain⟨y,hy⟩:∃y,l[d]?=some y:=⟨_,Dt fR⟩;have HG2:Hid (dnSw (d-i) (l5 l (d+1) d) d=R):=ab (by
      rw [←HG.out,show d+1-i=(d-i)+1 by omega];simp only [dnSw];rw [Nat.add_sub_cancel])
     clear HG;obtain⟨c1,c2⟩:=(hrol).at_ hx;obtain⟨c3,c4⟩:=(hrol).at_ hy;have f:=fun k=>(hrol).free k
     have hro2:=(hrol).set y (i:=(d+1)) fR;obtain⟨z,hz⟩:∃z,(l.set (d+1) y)[d]?=some z:=⟨_,Dt fY⟩;obtain⟨c5,c6⟩:=hro2.at_ hz;have f2:=fun k=>hro2.free k
     have HSW:=ab ((hrol).swap hx hy);have HGS:=ab (oK (jR (jR (jR (jR hgl (((d+1))*2) (.string ⟨(y.1).toArray⟩)) (((d+1))*2+1) (.string ⟨(y.2).toArray⟩)) ((d)*2) (.string ⟨(x.1).toArray⟩)) ((d)*2+1) (.string ⟨(x.2).toArray⟩)));clear hx hy hz hro2 hrol hgl;obtain⟨x1,x2⟩:=x;obtain⟨y1,y2⟩:=y;have ed:(d:Int)+1-1=d:=fR;go_wp2
     clear ed;go_region
     go_wp2
     go_roundw
     case rel=>exact⟨d,l5 l (d+1) d,by go_num,by omega,by omega,HSW.out,HGS.out,by rw [mi];exact hlN,HG2⟩
     case measure=>simp [intOf]
    ·have HE:Hid (l=R):=ab (by rw [←HG.out,show d-i=0 by omega];rfl)
     exact dz
end Go.Proofs.YtjggmmaojklmpaaGreatDoor
