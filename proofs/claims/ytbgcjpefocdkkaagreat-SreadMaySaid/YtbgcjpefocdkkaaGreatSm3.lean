/- walks of rxtree: flat -/
import Derived.Test.YtbgcjpefocdkkaaGreatSm1
import Derived.Test.YtbgcjpefocdkkaaGreatSm2
import Derived.StillTailTactics
set_option maxRecDepth 100000
namespace Go.Proofs.YtbgcjpefocdkkaaGreat
open Go.RowKit
def flatL (kd:Int) (xs:List Rx):List Rx:=xs.flatMap fun x=>if x.kind=kd then x.kids else [x]
theorem flatL_snoc (kd:Int) (xs:List Rx) (x:Rx):flatL kd (xs++[x])=flatL kd xs++(if x.kind=kd then x.kids else [x]):=by simp [flatL]
theorem flatL_len (kd:Int):∀xs:List Rx,(flatL kd xs).length≤Rx.partsL xs
 | []=>by simp [flatL]
 | x::r=>by
  have ih:=flatL_len kd r;have he:flatL kd (x::r)=(if x.kind=kd then x.kids else [x])++flatL kd r:=by simp [flatL]
  have hp:=Rx.parts_pos x;have hk:x.kids.length+1≤x.parts:=by
   obtain⟨_,_,_,_,_,_,_,ks⟩:=x;have:=Rx.len_parts ks
   simp only [Rx.kids,Rx.parts];omega
  rw [he,List.length_append];simp only [Rx.partsL];split
  ·omega
  ·simp;omega
theorem partsL_take (xs:List Rx):∀i:Nat,Rx.partsL (xs.take i)≤Rx.partsL xs:=by
 induction xs with
 | nil=>intro i;simp
 | cons x r ih =>
  intro i;cases i with
  | zero=>simp [Rx.partsL]
  | succ i=>have:=ih i;simp only [List.take_succ_cons,Rx.partsL];omega
def FlRel (kd:Int) (xs:List Rx) (w:World) (v q:Value) (wr:World):Prop :=
 ∃i:Nat,i≤xs.length∧q=.int .i64 i∧Below w.heap.size w wr∧OwnX wr w.heap.size v (flatL kd (xs.take i))
theorem Kept.trans {S:Nat→Prop} {a b c:World} (h1:Kept S a b) (h2:Kept S b c):Kept S a c :=
 ⟨Nat.le_trans h1.1 h2.1,fun k hk hl=>(h2.2 k hk (Nat.lt_of_lt_of_le hl h1.1)).trans (h1.2 k hk hl)⟩
theorem Kept.sub {S S':Nat→Prop} {a b:World} (h:Kept S a b) (hS:∀k,S' k→S k):Kept S' a b:=⟨h.1,fun k hk hl=>h.2 k (hS k hk) hl⟩
theorem own_setOther {w:World} {B:Nat} {e:TypeId} {sz:Nat} {v:Value} {n:Nat} {xs:List Value} (h:w.ownsRow B e sz v n xs) {a:Addr} (ha:v.ownBlock≠some a.block) (u:Value):(w.setCell a u).ownsRow B e sz v n xs :=
 ownsRow_setCell_other h ha u
set_option maxHeartbeats 1000000 in
theorem flat_any (S:Nat→Prop) (kd:Int) (a:Option Addr) (c:Nat) (xs:List Rx) (w:World) (hx:RxSl w S a xs.length xs) (hp:Rx.partsL xs≤1000000) (hsm:Rx.smallL xs) :
  Calls Tryz.prog 120 #[.int .i64 kd,.slice a xs.length c] w fun e w'=>∃a' c',e=.returned (.slice a' (flatL kd xs).length c')∧RxSl w' (fun b=>w.heap.size≤b) a' (flatL kd xs).length (flatL kd xs)∧Below w.heap.size w w':=by
 have HX:=Lib.hid hx;have HSM:=Lib.hid hsm;have hlp:=Rx.len_parts xs;obtain⟨ix,hix⟩:=info_parts rx_info;clear hx hsm;go_enter Tryz.func120,Tryz.ntmps120
 go_wp2
 go_loopw [5,10] (fun v q wr=>FlRel kd xs w v q wr) (fun _ q _=>xs.length-(intOf q).toNat)
 case atStart=>exact⟨0,by omega,rfl,Below.refl _ _,by rw [List.take_zero];exact OwnX.nil _ _⟩
 case round =>
  obtain⟨i,hik,rfl,hb,hox⟩:=hrel;have hB:=hb.size;cases hd:xs.drop i with
  | nil =>
   have h2:xs.length≤i:=by simpa using hd
   rw [List.take_of_length_le h2] at hox;obtain⟨css,hown,hrv⟩:=hox;obtain⟨va,vc,rfl⟩:=own_form hown;have HXS:=Lib.hid (OwnX.sl ⟨css,hown,hrv⟩).2;clear hd hown hrv;go_wp2
   go_ret
   exact⟨va,vc,rfl,HXS.out,hb⟩
  | cons y r =>
   obtain⟨h2,h3,hr⟩:=ldrop_cons hd;have hym:=List.mem_of_getElem? h3;have hyp:=Rx.parts_mem hym;have HYS:=Lib.hid (smallL_mem HSM.out hym);have HTK:Hid (flatL kd (xs.take (i+1))=flatL kd (xs.take i)++(if y.kind=kd then y.kids else [y])):=Lib.hid (by
    rw [List.take_add_one,h3];exact flatL_snoc kd _ y)
   have hfl:=flatL_len kd (xs.take i);have hpt:=partsL_take xs i;obtain⟨yk,yc,yn,yr,yl,yh,yz,ys⟩:=y;have hyl:=Rx.len_parts ys;simp only [Rx.parts] at hyp;obtain⟨b,o,ya,yrc,yka,ykc,rfl,hS,hbB,_,_,hyv,c0,c1,c2,c3,c4,c5,c6,c7⟩:=(HX.out.later hb).cells h3;obtain⟨w0,hw0⟩:∃w0,w0=wr.alloc (.cells #[.int .i64 yk,.string ⟨(yc).toArray⟩,.bool yn,.slice ya yr.length yrc,.int .i64 yl,.int .i64 yh,.bool yz,.slice yka ys.length ykc] 34):=⟨_,rfl⟩;have hb0:Below wr.heap.size wr w0:=by rw [hw0];exact(Below.refl _ _).alloc (Nat.le_refl _) _
   have hbx0:w0.heap[wr.heap.size]?=some (.cells #[.int .i64 yk,.string ⟨(yc).toArray⟩,.bool yn,.slice ya yr.length yrc,.int .i64 yl,.int .i64 yh,.bool yz,.slice yka ys.length ykc] 34 (0,0)):=by rw [hw0];exact heap_alloc_new wr _
   have HYV:=Lib.hid (hyv.later hb0);have hz0:w0.heap.size=wr.heap.size+1:=by rw [hw0];simp
   have HW0:=Lib.hid hw0;rw [hw0] at HYV;unfold rxc at HYV;obtain⟨css,hown,hrv⟩:=hox;generalize hFL:flatL kd (xs.take i)=fl at *
   obtain⟨va,vc,rfl⟩:=own_form hown;have hlt:=hown.lt;clear hd hr h3 hyv hym hw0;go_wp2_with (go_at_call 37;refine(Clone_any S _ _ (Nat.le_refl _) HYS.out _ _ HYV.out).mono ?_)
   rintro e w3 ⟨cc',rfl,hcv,hb3⟩;rw [←HW0.out] at hb3 hcv;obtain⟨za,zc,zka,zkc,rfl,hzr,hzx⟩:=hcv.open_;have hb3':=bel2 hb0 hb3;have hz3:=hb3.size;have hbx3:=(hb3.block _ (heap_lt hbx0)).trans hbx0;have HBX3:=Lib.hid hbx3;obtain⟨e0,e1,e2,e3,e4,e5,e6,e7,e8⟩:=bx_cells hbx3;have HOWN3:=Lib.hid (own_below hown hb3');have HRV0:=Lib.hid hrv;have HCV3:=Lib.hid hcv;have HZX:=Lib.hid hzx;clear hown hrv hcv hzr hzx hbx3;have hgo:∀g,va=some g→g.block≠wr.heap.size:=fun g hg e=>by have:=(hlt g.block (by rw [hg];rfl)).2;omega
   have hob:(Value.slice va fl.length vc).ownBlock≠some wr.heap.size:=fun e=>by have:=(hlt _ e).2;omega
   have hkF:Kept (fun b=>b≠wr.heap.size) w3 ((((((((((w3).setCell ⟨wr.heap.size,0,none⟩ (.int .i64 yk)).setCell ⟨wr.heap.size,1,none⟩ (.string ⟨(yc).toArray⟩)).setCell ⟨wr.heap.size,2,none⟩ (.bool yn)).setCell ⟨wr.heap.size,3,none⟩ (.slice za yr.length zc)).setCell ⟨wr.heap.size,4,none⟩ (.int .i64 yl)).setCell ⟨wr.heap.size,5,none⟩ (.int .i64 yh)).setCell ⟨wr.heap.size,6,none⟩ (.bool yz)).setCell ⟨wr.heap.size,7,none⟩ (.slice zka ys.length zkc))):=by
    iterate 7 (refine Kept.trans ?_ (Kept.setLow _ (fun b hb=>hb)))
    exact Kept.setLow _ (fun b hb=>hb)
   have hoF:((((((((((w3).setCell ⟨wr.heap.size,0,none⟩ (.int .i64 yk)).setCell ⟨wr.heap.size,1,none⟩ (.string ⟨(yc).toArray⟩)).setCell ⟨wr.heap.size,2,none⟩ (.bool yn)).setCell ⟨wr.heap.size,3,none⟩ (.slice za yr.length zc)).setCell ⟨wr.heap.size,4,none⟩ (.int .i64 yl)).setCell ⟨wr.heap.size,5,none⟩ (.int .i64 yh)).setCell ⟨wr.heap.size,6,none⟩ (.bool yz)).setCell ⟨wr.heap.size,7,none⟩ (.slice zka ys.length zkc))).ownsRow w.heap.size 34 8 (.slice va fl.length vc) fl.length css.flatten:=by
    iterate 8 (refine own_setOther ?_ hob _)
    exact HOWN3.out
   have hrF:RxVs ((((((((((w3).setCell ⟨wr.heap.size,0,none⟩ (.int .i64 yk)).setCell ⟨wr.heap.size,1,none⟩ (.string ⟨(yc).toArray⟩)).setCell ⟨wr.heap.size,2,none⟩ (.bool yn)).setCell ⟨wr.heap.size,3,none⟩ (.slice za yr.length zc)).setCell ⟨wr.heap.size,4,none⟩ (.int .i64 yl)).setCell ⟨wr.heap.size,5,none⟩ (.int .i64 yh)).setCell ⟨wr.heap.size,6,none⟩ (.bool yz)).setCell ⟨wr.heap.size,7,none⟩ (.slice zka ys.length zkc))) (fun b=>w.heap.size≤b∧(Value.slice va fl.length vc).ownBlock≠some b) css fl :=
    ((RxVs.keep (S:=fun b=>(w.heap.size≤b∧(Value.slice va fl.length vc).ownBlock≠some b)∧b<wr.heap.size) (hkF.sub fun b hb e=>by have:=hb.2;omega)
     ((HRV0.out.mono (fun b hb hl=>⟨hb,hl⟩)).later hb3')).mono fun b hb _=>hb.1)
   have hcF:RxV ((((((((((w3).setCell ⟨wr.heap.size,0,none⟩ (.int .i64 yk)).setCell ⟨wr.heap.size,1,none⟩ (.string ⟨(yc).toArray⟩)).setCell ⟨wr.heap.size,2,none⟩ (.bool yn)).setCell ⟨wr.heap.size,3,none⟩ (.slice za yr.length zc)).setCell ⟨wr.heap.size,4,none⟩ (.int .i64 yl)).setCell ⟨wr.heap.size,5,none⟩ (.int .i64 yh)).setCell ⟨wr.heap.size,6,none⟩ (.bool yz)).setCell ⟨wr.heap.size,7,none⟩ (.slice zka ys.length zkc))) (fun b=>w.heap.size≤b∧(Value.slice va fl.length vc).ownBlock≠some b) [.int .i64 yk,.string ⟨(yc).toArray⟩,.bool yn,.slice za yr.length zc,.int .i64 yl,.int .i64 yh,.bool yz,.slice zka ys.length zkc] (.mk yk yc yn yr yl yh yz ys) :=
    (HCV3.out.keep (hkF.sub fun b hb e=>by have:w0.heap.size≤b:=hb;omega)).mono fun b hb _=>by
     have hb':w0.heap.size≤b:=hb;exact⟨by omega,fun e=>by have:=(hlt b e).2;omega⟩
   have hbF:Below w.heap.size w ((((((((((w3).setCell ⟨wr.heap.size,0,none⟩ (.int .i64 yk)).setCell ⟨wr.heap.size,1,none⟩ (.string ⟨(yc).toArray⟩)).setCell ⟨wr.heap.size,2,none⟩ (.bool yn)).setCell ⟨wr.heap.size,3,none⟩ (.slice za yr.length zc)).setCell ⟨wr.heap.size,4,none⟩ (.int .i64 yl)).setCell ⟨wr.heap.size,5,none⟩ (.int .i64 yh)).setCell ⟨wr.heap.size,6,none⟩ (.bool yz)).setCell ⟨wr.heap.size,7,none⟩ (.slice zka ys.length zkc))):=by
    iterate 8 (refine Below.setCell ?_ (by simp;omega) _)
    exact bel2 hb hb3'
   have HOF:=Lib.hid hoF;have HRF:=Lib.hid hrF;have HCF:=Lib.hid hcF;have hzF:w.heap.size≤((((((((((w3).setCell ⟨wr.heap.size,0,none⟩ (.int .i64 yk)).setCell ⟨wr.heap.size,1,none⟩ (.string ⟨(yc).toArray⟩)).setCell ⟨wr.heap.size,2,none⟩ (.bool yn)).setCell ⟨wr.heap.size,3,none⟩ (.slice za yr.length zc)).setCell ⟨wr.heap.size,4,none⟩ (.int .i64 yl)).setCell ⟨wr.heap.size,5,none⟩ (.int .i64 yh)).setCell ⟨wr.heap.size,6,none⟩ (.bool yz)).setCell ⟨wr.heap.size,7,none⟩ (.slice zka ys.length zkc))).heap.size:=hbF.size;clear hkF hoF hrF hcF;by_cases hkk:yk=kd
   ·have hkb:(yk==kd)=true:=by simpa using hkk
    have HTK2:Hid (flatL kd (xs.take (i+1))=fl++ys):=Lib.hid (by rw [HTK.out,if_pos (show (Rx.mk yk yc yn yr yl yh yz ys).kind=kd from hkk)];rfl);obtain⟨_,_,_,_,hq,_,hzF2⟩:=HCF.out.open_;unfold rxc at hq;simp only [List.cons.injEq,Value.slice.injEq,and_true,true_and] at hq;obtain⟨⟨rfl,rfl⟩,rfl,rfl⟩:=hq;obtain⟨ds,hds,hdv⟩:=hzF2;have HDS:=Lib.hid hds.sl;have HDV:=Lib.hid hdv;clear hkk hds hdv;unfold rxc;go_wp2_with (at_builtin;refine wpList_appM w.heap.size 34 rfl _ _ 32 rfl Tryz.underlying32 hix rfl (by decide) rfl HOF.out rfl HDS.out HDV.out.one (by omega) (by omega) (by decide) hzF ?_)
    intro v1 w4 ho1 hg1 hb4 hmv;have hox4:OwnX w4 w.heap.size v1 (flatL kd (xs.take (i+1))):=by
     rw [HTK2.out];exact OwnX.app HRF.out HDV.out rfl ho1 hg1 hmv
    have hb4':=hbF.trans hb4;clear ho1 hg1 hmv;go_wp2
    go_roundw
    case rel=>exact⟨i+1,by omega,by go_num,hb4',hox4⟩
    case measure=>simp [intOf];omega
   ·have hkb:(yk==kd)=false:=by simpa using hkk
    have HTK2:Hid (flatL kd (xs.take (i+1))=fl++[.mk yk yc yn yr yl yh yz ys]):=Lib.hid (by rw [HTK.out,if_neg (show ¬(Rx.mk yk yc yn yr yl yh yz ys).kind=kd from hkk)]);have hsl:=Sl.lit (n:=1) (sz:=8) (heap_alloc_new ((((((((((w3).setCell ⟨wr.heap.size,0,none⟩ (.int .i64 yk)).setCell ⟨wr.heap.size,1,none⟩ (.string ⟨(yc).toArray⟩)).setCell ⟨wr.heap.size,2,none⟩ (.bool yn)).setCell ⟨wr.heap.size,3,none⟩ (.slice za yr.length zc)).setCell ⟨wr.heap.size,4,none⟩ (.int .i64 yl)).setCell ⟨wr.heap.size,5,none⟩ (.int .i64 yh)).setCell ⟨wr.heap.size,6,none⟩ (.bool yz)).setCell ⟨wr.heap.size,7,none⟩ (.slice zka ys.length zkc))) (.cells #[.int .i64 yk,.string ⟨(yc).toArray⟩,.bool yn,.slice za yr.length zc,.int .i64 yl,.int .i64 yh,.bool yz,.slice zka ys.length zkc] 34)) rfl;have hszF:((((((((((w3).setCell ⟨wr.heap.size,0,none⟩ (.int .i64 yk)).setCell ⟨wr.heap.size,1,none⟩ (.string ⟨(yc).toArray⟩)).setCell ⟨wr.heap.size,2,none⟩ (.bool yn)).setCell ⟨wr.heap.size,3,none⟩ (.slice za yr.length zc)).setCell ⟨wr.heap.size,4,none⟩ (.int .i64 yl)).setCell ⟨wr.heap.size,5,none⟩ (.int .i64 yh)).setCell ⟨wr.heap.size,6,none⟩ (.bool yz)).setCell ⟨wr.heap.size,7,none⟩ (.slice zka ys.length zkc))).heap.size=w3.heap.size:=by simp [World.setCell]
    rw [hszF] at hsl;have hone:=HCF.out.one;have ho3:=own_below HOF.out ((Below.refl ((((((((((w3).setCell ⟨wr.heap.size,0,none⟩ (.int .i64 yk)).setCell ⟨wr.heap.size,1,none⟩ (.string ⟨(yc).toArray⟩)).setCell ⟨wr.heap.size,2,none⟩ (.bool yn)).setCell ⟨wr.heap.size,3,none⟩ (.slice za yr.length zc)).setCell ⟨wr.heap.size,4,none⟩ (.int .i64 yl)).setCell ⟨wr.heap.size,5,none⟩ (.int .i64 yh)).setCell ⟨wr.heap.size,6,none⟩ (.bool yz)).setCell ⟨wr.heap.size,7,none⟩ (.slice zka ys.length zkc))).heap.size ((((((((((w3).setCell ⟨wr.heap.size,0,none⟩ (.int .i64 yk)).setCell ⟨wr.heap.size,1,none⟩ (.string ⟨(yc).toArray⟩)).setCell ⟨wr.heap.size,2,none⟩ (.bool yn)).setCell ⟨wr.heap.size,3,none⟩ (.slice za yr.length zc)).setCell ⟨wr.heap.size,4,none⟩ (.int .i64 yl)).setCell ⟨wr.heap.size,5,none⟩ (.int .i64 yh)).setCell ⟨wr.heap.size,6,none⟩ (.bool yz)).setCell ⟨wr.heap.size,7,none⟩ (.slice zka ys.length zkc)))).alloc (Nat.le_refl _) (.cells #[.int .i64 yk,.string ⟨(yc).toArray⟩,.bool yn,.slice za yr.length zc,.int .i64 yl,.int .i64 yh,.bool yz,.slice zka ys.length zkc] 34));have hrv3:=HRF.out.later ((Below.refl ((((((((((w3).setCell ⟨wr.heap.size,0,none⟩ (.int .i64 yk)).setCell ⟨wr.heap.size,1,none⟩ (.string ⟨(yc).toArray⟩)).setCell ⟨wr.heap.size,2,none⟩ (.bool yn)).setCell ⟨wr.heap.size,3,none⟩ (.slice za yr.length zc)).setCell ⟨wr.heap.size,4,none⟩ (.int .i64 yl)).setCell ⟨wr.heap.size,5,none⟩ (.int .i64 yh)).setCell ⟨wr.heap.size,6,none⟩ (.bool yz)).setCell ⟨wr.heap.size,7,none⟩ (.slice zka ys.length zkc))).heap.size ((((((((((w3).setCell ⟨wr.heap.size,0,none⟩ (.int .i64 yk)).setCell ⟨wr.heap.size,1,none⟩ (.string ⟨(yc).toArray⟩)).setCell ⟨wr.heap.size,2,none⟩ (.bool yn)).setCell ⟨wr.heap.size,3,none⟩ (.slice za yr.length zc)).setCell ⟨wr.heap.size,4,none⟩ (.int .i64 yl)).setCell ⟨wr.heap.size,5,none⟩ (.int .i64 yh)).setCell ⟨wr.heap.size,6,none⟩ (.bool yz)).setCell ⟨wr.heap.size,7,none⟩ (.slice zka ys.length zkc)))).alloc (Nat.le_refl _) (.cells #[.int .i64 yk,.string ⟨(yc).toArray⟩,.bool yn,.slice za yr.length zc,.int .i64 yl,.int .i64 yh,.bool yz,.slice zka ys.length zkc] 34));have hcv3:=HCF.out.later ((Below.refl ((((((((((w3).setCell ⟨wr.heap.size,0,none⟩ (.int .i64 yk)).setCell ⟨wr.heap.size,1,none⟩ (.string ⟨(yc).toArray⟩)).setCell ⟨wr.heap.size,2,none⟩ (.bool yn)).setCell ⟨wr.heap.size,3,none⟩ (.slice za yr.length zc)).setCell ⟨wr.heap.size,4,none⟩ (.int .i64 yl)).setCell ⟨wr.heap.size,5,none⟩ (.int .i64 yh)).setCell ⟨wr.heap.size,6,none⟩ (.bool yz)).setCell ⟨wr.heap.size,7,none⟩ (.slice zka ys.length zkc))).heap.size ((((((((((w3).setCell ⟨wr.heap.size,0,none⟩ (.int .i64 yk)).setCell ⟨wr.heap.size,1,none⟩ (.string ⟨(yc).toArray⟩)).setCell ⟨wr.heap.size,2,none⟩ (.bool yn)).setCell ⟨wr.heap.size,3,none⟩ (.slice za yr.length zc)).setCell ⟨wr.heap.size,4,none⟩ (.int .i64 yl)).setCell ⟨wr.heap.size,5,none⟩ (.int .i64 yh)).setCell ⟨wr.heap.size,6,none⟩ (.bool yz)).setCell ⟨wr.heap.size,7,none⟩ (.slice zka ys.length zkc)))).alloc (Nat.le_refl _) (.cells #[.int .i64 yk,.string ⟨(yc).toArray⟩,.bool yn,.slice za yr.length zc,.int .i64 yl,.int .i64 yh,.bool yz,.slice zka ys.length zkc] 34))
    have HO3:=Lib.hid ho3;have HSL:=Lib.hid hsl;have HRV3':=Lib.hid hrv3;have HCV3':=Lib.hid hcv3;have HONE:=Lib.hid hone;have hzF':w.heap.size≤(((((((((((w3).setCell ⟨wr.heap.size,0,none⟩ (.int .i64 yk)).setCell ⟨wr.heap.size,1,none⟩ (.string ⟨(yc).toArray⟩)).setCell ⟨wr.heap.size,2,none⟩ (.bool yn)).setCell ⟨wr.heap.size,3,none⟩ (.slice za yr.length zc)).setCell ⟨wr.heap.size,4,none⟩ (.int .i64 yl)).setCell ⟨wr.heap.size,5,none⟩ (.int .i64 yh)).setCell ⟨wr.heap.size,6,none⟩ (.bool yz)).setCell ⟨wr.heap.size,7,none⟩ (.slice zka ys.length zkc))).alloc (.cells #[.int .i64 yk,.string ⟨(yc).toArray⟩,.bool yn,.slice za yr.length zc,.int .i64 yl,.int .i64 yh,.bool yz,.slice zka ys.length zkc] 34)).heap.size:=by rw [World.size_alloc];omega
    have hbF':=hbF.alloc hzF (.cells #[.int .i64 yk,.string ⟨(yc).toArray⟩,.bool yn,.slice za yr.length zc,.int .i64 yl,.int .i64 yh,.bool yz,.slice zka ys.length zkc] 34);clear hkk ho3 hsl hrv3 hcv3 hone;unfold rxc;go_wp2_with (at_builtin;refine wpList_appM w.heap.size 34 rfl _ _ 32 rfl Tryz.underlying32 hix rfl (by decide) rfl HO3.out rfl HSL.out HONE.out (by omega) (by omega) (by decide) hzF' ?_)
    intro v1 w4 ho1 hg1 hb4 hmv;have hox4:OwnX w4 w.heap.size v1 (flatL kd (xs.take (i+1))):=by
     rw [HTK2.out];exact OwnX.app (ds:=[_]) (m:=1) HRV3'.out (.cons HCV3'.out .nil) rfl (by simpa using ho1) hg1 hmv
    have hb4':=hbF'.trans hb4;clear ho1 hg1 hmv;go_wp2
    go_roundw
    case rel=>exact⟨i+1,by omega,by go_num,hb4',hox4⟩
    case measure=>simp [intOf];omega
end Go.Proofs.YtbgcjpefocdkkaaGreat
set_option maxRecDepth 100000
namespace Go.Proofs.YtbgcjpefocdkkaaGreat
open Go.RowKit
def kind0 (l:List Rx):Rx:=.mk 0 [] false [] 0 0 false l
def kind1 (l:List Rx):Rx:=.mk 1 [] false [] 0 0 false l
def seqR (xs:List Rx):Rx:=match flatL 0 xs with|[x]=>x|l=>kind0 l
def altR (xs:List Rx):Rx:=match flatL 1 xs with|[]=>kind0 []|[x]=>x|l=>kind1 l
set_option maxHeartbeats 1000000 in
theorem Seq_any (S:Nat→Prop) (a:Option Addr) (c:Nat) (xs:List Rx) (w:World) (hx:RxSl w S a xs.length xs) (hp:Rx.partsL xs≤1000000) (hsm:Rx.smallL xs) :
  Calls Tryz.prog 105 #[.slice a xs.length c] w fun e w'=>∃cc',e=.returned (.agg cc'.toArray)∧RxV w' (fun b=>w.heap.size≤b) cc' (seqR xs)∧Below w.heap.size w w':=by
 unfold seqR;obtain⟨w0,hw0⟩:∃w0,w0=w.alloc (.cells #[.int .i64 0,.string ⟨#[]⟩,.bool false,.slice none 0 0,.int .i64 0,.int .i64 0,.bool false,.slice none 0 0] 34):=⟨_,rfl⟩;have hb0:Below w.heap.size w w0:=by rw [hw0];exact(Below.refl _ _).alloc (Nat.le_refl _) _
 have hz0:w0.heap.size=w.heap.size+1:=by rw [hw0];simp
 have hby0:w0.heap[w.heap.size]?=some (.cells #[.int .i64 0,.string ⟨#[]⟩,.bool false,.slice none 0 0,.int .i64 0,.int .i64 0,.bool false,.slice none 0 0] 34 (0,0)):=by rw [hw0];exact heap_alloc_new w _
 have HX0:=Lib.hid (hx.later hb0);rw [hw0] at HX0;have HSM:=Lib.hid hsm;have HW0:=Lib.hid hw0;have HBY0:=Lib.hid hby0;have hfl:=flatL_len 0 xs;clear hx hsm hw0 hby0;generalize hL:flatL 0 xs=L at *
 go_enter Tryz.func105,Tryz.ntmps105
 go_wp2_with (go_at_call 120;refine(flat_any S 0 _ _ xs _ HX0.out hp HSM.out).mono ?_)
 rintro e w1 ⟨a1,c1,rfl,hx1,hb1⟩;rw [hL] at hx1 ⊢;rw [←HW0.out] at hb1 hx1;have hbw1:=bel2 hb0 hb1;obtain⟨f0,f1,f2,f3,f4,f5,f6,f7,f8⟩:=bx_cells (c:=[]) ((hb1.block _ (heap_lt HBY0.out)).trans HBY0.out);replace hx1:RxSl w1 (fun b=>w.heap.size+1≤b) a1 L.length L:=hx1.mono fun b hb _=>by have:w0.heap.size≤b:=hb;show w.heap.size+1≤b;omega
 clear hL hb1;rcases L with _|⟨y,_|⟨z,L⟩⟩
 ·have HX1:=Lib.hid hx1
  clear hx1;go_wp2
  refine bodyPost_ret (v:=.agg #[.int .i64 0,.string ⟨([]).toArray⟩,.bool false,.slice none ([]:List (Str × Str)).length 0,.int .i64 0,.int .i64 0,.bool false,.slice a1 ([]:List Rx).length c1]) (by simp [results,Tryz.results105,go_sem,f0,f1,f2,f3,f4,f5,f6,f7]) rfl ?_;refine⟨rxc 0 [] false none ([]:List (Str × Str)).length 0 0 0 false a1 ([]:List Rx).length c1,rfl,RxV.mono (S:=fun b=>w.heap.size+1≤b) (fun b hb _=>by have:w.heap.size+1≤b:=hb;show w.heap.size≤b;omega) (RxV.close ?_ ?_),?_⟩
  ·iterate 8 (refine SlS.keep ?_ (Kept.setLow _ (fun b hb=>by have:w.heap.size+1≤b:=hb;simp;omega)))
   exact SlS.none_ _ _ _ _
  ·iterate 8 (refine RxSl.keep ?_ (Kept.setLow _ (fun b hb=>by have:w.heap.size+1≤b:=hb;simp;omega)))
   exact HX1.out
  ·iterate 8 (refine Below.setCell ?_ (by simp) _)
   exact hbw1
 ·skip
  obtain⟨yk,yc,yn,yr,yl,yh,yz,ys⟩:=y;obtain⟨b,o,ya,yrc,yka,ykc,rfl,hS,hbB,hyr,hyx,hyv,c0,c1',c2,c3,c4,c5,c6,c7⟩:=hx1.cells (m:=0) rfl;simp only [Nat.zero_mul,Nat.add_zero] at c0 c1' c2 c3 c4 c5 c6 c7;have HYR:=Lib.hid hyr;have HYX:=Lib.hid hyx;clear hyr hyx hyv;go_wp2
  refine bodyPost_ret (v:=.agg #[.int .i64 yk,.string ⟨(yc).toArray⟩,.bool yn,.slice ya yr.length yrc,.int .i64 yl,.int .i64 yh,.bool yz,.slice yka ys.length ykc]) (by simp [results,Tryz.results105,go_sem,f0,f1,f2,f3,f4,f5,f6,f7]) rfl ?_;refine⟨rxc yk yc yn ya yr.length yrc yl yh yz yka ys.length ykc,rfl,RxV.mono (S:=fun b=>w.heap.size+1≤b) (fun b hb _=>by have:w.heap.size+1≤b:=hb;show w.heap.size≤b;omega) (RxV.close ?_ ?_),?_⟩
  ·iterate 8 (refine SlS.keep ?_ (Kept.setLow _ (fun b hb=>by have:w.heap.size+1≤b:=hb;simp;omega)))
   exact HYR.out
  ·iterate 8 (refine RxSl.keep ?_ (Kept.setLow _ (fun b hb=>by have:w.heap.size+1≤b:=hb;simp;omega)))
   exact HYX.out
  ·iterate 8 (refine Below.setCell ?_ (by simp) _)
   exact hbw1
 ·have HX1:=Lib.hid hx1
  have hne:(((z::L).length:Int)+1==1)=false:=by rw [beq_eq_false_iff_ne];simp;omega
  have hne2:((L.length:Int)+1+1==1)=false:=by rw [beq_eq_false_iff_ne];omega
  clear hx1;go_wp2
  refine bodyPost_ret (v:=.agg #[.int .i64 0,.string ⟨([]).toArray⟩,.bool false,.slice none ([]:List (Str × Str)).length 0,.int .i64 0,.int .i64 0,.bool false,.slice a1 (y::z::L).length c1]) (by simp [results,Tryz.results105,go_sem,f0,f1,f2,f3,f4,f5,f6,f7]) rfl ?_;refine⟨rxc 0 [] false none ([]:List (Str × Str)).length 0 0 0 false a1 (y::z::L).length c1,rfl,RxV.mono (S:=fun b=>w.heap.size+1≤b) (fun b hb _=>by have:w.heap.size+1≤b:=hb;show w.heap.size≤b;omega) (RxV.close ?_ ?_),?_⟩
  ·iterate 8 (refine SlS.keep ?_ (Kept.setLow _ (fun b hb=>by have:w.heap.size+1≤b:=hb;simp;omega)))
   exact SlS.none_ _ _ _ _
  ·iterate 8 (refine RxSl.keep ?_ (Kept.setLow _ (fun b hb=>by have:w.heap.size+1≤b:=hb;simp;omega)))
   exact HX1.out
  ·iterate 8 (refine Below.setCell ?_ (by simp) _)
   exact hbw1
set_option maxHeartbeats 1000000 in
theorem Alt_any (S:Nat→Prop) (a:Option Addr) (c:Nat) (xs:List Rx) (w:World) (hx:RxSl w S a xs.length xs) (hp:Rx.partsL xs≤1000000) (hsm:Rx.smallL xs) :
  Calls Tryz.prog 104 #[.slice a xs.length c] w fun e w'=>∃cc',e=.returned (.agg cc'.toArray)∧RxV w' (fun b=>w.heap.size≤b) cc' (altR xs)∧Below w.heap.size w w':=by
 unfold altR;obtain⟨w0,hw0⟩:∃w0,w0=w.alloc (.cells #[.int .i64 0,.string ⟨#[]⟩,.bool false,.slice none 0 0,.int .i64 0,.int .i64 0,.bool false,.slice none 0 0] 34):=⟨_,rfl⟩;have hb0:Below w.heap.size w w0:=by rw [hw0];exact(Below.refl _ _).alloc (Nat.le_refl _) _
 have hz0:w0.heap.size=w.heap.size+1:=by rw [hw0];simp
 have hby0:w0.heap[w.heap.size]?=some (.cells #[.int .i64 0,.string ⟨#[]⟩,.bool false,.slice none 0 0,.int .i64 0,.int .i64 0,.bool false,.slice none 0 0] 34 (0,0)):=by rw [hw0];exact heap_alloc_new w _
 have HX0:=Lib.hid (hx.later hb0);rw [hw0] at HX0;have HSM:=Lib.hid hsm;have HW0:=Lib.hid hw0;have HBY0:=Lib.hid hby0;have hfl:=flatL_len 1 xs;clear hx hsm hw0 hby0;generalize hL:flatL 1 xs=L at *
 go_enter Tryz.func104,Tryz.ntmps104
 go_wp2_with (go_at_call 120;refine(flat_any S 1 _ _ xs _ HX0.out hp HSM.out).mono ?_)
 rintro e w1 ⟨a1,c1,rfl,hx1,hb1⟩;rw [hL] at hx1 ⊢;rw [←HW0.out] at hb1 hx1;have hbw1:=bel2 hb0 hb1;obtain⟨f0,f1,f2,f3,f4,f5,f6,f7,f8⟩:=bx_cells (c:=[]) ((hb1.block _ (heap_lt HBY0.out)).trans HBY0.out);replace hx1:RxSl w1 (fun b=>w.heap.size+1≤b) a1 L.length L:=hx1.mono fun b hb _=>by have:w0.heap.size≤b:=hb;show w.heap.size+1≤b;omega
 clear hL hb1;rcases L with _|⟨y,_|⟨z,L⟩⟩
 ·clear hx1
  go_wp2
  refine bodyPost_ret (v:=.agg #[.int .i64 0,.string ⟨([]).toArray⟩,.bool false,.slice none ([]:List (Str × Str)).length 0,.int .i64 0,.int .i64 0,.bool false,.slice none ([]:List Rx).length 0]) (by simp [results,Tryz.results104,go_sem,f0,f1,f2,f3,f4,f5,f6,f7]) rfl ?_;refine⟨rxc 0 [] false none ([]:List (Str × Str)).length 0 0 0 false none ([]:List Rx).length 0,rfl,RxV.mono (S:=fun b=>w.heap.size+1≤b) (fun b hb _=>by have:w.heap.size+1≤b:=hb;show w.heap.size≤b;omega) (RxV.close ?_ ?_),?_⟩
  ·iterate 8 (refine SlS.keep ?_ (Kept.setLow _ (fun b hb=>by have:w.heap.size+1≤b:=hb;simp;omega)))
   exact SlS.none_ _ _ _ _
  ·iterate 8 (refine RxSl.keep ?_ (Kept.setLow _ (fun b hb=>by have:w.heap.size+1≤b:=hb;simp;omega)))
   exact⟨[],SlS.none_ _ _ _ _,.nil⟩
  ·iterate 8 (refine Below.setCell ?_ (by simp) _)
   exact hbw1
 ·skip
  obtain⟨yk,yc,yn,yr,yl,yh,yz,ys⟩:=y;obtain⟨b,o,ya,yrc,yka,ykc,rfl,hS,hbB,hyr,hyx,hyv,c0,c1',c2,c3,c4,c5,c6,c7⟩:=hx1.cells (m:=0) rfl;simp only [Nat.zero_mul,Nat.add_zero] at c0 c1' c2 c3 c4 c5 c6 c7;have HYR:=Lib.hid hyr;have HYX:=Lib.hid hyx;clear hyr hyx hyv;go_wp2
  refine bodyPost_ret (v:=.agg #[.int .i64 yk,.string ⟨(yc).toArray⟩,.bool yn,.slice ya yr.length yrc,.int .i64 yl,.int .i64 yh,.bool yz,.slice yka ys.length ykc]) (by simp [results,Tryz.results104,go_sem,f0,f1,f2,f3,f4,f5,f6,f7]) rfl ?_;refine⟨rxc yk yc yn ya yr.length yrc yl yh yz yka ys.length ykc,rfl,RxV.mono (S:=fun b=>w.heap.size+1≤b) (fun b hb _=>by have:w.heap.size+1≤b:=hb;show w.heap.size≤b;omega) (RxV.close ?_ ?_),?_⟩
  ·iterate 8 (refine SlS.keep ?_ (Kept.setLow _ (fun b hb=>by have:w.heap.size+1≤b:=hb;simp;omega)))
   exact HYR.out
  ·iterate 8 (refine RxSl.keep ?_ (Kept.setLow _ (fun b hb=>by have:w.heap.size+1≤b:=hb;simp;omega)))
   exact HYX.out
  ·iterate 8 (refine Below.setCell ?_ (by simp) _)
   exact hbw1
 ·have HX1:=Lib.hid hx1
  have hne0:((L.length:Int)+1+1==0)=false:=by rw [beq_eq_false_iff_ne];omega
  have hne2:((L.length:Int)+1+1==1)=false:=by rw [beq_eq_false_iff_ne];omega
  clear hx1;go_wp2
  refine bodyPost_ret (v:=.agg #[.int .i64 1,.string ⟨([]).toArray⟩,.bool false,.slice none ([]:List (Str × Str)).length 0,.int .i64 0,.int .i64 0,.bool false,.slice a1 (y::z::L).length c1]) (by simp [results,Tryz.results104,go_sem,f0,f1,f2,f3,f4,f5,f6,f7]) rfl ?_;refine⟨rxc 1 [] false none ([]:List (Str × Str)).length 0 0 0 false a1 (y::z::L).length c1,rfl,RxV.mono (S:=fun b=>w.heap.size+1≤b) (fun b hb _=>by have:w.heap.size+1≤b:=hb;show w.heap.size≤b;omega) (RxV.close ?_ ?_),?_⟩
  ·iterate 8 (refine SlS.keep ?_ (Kept.setLow _ (fun b hb=>by have:w.heap.size+1≤b:=hb;simp;omega)))
   exact SlS.none_ _ _ _ _
  ·iterate 8 (refine RxSl.keep ?_ (Kept.setLow _ (fun b hb=>by have:w.heap.size+1≤b:=hb;simp;omega)))
   exact HX1.out
  ·iterate 8 (refine Below.setCell ?_ (by simp) _)
   exact hbw1
end Go.Proofs.YtbgcjpefocdkkaaGreat
set_option maxRecDepth 100000
namespace Go.Proofs.YtbgcjpefocdkkaaGreat
open Go.RowKit
theorem less_irrefl:∀a:Str,Op.bytesLess a a=false
 | []=>rfl
 | c::r=>by simp [Op.bytesLess,less_irrefl r]
theorem less_trans:∀{a b c:Str},Op.bytesLess a b=true→Op.bytesLess b c=true→Op.bytesLess a c=true
 | _,[],_,h,_=>by simp [Op.bytesLess] at h
 | _,_::_,[],_,h=>by simp [Op.bytesLess] at h
 | [],_::_,_::_,_,_=>rfl
 | x::a,y::b,z::c,h1,h2=>by
  simp only [Op.bytesLess,Bool.or_eq_true,Bool.and_eq_true,decide_eq_true_eq,beq_iff_eq] at h1 h2 ⊢;rcases h1 with h1|⟨rfl,h1⟩<;>rcases h2 with h2|⟨rfl,h2⟩
  ·exact .inl (UInt8.lt_trans h1 h2)
  ·exact .inl h1
  ·exact .inl h2
  ·exact .inr ⟨rfl,less_trans h1 h2⟩
theorem less_total:∀a b:Str,Op.bytesLess a b=true∨a=b∨Op.bytesLess b a=true
 | [],[]=>.inr (.inl rfl)
 | [],_::_=>.inl rfl
 | _::_,[]=>.inr (.inr rfl)
 | x::a,y::b=>by
  simp only [Op.bytesLess,Bool.or_eq_true,Bool.and_eq_true,decide_eq_true_eq,beq_iff_eq];rcases Nat.lt_trichotomy x.toNat y.toNat with h|h|h
  ·exact .inl (.inl (UInt8.lt_iff_toNat_lt.2 h))
  ·obtain rfl:=UInt8.toNat_inj.1 h
   rcases less_total a b with h|rfl|h
   ·exact .inl (.inr ⟨rfl,h⟩)
   ·exact .inr (.inl rfl)
   ·exact .inr (.inr (.inr ⟨rfl,h⟩))
  ·exact .inr (.inr (.inl (UInt8.lt_iff_toNat_lt.2 h)))
theorem less_asymm {a b:Str} (h:Op.bytesLess a b=true):Op.bytesLess b a=false:=by
 cases h2:Op.bytesLess b a with
 | false=>rfl
 | true=>have:=less_trans h h2;rw [less_irrefl] at this;cases this
def cmpS (a b:Str):Int:=if Op.bytesLess a b=true then -1 else if a=b then 0 else 1
def cmpR (a b:Str × Str):Int:=if cmpS a.1 b.1=0 then cmpS a.2 b.2 else cmpS a.1 b.1
theorem cmpS_cases (a b:Str):(cmpS a b=-1∧Op.bytesLess a b=true)∨(cmpS a b=0∧a=b)∨(cmpS a b=1∧Op.bytesLess b a=true):=by
 unfold cmpS;rcases less_total a b with h|rfl|h
 ·rw [if_pos h];exact .inl ⟨rfl,h⟩
 ·rw [if_neg (by rw [less_irrefl];simp),if_pos rfl];exact .inr (.inl ⟨rfl,rfl⟩)
 ·have h2:=less_asymm h
  rw [if_neg (by rw [h2];simp),if_neg (by rintro rfl;rw [less_irrefl] at h;cases h)];exact .inr (.inr ⟨rfl,h⟩)
theorem isNaN_any (a:Str) (w:World):Calls Tryz.prog 148 #[.string ⟨(a).toArray⟩] w fun e w'=>e=.returned (.bool false)∧w=w':=by
 go_enter Tryz.func148,Tryz.ntmps148
 go_wp2
 go_ret
 exact⟨ret_bool (by simp),rfl⟩
theorem Compare_any (a b:Str) (w:World):Calls Tryz.prog 145 #[.string ⟨(a).toArray⟩,.string ⟨(b).toArray⟩] w fun e w'=>e=.returned (.int .i64 (cmpS a b))∧w=w':=by
 have hc:=Lib.hid (cmpS_cases a b);generalize hR:cmpS a b=R
 have HR:=Lib.hid hR;clear hR;rcases less_total a b with h|rfl|h
 ·have HE:Hid (R=-1):=Lib.hid (by rw [←HR.out];unfold cmpS;rw [if_pos h])
  go_enter Tryz.func145,Tryz.ntmps145
  go_wp2_with (go_at_call 148;refine(isNaN_any _ _).mono ?_;rintro e w1 ⟨rfl,rfl⟩)
  go_ret
  exact⟨ret_int HE.out.symm,rfl⟩
 ·have HE:Hid (R=0):=Lib.hid (by rw [←HR.out];unfold cmpS;rw [if_neg (by rw [less_irrefl];simp),if_pos rfl])
  have h1:=less_irrefl a;have h2:leS a a=true:=by simp [leS]
  go_enter Tryz.func145,Tryz.ntmps145
  go_wp2_with (go_at_call 148;refine(isNaN_any _ _).mono ?_;rintro e w1 ⟨rfl,rfl⟩)
  go_ret
  exact⟨ret_int HE.out.symm,rfl⟩
 ·have h2:=less_asymm h
  have hne:a≠b:=by rintro rfl;rw [less_irrefl] at h;cases h
  have HE:Hid (R=1):=Lib.hid (by rw [←HR.out];unfold cmpS;rw [if_neg (by rw [h2];simp),if_neg hne]);have h3:leS a b=false:=by simp [leS,h2,hne]
  have h4:(a==b)=false:=by simpa using hne
  go_enter Tryz.func145,Tryz.ntmps145
  go_wp2_with (go_at_call 148;refine(isNaN_any _ _).mono ?_;rintro e w1 ⟨rfl,rfl⟩)
  go_ret
  exact⟨ret_int HE.out.symm,rfl⟩
def OrRel (a b:Int) (w:World) (q:Value) (wr:World):Prop:=wr=w∧(q=.int .i64 0∨(q=.int .i64 1∧a=0)∨(q=.int .i64 2∧a=0∧b=0))
theorem Or_any (a b:Int) (g c:Nat) (w:World) (h0:w.cell? ⟨g,0,none⟩=some (.int .i64 a)) (h1:w.cell? ⟨g,1,none⟩=some (.int .i64 b)) :
  Calls Tryz.prog 144 #[.slice (some ⟨g,0,none⟩) 2 c] w fun e w'=>e=.returned (.int .i64 (if a=0 then b else a))∧w=w':=by
 go_enter Tryz.func144,Tryz.ntmps144
 by_cases ha:a=0
 ·subst ha
  by_cases hb:b=0
  ·subst hb
   go_wp2
   go_loopw [8] (fun q wr=>OrRel 0 0 w q wr) (fun q _=>2-(intOf q).toNat)
   case atStart=>exact⟨rfl,.inl rfl⟩
   case round =>
    obtain⟨rfl,rfl|⟨rfl,_⟩|⟨rfl,_⟩⟩:=hrel
    ·go_wp2
     go_roundw
     case rel=>exact⟨rfl,.inr (.inl ⟨rfl,rfl⟩)⟩
     case measure=>simp [intOf]
    ·go_wp2
     go_roundw
     case rel=>exact⟨rfl,.inr (.inr ⟨rfl,rfl,rfl⟩)⟩
     case measure=>simp [intOf]
    ·go_wp2
     go_ret
     exact⟨rfl,rfl⟩
  ·have hbb:(b==0)=false:=by simpa using hb
   have hbb':(b != 0)=true:=by simpa using hb
   have HB:=Lib.hid hb;clear hb;go_wp2
   go_loopw [8] (fun q wr=>OrRel 0 b w q wr) (fun q _=>2-(intOf q).toNat)
   case atStart=>exact⟨rfl,.inl rfl⟩
   case round =>
    obtain⟨rfl,rfl|⟨rfl,_⟩|⟨rfl,_,hx⟩⟩:=hrel
    ·go_wp2
     go_roundw
     case rel=>exact⟨rfl,.inr (.inl ⟨rfl,rfl⟩)⟩
     case measure=>simp [intOf]
    ·go_wp2
     go_ret
     exact⟨ret_int (by simp),rfl⟩
    ·exact absurd hx HB.out
 ·have haa:(a==0)=false:=by simpa using ha
  have haa':(a != 0)=true:=by simpa using ha
  have HA:=Lib.hid ha;clear ha;go_wp2
  go_loopw [8] (fun q wr=>OrRel a b w q wr) (fun q _=>2-(intOf q).toNat)
  case atStart=>exact⟨rfl,.inl rfl⟩
  case round =>
   obtain⟨rfl,rfl|⟨rfl,hx⟩|⟨rfl,hx,_⟩⟩:=hrel
   ·go_wp2
    go_ret
    exact⟨ret_int (by first|rfl|rw [if_neg HA.out]),rfl⟩
   ·exact absurd hx HA.out
   ·exact absurd hx HA.out
theorem cmpU_any (a b:Str × Str) (w:World) :
  Calls Tryz.prog 143 #[.agg #[.string ⟨(a.1).toArray⟩,.string ⟨(a.2).toArray⟩],.agg #[.string ⟨(b.1).toArray⟩,.string ⟨(b.2).toArray⟩]] w fun e w'=>e=.returned (.int .i64 (cmpR a b))∧Below w.heap.size w w':=by
 obtain⟨a1,a2⟩:=a;obtain⟨b1,b2⟩:=b;generalize hR:cmpR (a1,a2) (b1,b2)=R
 have HR:=Lib.hid hR;clear hR;obtain⟨W,hW⟩:∃W,W=(w.alloc (.cells #[.string ⟨(a1).toArray⟩,.string ⟨(a2).toArray⟩] 103)).alloc (.cells #[.string ⟨(b1).toArray⟩,.string ⟨(b2).toArray⟩] 103):=⟨_,rfl⟩;have hb0:Below w.heap.size w W:=by rw [hW];exact((Below.refl _ _).alloc (Nat.le_refl _) _).alloc (by simp) _
 have d0:W.cell? ⟨w.heap.size,0,none⟩=some (.string ⟨(a1).toArray⟩):=by rw [hW];simp
 have d1:W.cell? ⟨w.heap.size,1,none⟩=some (.string ⟨(a2).toArray⟩):=by rw [hW];simp
 have d2:W.cell? ⟨w.heap.size+1,0,none⟩=some (.string ⟨(b1).toArray⟩):=by rw [hW];simp
 have d3:W.cell? ⟨w.heap.size+1,1,none⟩=some (.string ⟨(b2).toArray⟩):=by rw [hW];simp
 have HC1:Hid (∀w,Calls Tryz.prog 145 #[.string ⟨(a1).toArray⟩,.string ⟨(b1).toArray⟩] w fun e w'=>e=.returned (.int .i64 (cmpS a1 b1))∧w'=w):=Lib.hid (fun w=>(Compare_any a1 b1 w).mono fun _ _ ⟨h1,h2⟩=>⟨h1,h2.symm⟩);have HC2:Hid (∀w,Calls Tryz.prog 145 #[.string ⟨(a2).toArray⟩,.string ⟨(b2).toArray⟩] w fun e w'=>e=.returned (.int .i64 (cmpS a2 b2))∧w'=w):=Lib.hid (fun w=>(Compare_any a2 b2 w).mono fun _ _ ⟨h1,h2⟩=>⟨h1,h2.symm⟩);generalize hc1:cmpS a1 b1=c1 at *
 generalize hc2:cmpS a2 b2=c2 at *
 have HRR:Hid (R=if c1=0 then c2 else c1):=Lib.hid (by rw [←HR.out];unfold cmpR;rw [←hc1,←hc2]);clear hc1 hc2 HR;go_enter Tryz.func143,Tryz.ntmps143
 go_wp2
 rw [←hW];clear hW;go_still_tail 10,(by kernel_rfl)
 still_call (HC1.out _)
 repeat still_step
 still_call (HC2.out _)
 repeat still_step
 try refine wpStill_nil ?_
 change wpList _ _ _ _ _ W.drew
 have hs0:=heap_alloc_new W.drew (.cells #[.int .i64 c1,.int .i64 c2] 3);have z0:(W.drew.alloc (.cells #[.int .i64 c1,.int .i64 c2] 3)).cell? ⟨W.heap.size,0,none⟩=some (.int .i64 c1):=by show (W.drew.alloc _).cell? ⟨W.drew.heap.size,0,none⟩=_;rw [Lib.cell_of_heap hs0];rfl
 have z1:(W.drew.alloc (.cells #[.int .i64 c1,.int .i64 c2] 3)).cell? ⟨W.heap.size,1,none⟩=some (.int .i64 c2):=by show (W.drew.alloc _).cell? ⟨W.drew.heap.size,1,none⟩=_;rw [Lib.cell_of_heap hs0];rfl
 go_wp2_with (go_at_call 144;refine(Or_any c1 c2 _ _ _ z0 z1).mono ?_;rintro e w1 ⟨rfl,rfl⟩;rw [←HRR.out])
 go_ret
 exact⟨rfl,(hb0.drew).alloc hb0.size _⟩
end Go.Proofs.YtbgcjpefocdkkaaGreat
set_option maxRecDepth 100000
namespace Go.Proofs.YtbgcjpefocdkkaaGreat
open Go.RowKit
abbrev Row:=Str × Str
def RO (w:World) (B g cap:Nat) (rs:List Row):Prop:=w.ownsRow B 103 2 (.slice (some ⟨g,0,none⟩) rs.length cap) rs.length (rcells rs)
theorem RO.at_ {w:World} {B g cap:Nat} {rs:List Row} (h:RO w B g cap rs) {i:Nat} {r:Row} (hi:rs[i]?=some r) :
  w.cell? ⟨g,i*2,none⟩=some (.string ⟨(r.1).toArray⟩)∧w.cell? ⟨g,i*2+1,none⟩=some (.string ⟨(r.2).toArray⟩):=by
 have hlt:=(List.getElem?_eq_some_iff.1 hi).1;obtain⟨c1,c2⟩:=rcells_at hi;exact⟨by rw [h.cellAt _ (by omega)];exact c1,by rw [h.cellAt _ (by omega)];exact c2⟩
theorem RO.free {w:World} {B g cap:Nat} {rs:List Row} (h:RO w B g cap rs) (j:Nat):w.frozen? ⟨g,j,none⟩=false:=h.frozenAt j
theorem rcells_set:∀(rs:List Row) (i:Nat) (y:Row),i<rs.length→rcells (rs.set i y)=((rcells rs).set (i*2) (.string ⟨(y.1).toArray⟩)).set (i*2+1) (.string ⟨(y.2).toArray⟩)
 | [],i,y,h=>by simp at h
 | r::rs,0,y,_=>by simp [rcells]
 | r::rs,i+1,y,h=>by
  have ih:=rcells_set rs i y (by simpa using h);have h1:∀l:List Row,rcells (r::l)=.string ⟨(r.1).toArray⟩::.string ⟨(r.2).toArray⟩::rcells l:=fun l=>by simp [rcells]
  rw [List.set_cons_succ,h1,h1,ih,show (i+1)*2=i*2+2 by omega];rfl
theorem RO.set {w:World} {B g cap:Nat} {rs:List Row} (h:RO w B g cap rs) {i:Nat} (y:Row) (hi:i<rs.length) :
  RO ((w.setCell ⟨g,i*2,none⟩ (.string ⟨(y.1).toArray⟩)).setCell ⟨g,i*2+1,none⟩ (.string ⟨(y.2).toArray⟩)) B g cap (rs.set i y):=by
 have h1:=((h.stored (i*2) (.string ⟨(y.1).toArray⟩)).1.stored (i*2+1) (.string ⟨(y.2).toArray⟩)).1;unfold RO;rw [rcells_set rs i y hi,List.length_set];exact h1
theorem grown_set {w w':World} {g:Nat} (h:w.grownBy w' (some g)) (o:Nat) (u:Value):w.grownBy (w'.setCell ⟨g,o,none⟩ u) (some g) :=
 ⟨h.os,h.tape,h.output,by simp [World.setCell];exact h.size,fun k hk hne=>(heap_setCell_other w' ⟨g,o,none⟩ k u (fun e=>hne (by simp [e]))).trans (h.block k hk hne)⟩
theorem grown_below {w w' w2:World} {row:Option Nat} (h:w.grownBy w' row) (hb:Below w'.heap.size w' w2):w.grownBy w2 row :=
 ⟨hb.os.trans h.os,hb.tape.trans h.tape,hb.output.trans h.output,Nat.le_trans h.size hb.size,fun k hk hne=>(hb.block k (Nat.lt_of_lt_of_le hk h.size)).trans (h.block k hk hne)⟩
theorem grown_trans {a b c:World} {row:Option Nat} (h1:a.grownBy b row) (h2:b.grownBy c row):a.grownBy c row :=
 ⟨h2.os.trans h1.os,h2.tape.trans h1.tape,h2.output.trans h1.output,Nat.le_trans h1.size h2.size,fun k hk hne=>(h2.block k (Nat.lt_of_lt_of_le hk h1.size) hne).trans (h1.block k hk hne)⟩
theorem grown_refl (w:World) (row:Option Nat):w.grownBy w row:=⟨rfl,rfl,rfl,Nat.le_refl _,fun _ _ _=>rfl⟩
theorem grown_drew {w w':World} {row:Option Nat} (h:w.grownBy w' row):w.grownBy w'.drew row:=⟨h.os,h.tape,h.output,h.size,h.block⟩
def swapL (rs:List Row) (i j:Nat):List Row:=match rs[i]?,rs[j]? with|some x,some y=>(rs.set i y).set j x|_,_=>rs
theorem swapL_len (rs:List Row) (i j:Nat):(swapL rs i j).length=rs.length:=by
 unfold swapL;split<;>simp
theorem swapL_eq {rs:List Row} {i j:Nat} {x y:Row} (hi:rs[i]?=some x) (hj:rs[j]?=some y):swapL rs i j=(rs.set i y).set j x:=by
 unfold swapL;rw [hi,hj]
theorem RO.swap {w:World} {B g cap:Nat} {rs:List Row} (h:RO w B g cap rs) {i j:Nat} {x y:Row} (hi:rs[i]?=some x) (hj:rs[j]?=some y) :
  RO ((((w.setCell ⟨g,i*2,none⟩ (.string ⟨(y.1).toArray⟩)).setCell ⟨g,i*2+1,none⟩ (.string ⟨(y.2).toArray⟩)).setCell ⟨g,j*2,none⟩ (.string ⟨(x.1).toArray⟩)).setCell ⟨g,j*2+1,none⟩ (.string ⟨(x.2).toArray⟩)).drew B g cap (swapL rs i j):=by
 have h1:=(List.getElem?_eq_some_iff.1 hi).1;have h2:=(List.getElem?_eq_some_iff.1 hj).1;rw [swapL_eq hi hj];exact((h.set y h1).set x (by simpa using h2):RO _ _ _ _ _)
def SwRel (B g cap a b n:Nat) (N:Nat) (R:List Row) (w:World) (q:Value) (wr:World):Prop :=
 ∃(i:Nat) (rs:List Row),i≤n∧q=.int .i64 i∧RO wr B g cap rs∧w.grownBy wr (some g)∧rs.length=N ∧
  Hid ((List.range' i (n-i)).foldl (fun l k=>swapL l (a+k) (b+k)) rs=R)
def swapN (rs:List Row) (a b n:Nat):List Row:=(List.range' 0 n).foldl (fun l k=>swapL l (a+k) (b+k)) rs
set_option maxHeartbeats 2000000 in
theorem swapRange_any (B g cap:Nat) (rs:List Row) (a b n:Nat) (f:Value) (w:World) (h:RO w B g cap rs) (ha:a+n≤rs.length) (hb:b+n≤rs.length) (hl:rs.length≤1000000) :
  Calls Tryz.prog 152 #[.slice (some ⟨g,0,none⟩) rs.length cap,.int .i64 a,.int .i64 b,.int .i64 n,f] w fun e w'=>e=.returned (.tuple #[])∧RO w' B g cap (swapN rs a b n)∧w.grownBy w' (some g):=by
 obtain⟨R,hR⟩:∃R,swapN rs a b n=R:=⟨_,rfl⟩;rw [hR];have HR0:Hid ((List.range' 0 (n-0)).foldl (fun l k=>swapL l (a+k) (b+k)) rs=R):=Lib.hid hR;obtain⟨N,hN⟩:∃N,N=rs.length:=⟨_,rfl⟩;have HN:=Lib.hid hN;have HRO:=Lib.hid h;rw [←hN] at ha hb hl ⊢;clear hR h hN;go_enter Tryz.func152,Tryz.ntmps152
 go_wp2
 go_loopw [10] (fun q wr=>SwRel B g cap a b n N R w q wr) (fun q _=>n-(intOf q).toNat)
 case atStart=>exact⟨0,rs,by omega,rfl,HRO.out,grown_refl _ _,HN.out.symm,HR0⟩
 case round =>
  obtain⟨i,l,hin,rfl,hro,hg,hlN,HF⟩:=hrel;clear HR0 HRO HN;by_cases h2:i<n
  ·obtain⟨x,hx⟩:∃x,l[a+i]?=some x:=⟨_,List.getElem?_eq_getElem (by omega)⟩
   obtain⟨y,hy⟩:∃y,l[b+i]?=some y:=⟨_,List.getElem?_eq_getElem (by omega)⟩;obtain⟨c1,c2⟩:=hro.at_ hx;obtain⟨c3,c4⟩:=hro.at_ hy;have f:=fun j=>hro.free j
   have HF2:Hid ((List.range' (i+1) (n-(i+1))).foldl (fun l k=>swapL l (a+k) (b+k)) (swapL l (a+i) (b+i))=R):=Lib.hid (by
    rw [←HF.out,show n-i=(n-(i+1))+1 by omega,List.range'_succ,List.foldl_cons])
   have hsw:=hro.swap hx hy;have HSW:=Lib.hid hsw;have hgs:=grown_drew (grown_set (grown_set (grown_set (grown_set hg ((a+i)*2) (.string ⟨(y.1).toArray⟩)) ((a+i)*2+1) (.string ⟨(y.2).toArray⟩)) ((b+i)*2) (.string ⟨(x.1).toArray⟩)) ((b+i)*2+1) (.string ⟨(x.2).toArray⟩));have HGS:=Lib.hid hgs;have hro2:=hro.set y (i:=a+i) (by omega);obtain⟨z,hz⟩:∃z,(l.set (a+i) y)[b+i]?=some z:=⟨_,List.getElem?_eq_getElem (by simp;omega)⟩;obtain⟨c5,c6⟩:=hro2.at_ hz;have f2:=fun j=>hro2.free j
   obtain⟨x1,x2⟩:=x;obtain⟨y1,y2⟩:=y;clear hsw hgs HF hro hx hy hz hro2;go_wp2
   go_region
   go_wp2
   exact⟨⟨i+1,swapL l (a+i) (b+i),by omega,by go_num,HSW.out,HGS.out,by rw [swapL_len];exact hlN,HF2⟩,by simp [intOf];omega⟩
  ·have hni:i=n:=by omega
   have HE:Hid (l=R):=Lib.hid (by rw [←HF.out,hni,Nat.sub_self];rfl);clear HF;go_wp2
   go_end0
   exact⟨rfl,by rw [←HE.out];exact hro,hg⟩
end Go.Proofs.YtbgcjpefocdkkaaGreat
set_option maxRecDepth 100000
namespace Go.Proofs.YtbgcjpefocdkkaaGreat
open Go.RowKit
theorem foldl_swap_len (a b:Nat):∀(ks:List Nat) (rs:List Row),(ks.foldl (fun l k=>swapL l (a+k) (b+k)) rs).length=rs.length
 | [],rs=>rfl
 | k::ks,rs=>by rw [List.foldl_cons,foldl_swap_len a b ks,swapL_len]
theorem swapN_len (rs:List Row) (a b n:Nat):(swapN rs a b n).length=rs.length:=foldl_swap_len _ _ _ _
theorem swapRange_eq {B g cap N:Nat} {rs:List Row} {a b n:Nat} {az bz nz:Int} (f:Value) (w:World) (h:RO w B g cap rs) (hN:rs.length=N) (h1:az=a) (h2:bz=b) (h3:nz=n) (ha:a+n≤N) (hb:b+n≤N) (hl:N≤1000000) :
  Calls Tryz.prog 152 #[.slice (some ⟨g,0,none⟩) N cap,.int .i64 az,.int .i64 bz,.int .i64 nz,f] w fun e w'=>e=.returned (.tuple #[])∧RO w' B g cap (swapN rs a b n)∧w.grownBy w' (some g):=by
 subst h1 h2 h3 hN;exact swapRange_any B g cap rs a b n f w h ha hb hl
def rotL:Nat→List Row→Nat→Nat→Nat→List Row
 | 0,rs,_,_,_=>rs
 | k+1,rs,m,i,j =>
  if i=j then swapN rs (m-i) m i
  else if j<i then rotL k (swapN rs (m-i) m j) m (i-j) j
  else rotL k (swapN rs (m-i) (m+j-i) i) m i (j-i)
def RtRel (B g cap m N:Nat) (R:List Row) (w:World) (p q:Value) (wr:World):Prop :=
 ∃(i j k:Nat) (rs:List Row),p=.int .i64 i∧q=.int .i64 j∧0<i∧0<j∧i≤m∧m+j≤N∧i+j≤k∧RO wr B g cap rs∧w.grownBy wr (some g)∧rs.length=N∧Hid (rotL k rs m i j=R)
set_option maxHeartbeats 1000000 in
theorem rotate_any (B g cap N:Nat) (rs:List Row) (a m b:Nat) (f:Value) (w:World) (h:RO w B g cap rs) (hN:rs.length=N) (ha:a<m) (hb:m<b) (hbn:b≤N) (hl:N≤1000000) :
  Calls Tryz.prog 151 #[.slice (some ⟨g,0,none⟩) N cap,.int .i64 a,.int .i64 m,.int .i64 b,f] w fun e w'=>e=.returned (.tuple #[])∧RO w' B g cap (rotL (b-a) rs m (m-a) (b-m))∧w.grownBy w' (some g):=by
 obtain⟨R,hR⟩:∃R,rotL (b-a) rs m (m-a) (b-m)=R:=⟨_,rfl⟩;rw [hR];have HR:=Lib.hid hR;have HRO:=Lib.hid h;clear hR h;go_enter Tryz.func151,Tryz.ntmps151
 go_wp2
 go_loopw [10,11] (fun p q wr=>RtRel B g cap m N R w p q wr) (fun p q _=>(intOf p).toNat+(intOf q).toNat)
 case atStart=>exact⟨m-a,b-m,b-a,rs,by go_num,by go_num,by omega,by omega,by omega,by omega,by omega,HRO.out,grown_refl _ _,hN,HR⟩
 case round =>
  obtain⟨i,j,k,l,rfl,rfl,hi,hj,him,hjn,hk,hro,hg,hlN,HF⟩:=hrel;clear HR HRO hN;obtain⟨k,rfl⟩:∃k',k=k'+1:=⟨k-1,by omega⟩;by_cases hij:i=j
  ·subst hij
   have HE:Hid (swapN l (m-i) m i=R):=Lib.hid (by rw [←HF.out];simp only [rotL];rw [if_pos trivial]);have HO:=Lib.hid (swapRange_eq (az:=(m:Int)-i) (bz:=m) (nz:=i) f wr hro hlN (by omega) rfl rfl (a:=m-i) (b:=m) (n:=i) (by omega) (by omega) hl);clear HF hro;go_wp2_with (go_at_call 152;refine HO.out.mono ?_;rintro e w1 ⟨rfl,hr1,hg1⟩)
   go_end0
   exact⟨rfl,by rw [←HE.out];exact hr1,grown_trans hg hg1⟩
  ·have e1:((i:Int)==j)=false:=by rw [beq_eq_false_iff_ne];omega
   have e2:((i:Int) != j)=true:=by rw [bne_iff_ne];omega
   by_cases hlt:j<i
   ·have HE:Hid (rotL k (swapN l (m-i) m j) m (i-j) j=R):=Lib.hid (by rw [←HF.out];simp only [rotL];rw [if_neg hij,if_pos hlt])
    have HO:=Lib.hid (swapRange_eq (az:=(m:Int)-i) (bz:=m) (nz:=j) f wr hro hlN (by omega) rfl rfl (a:=m-i) (b:=m) (n:=j) (by omega) (by omega) hl);clear HF hro hij;go_wp2_with (go_at_call 152;refine HO.out.mono ?_;rintro e w1 ⟨rfl,hr1,hg1⟩)
    go_roundw
    case rel=>exact⟨i-j,j,k,_,by go_num,rfl,by omega,by omega,by omega,by omega,by omega,hr1,grown_trans hg hg1,by rw [swapN_len];exact hlN,HE⟩
    case measure=>simp [intOf];omega
   ·have HE:Hid (rotL k (swapN l (m-i) (m+j-i) i) m i (j-i)=R):=Lib.hid (by rw [←HF.out];simp only [rotL];rw [if_neg hij,if_neg hlt])
    have HO:=Lib.hid (swapRange_eq (az:=(m:Int)-i) (bz:=(m:Int)+j-i) (nz:=i) f wr hro hlN (by omega) (by omega) rfl (a:=m-i) (b:=m+j-i) (n:=i) (by omega) (by omega) hl);have hlt2:i<j:=by omega
    clear HF hro hij;go_wp2_with (go_at_call 152;refine HO.out.mono ?_;rintro e w1 ⟨rfl,hr1,hg1⟩)
    go_roundw
    case rel=>exact⟨i,j-i,k,_,rfl,by go_num,by omega,by omega,by omega,by omega,by omega,hr1,grown_trans hg hg1,by rw [swapN_len];exact hlN,HE⟩
    case measure=>simp [intOf];omega
def insIn (a:Nat):Nat→List Row→List Row
 | 0,rs=>rs
 | j+1,rs=>match rs[j+1]?,rs[j]? with
  | some x,some y=>if a<j+1∧cmpR x y<0 then insIn a j (swapL rs (j+1) j) else rs
  | _,_=>rs
def insOut (a:Nat):Nat→Nat→List Row→List Row
 | 0,_,rs=>rs
 | k+1,i,rs=>insOut a k (i+1) (insIn a i rs)
theorem insIn_len (a:Nat):∀(j:Nat) (rs:List Row),(insIn a j rs).length=rs.length
 | 0,rs=>rfl
 | j+1,rs=>by
  simp only [insIn];split
  ·split
   ·rw [insIn_len a j,swapL_len]
   ·rfl
  ·rfl
theorem insOut_len (a:Nat):∀(k i:Nat) (rs:List Row),(insOut a k i rs).length=rs.length
 | 0,_,_=>rfl
 | k+1,i,rs=>by simp only [insOut];rw [insOut_len a k,insIn_len]
def InRel (B g cap a b N:Nat) (R:List Row) (w:World) (q:Value) (wr:World):Prop :=
 ∃(i:Nat) (rs:List Row),q=.int .i64 i∧a<i∧(i≤b∨i=a+1)∧RO wr B g cap rs∧w.grownBy wr (some g)∧rs.length=N∧Hid (insOut a (b-i) i rs=R)
def IjRel (B g cap a i N:Nat) (R:List Row) (w:World) (q:Value) (wr:World):Prop :=
 ∃(j:Nat) (rs:List Row),q=.int .i64 j∧a≤j∧j≤i∧RO wr B g cap rs∧w.grownBy wr (some g)∧rs.length=N∧Hid (insIn a j rs=R)
set_option maxHeartbeats 1000000 in
theorem insertion_any (B g cap N:Nat) (rs:List Row) (a b:Nat) (w:World) (h:RO w B g cap rs) (hN:rs.length=N) (hbn:b≤N) (hl:N≤1000000) (haN:a≤N) :
  Calls Tryz.prog 149 #[.slice (some ⟨g,0,none⟩) N cap,.int .i64 a,.int .i64 b,.func (.func 143) #[] #[]] w fun e w'=>e=.returned (.tuple #[])∧RO w' B g cap (insOut a (b-(a+1)) (a+1) rs)∧w.grownBy w' (some g):=by
 obtain⟨R,hR⟩:∃R,insOut a (b-(a+1)) (a+1) rs=R:=⟨_,rfl⟩;rw [hR];have HR:=Lib.hid hR;have HRO:=Lib.hid h;clear hR h;go_enter Tryz.func149,Tryz.ntmps149
 go_wp2
 go_loopw [8] (fun q wr=>InRel B g cap a b N R w q wr) (fun q _=>b-(intOf q).toNat)
 case atStart=>exact⟨a+1,rs,by go_num,by omega,.inr rfl,HRO.out,grown_refl _ _,hN,HR⟩
 case round =>
  obtain⟨i,l,rfl,hai,hib,hro,hg,hlN,HF⟩:=hrel;clear HR HRO hN;by_cases hlt:i<b
  ·obtain⟨T,hT⟩:∃T,insIn a i l=T:=⟨_,rfl⟩
   have HT0:=Lib.hid hT;have HTN:T.length=N:=by rw [←hT,insIn_len];exact hlN
   have HE:Hid (insOut a (b-(i+1)) (i+1) T=R):=Lib.hid (by rw [←HF.out,show b-i=(b-(i+1))+1 by omega];simp only [insOut];rw [hT]);have HRO:=Lib.hid hro;clear HF hT hib hro;obtain⟨wo,rfl⟩:∃wo:World,wo=wr:=⟨_,rfl⟩;go_wp2
   go_loopw [9] (fun q wk=>IjRel B g cap a i N T wo q wk) (fun q _=>(intOf q).toNat)
   case atStart=>exact⟨i,l,rfl,by omega,by omega,HRO.out,grown_refl _ _,hlN,HT0⟩
   case round =>
    obtain⟨j,lj,rfl,haj,hji,hroj,hgj,hljN,HG⟩:=hrel;clear HT0 HRO hlN;by_cases hja:a<j
    ·obtain⟨j,rfl⟩:∃j',j=j'+1:=⟨j-1,by omega⟩
     obtain⟨x,hx⟩:∃x,lj[j+1]?=some x:=⟨_,List.getElem?_eq_getElem (by omega)⟩;obtain⟨y,hy⟩:∃y,lj[j]?=some y:=⟨_,List.getElem?_eq_getElem (by omega)⟩;obtain⟨c1,c2⟩:=hroj.at_ hx;obtain⟨c3,c4⟩:=hroj.at_ hy;obtain⟨x1,x2⟩:=x;obtain⟨y1,y2⟩:=y;obtain⟨cv,hcv⟩:∃cv,cmpR (x1,x2) (y1,y2)=cv:=⟨_,rfl⟩;have HG2:Hid ((if a<j+1∧cv<0 then insIn a j (swapL lj (j+1) j) else lj)=T):=Lib.hid (by
      rw [←HG.out,←hcv];simp only [insIn];rw [hx,hy])
     have HCV:Hid (∀w:World,Calls Tryz.prog 143 #[.agg #[.string ⟨(x1).toArray⟩,.string ⟨(x2).toArray⟩],.agg #[.string ⟨(y1).toArray⟩,.string ⟨(y2).toArray⟩]] w fun e w'=>e=.returned (.int .i64 cv)∧Below w.heap.size w w'):=Lib.hid (fun w=>by
      rw [←hcv];exact cmpU_any (x1,x2) (y1,y2) w)
     have d1:∀x:ExtOf wr,x.val.cell? ⟨g,(j+1)*2,none⟩=some (.string ⟨(x1).toArray⟩):=ExtOf.cell c1;have d2:∀x:ExtOf wr,x.val.cell? ⟨g,(j+1)*2+1,none⟩=some (.string ⟨(x2).toArray⟩):=ExtOf.cell c2;have d3:∀x:ExtOf wr,x.val.cell? ⟨g,j*2,none⟩=some (.string ⟨(y1).toArray⟩):=ExtOf.cell c3;have d4:∀x:ExtOf wr,x.val.cell? ⟨g,j*2+1,none⟩=some (.string ⟨(y2).toArray⟩):=ExtOf.cell c4;have HX:=Lib.hid hx;have HY:=Lib.hid hy;have HROJ:=Lib.hid hroj;have hgt:decide (a<j+1)=true:=decide_eq_true (by omega);have hgt2:decide ((a:Int)<(j:Int)+1)=true:=decide_eq_true (by omega);clear hcv hx hy hroj HG c1 c2 c3 c4;go_wp2
     refine wp_region_ext (by kernel_rfl) (by kernel_rfl) ?_;repeat (go_big_quiet_step ((go_at_call 143;exact ext_call (HCV.out _))))
     refine wpQuiet_nil ?_;rintro _ ⟨xq,rfl⟩;have hrq:RO xq.val B g cap lj:=own_below HROJ.out xq.ext;have hgq:=grown_below hgj xq.ext;obtain⟨w5,hw5⟩:∃w5,w5=xq.val:=⟨_,rfl⟩;rw [←hw5] at hrq hgq ⊢;clear hw5;clear xq;by_cases hc0:cv<0
     ·have hc0':decide (cv<0)=true:=decide_eq_true hc0
      have HE2:Hid (insIn a j (swapL lj (j+1) j)=T):=Lib.hid (by rw [←HG2.out,if_pos ⟨hja,hc0⟩]);obtain⟨c1,c2⟩:=hrq.at_ HX.out;obtain⟨c3,c4⟩:=hrq.at_ HY.out;have f:=fun k=>hrq.free k
      have hro2:=hrq.set (y1,y2) (i:=j+1) (by omega);obtain⟨z,hz⟩:∃z,(lj.set (j+1) (y1,y2))[j]?=some z:=⟨_,List.getElem?_eq_getElem (by simp;omega)⟩;obtain⟨c5,c6⟩:=hro2.at_ hz;have f2:=fun k=>hro2.free k
      dsimp only at c1 c2 c3 c4 c5 c6 f2
      clear c5 c6 f2;obtain⟨z1,z2⟩:=z;have c5:((w5.setCell ⟨g,(j+1)*2,none⟩ (.string ⟨(y1).toArray⟩)).setCell ⟨g,(j+1)*2+1,none⟩ (.string ⟨(y2).toArray⟩)).cell? ⟨g,j*2,none⟩=some (.string ⟨(z1).toArray⟩):=(hro2.at_ hz).1;have c6:((w5.setCell ⟨g,(j+1)*2,none⟩ (.string ⟨(y1).toArray⟩)).setCell ⟨g,(j+1)*2+1,none⟩ (.string ⟨(y2).toArray⟩)).cell? ⟨g,j*2+1,none⟩=some (.string ⟨(z2).toArray⟩):=(hro2.at_ hz).2;have hsw:=hrq.swap HX.out HY.out;dsimp only at hsw
      have HSW:=Lib.hid hsw;have HGS:=Lib.hid (grown_drew (grown_set (grown_set (grown_set (grown_set hgq ((j+1)*2) (.string ⟨(y1).toArray⟩)) ((j+1)*2+1) (.string ⟨(y2).toArray⟩)) (j*2) (.string ⟨(x1).toArray⟩)) (j*2+1) (.string ⟨(x2).toArray⟩)));go_wp2
      clear hrq hgq hro2 hz hc0 HG2 d1 d2 d3 d4 hsw hgt hgt2 hc0';go_region
      go_wp2
      go_roundw
      case rel=>exact⟨j,swapL lj (j+1) j,by go_num,by omega,by omega,HSW.out,HGS.out,by rw [swapL_len];exact hljN,HE2⟩
      case measure=>simp [intOf]
     ·have hc0':decide (cv<0)=false:=decide_eq_false hc0
      have HE2:Hid (lj=T):=Lib.hid (by rw [←HG2.out,if_neg (fun q=>hc0 q.2)]);have hc9:0≤cv:=by omega
      clear hc0 HG2 d1 d2 d3 d4;go_wp2
      exact⟨⟨i+1,T,by go_num,by omega,.inl (by omega),by rw [←HE2.out];exact hrq,grown_trans hg hgq,HTN,HE⟩,by simp [intOf];omega⟩
    ·have hja':j≤a:=by omega
     have HE2:Hid (lj=T):=Lib.hid (by
      rw [←HG.out];cases j with
      | zero=>rfl
      | succ j =>
       simp only [insIn];split
       ·rw [if_neg (fun q=>hja q.1)]
       ·rfl)
     have hgt:decide (a<j)=false:=decide_eq_false (by omega);clear hja HG;go_wp2
     refine wp_region_ext (by kernel_rfl) (by kernel_rfl) ?_;repeat (go_big_quiet_step ((fail)))
     refine wpQuiet_nil ?_;rintro _ ⟨xq,rfl⟩;go_wp2
     exact⟨⟨i+1,T,by go_num,by omega,.inl (by omega),by rw [←HE2.out];exact own_below hroj xq.ext,grown_trans hg (grown_below hgj xq.ext),HTN,HE⟩,by simp [intOf];omega⟩
  ·have HE:Hid (l=R):=Lib.hid (by rw [←HF.out,show b-i=0 by omega];rfl)
   clear HF;go_wp2
   go_end0
   exact⟨rfl,by rw [←HE.out];exact hro,hg⟩
end Go.Proofs.YtbgcjpefocdkkaaGreat
