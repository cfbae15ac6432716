/- walks of rxread: pattern -/
import Derived.Test.YtbgcjpefocdkkaaGreatSm1
import Derived.Test.YtbgcjpefocdkkaaGreatSm2
import Derived.Test.YtbgcjpefocdkkaaGreatSm3
import Derived.Test.YtbgcjpefocdkkaaGreatSm4
import Derived.Test.YtbgcjpefocdkkaaGreatSm5
import Derived.Test.YtbgcjpefocdkkaaGreatSm6
import Derived.Test.YtbgcjpefocdkkaaGreatSm7
import Derived.Test.YtbgcjpefocdkkaaGreatSm8
import Derived.Test.YtbgcjpefocdkkaaGreatSm9
import Derived.Test.YtbgcjpefocdkkaaGreatSm10
import Derived.Test.YtbgcjpefocdkkaaGreatSm14
import Derived.Test.YtbgcjpefocdkkaaGreatSm15
import Derived.Test.YtbgcjpefocdkkaaGreatSm16
import Derived.Test.YtbgcjpefocdkkaaGreatSm17
set_option maxRecDepth 100000
namespace Go.Proofs.YtbgcjpefocdkkaaGreat
open Go.RowKit
theorem OwnX.keepG {w w':World} {B g:Nat} {v:Value} {xs:List Rx} (h:OwnX w B v xs) (hg:w.grownBy w' (some g)) (hB:g<B):OwnX w' B v xs:=by
 obtain⟨css,h1,h2⟩:=h;exact⟨css,own_grownG h1 hg hB,h2.keep (Kept.grown hg fun b hb=>by have:=hb.1;omega)⟩
theorem OwnX.form {w:World} {B:Nat} {v:Value} {xs:List Rx} (h:OwnX w B v xs):∃(a:Option Addr) (n c:Nat),v=.slice a n c:=by
 obtain⟨css,h1,_⟩:=h;obtain⟨a,c,e⟩:=own_form h1;exact⟨a,_,c,e⟩
theorem OwnX.lt {w:World} {B:Nat} {v:Value} {xs:List Rx} (h:OwnX w B v xs):∀k,v.ownBlock=some k→B≤k∧k<w.heap.size:=by
 obtain⟨css,h1,_⟩:=h;exact fun k hk=>h1.lt k hk
def PatRel (n g d:Nat) (w0:World) (R:Res) (k:Nat) (va vt:Value) (wr:World):Prop :=
 ∃(wa:World) (alts terms:List Rx) (r:List Str),OwnX wa w0.heap.size va alts∧w0.grownBy wa (some g)∧wa.grownBy wr (some g)∧OwnX wr wa.heap.size vt terms∧Rd wr g r d∧r.length<k∧r.length≤n ∧
  Hid (Rx.smallL alts∧Rx.smallL terms)∧Rx.partsL alts+Rx.partsL terms+2*r.length≤450000∧Hid (patL (fun r=>termM (patF n) r d) k alts terms r=R)
theorem RxV.box {w:World} {S:Nat→Prop} {cc:List Value} {x:Rx} (h:RxV w S cc x):∃k c ng rs lo hi lz ks ra rc ka kc,x=.mk k c ng rs lo hi lz ks∧cc=rxc k c ng ra (rs:List Row).length rc lo hi lz ka (ks:List Rx).length kc:=by
 cases h with
 | mk h1 h2 h3=>exact⟨_,_,_,_,_,_,_,_,_,_,_,_,rfl,rfl⟩
def SeqRes (y:Rx) (w:World) (e:Ending) (w':World):Prop:=∃cc',e=.returned (.agg cc'.toArray)∧RxV w' (fun b=>w.heap.size≤b) cc' y∧Below w.heap.size w w'
theorem Seq_res {B:Nat} {a:Option Addr} {n c:Nat} {xs:List Rx} (w:World) (h:OwnX w B (.slice a n c) xs) (hp:Rx.partsL xs≤1000000) (hs:Rx.smallL xs) :
  Calls Tryz.prog 105 #[.slice a n c] w fun e w'=>SeqRes (seqR xs) w e w':=by
 obtain⟨rfl,h2⟩:=h.sl;exact Seq_any _ a c xs w h2 hp hs
theorem Alt_res {B:Nat} {a:Option Addr} {n c:Nat} {xs:List Rx} (w:World) (h:OwnX w B (.slice a n c) xs) (hp:Rx.partsL xs≤1000000) (hs:Rx.smallL xs) :
  Calls Tryz.prog 104 #[.slice a n c] w fun e w'=>SeqRes (altR xs) w e w':=by
 obtain⟨rfl,h2⟩:=h.sl;exact Alt_any _ a c xs w h2 hp hs
set_option maxHeartbeats 4000000 in
theorem pattern_step {n:Nat} (hp:PatC n):PatC (n+1):=by
 intro g d r w h hlen hd;obtain⟨R,hR⟩:∃R,patF (n+1) r d=R:=⟨_,rfl⟩;rw [hR];have hR2:patL (fun r=>termM (patF n) r d) (r.length+1) [] [] r=R:=hR;have HR0:=Lib.hid hR2;have HP:=Lib.hid hp;have hrl:=h.ok.2;obtain⟨ix,hix⟩:=info_parts rx_info;clear hR hR2 hp;obtain⟨w0,hw0⟩:∃w0,w0=w.alloc (.cells #[.int .i64 0,.string ⟨#[]⟩,.bool false,.slice none 0 0,.int .i64 0,.int .i64 0,.bool false,.slice none 0 0] 34):=⟨_,rfl⟩;obtain⟨hb0,hz0,hby0⟩:=alloc1 w hw0;have HRD:=Lib.hid (h.later hb0);rw [hw0] at HRD;have HW0:=Lib.hid hw0;have HBY0:=Lib.hid hby0;have hgg:w.grownBy w0 (some g):=grown_of_below hb0 _;have hgr:g<w.heap.size:=h.lt;clear hw0 hby0 h;have HRD0:Hid (Rd w0 g r d):=Lib.hid (HW0.out▸HRD.out);obtain⟨hz0e,hz0'⟩:w0.heap.size=w.heap.size+1∧w.heap.size+1≤w0.heap.size:=⟨hz0,by omega⟩;clear hz0e hz0 HRD;go_enter Tryz.func89,Tryz.ntmps89
 go_wp2
 rw [←HW0.out];go_loopg [4,5] (r.length+1) (fun k va vt wr=>PatRel n g d w0 R k va vt wr)
 case atStart=>exact⟨w0,[],[],r,OwnX.nil _ _,grown_refl _ _,grown_refl _ _,OwnX.nil _ _,HRD0.out,by omega,by omega,Lib.hid ⟨trivial,trivial⟩,by simp only [Rx.partsL];omega,HR0⟩
 case round =>
  clear HR0 HRD0;obtain⟨wa,alts,terms,r,hoa,hga,hgr1,hot,hrd,hk,hn,HSM,hpl,HF⟩:=hrel;obtain⟨k,rfl⟩:∃k',gk=k'+1:=⟨gk-1,by omega⟩;have HRD:=Lib.hid hrd;have HOA:=Lib.hid hoa;have HOT:=Lib.hid hot;have hok:=hrd.ok.1;have hza:=hga.size;have hzr:=hgr1.size;clear hoa hot hrd;go_wp2_with (go_at_call 90;refine(see_any _ HRD.out).mono ?_)
  rintro e w1 ⟨rfl,hst⟩;have HRD1:=Lib.hid (hst.rd HRD.out);have hg1:=grown_trans hgr1 (hst.grown (some g));have HOT1:=Lib.hid (HOT.out.later (hst.below _));have HOA1:=Lib.hid ((HOA.out.keepG hg1 (by omega)));have hz1:wr.heap.size=w1.heap.size:=hst.size.symm;have hz1':wr.heap.size≤w1.heap.size:=by omega
  have hgw1:=grown_trans hga hg1;clear hst HRD HOT hz1 hgr1;cases r with
  | nil =>
   have HF2:Hid (Except.ok (altR (alts++[seqR terms]),[])=R):=Lib.hid HF.out;clear HF hok;have e0:hdS []=[]:=rfl;rw [e0];clear e0;obtain⟨css,hca,hva⟩:=HOA1.out;obtain⟨csst,hct,hvt⟩:=HOT1.out;obtain⟨ta,tc,rfl⟩:=own_form hct;obtain⟨aa,ac,rfl⟩:=own_form hca;have HSEQ:=Lib.hid (Seq_res w1 ⟨csst,hct,hvt⟩ (by omega) HSM.out.2);have HCA:=Lib.hid hca;have HVA:=Lib.hid hva;have hlta:=hca.lt;clear hca hva hct hvt;go_wp2_with (go_at_call 105;refine HSEQ.out.mono ?_)
   rintro e w5 hq5;obtain⟨cc5,rfl,hx5,hb5⟩:=hq5;obtain⟨yk,yc,yn,yr,yl,yh,yz,ys,za,zc,zka,zkc,hy,rfl⟩:=hx5.box;rw [hy] at hx5;have hbn:=(Below.refl w5.heap.size w5).alloc (Nat.le_refl _) (.cells (rxc yk yc yn za yr.length zc yl yh yz zka ys.length zkc).toArray 34);have ho6:=own_below (own_below HCA.out hb5) hbn;have hsl6:=Sl.lit (n:=1) (sz:=8) (heap_alloc_new w5 (.cells (rxc yk yc yn za yr.length zc yl yh yz zka ys.length zkc).toArray 34)) rfl;have hrv6:=(HVA.out.later hb5).later hbn;have hcv6:=hx5.later hbn;have hone:=hx5.one;have hz5:=hb5.size;unfold rxc at ho6 hsl6 hrv6 hcv6 hone hbn;have HO6:=Lib.hid ho6;have HSL6:=Lib.hid hsl6;have HRV6:=Lib.hid hrv6;have HCV6:=Lib.hid hcv6;have HONE:=Lib.hid hone;have HY:=Lib.hid hy;clear ho6 hsl6 hrv6 hcv6 hone hx5 hy HSEQ HCA HVA;unfold rxc;have hlen6:=Rx.len_parts alts;go_wp2_with (at_builtin;refine wpList_appM w0.heap.size 34 rfl _ _ 32 rfl Tryz.underlying32 hix rfl (by decide) rfl HO6.out rfl HSL6.out HONE.out (by omega) (by omega) (by decide) (by simp;omega) ?_)
   intro v7 w7 ho7 hq7 hb7 hmv;have hox7:OwnX w7 w0.heap.size v7 (alts++[seqR terms]):=by
    rw [HY.out];refine OwnX.app (ds:=[_]) (m:=1) HRV6.out (.cons (HCV6.out.mono fun b hb _=>?_) .nil) rfl ?_ hq7 hmv
    ·exact⟨by omega,fun e=>by have:=(hlta b e).2;omega⟩
    ·simpa using ho7
   obtain⟨s1,s2,s3⟩:=seqR_facts HSM.out.2 (by omega);have hpa:Rx.partsL (alts++[seqR terms])≤1000000:=by rw [partsL_app];simp only [Rx.partsL];omega
   have hsa:Rx.smallL (alts++[seqR terms]):=smallL_app HSM.out.1 ⟨s1,trivial⟩;obtain⟨a7,n7,c7,hv7⟩:=hox7.form;subst hv7;have HALT:=Lib.hid (Alt_res w7 hox7 hpa hsa);have hg05:=grown_trans hgw1 (grown_of_below hb5 (some g));have hg06:=grown_trans hg05 (grown_of_below hbn (some g));have hg07:=cls_grown hg06 hb7 (Nat.le_refl _);have hrd7:=((HRD1.out.later hb5).later hbn).grownHi hq7 (fun k hk=>by have:=(hlta k hk).1;omega);have HRD7:=Lib.hid hrd7;clear hox7 s1 s2 s3 hpa hsa hq7 hmv ho7 hb7 hrd7 hg05 hg06;go_wp2_with (go_at_call 104;refine HALT.out.mono ?_)
   rintro e w8 hq8;obtain⟨cc8,rfl,hx8,hb8⟩:=hq8;have hg08:=grown_trans hg07 (grown_of_below hb8 (some g));have hg8:=grown_trans hgg hg08;have HRD8:=Lib.hid (HRD7.out.later hb8);have hz07:=hg07.size;obtain⟨xk,xc,xn,xr,xl,xh,xz,xs,xa,xrc,xka,xkc,hy8,rfl⟩:=hx8.box;have HR2:Hid (Except.ok (Rx.mk xk xc xn xr xl xh xz xs,_)=R):=Lib.hid (hy8▸HF2.out);have HR:=HR2;rw [hy8] at hx8;have HXV:=Lib.hid (hx8.mono (S':=fun b=>w.heap.size≤b∧b≠w.heap.size) fun b hb hlt=>by constructor<;>omega);obtain⟨f0,f1,f2,f3,f4,f5,f6,f7,f8⟩:=bx_cells (c:=[]) (box_grown HBY0.out hg08 (by omega));clear hx8 hy8 HALT hg07 HRD7;unfold rxc at HXV ⊢;go_wp2
   refine bodyPost_ret (v:=.tuple #[.agg #[.int .i64 xk,.string ⟨(xc).toArray⟩,.bool xn,.slice xa xr.length xrc,.int .i64 xl,.int .i64 xh,.bool xz,.slice xka xs.length xkc],.int .i64 0]) (by simp [results,Tryz.results89,go_sem,f0,f1,f2,f3,f4,f5,f6,f7]) rfl ?_;refine⟨?_,?_⟩
   ·iterate 8 (refine grown_setNew ?_ (by first|omega|(simp;done)|(simp;omega)) _)
    exact hg8
   rw [←HR.out];refine⟨rxc xk xc xn xa xr.length xrc xl xh xz xka xs.length xkc,rfl,RxV.mono (S:=fun b=>w.heap.size≤b∧b≠w.heap.size) (fun b hb _=>hb.1) ?_,?_⟩
   ·iterate 8 (refine RxV.keep (Kept.setLow _ (fun b hb=>by have:w.heap.size≤b∧b≠w.heap.size:=hb;first|omega|(simp;done)|(simp;omega))) ?_)
    exact HXV.out
   ·iterate 8 (refine RdT.setHi ?_ (by first|omega|(simp;done)|(simp;omega)) _)
    exact HRD8.out
  | cons c r1 =>
   by_cases h41:c=[41]
   ·subst h41
    have HF2:Hid (Except.ok (altR (alts++[seqR terms]),[41]::r1)=R):=Lib.hid HF.out;clear HF hok;rw [hdS_cons];obtain⟨css,hca,hva⟩:=HOA1.out;obtain⟨csst,hct,hvt⟩:=HOT1.out;obtain⟨ta,tc,rfl⟩:=own_form hct;obtain⟨aa,ac,rfl⟩:=own_form hca;have HSEQ:=Lib.hid (Seq_res w1 ⟨csst,hct,hvt⟩ (by omega) HSM.out.2);have HCA:=Lib.hid hca;have HVA:=Lib.hid hva;have hlta:=hca.lt;clear hca hva hct hvt;go_wp2_with (go_at_call 105;refine HSEQ.out.mono ?_)
    rintro e w5 hq5;obtain⟨cc5,rfl,hx5,hb5⟩:=hq5;obtain⟨yk,yc,yn,yr,yl,yh,yz,ys,za,zc,zka,zkc,hy,rfl⟩:=hx5.box;rw [hy] at hx5;have hbn:=(Below.refl w5.heap.size w5).alloc (Nat.le_refl _) (.cells (rxc yk yc yn za yr.length zc yl yh yz zka ys.length zkc).toArray 34);have ho6:=own_below (own_below HCA.out hb5) hbn;have hsl6:=Sl.lit (n:=1) (sz:=8) (heap_alloc_new w5 (.cells (rxc yk yc yn za yr.length zc yl yh yz zka ys.length zkc).toArray 34)) rfl;have hrv6:=(HVA.out.later hb5).later hbn;have hcv6:=hx5.later hbn;have hone:=hx5.one;have hz5:=hb5.size;unfold rxc at ho6 hsl6 hrv6 hcv6 hone hbn;have HO6:=Lib.hid ho6;have HSL6:=Lib.hid hsl6;have HRV6:=Lib.hid hrv6;have HCV6:=Lib.hid hcv6;have HONE:=Lib.hid hone;have HY:=Lib.hid hy;clear ho6 hsl6 hrv6 hcv6 hone hx5 hy HSEQ HCA HVA;unfold rxc;have hlen6:=Rx.len_parts alts;go_wp2_with (at_builtin;refine wpList_appM w0.heap.size 34 rfl _ _ 32 rfl Tryz.underlying32 hix rfl (by decide) rfl HO6.out rfl HSL6.out HONE.out (by omega) (by omega) (by decide) (by simp;omega) ?_)
    intro v7 w7 ho7 hq7 hb7 hmv;have hox7:OwnX w7 w0.heap.size v7 (alts++[seqR terms]):=by
     rw [HY.out];refine OwnX.app (ds:=[_]) (m:=1) HRV6.out (.cons (HCV6.out.mono fun b hb _=>?_) .nil) rfl ?_ hq7 hmv
     ·exact⟨by omega,fun e=>by have:=(hlta b e).2;omega⟩
     ·simpa using ho7
    obtain⟨s1,s2,s3⟩:=seqR_facts HSM.out.2 (by omega);have hpa:Rx.partsL (alts++[seqR terms])≤1000000:=by rw [partsL_app];simp only [Rx.partsL];omega
    have hsa:Rx.smallL (alts++[seqR terms]):=smallL_app HSM.out.1 ⟨s1,trivial⟩;obtain⟨a7,n7,c7,hv7⟩:=hox7.form;subst hv7;have HALT:=Lib.hid (Alt_res w7 hox7 hpa hsa);have hg05:=grown_trans hgw1 (grown_of_below hb5 (some g));have hg06:=grown_trans hg05 (grown_of_below hbn (some g));have hg07:=cls_grown hg06 hb7 (Nat.le_refl _);have hrd7:=((HRD1.out.later hb5).later hbn).grownHi hq7 (fun k hk=>by have:=(hlta k hk).1;omega);have HRD7:=Lib.hid hrd7;clear hox7 s1 s2 s3 hpa hsa hq7 hmv ho7 hb7 hrd7 hg05 hg06;go_wp2_with (go_at_call 104;refine HALT.out.mono ?_)
    rintro e w8 hq8;obtain⟨cc8,rfl,hx8,hb8⟩:=hq8;have hg08:=grown_trans hg07 (grown_of_below hb8 (some g));have hg8:=grown_trans hgg hg08;have HRD8:=Lib.hid (HRD7.out.later hb8);have hz07:=hg07.size;obtain⟨xk,xc,xn,xr,xl,xh,xz,xs,xa,xrc,xka,xkc,hy8,rfl⟩:=hx8.box;have HR2:Hid (Except.ok (Rx.mk xk xc xn xr xl xh xz xs,_)=R):=Lib.hid (hy8▸HF2.out);have HR:=HR2;rw [hy8] at hx8;have HXV:=Lib.hid (hx8.mono (S':=fun b=>w.heap.size≤b∧b≠w.heap.size) fun b hb hlt=>by constructor<;>omega);obtain⟨f0,f1,f2,f3,f4,f5,f6,f7,f8⟩:=bx_cells (c:=[]) (box_grown HBY0.out hg08 (by omega));clear hx8 hy8 HALT hg07 HRD7;unfold rxc at HXV ⊢;go_wp2
    refine bodyPost_ret (v:=.tuple #[.agg #[.int .i64 xk,.string ⟨(xc).toArray⟩,.bool xn,.slice xa xr.length xrc,.int .i64 xl,.int .i64 xh,.bool xz,.slice xka xs.length xkc],.int .i64 0]) (by simp [results,Tryz.results89,go_sem,f0,f1,f2,f3,f4,f5,f6,f7]) rfl ?_;refine⟨?_,?_⟩
    ·iterate 8 (refine grown_setNew ?_ (by first|omega|(simp;done)|(simp;omega)) _)
     exact hg8
    rw [←HR.out];refine⟨rxc xk xc xn xa xr.length xrc xl xh xz xka xs.length xkc,rfl,RxV.mono (S:=fun b=>w.heap.size≤b∧b≠w.heap.size) (fun b hb _=>hb.1) ?_,?_⟩
    ·iterate 8 (refine RxV.keep (Kept.setLow _ (fun b hb=>by have:w.heap.size≤b∧b≠w.heap.size:=hb;first|omega|(simp;done)|(simp;omega))) ?_)
     exact HXV.out
    ·iterate 8 (refine RdT.setHi ?_ (by first|omega|(simp;done)|(simp;omega)) _)
     exact HRD8.out
   by_cases h124:c=[124]
   ·subst h124
    have HF2:Hid (patL (fun r=>termM (patF n) r d) k (alts++[seqR terms]) [] r1=R):=Lib.hid HF.out;clear HF hok;rw [hdS_cons];obtain⟨i,hi9,c1,hf1,hr2⟩:=HRD1.out.step;obtain⟨w2,hw2⟩:∃w2,w2=w1.setCell ⟨g,1,none⟩ (.int .i64 ((i:Int)+1)):=⟨_,rfl⟩;have HRD2:Hid (Rd w2 g r1 d):=Lib.hid (hw2▸hr2);have hgw2:w0.grownBy w2 (some g):=hw2▸grown_set hgw1 _ _;have HOT2:Hid (OwnX w2 wa.heap.size _ terms):=Lib.hid (hw2▸HOT1.out.setLow (by simp;omega) _);have HOA2:Hid (OwnX w2 w0.heap.size _ alts):=Lib.hid (hw2▸HOA1.out.setLow (by simp;omega) _);have hz2:w1.heap.size≤w2.heap.size:=by rw [hw2];simp [World.setCell]
    go_upto_region 13 with fail
    rw [←hw2];clear hw2 c1 hf1 hr2 HRD1 HOT1 HOA1 hgw1;have hl2:r1.length<k∧r1.length≤n:=by simp at hk hn;omega
    simp only [List.length_cons] at hpl;obtain⟨css,hca,hva⟩:=HOA2.out;obtain⟨csst,hct,hvt⟩:=HOT2.out;obtain⟨ta,tc,rfl⟩:=own_form hct;obtain⟨aa,ac,rfl⟩:=own_form hca;have HSEQ:=Lib.hid (Seq_res w2 ⟨csst,hct,hvt⟩ (by omega) HSM.out.2);have HCA:=Lib.hid hca;have HVA:=Lib.hid hva;have hlta:=hca.lt;clear hca hva hct hvt;go_wp2_with (go_at_call 105;refine HSEQ.out.mono ?_)
    rintro e w5 hq5;obtain⟨cc5,rfl,hx5,hb5⟩:=hq5;obtain⟨yk,yc,yn,yr,yl,yh,yz,ys,za,zc,zka,zkc,hy,rfl⟩:=hx5.box;rw [hy] at hx5;have hbn:=(Below.refl w5.heap.size w5).alloc (Nat.le_refl _) (.cells (rxc yk yc yn za yr.length zc yl yh yz zka ys.length zkc).toArray 34);have ho6:=own_below (own_below HCA.out hb5) hbn;have hsl6:=Sl.lit (n:=1) (sz:=8) (heap_alloc_new w5 (.cells (rxc yk yc yn za yr.length zc yl yh yz zka ys.length zkc).toArray 34)) rfl;have hrv6:=(HVA.out.later hb5).later hbn;have hcv6:=hx5.later hbn;have hone:=hx5.one;have hz5:=hb5.size;unfold rxc at ho6 hsl6 hrv6 hcv6 hone hbn;have HO6:=Lib.hid ho6;have HSL6:=Lib.hid hsl6;have HRV6:=Lib.hid hrv6;have HCV6:=Lib.hid hcv6;have HONE:=Lib.hid hone;have HY:=Lib.hid hy;clear ho6 hsl6 hrv6 hcv6 hone hx5 hy HSEQ HCA HVA;unfold rxc;have hlen6:=Rx.len_parts alts;go_wp2_with (at_builtin;refine wpList_appM w0.heap.size 34 rfl _ _ 32 rfl Tryz.underlying32 hix rfl (by decide) rfl HO6.out rfl HSL6.out HONE.out (by omega) (by omega) (by decide) (by simp;omega) ?_)
    intro v7 w7 ho7 hq7 hb7 hmv;have hox7:OwnX w7 w0.heap.size v7 (alts++[seqR terms]):=by
     rw [HY.out];refine OwnX.app (ds:=[_]) (m:=1) HRV6.out (.cons (HCV6.out.mono fun b hb _=>?_) .nil) rfl ?_ hq7 hmv
     ·exact⟨by omega,fun e=>by have:=(hlta b e).2;omega⟩
     ·simpa using ho7
    obtain⟨s1,s2,s3⟩:=seqR_facts HSM.out.2 (by omega);have hpa:Rx.partsL (alts++[seqR terms])+Rx.partsL []+2*r1.length≤450000:=by rw [partsL_app];simp only [Rx.partsL];omega
    have hsa:Rx.smallL (alts++[seqR terms]):=smallL_app HSM.out.1 ⟨s1,trivial⟩;have hg05:=grown_trans hgw2 (grown_of_below hb5 (some g));have hg06:=grown_trans hg05 (grown_of_below hbn (some g));have hg07:=cls_grown hg06 hb7 (Nat.le_refl _);have hrd7:=((HRD2.out.later hb5).later hbn).grownHi hq7 (fun k hk=>by have:=(hlta k hk).1;omega);have HSM7:=Lib.hid (And.intro hsa (show Rx.smallL [] from trivial));clear s1 s2 s3 hsa hq7 hmv ho7 hb7 hg05 hg06;go_wp2
    go_roundg k
    case measure=>omega
    case rel=>exact⟨w7,_,[],r1,hox7,hg07,grown_refl _ _,OwnX.nil _ _,hrd7,hl2.1,hl2.2,HSM7,hpa,HF2⟩
   have g41:(c==[41])=false:=beq_eq_false_iff_ne.2 h41;have g124:(c==[124])=false:=beq_eq_false_iff_ne.2 h124;have g0:List.isEmpty c=false:=by have:=(hok c (List.mem_cons_self ..)).1;cases c<;>simp at this ⊢
   have HF1:Hid ((match termM (patF n) (c::r1) d with|.error e=>.error e|.ok (x,r2)=>patL (fun r=>termM (patF n) r d) k alts (terms++[x]) r2)=R):=Lib.hid (by rw [←HF.out];simp only [patL,if_neg h41,if_neg h124];rfl);clear HF h41 h124;rw [hdS_cons];have hl1:(c::r1).length≤n:=hn;have HTM:=Lib.hid (term_any HP.out w1 HRD1.out hl1 hd);go_wp2_with (go_at_call 106;refine HTM.out.mono ?_)
   rintro e w2 hq;clear HTM;cases htm:termM (patF n) (c::r1) d with
   | error q =>
    rw [htm] at hq;obtain⟨hq2,rfl,r9,hrd9⟩:=hq;have hq0:q≠0:=term_err (pat_err n) (c::r1) d q htm;have HR:Hid (Except.error q=R):=Lib.hid (by rw [←HF1.out];simp only [htm]);have hg02:=grown_trans hgw1 hq2;have hby2:=box_grown HBY0.out hg02 (by omega);have hb6:Below w2.heap.size w2 (w2.alloc (.cells #[.int .i64 0,.string ⟨#[]⟩,.bool false,.slice none 0 0,.int .i64 0,.int .i64 0,.bool false,.slice none 0 0] 34)):=(Below.refl _ _).alloc (Nat.le_refl _) _;have HRD6:=Lib.hid (hrd9.later hb6);have hg6:=grown_trans (grown_trans hgg hg02) (grown_of_below hb6 (some g));have ne1:(q != 0)=true:=by simp [bne,hq0]
    obtain⟨f0,f1,f2,f3,f4,f5,f6,f7,f8⟩:=bx_cells (c:=[]) ((hb6.block _ (heap_lt hby2)).trans hby2);clear htm hby2 hrd9 hb6 hq2;unfold rxv0;go_wp2
    refine bodyPost_ret (v:=.tuple #[.agg #[.int .i64 0,.string ⟨([]).toArray⟩,.bool false,.slice none 0 0,.int .i64 0,.int .i64 0,.bool false,.slice none 0 0],.int .i64 q]) (by simp [results,Tryz.results89,go_sem,f0,f1,f2,f3,f4,f5,f6,f7]) rfl ?_;refine⟨?_,?_⟩
    ·iterate 8 (refine grown_setNew ?_ (by first|omega|(simp;done)|(simp;omega)) _)
     exact hg6
    ·rw [←HR.out]
     refine⟨rfl,?_⟩;iterate 8 (refine RdE.setHi ?_ (by first|omega|(simp;done)|(simp;omega)) _)
     exact⟨_,HRD6.out⟩
   | ok y =>
    obtain⟨x,r3⟩:=y;rw [htm] at hq;obtain⟨hq2,cc,rfl,hxv,hrd2⟩:=hq;obtain⟨⟨t1,t2,t3,t4⟩,t5⟩:=term_facts (pat_facts n) htm hok (by have:=HRD1.out.ok.2;omega) (Nat.le_refl _);have HF2:Hid (patL (fun r=>termM (patF n) r d) k alts (terms++[x]) r3=R):=Lib.hid (by rw [←HF1.out];simp only [htm]);simp only [List.length_cons] at t2 t5 hpl hk hn;have hpa:Rx.partsL alts+Rx.partsL (terms++[x])+2*r3.length≤450000:=by rw [partsL_app];simp only [Rx.partsL];omega
    have HSM2:=Lib.hid (And.intro HSM.out.1 (smallL_app HSM.out.2 (show Rx.smallL [x] from⟨t1,trivial⟩)));obtain⟨yk,yc,yn,yr,yl,yh,yz,ys,za,zc,zka,zkc,hy,rfl⟩:=hxv.box;subst hy;have hgw2:=grown_trans hgw1 hq2;have hg2:=grown_trans hg1 hq2;have hot2:=HOT1.out.keepG hq2 (by omega);have hltt:=HOT1.out.lt;obtain⟨va,vn,vc,hvt⟩:=hot2.form;subst hvt;obtain⟨csst,hct,hvt⟩:=hot2;have hbx:Below w2.heap.size w2 (w2.alloc (.cells (rxc yk yc yn za yr.length zc yl yh yz zka ys.length zkc).toArray 34)):=(Below.refl _ _).alloc (Nat.le_refl _) _;have hbn:=hbx.trans ((Below.refl (w2.alloc (.cells (rxc yk yc yn za yr.length zc yl yh yz zka ys.length zkc).toArray 34)).heap.size _).alloc (Nat.le_refl _) (.cells (rxc yk yc yn za yr.length zc yl yh yz zka ys.length zkc).toArray 34) |>.mono hbx.size);have ho6:=own_below hct hbn;have hsl6:=Sl.lit (n:=1) (sz:=8) (heap_alloc_new (w2.alloc (.cells (rxc yk yc yn za yr.length zc yl yh yz zka ys.length zkc).toArray 34)) (.cells (rxc yk yc yn za yr.length zc yl yh yz zka ys.length zkc).toArray 34)) rfl;rw [show (w2.alloc (.cells (rxc yk yc yn za yr.length zc yl yh yz zka ys.length zkc).toArray 34)).heap.size=w2.heap.size+1 from by simp] at hsl6;have hrv6:=hvt.later hbn;have hcv6:=hxv.later hbn;have hone:=hxv.one;have hrd6:=hrd2.later hbn;have hz2:=hq2.size;have hzn:=hbn.size;unfold rxc at ho6 hsl6 hrv6 hcv6 hone hbn hrd6 hzn;have HO6:=Lib.hid ho6;have HSL6:=Lib.hid hsl6;have HRV6:=Lib.hid hrv6;have HCV6:=Lib.hid hcv6;have HONE:=Lib.hid hone;have HRD6:=Lib.hid hrd6;have hg6:=grown_trans hg2 (grown_of_below hbn (some g));have hgw6:=grown_trans hgw2 (grown_of_below hbn (some g));have hlt6:=Rx.len_parts terms;clear ho6 hsl6 hrv6 hcv6 hone hxv hct hvt hrd2 hrd6 hbx hbn htm t1 t3;unfold rxc;go_wp2_with (at_builtin;refine wpList_appM wa.heap.size 34 rfl _ _ 32 rfl Tryz.underlying32 hix rfl (by decide) rfl HO6.out rfl HSL6.out HONE.out (by omega) (by omega) (by decide) (by simp;omega) ?_)
    intro v7 w7 ho7 hq7 hb7 hmv;have hox7:OwnX w7 wa.heap.size v7 (terms++[.mk yk yc yn yr yl yh yz ys]):=by
     refine OwnX.app (ds:=[_]) (m:=1) HRV6.out (.cons (HCV6.out.mono fun b hb _=>?_) .nil) rfl ?_ hq7 hmv
     ·exact⟨by omega,fun e=>by have:=(hltt b e).2;omega⟩
     ·simpa using ho7
    have hrd7:=HRD6.out.grownHi hq7 (fun k hk=>by have:=(hltt k hk).1;omega);have hg7:=cls_grown hg6 hb7 (Nat.le_refl _);have hoa7:=HOA1;clear ho7 hq7 hb7 hmv;go_wp2
    go_roundg k
    case measure=>omega
    case rel=>exact⟨wa,alts,_,r3,HOA.out,hga,hg7,hox7,hrd7,by omega,by omega,HSM2,hpa,HF2⟩
end Go.Proofs.YtbgcjpefocdkkaaGreat
set_option maxRecDepth 100000
namespace Go.Proofs.YtbgcjpefocdkkaaGreat
open Go.RowKit
theorem pat_all:∀n:Nat,PatC n
 | 0=>fun _ _ _ _ _ h _=>by omega
 | n+1=>pattern_step (pat_all n)
theorem splitF_facts:∀(k:Nat) (l:Str),(∀p∈splitF k l,p≠[]∧p.length≤l.length)∧(splitF k l).length≤l.length
 | 0,_=>by simp [splitF]
 | _+1,[]=>by simp [splitF]
 | k+1,c::r=>by
  obtain⟨i1,i2⟩:=splitF_facts k (r.dropWhile insideB);have hd:(r.dropWhile insideB).length≤r.length:=(List.dropWhile_suffix insideB).length_le;have ht:(r.takeWhile insideB).length≤r.length:=(List.takeWhile_prefix insideB).length_le;refine⟨fun p hp=>?_,by simp only [splitF,List.length_cons];omega⟩;simp only [splitF,List.mem_cons] at hp;rcases hp with rfl|hp
  ·exact⟨by simp,by simp;omega⟩
  ·have:=i1 p hp;exact⟨this.1,by simp;omega⟩
def ReadPost (B:Nat) (w:World) (res:Except Int Rx) (e:Ending) (w':World):Prop:=Below w.heap.size w w'∧match res with
 | .error q=>e=.returned (.tuple #[rxv0,.int .i64 q])
 | .ok x=>∃cc:List Value,e=.returned (.tuple #[.agg cc.toArray,.int .i64 0])∧RxV w' (fun b=>B≤b) cc x
theorem below_lo {w w2 w5:World} {g:Nat} (h:Below w.heap.size w w2) (hg:w2.grownBy w5 (some g)) (hB:w.heap.size≤g):Below w.heap.size w w5 :=
 ⟨hg.os.trans h.os,hg.tape.trans h.tape,hg.output.trans h.output,Nat.le_trans h.size hg.size,fun k hk=>(hg.block k (by have:=h.size;omega) (by
  first
  | omega
  | (intro e;injection e with e;omega))).trans (h.block k hk)⟩
def SplitRes (L:List Str) (w:World) (e:Ending) (w':World):Prop:=∃(a:Option Addr) (c:Nat),e=.returned (.slice a L.length c)∧SlS w' (fun b=>w.heap.size≤b) a 1 L.length (scells L)∧Below w.heap.size w w'
set_option maxHeartbeats 2000000 in
theorem Read_any (s:Str) (w:World) (hs:s.length≤1000000) :
  Calls Tryz.prog 80 #[.string ⟨(s).toArray⟩] w fun e w'=>ReadPost w.heap.size w (readM s) e w':=by
 obtain⟨R,hR⟩:∃R,readM s=R:=⟨_,rfl⟩;rw [hR];unfold readM at hR;by_cases hl:256<s.length
 ·rw [if_pos hl] at hR
  have HR:=Lib.hid hR;clear hR;have hbl:Below w.heap.size w (w.alloc (.cells #[.int .i64 0,.string ⟨#[]⟩,.bool false,.slice none 0 0,.int .i64 0,.int .i64 0,.bool false,.slice none 0 0] 34)):=(Below.refl _ _).alloc (Nat.le_refl _) _;have hby:(w.alloc (.cells #[.int .i64 0,.string ⟨#[]⟩,.bool false,.slice none 0 0,.int .i64 0,.int .i64 0,.bool false,.slice none 0 0] 34)).heap[w.heap.size]?=some (.cells #[.int .i64 0,.string ⟨#[]⟩,.bool false,.slice none 0 0,.int .i64 0,.int .i64 0,.bool false,.slice none 0 0] 34 (0,0)):=heap_alloc_new w _;obtain⟨f0,f1,f2,f3,f4,f5,f6,f7,f8⟩:=bx_cells (c:=[]) hby;clear hby;go_enter Tryz.func80,Tryz.ntmps80
  go_wp2
  refine bodyPost_ret (v:=.tuple #[.agg #[.int .i64 0,.string ⟨([]).toArray⟩,.bool false,.slice none 0 0,.int .i64 0,.int .i64 0,.bool false,.slice none 0 0],.int .i64 4]) (by simp [results,Tryz.results80,go_sem,f0,f1,f2,f3,f4,f5,f6,f7]) rfl ?_;refine⟨?_,?_⟩
  ·iterate 0 (refine Below.setCell ?_ (by first|omega|(simp;done)|(simp;omega)) _)
   exact hbl
  ·rw [←HR.out];rfl
 rw [if_neg hl] at hR;obtain⟨L,hL⟩:∃L,splitM s=L:=⟨_,rfl⟩;have hf:=splitF_facts s.length s;have hf1:∀p∈L,p≠[]∧p.length≤1000000:=fun p hp=>by
  rw [←hL] at hp;have:=hf.1 p hp
  exact⟨this.1,by omega⟩
 have hf2:L.length≤200000:=by rw [←hL];have:=hf.2;unfold splitM;omega
 have hf3:L.length≤256:=by rw [←hL];have:=hf.2;unfold splitM;omega
 rw [hL] at hR;have HSP:Hid (∀w,Calls Tryz.prog 87 #[.string ⟨(s).toArray⟩] w fun e w'=>SplitRes L w e w'):=Lib.hid (fun w=>hL▸Split_any s w hs);clear hf;cases s with
 | nil =>
  obtain rfl:L=[]:=by rw [←hL];rfl
  have HR:Hid (readC []=R):=Lib.hid hR;clear hR hL;have HF1:=Lib.hid hf1;clear hf1;obtain⟨w0,hw0⟩:∃w0,w0=w.alloc (.cells #[.int .i64 0,.string ⟨#[]⟩,.bool false,.slice none 0 0,.int .i64 0,.int .i64 0,.bool false,.slice none 0 0] 34):=⟨_,rfl⟩;obtain⟨hb0,hz0e,hby0⟩:=alloc1 w hw0;have HW0:=Lib.hid hw0;have HBY0:=Lib.hid hby0;have hz0:w.heap.size+1≤w0.heap.size:=by omega
  clear hw0 hby0 hz0e;go_enter Tryz.func80,Tryz.ntmps80
  go_wp2_with (go_at_call 87;refine(HSP.out _).mono ?_)
  rintro e w1 hq;obtain⟨a,k,rfl,hsl,hb1⟩:=hq;rw [←HW0.out] at hsl hb1;have hz1:=hb1.size;obtain⟨w2,hw2⟩:∃w2,w2=w1.alloc (.cells #[.slice a 0 k,.int .i64 0,.int .i64 0] 132):=⟨_,rfl⟩;obtain⟨hb2,hz2e,hbr2⟩:=alloc1 w1 hw2;have hz2:w1.heap.size+1≤w2.heap.size:=by omega
  have HCH:=Lib.hid (hsl.keep (Kept.all hb2));have HRD2:Hid (Rd w2 w1.heap.size (([]:List Str)) 0):=Lib.hid ⟨a,k,([]:List Str),0,hbr2,(hsl.mono (S':=fun b=>b<w1.heap.size) fun b _ h=>h).keep (Kept.all hb2),hf2,by omega,HF1.out,rfl⟩;have hbw2:Below w.heap.size w w2:=(hb0.trans (hb1.mono (by omega))).trans (hb2.mono (by omega));have HBY2:=Lib.hid ((hb2.block _ (heap_lt ((hb1.block _ (heap_lt HBY0.out)).trans HBY0.out))).trans ((hb1.block _ (heap_lt HBY0.out)).trans HBY0.out));clear hsl hb1 hz2e hb0;go_upto_region 6 with fail
  rw [←hw2];clear hw2;have HPAT:=Lib.hid (pat_all ((([]:List Str)).length+1) w1.heap.size 0 (([]:List Str)) w2 HRD2.out (by omega) (by omega));go_wp2_with (go_at_call 89;refine HPAT.out.mono ?_)
  rintro e w5 hq;clear HPAT;cases hpr:patF ((([]:List Str)).length+1) (([]:List Str)) 0 with
  | error q =>
   rw [hpr] at hq;obtain⟨hq5,rfl,r9,hrd9⟩:=hq;have hq0:q≠0:=pat_err _ _ _ q hpr;have HR2:Hid (Except.error q=R):=Lib.hid (by rw [←HR.out];unfold readC;simp only [hpr]);have HR:=HR2;have hby5:=box_grown HBY2.out hq5 (by omega);have hbl5:Below w.heap.size w w5:=below_lo hbw2 hq5 (by omega);have hz5:=hbl5.size;have hb6:Below w5.heap.size w5 (w5.alloc (.cells #[.int .i64 0,.string ⟨#[]⟩,.bool false,.slice none 0 0,.int .i64 0,.int .i64 0,.bool false,.slice none 0 0] 34)):=(Below.refl _ _).alloc (Nat.le_refl _) _;have hbl6:=hbl5.trans (hb6.mono hz5);have ne1:(q==0)=false:=beq_eq_false_iff_ne.2 hq0;have ne2:(q != 0)=true:=by simp [bne,ne1]
   obtain⟨f0,f1,f2,f3,f4,f5,f6,f7,f8⟩:=bx_cells (c:=[]) ((hb6.block _ (heap_lt hby5)).trans hby5);clear hpr hby5 hrd9 hb6 hq5;unfold rxv0;go_wp2
   refine bodyPost_ret (v:=.tuple #[.agg #[.int .i64 0,.string ⟨([]).toArray⟩,.bool false,.slice none 0 0,.int .i64 0,.int .i64 0,.bool false,.slice none 0 0],.int .i64 q]) (by simp [results,Tryz.results80,go_sem,f0,f1,f2,f3,f4,f5,f6,f7]) rfl ?_;refine⟨?_,?_⟩
   ·iterate 8 (refine Below.setCell ?_ (by first|omega|(simp;done)|(simp;omega)) _)
    exact hbl6
   ·rw [←HR.out];rfl
  | ok y =>
   obtain⟨x,r3⟩:=y;rw [hpr] at hq;obtain⟨hq5,cc,rfl,hxv,hrd5⟩:=hq;have hby5:=box_grown HBY2.out hq5 (by omega);have hbl5:Below w.heap.size w w5:=below_lo hbw2 hq5 (by omega);have hz5:=hbl5.size;have hq5z:=hq5.size;obtain⟨k,c,ng,rs,lo,hi,lz,ks,ra,rc,ka,kc,hx,rfl⟩:=hxv.box;have hb6:Below w5.heap.size w5 (w5.alloc (.cells (rxc k c ng ra rs.length rc lo hi lz ka ks.length kc).toArray 34)):=(Below.refl _ _).alloc (Nat.le_refl _) _;have hbl6:=hbl5.trans (hb6.mono hz5);have HRD6:=Lib.hid (hrd5.later hb6);have HXV:=Lib.hid ((hxv.mono (S':=fun b=>w.heap.size≤b∧b≠w.heap.size) fun b hb hlt=>by constructor<;>omega).later hb6);have HBY6:=Lib.hid ((hb6.block _ (heap_lt hby5)).trans hby5);have HBX6:Hid ((w5.alloc (.cells (rxc k c ng ra rs.length rc lo hi lz ka ks.length kc).toArray 34)).heap[w5.heap.size]?=some (.cells (rxc k c ng ra rs.length rc lo hi lz ka ks.length kc).toArray 34 (0,0))):=Lib.hid (heap_alloc_new w5 _);clear hxv hrd5 hby5 hb6;unfold rxc at hbl6 HRD6 HXV HBY6 HBX6 ⊢;cases r3 with
   | nil =>
    have HR2:Hid (Except.ok x=R):=Lib.hid (by rw [←HR.out];unfold readC;simp only [hpr]);have HR:=HR2;rw [hx] at HR HXV;clear hpr hx HR2;go_wp2_with (go_at_call 90;refine(see_any _ HRD6.out).mono ?_)
    rintro e w7 ⟨rfl,hst⟩;have e0:hdS []=[]:=rfl;rw [e0];have hb7:=hst.below w.heap.size;have hbl7:=hbl6.trans hb7;have HXV7:=Lib.hid (HXV.out.later (hst.below _));obtain⟨f0,f1,f2,f3,f4,f5,f6,f7,f8⟩:=bx_cells (c:=[]) (((hst.below _).block _ (heap_lt HBY6.out)).trans HBY6.out);obtain⟨e0,e1,e2,e3,e4,e5,e6,e7,e8⟩:=bx_cells (((hst.below _).block _ (heap_lt HBX6.out)).trans HBX6.out);clear hst hb7;go_wp2
    refine bodyPost_ret (v:=.tuple #[.agg #[.int .i64 k,.string ⟨(c).toArray⟩,.bool ng,.slice ra rs.length rc,.int .i64 lo,.int .i64 hi,.bool lz,.slice ka ks.length kc],.int .i64 0]) (by simp [results,Tryz.results80,go_sem,f0,f1,f2,f3,f4,f5,f6,f7]) rfl ?_;refine⟨?_,?_⟩
    ·iterate 8 (refine Below.setCell ?_ (by first|omega|(simp;done)|(simp;omega)) _)
     exact hbl7
    rw [←HR.out];refine⟨rxc k c ng ra rs.length rc lo hi lz ka ks.length kc,rfl,RxV.mono (S:=fun b=>w.heap.size≤b∧b≠w.heap.size) (fun b hb _=>hb.1) ?_⟩;iterate 8 (refine RxV.keep (Kept.setLow _ (fun b hb=>by have:w.heap.size≤b∧b≠w.heap.size:=hb;first|omega|(simp;done)|(simp;omega))) ?_)
    exact HXV7.out
   | cons p r4 =>
    have HR2:Hid (Except.error 10=R):=Lib.hid (by rw [←HR.out];unfold readC;simp only [hpr]);have HR:=HR2;have hp0:=HRD6.out.pos.1;have hp1:List.isEmpty p=false:=by cases p<;>simp at hp0 ⊢
    have hp2:(!List.isEmpty p)=true:=by rw [hp1];rfl
    clear hpr hx HR2 hp0;go_wp2_with (go_at_call 90;refine(see_any _ HRD6.out).mono ?_)
    rintro e w7 ⟨rfl,hst⟩;rw [hdS_cons];have hbl7:=hbl6.trans (hst.below w.heap.size);obtain⟨f0,f1,f2,f3,f4,f5,f6,f7,f8⟩:=bx_cells (c:=[]) (((hst.below _).block _ (heap_lt HBY6.out)).trans HBY6.out);clear hst;go_wp2
    refine bodyPost_ret (v:=.tuple #[.agg #[.int .i64 0,.string ⟨([]).toArray⟩,.bool false,.slice none 0 0,.int .i64 0,.int .i64 0,.bool false,.slice none 0 0],.int .i64 10]) (by simp [results,Tryz.results80,go_sem,f0,f1,f2,f3,f4,f5,f6,f7]) rfl ?_;refine⟨?_,?_⟩
    ·iterate 8 (refine Below.setCell ?_ (by first|omega|(simp;done)|(simp;omega)) _)
     exact hbl7
    ·rw [←HR.out];rfl
 | cons b t =>
  obtain⟨c,r,rfl⟩:∃c r,L=c::r:=by rw [←hL];exact⟨_,_,rfl⟩
  generalize hss:b::t=s at *
  have hs1:List.isEmpty s=false:=by rw [←hss];rfl
  have hs2:(!List.isEmpty s)=true:=by rw [hs1];rfl
  clear hss hL;have hcl:=(hf1 c (List.mem_cons_self ..)).2;have HF1:=Lib.hid hf1;clear hf1;cases hpb:properB c with
  | false =>
   have HR:Hid (Except.error 10=R):=Lib.hid (by rw [←hR];simp [hpb]);have HPB:=Lib.hid hpb;clear hR hpb;obtain⟨w0,hw0⟩:∃w0,w0=w.alloc (.cells #[.int .i64 0,.string ⟨#[]⟩,.bool false,.slice none 0 0,.int .i64 0,.int .i64 0,.bool false,.slice none 0 0] 34):=⟨_,rfl⟩;obtain⟨hb0,hz0e,hby0⟩:=alloc1 w hw0;have HW0:=Lib.hid hw0;have HBY0:=Lib.hid hby0;have hz0:w.heap.size+1≤w0.heap.size:=by omega
   clear hw0 hby0 hz0e;go_enter Tryz.func80,Tryz.ntmps80
   go_wp2_with (go_at_call 87;refine(HSP.out _).mono ?_)
   rintro e w1 hq;obtain⟨a,k,rfl,hsl,hb1⟩:=hq;rw [←HW0.out] at hsl hb1;have hz1:=hb1.size;obtain⟨w2,hw2⟩:∃w2,w2=w1.alloc (.cells #[.slice a (r.length+1) k,.int .i64 0,.int .i64 0] 132):=⟨_,rfl⟩;obtain⟨hb2,hz2e,hbr2⟩:=alloc1 w1 hw2;have hz2:w1.heap.size+1≤w2.heap.size:=by omega
   have HCH:=Lib.hid (hsl.keep (Kept.all hb2));have HRD2:Hid (Rd w2 w1.heap.size (c::r) 0):=Lib.hid ⟨a,k,c::r,0,hbr2,(hsl.mono (S':=fun b=>b<w1.heap.size) fun b _ h=>h).keep (Kept.all hb2),hf2,by omega,HF1.out,rfl⟩;have hbw2:Below w.heap.size w w2:=(hb0.trans (hb1.mono (by omega))).trans (hb2.mono (by omega));have HBY2:=Lib.hid ((hb2.block _ (heap_lt ((hb1.block _ (heap_lt HBY0.out)).trans HBY0.out))).trans ((hb1.block _ (heap_lt HBY0.out)).trans HBY0.out));clear hsl hb1 hz2e hb0;go_upto_region 4 with fail
   rw [←hw2];clear hw2;obtain⟨cb,co,rfl,_,kc⟩:=HCH.out.sl.str (k:=0) (p:=c) rfl;have kc':w2.cell? ⟨cb,co,none⟩=some (.string ⟨(c).toArray⟩):=kc;have c0:w2.cell? ⟨w1.heap.size,0,none⟩=some (.slice (some ⟨cb,co,none⟩) (r.length+1) k):=by rw [Lib.cell_of_heap hbr2];rfl
   have HPR:Hid (Calls Tryz.prog 88 #[.string ⟨(c).toArray⟩] w2 fun e w'=>e=.returned (.bool false)∧w2=w'):=Lib.hid (HPB.out▸Proper_any c w2 (by omega));clear kc;go_wp2_with (go_at_call 88;refine HPR.out.mono ?_)
   rintro e wq ⟨rfl,rfl⟩;have HBYq:=HBY2;have hbwq:=hbw2;clear kc' c0 HPR;obtain⟨f0,f1,f2,f3,f4,f5,f6,f7,f8⟩:=bx_cells (c:=[]) HBYq.out;go_wp2
   refine bodyPost_ret (v:=.tuple #[.agg #[.int .i64 0,.string ⟨([]).toArray⟩,.bool false,.slice none 0 0,.int .i64 0,.int .i64 0,.bool false,.slice none 0 0],.int .i64 10]) (by simp [results,Tryz.results80,go_sem,f0,f1,f2,f3,f4,f5,f6,f7]) rfl ?_;refine⟨?_,?_⟩
   ·iterate 8 (refine Below.setCell ?_ (by first|omega|(simp;done)|(simp;omega)) _)
    exact hbwq
   ·rw [←HR.out];rfl
  | true =>
   have HR:Hid (readC (c::r)=R):=Lib.hid (by rw [←hR];simp [hpb]);have HPB:=Lib.hid hpb;clear hR hpb;obtain⟨w0,hw0⟩:∃w0,w0=w.alloc (.cells #[.int .i64 0,.string ⟨#[]⟩,.bool false,.slice none 0 0,.int .i64 0,.int .i64 0,.bool false,.slice none 0 0] 34):=⟨_,rfl⟩;obtain⟨hb0,hz0e,hby0⟩:=alloc1 w hw0;have HW0:=Lib.hid hw0;have HBY0:=Lib.hid hby0;have hz0:w.heap.size+1≤w0.heap.size:=by omega
   clear hw0 hby0 hz0e;go_enter Tryz.func80,Tryz.ntmps80
   go_wp2_with (go_at_call 87;refine(HSP.out _).mono ?_)
   rintro e w1 hq;obtain⟨a,k,rfl,hsl,hb1⟩:=hq;rw [←HW0.out] at hsl hb1;have hz1:=hb1.size;obtain⟨w2,hw2⟩:∃w2,w2=w1.alloc (.cells #[.slice a (r.length+1) k,.int .i64 0,.int .i64 0] 132):=⟨_,rfl⟩;obtain⟨hb2,hz2e,hbr2⟩:=alloc1 w1 hw2;have hz2:w1.heap.size+1≤w2.heap.size:=by omega
   have HCH:=Lib.hid (hsl.keep (Kept.all hb2));have HRD2:Hid (Rd w2 w1.heap.size (c::r) 0):=Lib.hid ⟨a,k,c::r,0,hbr2,(hsl.mono (S':=fun b=>b<w1.heap.size) fun b _ h=>h).keep (Kept.all hb2),hf2,by omega,HF1.out,rfl⟩;have hbw2:Below w.heap.size w w2:=(hb0.trans (hb1.mono (by omega))).trans (hb2.mono (by omega));have HBY2:=Lib.hid ((hb2.block _ (heap_lt ((hb1.block _ (heap_lt HBY0.out)).trans HBY0.out))).trans ((hb1.block _ (heap_lt HBY0.out)).trans HBY0.out));clear hsl hb1 hz2e hb0;go_upto_region 4 with fail
   rw [←hw2];clear hw2;obtain⟨cb,co,rfl,_,kc⟩:=HCH.out.sl.str (k:=0) (p:=c) rfl;have kc':w2.cell? ⟨cb,co,none⟩=some (.string ⟨(c).toArray⟩):=kc;have c0:w2.cell? ⟨w1.heap.size,0,none⟩=some (.slice (some ⟨cb,co,none⟩) (r.length+1) k):=by rw [Lib.cell_of_heap hbr2];rfl
   have HPR:Hid (Calls Tryz.prog 88 #[.string ⟨(c).toArray⟩] w2 fun e w'=>e=.returned (.bool true)∧w2=w'):=Lib.hid (HPB.out▸Proper_any c w2 (by omega));clear kc;go_wp2_with (go_at_call 88;refine HPR.out.mono ?_)
   rintro e wq ⟨rfl,rfl⟩;have HBYq:=HBY2;have hbwq:=hbw2;clear kc' c0 HPR;have HPAT:=Lib.hid (pat_all ((c::r).length+1) w1.heap.size 0 (c::r) w2 HRD2.out (by omega) (by omega));go_wp2_with (go_at_call 89;refine HPAT.out.mono ?_)
   rintro e w5 hq;clear HPAT;cases hpr:patF ((c::r).length+1) (c::r) 0 with
   | error q =>
    rw [hpr] at hq;obtain⟨hq5,rfl,r9,hrd9⟩:=hq;have hq0:q≠0:=pat_err _ _ _ q hpr;have HR2:Hid (Except.error q=R):=Lib.hid (by rw [←HR.out];unfold readC;simp only [hpr]);have HR:=HR2;have hby5:=box_grown HBY2.out hq5 (by omega);have hbl5:Below w.heap.size w w5:=below_lo hbw2 hq5 (by omega);have hz5:=hbl5.size;have hb6:Below w5.heap.size w5 (w5.alloc (.cells #[.int .i64 0,.string ⟨#[]⟩,.bool false,.slice none 0 0,.int .i64 0,.int .i64 0,.bool false,.slice none 0 0] 34)):=(Below.refl _ _).alloc (Nat.le_refl _) _;have hbl6:=hbl5.trans (hb6.mono hz5);have ne1:(q==0)=false:=beq_eq_false_iff_ne.2 hq0;have ne2:(q != 0)=true:=by simp [bne,ne1]
    obtain⟨f0,f1,f2,f3,f4,f5,f6,f7,f8⟩:=bx_cells (c:=[]) ((hb6.block _ (heap_lt hby5)).trans hby5);clear hpr hby5 hrd9 hb6 hq5;unfold rxv0;go_wp2
    refine bodyPost_ret (v:=.tuple #[.agg #[.int .i64 0,.string ⟨([]).toArray⟩,.bool false,.slice none 0 0,.int .i64 0,.int .i64 0,.bool false,.slice none 0 0],.int .i64 q]) (by simp [results,Tryz.results80,go_sem,f0,f1,f2,f3,f4,f5,f6,f7]) rfl ?_;refine⟨?_,?_⟩
    ·iterate 8 (refine Below.setCell ?_ (by first|omega|(simp;done)|(simp;omega)) _)
     exact hbl6
    ·rw [←HR.out];rfl
   | ok y =>
    obtain⟨x,r3⟩:=y;rw [hpr] at hq;obtain⟨hq5,cc,rfl,hxv,hrd5⟩:=hq;have hby5:=box_grown HBY2.out hq5 (by omega);have hbl5:Below w.heap.size w w5:=below_lo hbw2 hq5 (by omega);have hz5:=hbl5.size;have hq5z:=hq5.size;obtain⟨k,c,ng,rs,lo,hi,lz,ks,ra,rc,ka,kc,hx,rfl⟩:=hxv.box;have hb6:Below w5.heap.size w5 (w5.alloc (.cells (rxc k c ng ra rs.length rc lo hi lz ka ks.length kc).toArray 34)):=(Below.refl _ _).alloc (Nat.le_refl _) _;have hbl6:=hbl5.trans (hb6.mono hz5);have HRD6:=Lib.hid (hrd5.later hb6);have HXV:=Lib.hid ((hxv.mono (S':=fun b=>w.heap.size≤b∧b≠w.heap.size) fun b hb hlt=>by constructor<;>omega).later hb6);have HBY6:=Lib.hid ((hb6.block _ (heap_lt hby5)).trans hby5);have HBX6:Hid ((w5.alloc (.cells (rxc k c ng ra rs.length rc lo hi lz ka ks.length kc).toArray 34)).heap[w5.heap.size]?=some (.cells (rxc k c ng ra rs.length rc lo hi lz ka ks.length kc).toArray 34 (0,0))):=Lib.hid (heap_alloc_new w5 _);clear hxv hrd5 hby5 hb6;unfold rxc at hbl6 HRD6 HXV HBY6 HBX6 ⊢;cases r3 with
    | nil =>
     have HR2:Hid (Except.ok x=R):=Lib.hid (by rw [←HR.out];unfold readC;simp only [hpr]);have HR:=HR2;rw [hx] at HR HXV;clear hpr hx HR2;go_wp2_with (go_at_call 90;refine(see_any _ HRD6.out).mono ?_)
     rintro e w7 ⟨rfl,hst⟩;have e0:hdS []=[]:=rfl;rw [e0];have hb7:=hst.below w.heap.size;have hbl7:=hbl6.trans hb7;have HXV7:=Lib.hid (HXV.out.later (hst.below _));obtain⟨f0,f1,f2,f3,f4,f5,f6,f7,f8⟩:=bx_cells (c:=[]) (((hst.below _).block _ (heap_lt HBY6.out)).trans HBY6.out);obtain⟨e0,e1,e2,e3,e4,e5,e6,e7,e8⟩:=bx_cells (((hst.below _).block _ (heap_lt HBX6.out)).trans HBX6.out);clear hst hb7;go_wp2
     refine bodyPost_ret (v:=.tuple #[.agg #[.int .i64 k,.string ⟨(c).toArray⟩,.bool ng,.slice ra rs.length rc,.int .i64 lo,.int .i64 hi,.bool lz,.slice ka ks.length kc],.int .i64 0]) (by simp [results,Tryz.results80,go_sem,f0,f1,f2,f3,f4,f5,f6,f7]) rfl ?_;refine⟨?_,?_⟩
     ·iterate 8 (refine Below.setCell ?_ (by first|omega|(simp;done)|(simp;omega)) _)
      exact hbl7
     rw [←HR.out];refine⟨rxc k c ng ra rs.length rc lo hi lz ka ks.length kc,rfl,RxV.mono (S:=fun b=>w.heap.size≤b∧b≠w.heap.size) (fun b hb _=>hb.1) ?_⟩;iterate 8 (refine RxV.keep (Kept.setLow _ (fun b hb=>by have:w.heap.size≤b∧b≠w.heap.size:=hb;first|omega|(simp;done)|(simp;omega))) ?_)
     exact HXV7.out
    | cons p r4 =>
     have HR2:Hid (Except.error 10=R):=Lib.hid (by rw [←HR.out];unfold readC;simp only [hpr]);have HR:=HR2;have hp0:=HRD6.out.pos.1;have hp1:List.isEmpty p=false:=by cases p<;>simp at hp0 ⊢
     have hp2:(!List.isEmpty p)=true:=by rw [hp1];rfl
     clear hpr hx HR2 hp0;go_wp2_with (go_at_call 90;refine(see_any _ HRD6.out).mono ?_)
     rintro e w7 ⟨rfl,hst⟩;rw [hdS_cons];have hbl7:=hbl6.trans (hst.below w.heap.size);obtain⟨f0,f1,f2,f3,f4,f5,f6,f7,f8⟩:=bx_cells (c:=[]) (((hst.below _).block _ (heap_lt HBY6.out)).trans HBY6.out);clear hst;go_wp2
     refine bodyPost_ret (v:=.tuple #[.agg #[.int .i64 0,.string ⟨([]).toArray⟩,.bool false,.slice none 0 0,.int .i64 0,.int .i64 0,.bool false,.slice none 0 0],.int .i64 10]) (by simp [results,Tryz.results80,go_sem,f0,f1,f2,f3,f4,f5,f6,f7]) rfl ?_;refine⟨?_,?_⟩
     ·iterate 8 (refine Below.setCell ?_ (by first|omega|(simp;done)|(simp;omega)) _)
      exact hbl7
     ·rw [←HR.out];rfl
end Go.Proofs.YtbgcjpefocdkkaaGreat
