/- walks of rxtree: fits, May -/
import Derived.Test.YtjggmmaojklmpaaGreatLb25
import Derived.Test.YtjggmmaojklmpaaGreatLb19
import Derived.Lib.Bytealg
set_option maxRecDepth 100000
set_option maxHeartbeats 4000000
namespace Go.Proofs.YtjggmmaojklmpaaGreat
open Go.RowKit
def FitPost (x:Rx) (left dp:Int) (e:Ending):Prop :=
 ∃l':Int,e=.returned (.tuple #[.int .i64 l',.bool (okB x left dp)])∧(okB x left dp=true→l'=left-x.parts)
def FitRel (ks:List Rx) (R:Bool) (tot dp:Int) (w:World) (t q:Value) (wr:World):Prop :=
 ∃(k:Nat) (l:Int),k≤ks.length∧q=.int .i64 k∧t=.int .i64 l∧0≤l∧l≤100000∧Below w.heap.size w wr∧Hid (okL (ks.drop k) l dp=R)∧Hid (l-Rx.partsL (ks.drop k)=tot)
theorem okL_nil {l dp:Int} (h:0≤l) (h':0≤dp):okL [] l dp=true:=by
 unfold okL;rw [CO (show ((Rx.partsL []:Nat):Int)≤l from h),CO (show ((Rx.deepL []:Nat):Int)≤dp from h')];rfl
theorem pS {S:Nat→Prop} {K:Int} {c:Str} {ng:Bool} {ra:Option Addr} {rs:List (Str × Str)} {rc:Nat} {lo hi:Int} {lz:Bool} {ka:Option Addr} {ks:List Rx} {kc:Nat} {b:Bool} (w:World)
  (h:kw (.mk K c ng rs lo hi lz ks)=b) (hr:SlS w S ra 2 rs.length (jX rs)) (hx:RxSl w S ka ks.length ks) (hsm:(Rx.mk K c ng rs lo hi lz ks).small1) :
  Calls Tryz.prog 91 #[.agg #[.int .i64 K,.string ⟨c.toArray⟩,.bool ng,.slice ra rs.length rc,.int .i64 lo,.int .i64 hi,.bool lz,.slice ka ks.length kc]] w fun e w'=>e=.returned (.bool b)∧Below w.heap.size w w'∧∀a u,w.cell? a=some u→w'.cell? a=some u:=by
 subst h;exact(zJ S K c ng ra rs rc lo hi lz ka ks kc w hr hx hsm).mono fun _ _ ⟨h1,h2⟩=>⟨h1,h2,jP h2⟩
theorem yp (S:Nat→Prop):∀(N:Nat) (x:Rx),x.parts≤N→x.parts≤1000000→x.small→∀(cc:List Value) (w:World) (left dp:Int),RxV w S cc x→-100000≤left→left≤100000→-100000≤dp→dp≤100000 →
  Calls Tryz.prog 56 #[.agg cc.toArray,.int .i64 left,.int .i64 dp] w fun e w'=>FitPost x left dp e∧Below w.heap.size w w'
 | 0,x,h,_,_,_,_,_,_,_,_,_,_,_=>by have:=Rx.parts_pos x;omega
 | N+1,.mk k c ng rs lo hi lz ks,h,hm,hsm,cc,w,left,dp,hv,l0,l1,d0,d1=>by
  obtain⟨ra,rc,ka,kc,rfl,hrs,hx⟩:=hv.open_;obtain⟨hs1,hs2⟩:=hsm;simp only [Rx.parts] at h hm;have hlen:=Rx.len_parts ks;have ih:=fun(y:Rx) (hy:y.parts≤Rx.partsL ks)=>yp S N y gu gu
  have IH:=ab ih;have HSM:=ab hs2;have HS1:=ab hs1;have hb0:=(Below.refl w.heap.size w).alloc (Cp _) (.cells #[.int .i64 k,.string ⟨c.toArray⟩,.bool ng,.slice ra rs.length rc,.int .i64 lo,.int .i64 hi,.bool lz,.slice ka ks.length kc] 25);have HX0:=ab (hx.later hb0);have HRS:=ab (hrs.keep (Kept.all hb0));clear hx hv hrs ih hs1 hs2;unfold rxc;cases hG:grpB k with
  | true =>
   cases hF:kw (.mk k c ng rs lo hi lz ks) with
   | false =>
    exact bw
   | true =>
    have HF:=ab hF;by_cases hld:left<1∨dp-1<0
    ·exact bm
    ·have hl1:1≤left:=gu
     have hd0:0≤dp-1:=gu;have HO:Hid (okB (.mk k c ng rs lo hi lz ks) left dp=okL ks (left-1) (dp-1)):=ab (by rw [xN,hG,hF,CO hl1];simp;omega);clear hF hld;obtain⟨R,hR⟩:∃R,okL ks (left-1) (dp-1)=R:=⟨_,rfl⟩;have HR0:Hid (okL (ks.drop 0) (left-1) (dp-1)=R):=ab hR;have HT0:Hid (left-1-Rx.partsL (ks.drop 0)=left-(Rx.mk k c ng rs lo hi lz ks).parts):=ab (by simp only [Rx.parts,C0];omega);obtain⟨tot,htot⟩:∃tot,left-((Rx.mk k c ng rs lo hi lz ks).parts:Int)=tot:=⟨_,rfl⟩;have HOR:Hid (okB (.mk k c ng rs lo hi lz ks) left dp=R):=ab (by rw [HO.out,hR]);have HTT:=ab htot;rw [htot] at HT0;clear hR htot HO;go_enter Tryz.func56,Tryz.ntmps56
     go_wp2_with (first|(go_at_call 90;refine(pC _ _).mono ?_;rintro e w1 ⟨rfl,rfl⟩;rw [hG])|(go_at_call 91;refine(pS _ HF.out HRS.out HX0.out HS1.out).mono ?_;rintro e w1 ⟨rfl,hb1,hc1⟩;have z1:=hc1 ⟨w.heap.size,7,none⟩ (.slice ka ks.length kc) gF))
     have HX1:=ab ((HX0.out.later (Below.refl _ _)).later hb1);have hbw1:Below w.heap.size w w1:=((Below.refl _ _).alloc (Cp _) _).trans (hb1.mono gF);have hz1:=hbw1.size;clear hb1 hc1 z1;go_loopw [1,33] (fun t q wr=>FitRel ks R tot (dp-1) w1 t q wr) (fun _ q _=>ks.length-(intOf q).toNat)
     case atStart=>exact⟨0,left-1,by omega,rfl,rfl,by omega,by omega,Below.refl _ _,HR0,HT0⟩
     case round =>
      obtain⟨i,l,hi,rfl,rfl,hl0,hl9,hb,HL,HTL⟩:=hrel;clear HR0 HT0;have hB:=hb.size;cases hd:ks.drop i with
      | nil =>
       exact cj
      | cons y r =>
       have HX:=HX1;obtain⟨h2,h3,hr⟩:=j6 hd;obtain⟨yk,yc,yn,yr,yl,yh,yz,ys⟩:=y;obtain⟨b,o,ya,yrc,yka,ykc,rfl,hS,hbB,_,_,hyv,c0,c1,c2,c3,c4,c5,c6,c7⟩:=(HX.out.later hb).cells h3;have hyp:=Rx.parts_mem (CF h3);have hym:=lK HSM.out (CF h3);have Hr:=ab hr;have HE:Hid (R=(okB (.mk yk yc yn yr yl yh yz ys) l (dp-1)&&okL r (l-(Rx.mk yk yc yn yr yl yh yz ys).parts) (dp-1))):=ab (by rw [←HL.out,hd,yf]);have HE2:Hid (l-(Rx.mk yk yc yn yr yl yh yz ys).parts-Rx.partsL r=tot):=ab (by rw [←HTL.out,hd];simp only [Rx.partsL];omega);have HYV:=ab (hyv.later ((Below.refl wr.heap.size wr).alloc (Cp _) (.cells (rxc yk yc yn ya yr.length yrc yl yh yz yka ys.length ykc).toArray 25)));unfold rxc at HYV;have HYM:=ab hym;clear hd HL HTL hr h3 hyv hym;go_wp2_with (go_at_call 56;refine(IH.out _ hyp HYM.out _ _ l (dp-1) HYV.out gu gu gu gu).mono ?_)
       rintro e w2 ⟨⟨l',rfl,hl'⟩,hb2⟩;have hbw2:Below w.heap.size w w2:=hbw1.trans (((hb.alloc hB _).trans (hb2.mono gH)).mono hz1);cases hok:okB (.mk yk yc yn yr yl yh yz ys) l (dp-1) with
       | false =>
        exact cT
       | true =>
        have hl2:=hl' hok;have hpp:(Rx.mk yk yc yn yr yl yh yz ys).parts≤l:=by
         have h:=hok;simp only [okB,Cs,Cj] at h;exact h.1.2
        have HE3:Hid (okL r l' (dp-1)=R):=ab (by rw [HE.out,hok,hl2];rfl);exact bX
  | false =>
   cases hF:kw (.mk k c ng rs lo hi lz ks) with
   | false =>
    exact bw
   | true =>
    have HF:=ab hF;by_cases hld:left<1∨dp<0
    ·exact bm
    ·have hl1:1≤left:=gu
     have hd0:0≤dp:=gu;have HO:Hid (okB (.mk k c ng rs lo hi lz ks) left dp=okL ks (left-1) (dp)):=ab (by rw [xN,hG,hF,CO hl1];simp;omega);clear hF hld;obtain⟨R,hR⟩:∃R,okL ks (left-1) (dp)=R:=⟨_,rfl⟩;have HR0:Hid (okL (ks.drop 0) (left-1) (dp)=R):=ab hR;have HT0:Hid (left-1-Rx.partsL (ks.drop 0)=left-(Rx.mk k c ng rs lo hi lz ks).parts):=ab (by simp only [Rx.parts,C0];omega);obtain⟨tot,htot⟩:∃tot,left-((Rx.mk k c ng rs lo hi lz ks).parts:Int)=tot:=⟨_,rfl⟩;have HOR:Hid (okB (.mk k c ng rs lo hi lz ks) left dp=R):=ab (by rw [HO.out,hR]);have HTT:=ab htot;rw [htot] at HT0;clear hR htot HO;go_enter Tryz.func56,Tryz.ntmps56
     go_wp2_with (first|(go_at_call 90;refine(pC _ _).mono ?_;rintro e w1 ⟨rfl,rfl⟩;rw [hG])|(go_at_call 91;refine(pS _ HF.out HRS.out HX0.out HS1.out).mono ?_;rintro e w1 ⟨rfl,hb1,hc1⟩;have z1:=hc1 ⟨w.heap.size,7,none⟩ (.slice ka ks.length kc) gF))
     have HX1:=ab ((HX0.out.later (Below.refl _ _)).later hb1);have hbw1:Below w.heap.size w w1:=((Below.refl _ _).alloc (Cp _) _).trans (hb1.mono gF);have hz1:=hbw1.size;clear hb1 hc1 z1;go_loopw [1,33] (fun t q wr=>FitRel ks R tot (dp) w1 t q wr) (fun _ q _=>ks.length-(intOf q).toNat)
     case atStart=>exact⟨0,left-1,by omega,rfl,rfl,by omega,by omega,Below.refl _ _,HR0,HT0⟩
     case round =>
      obtain⟨i,l,hi,rfl,rfl,hl0,hl9,hb,HL,HTL⟩:=hrel;clear HR0 HT0;have hB:=hb.size;cases hd:ks.drop i with
      | nil =>
       exact cj
      | cons y r =>
       have HX:=HX1;obtain⟨h2,h3,hr⟩:=j6 hd;obtain⟨yk,yc,yn,yr,yl,yh,yz,ys⟩:=y;obtain⟨b,o,ya,yrc,yka,ykc,rfl,hS,hbB,_,_,hyv,c0,c1,c2,c3,c4,c5,c6,c7⟩:=(HX.out.later hb).cells h3;have hyp:=Rx.parts_mem (CF h3);have hym:=lK HSM.out (CF h3);have Hr:=ab hr;have HE:Hid (R=(okB (.mk yk yc yn yr yl yh yz ys) l (dp)&&okL r (l-(Rx.mk yk yc yn yr yl yh yz ys).parts) (dp))):=ab (by rw [←HL.out,hd,yf]);have HE2:Hid (l-(Rx.mk yk yc yn yr yl yh yz ys).parts-Rx.partsL r=tot):=ab (by rw [←HTL.out,hd];simp only [Rx.partsL];omega);have HYV:=ab (hyv.later ((Below.refl wr.heap.size wr).alloc (Cp _) (.cells (rxc yk yc yn ya yr.length yrc yl yh yz yka ys.length ykc).toArray 25)));unfold rxc at HYV;have HYM:=ab hym;clear hd HL HTL hr h3 hyv hym;go_wp2_with (go_at_call 56;refine(IH.out _ hyp HYM.out _ _ l (dp) HYV.out gu gu gu gu).mono ?_)
       rintro e w2 ⟨⟨l',rfl,hl'⟩,hb2⟩;have hbw2:Below w.heap.size w w2:=hbw1.trans (((hb.alloc hB _).trans (hb2.mono gH)).mono hz1);cases hok:okB (.mk yk yc yn yr yl yh yz ys) l (dp) with
       | false =>
        exact cT
       | true =>
        have hl2:=hl' hok;have hpp:(Rx.mk yk yc yn yr yl yh yz ys).parts≤l:=by
         have h:=hok;simp only [okB,Cs,Cj] at h;exact h.1.2
        have HE3:Hid (okL r l' (dp)=R):=ab (by rw [HE.out,hok,hl2];rfl);exact bX
theorem rS (S:Nat→Prop) (x:Rx) (cc:List Value) (w:World) (hm:x.parts≤1000000) (hsm:x.small) (hv:RxV w S cc x) :
  Calls Tryz.prog 29 #[.agg cc.toArray] w fun e w'=>e=.returned (.bool (mayB x))∧Below w.heap.size w w':=by
 obtain⟨k,c,ng,rs,lo,hi,lz,ks⟩:=x;obtain⟨ra,rc,ka,kc,rfl,hrs,hx⟩:=hv.open_;have HV:=ab (hv.later ((Below.refl w.heap.size w).alloc (Cp _) (.cells #[.int .i64 k,.string ⟨c.toArray⟩,.bool ng,.slice ra rs.length rc,.int .i64 lo,.int .i64 hi,.bool lz,.slice ka ks.length kc] 25)));have HSM:=ab hsm;have HM:=ab hm;clear hv hrs hx hsm hm;unfold rxc at HV ⊢;go_enter Tryz.func29,Tryz.ntmps29
 go_wp2_with (go_at_call 56;refine(yp S _ _ (Cp _) HM.out HSM.out _ _ 512 16 HV.out gD gD gD gD).mono ?_;rintro e w1 ⟨⟨l',rfl,hl'⟩,hb1⟩)
 exact ew
def rO (x:Rx) (fold:Bool) (s:Str) (z:Int):Option (Nat × Nat × List (Int × Int)) × Rst:=mu (rcM fold s) x ((rcM fold s).offs.length+1) 0 (mB x.groups z)
def FndP (x:Rx) (fold:Bool) (s:Str) (z:Int) (w:World) (e:Ending) (w':World):Prop :=
 Below w.heap.size w w' ∧
  ((mayB x=false∧e=.returned (.tuple #[mz,.int .i64 0,.bool false,.int .i64 10]))
  ∨ (mayB x=true∧(rO x fold s z).2.out=true∧e=.returned (.tuple #[mz,.int .i64 0,.bool false,.int .i64 9]))
  ∨ (mayB x=true∧(rO x fold s z).2.out=false∧(rO x fold s z).1=none∧e=.returned (.tuple #[mz,.int .i64 ((rO x fold s z).2.fuel:Int),.bool false,.int .i64 0]))
  ∨ (mayB x=true∧(rO x fold s z).2.out=false∧∃a b ps aa c,(rO x fold s z).1=some (a,b,ps)∧e=.returned (.tuple #[.agg #[.int .i64 (((rcM fold s).offs.getD a 0:Nat):Int),.int .i64 (((rcM fold s).offs.getD b 0:Nat):Int),.slice aa x.groups c],.int .i64 ((rO x fold s z).2.fuel:Int),.bool true,.int .i64 0])
    ∧ SlS w' (fun b=>w.heap.size≤b) aa 2 x.groups (jV ps)∧ps.length=x.groups∧a≤b∧b≤(rcM fold s).cs.length))
theorem told_any (S:Nat→Prop) {x:Rx} {cc:List Value} {fold:Bool} {s:Str} {z:Int} (w:World) (hv:RxV w S cc x) (hm:x.parts≤1000000) (hsm:x.small) (hwf:x.wf=true) (hs:s.length≤1000000) (hg:x.groups≤1000) :
  Calls Tryz.prog 61 #[.agg cc.toArray,.bool fold,.string ⟨s.toArray⟩,.int .i64 0,.int .i64 z,.func (.func 59) #[] #[]] w (FndP x fold s z w):=by
 have hv0:=hv;obtain⟨X,hX⟩:∃X,X=x:=⟨_,rfl⟩;obtain⟨kd,ch,ng,rs,lo,hi,lz,ks⟩:=x;obtain⟨ra,rc,ka,kc,rfl,hrs,hks⟩:=hv0.open_;rw [←hX];obtain⟨W1,hW1⟩:∃W1,W1=(w.alloc (.cells (rxc kd ch ng ra rs.length rc lo hi lz ka ks.length kc).toArray 25)).alloc (.cells #[.int .i64 0,.int .i64 0,.slice none 0 0] 51):=⟨_,rfl⟩;have hb1:Below w.heap.size w W1:=by rw [hW1];exact((Below.refl _ _).alloc (Cp _) _).alloc gF _
 have hz1:W1.heap.size=w.heap.size+2:=by rw [hW1];simp
 have hx1:W1.heap[w.heap.size]?=some (.cells (rxc kd ch ng ra rs.length rc lo hi lz ka ks.length kc).toArray 25 (0,0)):=by rw [hW1,Below.heap_alloc _ _ _ gF];exact heap_alloc_new w _
 have hy1:W1.heap[w.heap.size+1]?=some (.cells #[.int .i64 0,.int .i64 0,.slice none 0 0] 51 (0,0)):=by
  exact cR
 rw [←hX] at hv hm hsm hwf hg;have hv1:=hv.later hb1;have HM:=ab (rS S X _ W1 hm hsm hv1);have x0:W1.cell? ⟨w.heap.size,0,none⟩=some (.int .i64 kd):=by rw [Cv hx1];rfl
 have x1:W1.cell? ⟨w.heap.size,1,none⟩=some (.string ⟨ch.toArray⟩):=by rw [Cv hx1];rfl
 have x2:W1.cell? ⟨w.heap.size,2,none⟩=some (.bool ng):=by rw [Cv hx1];rfl
 have x3:W1.cell? ⟨w.heap.size,3,none⟩=some (.slice ra rs.length rc):=by rw [Cv hx1];rfl
 have x4:W1.cell? ⟨w.heap.size,4,none⟩=some (.int .i64 lo):=by rw [Cv hx1];rfl
 have x5:W1.cell? ⟨w.heap.size,5,none⟩=some (.int .i64 hi):=by rw [Cv hx1];rfl
 have x6:W1.cell? ⟨w.heap.size,6,none⟩=some (.bool lz):=by rw [Cv hx1];rfl
 have x7:W1.cell? ⟨w.heap.size,7,none⟩=some (.slice ka ks.length kc):=by rw [Cv hx1];rfl
 have HB1:=ab hb1;have HZ1:=ab hz1;have HX1:=ab hx1;have HY1:=ab hy1;have HW1:=ab hW1;have HV1:=ab hv1;have HXe:=ab hX;clear hb1 hz1 hx1 hy1 hW1 hv1 hX hrs hks hv hv0;unfold rxc at HM HW1 ⊢;go_enter Tryz.func61,Tryz.ntmps61
 go_upto_region 1 with fail
 rw [←HW1.out];go_wp2_with (go_at_call 29;refine HM.out.mono ?_)
 first|rintro e w2 rfl hb2|rintro e w2 ⟨rfl,hb2⟩
 have HB2:=ab hb2;have keep2:∀(b:Nat) (o:Obj),W1.heap[b]?=some o→w2.heap[b]?=some o:=fun b o h=>(HB2.out.block b (jO h)).trans h
 clear hb2;cases hmb:mayB X with
 | false =>
  have hy2:=keep2 _ _ HY1.out;have HR2:=ab (lC (cs:=#[.int .i64 0,.int .i64 0,.slice none 0 0]) hy2);have HY2:=ab hy2;have HMB:=ab hmb;clear hmb hy2;go_wp2_with (refine kE rfl 51 (.tmp 12) (.tmp 23) rfl (w.heap.size+1) (#[.int .i64 0,.int .i64 0,.slice none 0 0]) rfl rfl 51 _ (HY2.out) (kK) rfl rfl (gG) (W:=(w2.setRow (w.heap.size+1) #[.int .i64 0,.int .i64 0,.slice none 0 0])) (rfl) ?_)
  refine CJ (mD Tryz.results61 lJ kK HR2.out rfl rfl rfl rfl rfl) rfl ?_;exact⟨below_setRow (bel2 HB1.out HB2.out) gu _,.inl ⟨HMB.out,rfl⟩⟩
 | true =>
  have HMB:=ab hmb;clear hmb;have hx2:=keep2 _ _ HX1.out;have HY2:=ab (keep2 _ _ HY1.out);have hc:∀(j:Nat) (v:Value),W1.cell? ⟨w.heap.size,j,none⟩=some v→w2.cell? ⟨w.heap.size,j,none⟩=some v:=fun j v h=>by rw [←h];exact World.cell?_of_block (HB2.out.block _ (jO HX1.out))
  have x0:=hc _ _ x0;have x1:=hc _ _ x1;have x2:=hc _ _ x2;have x3:=hc _ _ x3;have x4:=hc _ _ x4;have x5:=hc _ _ x5;have x6:=hc _ _ x6;have x7:=hc _ _ x7;have HBG:=ab (uF S (fold:=fold) (s:=s) (z:=z) w2 (HV1.out.later HB2.out) hsm hwf hs hg);have hz2:=HB2.out.size;unfold rxc at HBG;clear hc hx2;go_wp2_with (go_at_call 58;refine HBG.out.mono ?_)
  rintro e w3 ⟨R,rfl,hB⟩;have hy3:=(hB.bel.block _ (jO HY2.out)).trans HY2.out;have hf:=yq hB.j hB.run hB.tr (k:=0) (N:=R.C.offs.length+1) gu (by have:=hB.j.of;omega);have hpl:=uo R.S R.oa R.oc R.C.offs w3 (by rw [hB.j.of];exact hB.run.of) (by have:=hB.j.of;have:=hB.j.cs;omega) hB.up 0 (by have:=hB.j.of;omega) 0 (by rw [hB.C];exact(mL _ 0 gu).trans rfl);rw [hB.j.of] at hpl;obtain⟨q,hq⟩:∃q,mu R.C X (R.C.offs.length+1) 0 (mB X.groups z)=q:=⟨_,rfl⟩;have hqf:rO X fold s z=q:=by unfold rO;rw [←hB.C];exact hq
  rw [hq] at hf;have cell:∀(w9:World) (s9:Rst) (_:RunJ R w9 s9) (jj:Nat) (u:Value),[Value.bool R.C.fold,.slice R.ca R.C.cs.length R.cc,.slice R.oa (R.C.cs.length+1) R.oc,.slice R.pa R.n R.pc,.int .i64 (s9.fuel:Int),.bool s9.out][jj]?=some u→w9.cell? ⟨R.r,11+jj,none⟩=some u:=fun w9 s9 hj jj u hu=>by
   exact cW
  have c14:w3.cell? ⟨R.r,13,none⟩=some (.slice R.oa (R.C.cs.length+1) R.oc):=cell _ _ hB.run 2 _ rfl;have HF:=ab hf;have HPL:Hid (Calls Tryz.prog 60 #[.slice R.oa (R.C.cs.length+1) R.oc,.int .i64 0] w3 fun e w'=>e=.returned (.tuple #[.int .i64 0,.bool true])∧w3=w'):=ab hpl;have HQ:=ab hqf;have HB:=ab hB;have HY3:=ab hy3;have HCL:=ab cell;clear hf hpl hq hqf hB hy3 cell x0 x1 x2 x3 x4 x5 x6 x7 HBG HM;go_wp2_with (first|(go_at_call 60;refine HPL.out.mono ?_;rintro e w9 ⟨rfl,rfl⟩)|(go_at_call 59;refine HF.out.mono ?_))
  rintro e w4 ⟨hj4,hg4,hm4⟩;obtain⟨ia,ib,aa,nn,cc,ok,rfl,hend⟩:∃(ia ib:Int) (aa:Option Addr) (nn cc:Nat) (ok:Bool),e=.returned (.tuple #[.agg #[.int .i64 ia,.int .i64 ib,.slice aa nn cc],.bool ok]) ∧
    ((q.1=none∧ok=false∧ia=0∧ib=0∧aa=none∧nn=0∧cc=0)∨(∃a b ps,q.1=some (a,b,ps)∧ok=true∧ia=((R.C.offs.getD a 0:Nat):Int)∧ib=((R.C.offs.getD b 0:Nat):Int)∧nn=R.n∧SlS w4 (fun b=>w3.heap.size≤b) aa 2 R.n (jV ps)∧ps.length=R.n∧a≤b∧b≤R.C.cs.length)):=by
   cases hq1:q.1 with
   | none=>exact eF
   | some t =>
    obtain⟨a,b,ps⟩:=t;rw [hq1] at hm4;obtain⟨aa,c,he,h1,h2,_,h4,h5⟩:=hm4;exact⟨_,_,aa,R.n,c,true,he,.inr ⟨a,b,ps,rfl,rfl,rfl,rfl,rfl,h1,h2,h4,h5⟩⟩
  obtain⟨W5,hW5⟩:∃W5,W5=w4.alloc (.cells #[.int .i64 ia,.int .i64 ib,.slice aa nn cc] 51):=⟨_,rfl⟩;have hb5:Below w4.heap.size w4 W5:=by rw [hW5];exact(Below.refl _ _).alloc (Cp _) _
  have hl5:W5.heap[w4.heap.size]?=some (.cells #[.int .i64 ia,.int .i64 ib,.slice aa nn cc] 51 (0,0)):=by rw [hW5];exact heap_alloc_new w4 _
  have hj5:=hj4.later hb5;have z3:=HB.out.bel.size;have z4:=hg4.size;have hy4:=Gx.heap hg4 HY3.out (fun h=>by have h1:=HB.out.new _ h;have h2:=HB2.out.size;have h3:=HZ1.out;omega);have hy5:=(hb5.block _ (jO hy4)).trans hy4;have b24:Below w2.heap.size w2 W5:=HB.out.bel.trans ((hg4.below (Ct (Cp _) z3) (fun k hk=>HB.out.new k hk)).trans (hb5.mono gu));have hbw:Below w.heap.size w W5:=(bel2 HB1.out HB2.out).trans (b24.mono (by have:=HZ1.out;omega));obtain⟨oo,hoo⟩:∃o,q.2.out=o:=⟨_,rfl⟩;obtain⟨ff,hff⟩:∃f,q.2.fuel=f:=⟨_,rfl⟩;have c16:W5.cell? ⟨R.r,16,none⟩=some (.bool oo):=by rw [←hoo];exact HCL.out _ _ hj5 5 _ rfl
  have c15:W5.cell? ⟨R.r,15,none⟩=some (.int .i64 (ff:Int)):=by rw [←hff];exact HCL.out _ _ hj5 4 _ rfl
  have m0:W5.cell? ⟨w4.heap.size,0,none⟩=some (.int .i64 ia):=by rw [Cv hl5];rfl
  have m1:W5.cell? ⟨w4.heap.size,1,none⟩=some (.int .i64 ib):=by rw [Cv hl5];rfl
  have m2:W5.cell? ⟨w4.heap.size,2,none⟩=some (.slice aa nn cc):=by rw [Cv hl5];rfl
  have hend5:(q.1=none∧ok=false∧ia=0∧ib=0∧aa=none∧nn=0∧cc=0)∨(∃a b ps,q.1=some (a,b,ps)∧ok=true∧ia=((R.C.offs.getD a 0:Nat):Int)∧ib=((R.C.offs.getD b 0:Nat):Int)∧nn=R.n∧SlS W5 (fun b=>w3.heap.size≤b) aa 2 R.n (jV ps)∧ps.length=R.n∧a≤b∧b≤R.C.cs.length):=hend.imp id (fun⟨a,b,ps,h1,h2,h3,h4,h5,h6,h7⟩=>⟨a,b,ps,h1,h2,h3,h4,h5,SlS.keep h6 (Kept.all hb5),h7⟩);have HEND:=ab hend5;have HW5:=ab hW5;have HBW:=ab hbw;have HY5:=ab hy5;have HOO:=ab hoo;have HFF:=ab hff;clear hj4 hg4 hm4 hend hend5 hW5 hb5 hl5 hj5 hy4 hy5 b24 hbw hoo hff z4 c14 HF HPL;cases oo with
  | true =>
   have HR5:=ab (lC (cs:=#[.int .i64 0,.int .i64 0,.slice none 0 0]) HY5.out);go_upto_region 8 with fail
   rw [←HW5.out];go_wp2_with (refine kE rfl 51 (.tmp 12) (.tmp 52) rfl (w.heap.size+1) (#[.int .i64 0,.int .i64 0,.slice none 0 0]) rfl rfl 51 _ (HY5.out) (kK) rfl rfl (gG) (W:=(W5.setRow (w.heap.size+1) #[.int .i64 0,.int .i64 0,.slice none 0 0])) (rfl) ?_)
   refine CJ (mD Tryz.results61 lJ kK HR5.out rfl rfl rfl rfl rfl) rfl ?_;exact⟨below_setRow HBW.out gu _,.inr (.inl ⟨HMB.out,by rw [HQ.out];exact HOO.out,rfl⟩)⟩
  | false =>
   go_upto_region 8 with fail
   rw [←HW5.out];go_upto_region 10 with fail
   have hne:R.r≠w.heap.size+1:=fun h=>by have h1:=HB.out.new R.r (.inl rfl);have h2:=HB2.out.size;have h3:=HZ1.out;omega
   have e15:W5.drew.cell? ⟨R.r,15,none⟩=some (.int .i64 (ff:Int)):=c15;have n0:W5.drew.cell? ⟨w4.heap.size,0,none⟩=some (.int .i64 ia):=m0;have n1:W5.drew.cell? ⟨w4.heap.size,1,none⟩=some (.int .i64 ib):=m1;have n2:W5.drew.cell? ⟨w4.heap.size,2,none⟩=some (.slice aa nn cc):=m2;have HYD:Hid (W5.drew.heap[w.heap.size+1]?=some (.cells #[.int .i64 0,.int .i64 0,.slice none 0 0] 51 (0,0))):=ab HY5.out;clear c15 c16 m0 m1 m2;have hyd:=HYD.out;have b0:W5.drew.cell? ⟨w.heap.size+1,0,none⟩=some (.int .i64 0):=by rw [Cv hyd];rfl
   have b1:W5.drew.cell? ⟨w.heap.size+1,1,none⟩=some (.int .i64 0):=by rw [Cv hyd];rfl
   have b2:W5.drew.cell? ⟨w.heap.size+1,2,none⟩=some (.slice none 0 0):=by rw [Cv hyd];rfl
   have f0:W5.drew.frozen? ⟨w.heap.size+1,0,none⟩=false:=by simp only [World.frozen?,hyd];simp
   have f1:W5.drew.frozen? ⟨w.heap.size+1,1,none⟩=false:=by simp only [World.frozen?,hyd];simp
   have f2:W5.drew.frozen? ⟨w.heap.size+1,2,none⟩=false:=by simp only [World.frozen?,hyd];simp
   have hne2:w.heap.size+1≠R.r:=Ne.symm hne;have g0:W5.cell? ⟨w.heap.size+1,0,none⟩=some (.int .i64 0):=b0;have g1:W5.cell? ⟨w.heap.size+1,1,none⟩=some (.int .i64 0):=b1;have g2:W5.cell? ⟨w.heap.size+1,2,none⟩=some (.slice none 0 0):=b2;have k0:W5.frozen? ⟨w.heap.size+1,0,none⟩=false:=f0;have k1:W5.frozen? ⟨w.heap.size+1,1,none⟩=false:=f1;have k2:W5.frozen? ⟨w.heap.size+1,2,none⟩=false:=f2;have k15:W5.cell? ⟨R.r,15,none⟩=some (.int .i64 (ff:Int)):=e15;clear hyd;obtain⟨W6,hW6⟩:∃W6,(((W5.setCell ⟨w.heap.size+1,0,none⟩ (.int .i64 ia)).setCell ⟨w.heap.size+1,1,none⟩ (.int .i64 ib)).setCell ⟨w.heap.size+1,2,none⟩ (.slice aa nn cc)).drew=W6:=⟨_,rfl⟩;have y1:(W5.setCell ⟨w.heap.size+1,0,none⟩ (.int .i64 ia)).heap[w.heap.size+1]?=some (.cells #[.int .i64 ia,.int .i64 0,.slice none 0 0] 51 (0,0)):=by rw [heap_setCell_same _ _ _ _ _ _ HY5.out];rfl
   have y2:((W5.setCell ⟨w.heap.size+1,0,none⟩ (.int .i64 ia)).setCell ⟨w.heap.size+1,1,none⟩ (.int .i64 ib)).heap[w.heap.size+1]?=some (.cells #[.int .i64 ia,.int .i64 ib,.slice none 0 0] 51 (0,0)):=by rw [heap_setCell_same _ _ _ _ _ _ y1];rfl
   have y3:W6.heap[w.heap.size+1]?=some (.cells #[.int .i64 ia,.int .i64 ib,.slice aa nn cc] 51 (0,0)):=by
    rw [←hW6];show (((W5.setCell ⟨w.heap.size+1,0,none⟩ (.int .i64 ia)).setCell ⟨w.heap.size+1,1,none⟩ (.int .i64 ib)).setCell ⟨w.heap.size+1,2,none⟩ (.slice aa nn cc)).heap[w.heap.size+1]?=_
    rw [heap_setCell_same _ _ _ _ _ _ y2];rfl
   have x6:Gx (fun k=>k=w.heap.size+1) W5 W6:=by
    rw [←hW6];exact(((Gx.set (X:=fun k=>k=w.heap.size+1) W5 (a:=⟨w.heap.size+1,0,none⟩) _ rfl).to (Gx.set (X:=fun k=>k=w.heap.size+1) _ _ rfl) (fun _ _ h=>h)).to (Gx.set (X:=fun k=>k=w.heap.size+1) _ _ rfl) (fun _ _ h=>h)).to (Gx.of_below (X:=fun _=>False) (Below.refl _ _).drew) (fun _ _ h=>h.elim)
   have b6:Below w.heap.size w W6:=HBW.out.trans (x6.below (by have:=HBW.out.size;omega) (fun k hk=>by have:k=w.heap.size+1:=hk;omega));have HP:Hid (FndP X fold s z w (.returned (.tuple #[.agg #[.int .i64 ia,.int .i64 ib,.slice aa nn cc],.int .i64 (ff:Int),.bool ok,.int .i64 0])) W6):=ab (by
    refine⟨b6,?_⟩;rw [HQ.out];rcases HEND.out with⟨h1,rfl,rfl,rfl,rfl,rfl,rfl⟩|⟨a,b,ps,h1,rfl,rfl,rfl,rfl,h6,h7,h8,h9⟩
    ·exact .inr (.inr (.inl ⟨HMB.out,HOO.out,h1,by rw [HFF.out];rfl⟩))
    ·refine .inr (.inr (.inr ⟨HMB.out,HOO.out,a,b,ps,aa,cc,h1,by rw [HFF.out,HB.out.C,HB.out.n],?_,by rw [h7,HB.out.n],h8,by rw [←HB.out.C];exact h9⟩))
     rw [←HB.out.n];refine(SlS.keep h6 (x6.kept fun b hb e=>?_)).mono fun b hb _=>?_
     ·have h1:w3.heap.size≤b:=hb
      have h2:b=w.heap.size+1:=e;have:=HB2.out.size
      have:=HZ1.out
      omega
     ·have h1:w3.heap.size≤b:=hb
      have:=HB2.out.size
      have:=HZ1.out
      omega)
   have HY6:=ab y3;have HW6:=ab hW6;clear y1 y2 y3 x6 b6 hW6;go_region_law (fail)
   all_goals
    simp [Act.put]
    rw [HW6.out];go_wp2
    refine CJ (mD Tryz.results61 lJ kK HY6.out rfl rfl rfl rfl rfl) rfl ?_;exact HP.out
theorem FndP.form {x:Rx} {fold:Bool} {s:Str} {z:Int} {w:World} {e:Ending} {w':World} (h:FndP x fold s z w e w') :
  ∃(ia ib:Int) (aa:Option Addr) (nn cc:Nat) (ff:Int) (ok:Bool) (er:Int),e=.returned (.tuple #[.agg #[.int .i64 ia,.int .i64 ib,.slice aa nn cc],.int .i64 ff,.bool ok,.int .i64 er]) ∧
   ∀(w0 w9:World),Below w0.heap.size w0 w9→w0.heap.size≤w.heap.size→Gx (fun k=>k<w.heap.size) w' w9→FndP x fold s z w0 e w9:=by
 obtain⟨_,h1|h1|h1|h1⟩:=h
 ·obtain⟨h1,rfl⟩:=h1
  exact⟨0,0,none,0,0,0,false,10,rfl,fun w0 w9 hb _ _=>⟨hb,.inl ⟨h1,rfl⟩⟩⟩
 ·obtain⟨h1,h2,rfl⟩:=h1
  exact⟨0,0,none,0,0,0,false,9,rfl,fun w0 w9 hb _ _=>⟨hb,.inr (.inl ⟨h1,h2,rfl⟩)⟩⟩
 ·obtain⟨h1,h2,h3,rfl⟩:=h1
  exact⟨0,0,none,0,0,_,false,0,rfl,fun w0 w9 hb _ _=>⟨hb,.inr (.inr (.inl ⟨h1,h2,h3,rfl⟩))⟩⟩
 ·obtain⟨h1,h2,a,b,ps,aa,c,h3,rfl,h4,h5⟩:=h1
  exact⟨_,_,aa,_,c,_,true,0,rfl,fun w0 w9 hb hle hg=>⟨hb,.inr (.inr (.inr ⟨h1,h2,a,b,ps,aa,c,h3,rfl,(SlS.keep h4 (hg.kept fun b hb e=>by
   have h6:w.heap.size≤b:=hb;have h7:b<w.heap.size:=e;omega)).mono (fun b hb _=>Ct hle hb),h5⟩))⟩⟩
theorem Find_any (S:Nat→Prop) {x:Rx} {cc:List Value} {fold:Bool} {s:Str} {z:Int} (w:World) (hv:RxV w S cc x) (hm:x.parts≤1000000) (hsm:x.small) (hwf:x.wf=true) (hs:s.length≤1000000) (hg:x.groups≤1000) :
  Calls Tryz.prog 32 #[.agg cc.toArray,.bool fold,.string ⟨s.toArray⟩,.int .i64 0,.int .i64 z] w (FndP x fold s z w):=by
 have hv0:=hv;obtain⟨X,hX⟩:∃X,X=x:=⟨_,rfl⟩;obtain⟨kd,ch,ng,rs,lo,hi,lz,ks⟩:=x;obtain⟨ra,rc,ka,kc,rfl,hrs,hks⟩:=hv0.open_;rw [←hX];obtain⟨W1,hW1⟩:∃W1,W1=(w.alloc (.cells (rxc kd ch ng ra rs.length rc lo hi lz ka ks.length kc).toArray 25)).alloc (.cells #[.int .i64 0,.int .i64 0,.slice none 0 0] 51):=⟨_,rfl⟩;have hb1:Below w.heap.size w W1:=by rw [hW1];exact((Below.refl _ _).alloc (Cp _) _).alloc gF _
 have hz1:W1.heap.size=w.heap.size+2:=by rw [hW1];simp
 have hx1:W1.heap[w.heap.size]?=some (.cells (rxc kd ch ng ra rs.length rc lo hi lz ka ks.length kc).toArray 25 (0,0)):=by rw [hW1,Below.heap_alloc _ _ _ gF];exact heap_alloc_new w _
 have hy1:W1.heap[w.heap.size+1]?=some (.cells #[.int .i64 0,.int .i64 0,.slice none 0 0] 51 (0,0)):=by
  exact cR
 rw [←hX] at hv hm hsm hwf hg;have hv1:=hv.later hb1;have HT:=ab (told_any S (fold:=fold) (s:=s) (z:=z) W1 hv1 hm hsm hwf hs hg);have x0:W1.cell? ⟨w.heap.size,0,none⟩=some (.int .i64 kd):=by rw [Cv hx1];rfl
 have x1:W1.cell? ⟨w.heap.size,1,none⟩=some (.string ⟨ch.toArray⟩):=by rw [Cv hx1];rfl
 have x2:W1.cell? ⟨w.heap.size,2,none⟩=some (.bool ng):=by rw [Cv hx1];rfl
 have x3:W1.cell? ⟨w.heap.size,3,none⟩=some (.slice ra rs.length rc):=by rw [Cv hx1];rfl
 have x4:W1.cell? ⟨w.heap.size,4,none⟩=some (.int .i64 lo):=by rw [Cv hx1];rfl
 have x5:W1.cell? ⟨w.heap.size,5,none⟩=some (.int .i64 hi):=by rw [Cv hx1];rfl
 have x6:W1.cell? ⟨w.heap.size,6,none⟩=some (.bool lz):=by rw [Cv hx1];rfl
 have x7:W1.cell? ⟨w.heap.size,7,none⟩=some (.slice ka ks.length kc):=by rw [Cv hx1];rfl
 have HB1:=ab hb1;have HZ1:=ab hz1;have HY1:=ab hy1;have HW1:=ab hW1;have HXe:=ab hX;clear hb1 hz1 hx1 hy1 hW1 hv1 hX hrs hks hv hv0;unfold rxc at HT HW1 ⊢;go_enter Tryz.func32,Tryz.ntmps32
 go_upto_region 1 with fail
 rw [←HW1.out];go_wp2_with (go_at_call 61;refine HT.out.mono ?_)
 intro e w2 h2;obtain⟨ia,ib,aa,nn,cc,ff,ok,er,rfl,hend⟩:=h2.form;have hb2:=h2.1;have hy2:=(hb2.block _ (jO HY1.out)).trans HY1.out;have hgr:=qD w2 (w.heap.size+1) #[.int .i64 ia,.int .i64 ib,.slice aa nn cc];have hz1:=HZ1.out;have hfin:=hend w _ (below_setRow (bel2 HB1.out hb2) gu #[.int .i64 ia,.int .i64 ib,.slice aa nn cc]) gu ((Gx.refl (fun k=>k<W1.heap.size) w2).to hgr (fun k _ (hk:k=w.heap.size+1)=>by show k<W1.heap.size;omega));have HR2:=ab (lC (cs:=#[.int .i64 ia,.int .i64 ib,.slice aa nn cc]) hy2);have HY2:=ab hy2;have HFIN:=ab hfin;clear h2 hend hb2 hy2 hgr hfin x0 x1 x2 x3 x4 x5 x6 x7 HT;go_wp2_with (refine kE rfl 51 (.tmp 10) (.tmp 20) rfl (w.heap.size+1) (#[.int .i64 ia,.int .i64 ib,.slice aa nn cc]) rfl rfl 51 _ (HY2.out) (kK) rfl rfl (gG) (W:=(w2.setRow (w.heap.size+1) #[.int .i64 ia,.int .i64 ib,.slice aa nn cc])) (rfl) ?_)
 refine CJ (mD Tryz.results32 lJ kK HR2.out rfl rfl rfl rfl rfl) rfl ?_;exact HFIN.out
theorem zl:(Tryz.prog.info? 51).map (fun i=>(i.zero,i.size,i.bytes))=some (some (.agg #[.int .i64 0,.int .i64 0,.slice none 0 0]),3,40):=by kernel_rfl
def OwnM (w:World) (D:Nat) (offs:List Nat) (n:Nat) (v:Value) (ms:List Mt):Prop :=
 ∃css,w.ownsRow D 51 3 v ms.length css.flatten∧MtVs w (fun b=>D≤b∧v.ownBlock≠some b) offs n css ms
theorem OwnM.nil (w:World) (D:Nat) (offs:List Nat) (n:Nat):OwnM w D offs n (.slice none 0 0) []:=⟨[],World.ownsRow_nil _ _ _ _,.nil⟩
theorem OwnM.gx {X:Nat→Prop} {w w':World} {D:Nat} {offs:List Nat} {n:Nat} {v:Value} {ms:List Mt} (h:OwnM w D offs n v ms) (hg:Gx X w w') (hX:∀k,D≤k→¬X k):OwnM w' D offs n v ms:=by
 obtain⟨css,h1,h2⟩:=h;exact⟨css,pe h1 hg (fun k hk=>hX k (h1.lt k hk).1),h2.keep (hg.kept fun b hb=>hX b hb.1)⟩
theorem OwnM.later {w w':World} {D:Nat} {offs:List Nat} {n:Nat} {v:Value} {ms:List Mt} (h:OwnM w D offs n v ms) (hb:Below w.heap.size w w'):OwnM w' D offs n v ms :=
 h.gx (X:=fun _=>False) (Gx.of_below hb) (fun _ _ h=>h)
theorem OwnM.form {w:World} {D:Nat} {offs:List Nat} {n:Nat} {v:Value} {ms:List Mt} (h:OwnM w D offs n v ms):∃a c,v=.slice a ms.length c∧ms.length≤c:=by
 exact dn
theorem OwnM.base {w:World} {D D':Nat} {offs:List Nat} {n:Nat} {v:Value} {ms:List Mt} (h:OwnM w D offs n v ms) (hD:D'≤D):OwnM w D' offs n v ms:=by
 obtain⟨css,h1,h2⟩:=h;refine⟨css,⟨h1.1,?_⟩,h2.mono fun b hb _=>⟨Ct hD hb.1,hb.2⟩⟩;rcases h1.2 with h3|⟨g,cap,cur,h3,h4,h5⟩
 ·exact .inl h3
 ·exact .inr ⟨g,cap,cur,h3,Ct hD h4,h5⟩
theorem OwnM.app {w w':World} {D:Nat} {offs:List Nat} {n:Nat} {v v':Value} {ms:List Mt} {m:Mt} {css:List (List Value)} {c:List Value} (h1:MtVs w (fun b=>D≤b∧v.ownBlock≠some b) offs n css ms) (h2:MtV w (fun b=>D≤b∧v.ownBlock≠some b) offs n c m)
  (ho:w'.ownsRow D 51 3 v' (ms.length+1) (css.flatten++c)) (hg:w.grownBy w' v.ownBlock) (hmv:sw w v v'):OwnM w' D offs n v' (ms++[m]):=by
 refine⟨css++[c],by rw [List.flatten_append,Cy];simpa using ho,?_⟩;have hk:Kept (fun b=>(D≤b∧v.ownBlock≠some b)∧b<w.heap.size) w w':=⟨hg.size,fun b hb hlt=>hg.block b hlt (fun e=>hb.1.2 e.symm)⟩;refine(((h1.snoc h2).mono (S':=fun b=>(D≤b∧v.ownBlock≠some b)∧b<w.heap.size) fun b h1 h2=>⟨h1,h2⟩).keep hk).mono fun b hb _=>⟨hb.1.1,fun e=>?_⟩
 exact cZ
def allQ (x:Rx) (fold:Bool) (s:Str) (z:Int):List Mt × Rst:=allM (rcM fold s) x ((rcM fold s).offs.length+1) 0 (mB x.groups z)
def AllP (x:Rx) (fold:Bool) (s:Str) (z:Int) (w:World) (e:Ending) (w':World):Prop :=
 Below w.heap.size w w' ∧
  ((mayB x=false∧e=.returned (.tuple #[.slice none 0 0,.int .i64 0,.int .i64 10]))
  ∨ (mayB x=true∧(allQ x fold s z).2.out=true∧e=.returned (.tuple #[.slice none 0 0,.int .i64 0,.int .i64 9]))
  ∨ (mayB x=true∧(allQ x fold s z).2.out=false∧∃v,e=.returned (.tuple #[v,.int .i64 ((allQ x fold s z).2.fuel:Int),.int .i64 0])∧OwnM w' w.heap.size (rcM fold s).offs x.groups v (allQ x fold s z).1))
def AlRel (R:Rn) (x:Rx) (Q:List Mt × Rst) (w:World) (v q:Value) (wr:World):Prop :=
 ∃(k N:Nat) (s:Rst) (acc:List Mt),k≤R.C.cs.length+1∧R.C.cs.length+1-k<N∧acc.length≤k∧q=.int .i64 k∧s.out=false∧RunJ R wr s∧Gx R.Y w wr∧OwnM wr w.heap.size R.C.offs R.n v acc∧Hid ((acc++(allM R.C x N k s).1,(allM R.C x N k s).2)=Q)
theorem All_any (S:Nat→Prop) {x:Rx} {cc:List Value} {fold:Bool} {s:Str} {z:Int} (w:World) (hv:RxV w S cc x) (hm:x.parts≤1000000) (hsm:x.small) (hwf:x.wf=true) (hs:s.length≤1000000) (hg:x.groups≤1000) :
  Calls Tryz.prog 31 #[.agg cc.toArray,.bool fold,.string ⟨s.toArray⟩,.int .i64 z] w (AllP x fold s z w):=by
 have hv0:=hv;obtain⟨X,hX⟩:∃X,X=x:=⟨_,rfl⟩;obtain⟨kd,ch,ng,rs,lo,hi,lz,ks⟩:=x;obtain⟨ra,rc,ka,kc,rfl,hrs,hks⟩:=hv0.open_;rw [←hX];obtain⟨W1,hW1⟩:∃W1,W1=w.alloc (.cells (rxc kd ch ng ra rs.length rc lo hi lz ka ks.length kc).toArray 25):=⟨_,rfl⟩;have hb1:Below w.heap.size w W1:=by rw [hW1];exact(Below.refl _ _).alloc (Cp _) _
 have hz1:W1.heap.size=w.heap.size+1:=by rw [hW1];simp
 have hx1:W1.heap[w.heap.size]?=some (.cells (rxc kd ch ng ra rs.length rc lo hi lz ka ks.length kc).toArray 25 (0,0)):=by rw [hW1];exact heap_alloc_new w _
 rw [←hX] at hv hm hsm hwf hg;have hv1:=hv.later hb1;have HM:=ab (rS S X _ W1 hm hsm hv1);have x0:W1.cell? ⟨w.heap.size,0,none⟩=some (.int .i64 kd):=by rw [Cv hx1];rfl
 have x1:W1.cell? ⟨w.heap.size,1,none⟩=some (.string ⟨ch.toArray⟩):=by rw [Cv hx1];rfl
 have x2:W1.cell? ⟨w.heap.size,2,none⟩=some (.bool ng):=by rw [Cv hx1];rfl
 have x3:W1.cell? ⟨w.heap.size,3,none⟩=some (.slice ra rs.length rc):=by rw [Cv hx1];rfl
 have x4:W1.cell? ⟨w.heap.size,4,none⟩=some (.int .i64 lo):=by rw [Cv hx1];rfl
 have x5:W1.cell? ⟨w.heap.size,5,none⟩=some (.int .i64 hi):=by rw [Cv hx1];rfl
 have x6:W1.cell? ⟨w.heap.size,6,none⟩=some (.bool lz):=by rw [Cv hx1];rfl
 have x7:W1.cell? ⟨w.heap.size,7,none⟩=some (.slice ka ks.length kc):=by rw [Cv hx1];rfl
 have HB1:=ab hb1;have HZ1:=ab hz1;have HX1:=ab hx1;have HW1:=ab hW1;have HV1:=ab hv1;have HXe:=ab hX;clear hb1 hz1 hx1 hW1 hv1 hX hrs hks hv hv0;unfold rxc at HM HW1 ⊢;go_enter Tryz.func31,Tryz.ntmps31
 go_upto_region 1 with fail
 rw [←HW1.out];go_wp2_with (go_at_call 29;refine HM.out.mono ?_)
 first|rintro e w2 rfl hb2|rintro e w2 ⟨rfl,hb2⟩
 have HB2:=ab hb2;have keep2:∀(b:Nat) (o:Obj),W1.heap[b]?=some o→w2.heap[b]?=some o:=fun b o h=>(HB2.out.block b (jO h)).trans h
 clear hb2;cases hmb:mayB X with
 | false =>
  have HMB:=ab hmb;clear hmb;go_wp2
  go_ret3
  exact⟨bel2 HB1.out HB2.out,.inl ⟨HMB.out,rfl⟩⟩
 | true =>
  have HMB:=ab hmb;clear hmb;have hc:∀(j:Nat) (v:Value),W1.cell? ⟨w.heap.size,j,none⟩=some v→w2.cell? ⟨w.heap.size,j,none⟩=some v:=fun j v h=>by rw [←h];exact World.cell?_of_block (HB2.out.block _ (jO HX1.out))
  have x0:=hc _ _ x0;have x1:=hc _ _ x1;have x2:=hc _ _ x2;have x3:=hc _ _ x3;have x4:=hc _ _ x4;have x5:=hc _ _ x5;have x6:=hc _ _ x6;have x7:=hc _ _ x7;have HBG:=ab (uF S (fold:=fold) (s:=s) (z:=z) w2 (HV1.out.later HB2.out) hsm hwf hs hg);unfold rxc at HBG;clear hc;go_wp2_with (go_at_call 58;refine HBG.out.mono ?_)
  rintro e w3 ⟨R,rfl,hB⟩;obtain⟨Q,hQ⟩:∃Q,allM R.C X (R.C.offs.length+1) 0 (mB X.groups z)=Q:=⟨_,rfl⟩;have hqf:allQ X fold s z=Q:=by unfold allQ;rw [←hB.C];exact hQ
  have cell:∀(w9:World) (s9:Rst) (_:RunJ R w9 s9) (jj:Nat) (u:Value),[Value.bool R.C.fold,.slice R.ca R.C.cs.length R.cc,.slice R.oa (R.C.cs.length+1) R.oc,.slice R.pa R.n R.pc,.int .i64 (s9.fuel:Int),.bool s9.out][jj]?=some u→w9.cell? ⟨R.r,11+jj,none⟩=some u:=fun w9 s9 hj jj u hu=>by
   exact cW
  have HQ:=ab hQ;have HQF:=ab hqf;have HB:=ab hB;have HCL:=ab cell;have HBW:Hid (Below w.heap.size w w3):=ab ((bel2 HB1.out HB2.out).trans (hB.bel.mono iS));have hcs:=hB.j.cs;have hol:=hB.j.of;have HI:=ab (info_parts zl);clear hQ hqf hB cell x0 x1 x2 x3 x4 x5 x6 x7 HBG HM;go_upto_region 6 with fail
  go_loopw [12,13] (fun v q wr=>AlRel R X Q w3 v q wr) (fun _ q _=>R.C.cs.length+1-(intOf q).toNat)
  case atStart=>exact⟨0,R.C.offs.length+1,mB X.groups z,[],by omega,by omega,by simp,rfl,rfl,HB.out.run,Gx.refl _ _,OwnM.nil _ _ _ _,ab (by rw [HQ.out];rfl)⟩
  case round =>
   obtain⟨k,N,st,acc,hk,hN,hal,rfl,hout,hj,hgx,hown,HF⟩:=hrel;obtain⟨N,rfl⟩:∃m,N=m+1:=⟨N-1,by omega⟩;obtain⟨va,vc,rfl,hvc⟩:=hown.form;have HJ:=ab hj;have HG:=ab hgx;have HO:=ab hown;have HOUT:=ab hout;have c13:wr.cell? ⟨R.r,13,none⟩=some (.slice R.oa (R.C.cs.length+1) R.oc):=HCL.out _ _ hj 2 _ rfl;have c15:wr.cell? ⟨R.r,15,none⟩=some (.int .i64 (st.fuel:Int)):=HCL.out _ _ hj 4 _ rfl;have hzr:=hgx.size;have brw:Below w.heap.size w wr:=HBW.out.trans (hgx.below HBW.out.size (fun b hb=>Ct iS (HB.out.new b hb)));have HBR:=ab brw;clear HQ hj hgx hown hout brw hvc;by_cases hlt:k<R.C.cs.length+1
   ·have hf:=yq HB.out.j HJ.out (RunT.gx HB.out.j HB.out.tr HG.out) (k:=k) (N:=R.C.offs.length+1) gu gu
    obtain⟨q,hq⟩:∃q,mu R.C X (R.C.offs.length+1) k st=q:=⟨_,rfl⟩;rw [hq] at hf;have hal2:allM R.C X (N+1) k st=(match q.1 with|some (a,b,ps)=>if q.2.out=true then([],q.2) else(((a,b,ps)::(allM R.C X N (if a=b then b+1 else b) q.2).1,(allM R.C X N (if a=b then b+1 else b) q.2).2))|none=>([],q.2)):=by
     refine(Cl (c:=k<R.C.offs.length) gu).trans ?_
     rw [←hq];rfl
    rw [hal2] at HF;have HFI:=ab hf;have hlti:(k:Int)<(R.C.cs.length:Int)+1:=gu;clear hf hal2 hq c15;go_wp2_with (go_at_call 59;refine HFI.out.mono ?_)
    rintro e w4 ⟨hj4,hg4,hm4⟩;obtain⟨ia,ib,aa,nn,cc,ok,rfl,hend⟩:∃(ia ib:Int) (aa:Option Addr) (nn cc:Nat) (ok:Bool),e=.returned (.tuple #[.agg #[.int .i64 ia,.int .i64 ib,.slice aa nn cc],.bool ok]) ∧
      ((q.1=none∧ok=false)∨(∃a b ps,q.1=some (a,b,ps)∧ok=true∧ia=((R.C.offs.getD a 0:Nat):Int)∧ib=((R.C.offs.getD b 0:Nat):Int)∧nn=R.n∧SlS w4 (fun b=>wr.heap.size≤b) aa 2 R.n (jV ps)∧ps.length=R.n∧k≤a∧a≤b∧b≤R.C.cs.length)):=by
     cases hq1:q.1 with
     | none=>rw [hq1] at hm4;exact⟨0,0,none,0,0,false,hm4,.inl ⟨rfl,rfl⟩⟩
     | some t =>
      obtain⟨a,b,ps⟩:=t;rw [hq1] at hm4;obtain⟨aa,c,he,h1,h2,h3,h4,h5⟩:=hm4;exact⟨_,_,aa,R.n,c,true,he,.inr ⟨a,b,ps,rfl,rfl,rfl,rfl,rfl,h1,h2,h3,h4,h5⟩⟩
    obtain⟨W5,hW5⟩:∃W5,W5=w4.alloc (.cells #[.int .i64 ia,.int .i64 ib,.slice aa nn cc] 51):=⟨_,rfl⟩;have hb5:Below w4.heap.size w4 W5:=by rw [hW5];exact(Below.refl _ _).alloc (Cp _) _
    have hl5:W5.heap[w4.heap.size]?=some (.cells #[.int .i64 ia,.int .i64 ib,.slice aa nn cc] 51 (0,0)):=by rw [hW5];exact heap_alloc_new w4 _
    have hj5:=hj4.later hb5;have z4:=hg4.size;have z5:W5.heap.size=w4.heap.size+1:=by rw [hW5];simp
    have hg5:Gx R.Y w3 W5:=(HG.out.to hg4 (fun _ _ h=>h)).to (Gx.of_below hb5) (fun _ _ h=>h);have hnY:∀b,w3.heap.size≤b→¬R.Y b:=fun b hb e=>by
     have h1:=HB.out.run.lt;rcases e with e|e
     ·have:=h1.1;omega
     ·have:=h1.2 b e;omega
    have ho5:OwnM W5 w3.heap.size R.C.offs R.n (.slice va acc.length vc) acc:=(HO.out.gx hg4 hnY).later hb5;have b5:Below w.heap.size w W5:=HBR.out.trans ((hg4.below HBR.out.size (fun b hb=>Ct iS (HB.out.new b hb))).trans (hb5.mono (Ct HBR.out.size z4)));obtain⟨oo,hoo⟩:∃o,q.2.out=o:=⟨_,rfl⟩;obtain⟨ff,hff⟩:∃f,q.2.fuel=f:=⟨_,rfl⟩;have c16:W5.cell? ⟨R.r,16,none⟩=some (.bool oo):=by rw [←hoo];exact HCL.out _ _ hj5 5 _ rfl
    have c15:W5.cell? ⟨R.r,15,none⟩=some (.int .i64 (ff:Int)):=by rw [←hff];exact HCL.out _ _ hj5 4 _ rfl
    have m0:W5.cell? ⟨w4.heap.size,0,none⟩=some (.int .i64 ia):=by rw [Cv hl5];rfl
    have m1:W5.cell? ⟨w4.heap.size,1,none⟩=some (.int .i64 ib):=by rw [Cv hl5];rfl
    have m2:W5.cell? ⟨w4.heap.size,2,none⟩=some (.slice aa nn cc):=by rw [Cv hl5];rfl
    have hend5:(q.1=none∧ok=false)∨(∃a b ps,q.1=some (a,b,ps)∧ok=true∧ia=((R.C.offs.getD a 0:Nat):Int)∧ib=((R.C.offs.getD b 0:Nat):Int)∧nn=R.n∧SlS W5 (fun b=>wr.heap.size≤b) aa 2 R.n (jV ps)∧ps.length=R.n∧k≤a∧a≤b∧b≤R.C.cs.length):=hend.imp id (fun⟨a,b,ps,h1,h2,h3,h4,h5,h6,h7⟩=>⟨a,b,ps,h1,h2,h3,h4,h5,SlS.keep h6 (Kept.all hb5),h7⟩);have HEND:=ab hend5;have HW5:=ab hW5;have HJ5:=ab hj5;have HG5:=ab hg5;have HO5:=ab ho5;have HB5:=ab b5;have HL5:=ab hl5;have HOO:=ab hoo;have HFF:=ab hff;have HZ5:=ab z5;have hg4z:=z4;clear hj4 hg4 hm4 hend hend5 hW5 hb5 hl5 hj5 z4 z5 hg5 ho5 b5 hoo hff HFI c13;cases oo with
    | true =>
     exact cC
    | false =>
     rcases HEND.out with⟨h1,rfl⟩|⟨a,b,ps,h1,rfl,h2,h3,h4,h5⟩
     ·rw [h1] at HF
      go_upto_region 8 with fail
      rw [←HW5.out];go_wp2
      have e15:W5.drew.cell? ⟨R.r,15,none⟩=some (.int .i64 (ff:Int)):=c15;go_quiet (fail)
      go_wp2
      go_ret3
      refine⟨below_drewN HB5.out _,.inr (.inr ⟨HMB.out,?_,.slice va acc.length vc,?_,?_⟩)⟩
      ·rw [HQF.out,←HF.out];exact HOO.out
      ·rw [show (allQ X fold s z).2.fuel=ff by rw [HQF.out,←HF.out];exact HFF.out];rfl
      ·rw [HQF.out,←HF.out]
       have h9:=(HO5.out.later (below_drewN (Below.refl _ W5) nq)).base HBW.out.size;rw [HB.out.n,HB.out.C] at h9;simpa using h9
     ·have HF2:=HF.out
      rw [h1] at HF2;simp only [HOO.out,C1,if_false] at HF2;have HF2:=ab HF2;clear HF HEND;obtain⟨hs5,hpl,hka,hab,hbl⟩:=h5;obtain⟨css,hrow,hms⟩:=HO5.out;have hob:∀b,(Value.slice va acc.length vc).ownBlock=some b→w3.heap.size≤b∧b<wr.heap.size:=by
       obtain⟨_,hrow0,_⟩:=HO.out;exact hrow0.lt
      have hcu:Below W5.heap.size W5 (W5.alloc (.cells #[.int .i64 ia,.int .i64 ib,.slice aa nn cc] 51)):=(Below.refl _ _).alloc (Cp _) _;have ho6:=kL hrow hcu;have hsl:=Sl.lit (n:=1) (sz:=3) (heap_alloc_new W5 (.cells #[.int .i64 ia,.int .i64 ib,.slice aa nn cc] 51)) rfl;have hone:∀u∈([.int .i64 ia,.int .i64 ib,.slice aa nn cc]:List Value),u.oneCell'=true:=gG;have z5:=HZ5.out;have z4:=(hg4z:wr.heap.size≤w4.heap.size);have hmv6:MtV (W5.alloc (.cells #[.int .i64 ia,.int .i64 ib,.slice aa nn cc] 51)) (fun b=>w3.heap.size≤b∧(Value.slice va acc.length vc).ownBlock≠some b) R.C.offs R.n [.int .i64 ia,.int .i64 ib,.slice aa nn cc] (a,b,ps) :=
       ⟨aa,cc,by rw [h2,h3,h4],(SlS.keep hs5 (Kept.all hcu)).mono (fun b hb _=>⟨Ct hzr hb,fun e=>by have h6:=(hob b e).2;have h7:wr.heap.size≤b:=hb;omega⟩),hpl,hab,by show b+1≤R.C.offs.length;omega⟩
      have hms6:=hms.keep (Kept.all hcu);have hszo:w3.heap.size≤(W5.alloc (.cells #[.int .i64 ia,.int .i64 ib,.slice aa nn cc] 51)).heap.size:=by simp;omega
      have hlen:acc.length≤10000000:=gu;have HO6:=ab ho6;have HSL:=ab hsl;have HONE:=ab hone;have HMV6:=ab hmv6;have HMS6:=ab hms6;have HOB:=ab hob;have HCU:=ab hcu;have H2:=ab h2;have H3:=ab h3;have HKA:=ab hka;have HAB:=ab hab;obtain⟨iM,hiM⟩:=HI.out;clear ho6 hsl hone hmv6 hms6 hob hcu hs5 hpl hrow hms h1 h2 h3 h4 z4 z5 hka hab;go_upto_region 8 with fail
      rw [←HW5.out];go_wp2_with (at_builtin;refine ke w3.heap.size 51 rfl _ _ 43 rfl Tryz.underlying43 hiM rfl gD rfl HO6.out rfl HSL.out HONE.out gu gu gD hszo ?_)
      intro v1 w7 ho1 hg1 hb7 hmv;have ho7:OwnM w7 w3.heap.size R.C.offs R.n v1 (acc++[(a,b,ps)]):=OwnM.app HMS6.out HMV6.out (by simpa using ho1) hg1 hmv;have hgx1:Gx (fun b=>(Value.slice va acc.length vc).ownBlock=some b) (W5.alloc (.cells #[.int .i64 ia,.int .i64 ib,.slice aa nn cc] 51)) w7:=Gx.of_grown hg1 (fun k hk=>hk);have hrl:=HB.out.run.lt;have hj7:RunJ R w7 q.2:=(HJ5.out.later HCU.out).gx hgx1 (fun e=>by have:=(HOB.out _ e).1;have:=hrl.1;omega) (fun b hb e=>by have:=(HOB.out _ e).1;have:=hrl.2 b hb;omega) (fun b hb e=>by have:=(HOB.out _ e).1;have:=HB.out.tr.lt b hb;omega);have hG7:Gx R.Y w3 w7:=(HG5.out.to (Gx.of_below (X:=R.Y) HCU.out) (fun _ _ h=>h)).to hgx1 (fun b hb e=>by have:=(HOB.out _ e).1;omega);have z5:=HZ5.out;have hx7:w7.heap[w4.heap.size]?=some (.cells #[.int .i64 ia,.int .i64 ib,.slice aa nn cc] 51 (0,0)):=Gx.heap hgx1 ((HCU.out.block _ (jO HL5.out)).trans HL5.out) (fun e=>by have:=(HOB.out _ e).2;omega);have e13:=ExtOf.cell (HCL.out _ _ hj7 2 _ rfl:w7.cell? ⟨R.r,13,none⟩=some (.slice R.oa (R.C.cs.length+1) R.oc));have n0:=ExtOf.cell (show w7.cell? ⟨w4.heap.size,0,none⟩=some (.int .i64 ia) by rw [Cv hx7];rfl);have n1:=ExtOf.cell (show w7.cell? ⟨w4.heap.size,1,none⟩=some (.int .i64 ib) by rw [Cv hx7];rfl);have HPL:Hid (∀x:ExtOf w7,Calls Tryz.prog 60 #[.slice R.oa (R.C.cs.length+1) R.oc,.int .i64 ib] x.val fun e w'=>e=.returned (.tuple #[.int .i64 b,.bool true])∧x.val=w'):=ab (fun x=>by
       have h9:=uo R.S R.oa R.oc R.C.offs x.val (by rw [hol];exact hj7.of.keep (Kept.all x.ext)) gu HB.out.up b gu (R.C.offs.getD b 0) rfl;rw [hol,←H3.out] at h9;exact h9)
      have hii:(a=b∧ia=ib)∨(a≠b∧ia≠ib):=by
       have h6:=HAB.out;rcases Nat.lt_or_ge a b with h7|h7
       ·have h8:=HB.out.up a b h7 gu
        refine .inr ⟨by omega,?_⟩;rw [H2.out,H3.out];omega
       ·have h8:a=b:=gu
        exact .inl ⟨h8,by rw [H2.out,H3.out,h8]⟩
      have HJ7:=ab hj7;have HG7:=ab hG7;have HO7:=ab ho7;clear ho1 hg1 hb7 hmv ho7 hgx1 hrl hj7 hG7 hx7 z5;go_upto_region 12 with fail
      refine jS gE gE ?_;repeat (go_big_quiet_step ((go_at_call 60;exact tO (HPL.out _))))
      refine wpQuiet_nil ?_;rintro _ ⟨xq,rfl⟩;have n0:=n0 xq;have n1:=n1 xq;have HXQ:=ab xq.ext;have h6:=HAB.out;have h7:=HKA.out;have hfin:∀(k':Nat) (w9:World),Below xq.val.heap.size xq.val w9→k'=(if a=b then b+1 else b)→k<k'∧AlRel R X Q w3 v1 (.int .i64 k') w9:=fun k' w9 hb hk'=>by
       have hb9:=bel2 HXQ.out hb;have hkk:k<k'∧k'≤R.C.cs.length+1:=by rw [hk'];split<;>omega
       refine⟨hkk.1,k',N,q.2,acc++[(a,b,ps)],hkk.2,by omega,by simp;omega,rfl,HOO.out,HJ7.out.later hb9,HG7.out.to (Gx.of_below (X:=R.Y) hb9) (fun _ _ h=>h),HO7.out.later hb9,ab ?_⟩;rw [←HF2.out,hk'];simp
      have HFIN:=ab hfin;clear hfin e13 h6 h7;rcases hii with⟨h8,h9⟩|⟨h8,h9⟩
      ·go_wp2
       go_roundw
       case rel=>exact(HFIN.out (b+1) _ (Below.refl _ _) (by rw [Cl h8])).2
       case measure=>have:=(HFIN.out (b+1) _ (Below.refl _ _) (by rw [Cl h8])).1;simp [intOf];omega
      ·go_wp2
       go_roundw
       case rel=>exact(HFIN.out b _ (Below.refl _ _) (by rw [Co h8])).2
       case measure=>have:=(HFIN.out b _ (Below.refl _ _) (by rw [Co h8])).1;simp [intOf];omega
   ·have hge:¬(k:Int)<(R.C.cs.length:Int)+1:=gu
    have hk2:k=R.C.cs.length+1:=gu;have hal3:allM R.C X (N+1) k st=([],st):=Co (c:=k<R.C.offs.length) gu;rw [hal3] at HF;have e15:wr.drew.cell? ⟨R.r,15,none⟩=some (.int .i64 (st.fuel:Int)):=c15;clear hal3 hk2;go_wp2
    go_quiet (fail)
    go_wp2
    go_ret3
    refine⟨below_drewN HBR.out _,.inr (.inr ⟨HMB.out,?_,.slice va acc.length vc,?_,?_⟩)⟩
    ·rw [HQF.out,←HF.out];exact HOUT.out
    ·rw [show (allQ X fold s z).2.fuel=st.fuel by rw [HQF.out,←HF.out]];rfl
    ·rw [HQF.out,←HF.out]
     have h9:=(HO.out.later (below_drewN (Below.refl _ wr) nq)).base HBW.out.size;rw [HB.out.n,HB.out.C] at h9;simpa using h9
theorem oC (l:Str) (c:Int) (w:World) :
  Calls Tryz.prog 50 #[.string ⟨l.toArray⟩,.int .u8 c] w fun e w'=>e=.returned (.int .i64 (Lib.indexByte l c.toNat.toUInt8))∧w=w':=by
 go_enter Tryz.func50,Tryz.ntmps50
 go_wp2
 rw [run_callFunc_extern Tryz.func81 gE gE gE (e:=Extern.BytealgIndexByte.indexByte) gE,Lib.run_indexByteString];simp only [Result.andThen];rw [Oper.upon_value];exact cw
theorem nh (l:Str) (c:Int) (w:World) :
  Calls Tryz.prog 25 #[.string ⟨l.toArray⟩,.int .u8 c] w fun e w'=>e=.returned (.int .i64 (Lib.indexByte l c.toNat.toUInt8))∧w=w':=by
 go_enter Tryz.func25,Tryz.ntmps25
 go_wp2_with (go_at_call 50;refine(oC _ _ _).mono ?_;rintro e w1 ⟨rfl,rfl⟩)
 go_ret
 exact⟨rfl,rfl⟩
theorem idx_ge (l:Str) (c:UInt8):0≤Lib.indexByte l c↔l.contains c=true:=by
 induction l with
 | nil=>simp [Lib.indexByte]
 | cons b l ih =>
  have:=Lib.indexByte_ge l c
  unfold Lib.indexByte;rw [List.contains_cons,CG,←ih];by_cases h:b=c
  ·simp [h]
  ·have h':(b==c)=false:=ik
   have h'':¬(c==b)=true:=by simpa using (fun e=>h e.symm)
   rw [h',Co gF];by_cases h1:Lib.indexByte l c=-1
   ·simp [h1];exact fun e=>h e.symm
   ·have h2:¬(Lib.indexByte l c==-1)=true:=by simpa using h1
    rw [Co h2];simp [h''];omega
theorem idx_dec (l:Str) (c:UInt8):decide (0≤Lib.indexByte l c)=l.contains c:=by
 rw [Bool.eq_iff_iff,decide_eq_true_iff];exact idx_ge l c
theorem lv {l:Str} {c k:Int} (w:World) (h:Lib.indexByte l c.toNat.toUInt8=k) :
  Calls Tryz.prog 25 #[.string ⟨l.toArray⟩,.int .u8 c] w fun e w'=>e=.returned (.int .i64 k)∧w=w':=by
 subst h;exact nh l c w
theorem pre_eq (l p:Str):p.isPrefixOf l=(List.take p.length l==p):=by
 rw [Bool.eq_iff_iff,List.isPrefixOf_iff_prefix,Ci,List.prefix_iff_eq_take];exact⟨fun h=>h.symm,fun h=>h.symm⟩
theorem lI (l p:Str) (i:Int) (w:World) (h0:0≤i) (hs:l.length≤100000000) (hp:p.length≤100000000) :
  Calls Tryz.prog 79 #[.string ⟨l.toArray⟩,.int .i64 i,.string ⟨p.toArray⟩] w fun e w'=>e=.returned (.bool (p.isPrefixOf (l.drop i.toNat)))∧w=w':=by
 obtain⟨n,rfl⟩:=Int.eq_ofNat_of_zero_le h0;rw [Int.toNat_natCast];generalize hR:List.isPrefixOf p (List.drop n l)=R
 have HR:=ab hR;clear hR;go_enter Tryz.func79,Tryz.ntmps79
 go_wp2
 ·rename_i h1 h2
  go_ret;refine⟨?_,rfl⟩;rw [←HR.out,List.drop_of_length_le gu,h2];rfl
 ·rename_i h1 h2
  go_ret;refine⟨?_,rfl⟩;rw [←HR.out,List.drop_of_length_le gu];cases p<;>simp_all
 ·go_ret;refine⟨?_,rfl⟩;rw [←HR.out,pre_eq];simp
 ·rename_i h1 h2
  go_ret;refine⟨?_,rfl⟩;rw [←HR.out,pre_eq]
  have:(List.take p.length (List.drop n l))≠p:=fun h=>by
   have:=CR List.length h;simp at this;omega
  simp [this]
theorem oU (l p:Str) (i:Int) (w:World) (h0:0≤i) (h1:i≤100000000) (_hs:l.length≤100000000) (_hp:p.length≤100000000) :
  Calls Tryz.prog 49 #[.string ⟨l.toArray⟩,.int .i64 i,.string ⟨p.toArray⟩] w fun e w'=>e=.returned (.bool (n8 (l.drop (i.toNat+1)) p))∧w=w':=by
 obtain⟨n,rfl⟩:=Int.eq_ofNat_of_zero_le h0;rw [Int.toNat_natCast];cases hd:l.drop (n+1) with
 | nil =>
  have h2:=ll hd;clear hd;go_enter Tryz.func49,Tryz.ntmps49
  exact cw
 | cons c r =>
  obtain⟨h2,h3,_⟩:=ky hd;clear hd;go_enter Tryz.func49,Tryz.ntmps49
  go_wp2_with (go_at_call 25;refine(nh _ _ _).mono ?_;rintro e w1 ⟨rfl,rfl⟩)
  go_ret
  refine⟨?_,rfl⟩;simp [n8,idx_dec]
def tI (l:Str) (i:Int) (R:Option (Nat × Str)) (e:Ending):Prop :=
 match R with
 | none=>e=.returned (.tuple #[.int .i64 0,.int .i64 i,.bool false])
 | some (n,r)=>n<10000∧∃j:Nat,i<j∧j≤l.length∧l.drop j=r∧e=.returned (.tuple #[.int .i64 n,.int .i64 j,.bool true])
theorem wz (l:Str) (i:Int) (w:World) (h0:0≤i) (h1:i≤100000000) (hs:l.length≤100000000) :
  Calls Tryz.prog 78 #[.string ⟨l.toArray⟩,.int .i64 i] w fun e w'=>w=w'∧tI l i (pQ (l.drop i.toNat)) e:=by
 obtain⟨i,rfl⟩:=Int.eq_ofNat_of_zero_le h0;rw [Int.toNat_natCast];generalize hR:pQ (l.drop i)=R
 have HR:Hid (qj (l.drop (i+0)) 0 0=R):=ab hR;clear hR;go_enter Tryz.func78,Tryz.ntmps78
 go_wp2
 go_loop [7,8] (fun n q=>∃k m:Nat,k≤4∧(k=0∨i+k≤l.length)∧m<10 ^ k∧q=.int .i64 ((i+k:Nat):Int)∧n=.int .i64 (m:Int)∧Hid (qj (l.drop (i+k)) k m=R)) (fun _ q=>l.length-(intOf q).toNat)
 case atStart=>exact⟨0,0,by omega,by omega,by omega,by simp,rfl,HR⟩
 case round =>
  obtain⟨k,m,hk,hik,hm,rfl,rfl,HF⟩:=hrel;clear HR;have hm4:m<10000:=Cu hm (Nat.pow_le_pow_right gu hk);have Hm:=ab hm;clear hm;cases hd:l.drop (i+k) with
  | nil =>
   have h2:=ll hd;have HF':Hid (qj [] k m=R):=ab ij;clear hd HF;go_wp2
   go_ret3
   refine⟨rfl,?_⟩;rw [←HF'.out];unfold qj;by_cases h0k:0<k
   ·rw [Cl h0k];exact⟨hm4,i+k,by omega,by omega,List.drop_of_length_le h2,by simp;omega⟩
   ·exact eG
  | cons c r =>
   obtain⟨h2,h3,hr⟩:=ky hd;have HF':Hid (qj (c::r) k m=R):=ab ij;have Hr:=ab hr;clear hd HF hr;go_wp2
   ·rename_i g1 g2
    go_ret3
    refine⟨rfl,?_⟩;have hk4:k=4:=by simp at g2;omega
    rw [←HF'.out];unfold qj;rw [Cl gu,Cl hk4];unfold tI;simp
   ·rename_i g1 g2
    go_round
    have hk4:¬k=4:=by simp at g2;omega
    case rel =>
     refine⟨k+1,10*m+(c.toNat-48),by omega,by omega,?_,by go_num,?_,?_⟩
     ·have:=Hm.out;rw [Nat.pow_succ];omega
     ·congr 1;omega
     ·refine ab ?_
      rw [←HF'.out,show i+(k+1)=i+k+1 from rfl,Hr.out];conv=>rhs;unfold qj
      rw [Cl gu,Co hk4]
    case measure=>simp [intOf];omega
   all_goals
    go_ret3
    refine⟨rfl,?_⟩;rw [←HF'.out];unfold qj;rw [Co gu];by_cases h0k:0<k
    ·rw [Cl h0k];exact⟨hm4,i+k,by omega,by omega,by rw [List.drop_eq_getElem_cons h2,h3,Hr.out],by simp;omega⟩
    ·exact eG
theorem oD:∀(k:Nat) (r tx:Str) (fs:List Fm) {gs:List Fm} {s:Str},rB k r tx fs=some (gs,s)→s.length≤r.length∧∃c s',s=c::s'∧c.toNat=47
 | 0,_,_,_,_,_,h=>by cases h
 | _+1,[],_,_,_,_,h=>by cases h
 | k+1,c::r,tx,fs,gs,s,h=>by
  simp only [rB] at h;split at h
  ·rename_i hc
   injection h with h;injection h with _ h;subst h;exact⟨Cp _,_,_,rfl,hc⟩
  ·split at h
   ·split at h
    ·rename_i p hp
     obtain⟨f,s'⟩:=p;have h1:=rE hp;obtain⟨h2,h3⟩:=oD k _ _ _ h;exact⟨by simp at *;omega,h3⟩
    ·obtain⟨h2,h3⟩:=oD k _ _ _ h
     exact⟨by simp;omega,h3⟩
   ·split at h
    ·obtain⟨h2,h3⟩:=oD k _ _ _ h
     exact⟨by simp at h2 ⊢;omega,h3⟩
    ·obtain⟨h2,h3⟩:=oD k _ _ _ h
     exact⟨by simp;omega,h3⟩
end Go.Proofs.YtjggmmaojklmpaaGreat
