/- walk of rxtree.fields: the rest -/
import Derived.Test.YtdcnncgpomcaaaaGreatDoorSc24
set_option maxRecDepth 100000
set_option maxHeartbeats 4000000
namespace Go.Proofs.YtdcnncgpomcaaaaGreatDoor
open Go.RowKit
theorem any_no2 (ks:List Rx):(!anyK ks [0,1])=ks.all fun x=>decide (x.kind≠0∧x.kind≠1):=by
 exact dh
theorem any_no1 (ks:List Rx):(!anyK ks [1])=ks.all fun x=>decide (x.kind≠1):=by
 exact dh
theorem Be {S:Nat→Prop} {xa:Option Addr} {xc m:Nat} {xs:List Rx} {zs:List Int} {a:Option Addr} {n c:Nat} {b:Bool} (w:World) (h0:anyK xs zs=b)
  (hx:RxSl w S xa m xs) (hxn:xs.length≤100000000) (h:Sl w w.heap.size a 1 n (qn zs)) (hn:n≤100000000) :
  Calls Tryz.prog 92 #[.slice xa m xc,.slice a n c] w fun e w'=>e=.returned (.bool b)∧Below w.heap.size w w':=by
 obtain rfl:=hx.len;subst h0;exact some_any S xa xc xs zs a n c w hx hxn h hn
theorem fields_0 (S:Nat→Prop) (c:Str) (ng:Bool) (ra:Option Addr) (rs:List (Str × Str)) (rc:Nat) (lo hi:Int) (lz:Bool) (ka:Option Addr) (ks:List Rx) (kc:Nat) (w:World)
  (hx:RxSl w S ka ks.length ks) (hsm:(Rx.mk 0 c ng rs lo hi lz ks).small1) :
  Calls Tryz.prog 71 #[.agg #[.int .i64 0,.string ⟨c.toArray⟩,.bool ng,.slice ra rs.length rc,.int .i64 lo,.int .i64 hi,.bool lz,.slice ka ks.length kc]] w fun e w'=>e=.returned (.bool (lf (.mk 0 c ng rs lo hi lz ks)))∧Below w.heap.size w w':=by
 generalize hR:lf (.mk 0 c ng rs lo hi lz ks)=R
 have HR:=ab hR;clear hR;have HS:Hid (R=(pc c ng rs.length lo hi lz&&decide (ks.length≠1)&&!anyK ks [0,1])):=ab (by rw [←HR.out,←pO 0 c ng rs lo hi lz ks,any_no2];rfl);obtain⟨s1,s2,s3,s4⟩:=hsm;clear HR s3;cases hbv:pc c ng rs.length lo hi lz with
 | false =>
  exact aJ
 | true =>
  have HB:=ab hbv;have HR:Hid (R=(decide (ks.length≠1)&&!anyK ks [0,1])):=ab iR;clear hbv;obtain⟨b,hab⟩:∃b,anyK ks [0,1]=b:=⟨_,rfl⟩;have HA:=ab hab;rw [hab] at HR;clear hab;rcases ks with _|⟨x,_|⟨y,ks⟩⟩
  ·have HR2:Hid (R=!b):=ab (by rw [HR.out];simp)
   go_enter Tryz.func71,Tryz.ntmps71
   go_wp2_with (first|(((go_at_call 88;refine(ny _ HB.out).mono ?_;rintro e w1 ⟨rfl,hb1,hc1⟩;have hq7:=hc1 ⟨w.heap.size,7,none⟩ (.slice ka (0) kc) gz));have HX1:=ab ((hx.later ((Below.refl _ _).alloc (Ia _) _)).later hb1))|(go_at_call 92;refine(Be (zs:=[0,1]) _ HA.out (HX1.out.later ((Below.refl _ _).alloc (Ia _) _)) gK (Sl.lit (n:=2) (heap_alloc_new w1 (.cells #[.int .i64 0,.int .i64 1] 3)) rfl) gv).mono ?_;rintro e w2 ⟨rfl,hb2⟩))
   exact bJ
  ·have HR2:Hid (R=false):=ab iP
   exact eY
  ·have HR2:Hid (R=!b):=ab (by rw [HR.out];simp)
   simp only [H7] at s4;go_enter Tryz.func71,Tryz.ntmps71
   go_wp2_with (first|(((go_at_call 88;refine(ny _ HB.out).mono ?_;rintro e w1 ⟨rfl,hb1,hc1⟩;have hq7:=hc1 ⟨w.heap.size,7,none⟩ (.slice ka (ks.length+1+1) kc) gz));have HX1:=ab ((hx.later ((Below.refl _ _).alloc (Ia _) _)).later hb1))|(go_at_call 92;refine(Be (zs:=[0,1]) _ HA.out (HX1.out.later ((Below.refl _ _).alloc (Ia _) _)) gK (Sl.lit (n:=2) (heap_alloc_new w1 (.cells #[.int .i64 0,.int .i64 1] 3)) rfl) gv).mono ?_;rintro e w2 ⟨rfl,hb2⟩))
   exact bJ
theorem fields_1 (S:Nat→Prop) (c:Str) (ng:Bool) (ra:Option Addr) (rs:List (Str × Str)) (rc:Nat) (lo hi:Int) (lz:Bool) (ka:Option Addr) (ks:List Rx) (kc:Nat) (w:World)
  (hx:RxSl w S ka ks.length ks) (hsm:(Rx.mk 1 c ng rs lo hi lz ks).small1) :
  Calls Tryz.prog 71 #[.agg #[.int .i64 1,.string ⟨c.toArray⟩,.bool ng,.slice ra rs.length rc,.int .i64 lo,.int .i64 hi,.bool lz,.slice ka ks.length kc]] w fun e w'=>e=.returned (.bool (lf (.mk 1 c ng rs lo hi lz ks)))∧Below w.heap.size w w':=by
 generalize hR:lf (.mk 1 c ng rs lo hi lz ks)=R
 have HR:=ab hR;clear hR;have HS:Hid (R=(pc c ng rs.length lo hi lz&&decide (1<ks.length)&&!anyK ks [1])):=ab (by rw [←HR.out,←pO 1 c ng rs lo hi lz ks,any_no1];rfl);obtain⟨s1,s2,s3,s4⟩:=hsm;clear HR s3;cases hbv:pc c ng rs.length lo hi lz with
 | false =>
  exact aJ
 | true =>
  have HB:=ab hbv;have HR:Hid (R=(decide (1<ks.length)&&!anyK ks [1])):=ab iR;clear hbv;obtain⟨b,hab⟩:∃b,anyK ks [1]=b:=⟨_,rfl⟩;have HA:=ab hab;rw [hab] at HR;clear hab;rcases ks with _|⟨x,_|⟨y,ks⟩⟩
  ·have HR2:Hid (R=false):=ab iP
   exact eX
  ·have HR2:Hid (R=false):=ab iP
   exact eY
  ·have HR2:Hid (R=!b):=ab (by rw [HR.out];simp)
   simp only [H7] at s4;go_enter Tryz.func71,Tryz.ntmps71
   go_wp2_with (first|(((go_at_call 88;refine(ny _ HB.out).mono ?_;rintro e w1 ⟨rfl,hb1,hc1⟩;have hq7:=hc1 ⟨w.heap.size,7,none⟩ (.slice ka (ks.length+1+1) kc) gz));have HX1:=ab ((hx.later ((Below.refl _ _).alloc (Ia _) _)).later hb1))|(go_at_call 92;refine(Be (zs:=[1]) _ HA.out (HX1.out.later ((Below.refl _ _).alloc (Ia _) _)) gK (Sl.lit (n:=1) (heap_alloc_new w1 (.cells #[.int .i64 1] 3)) rfl) gv).mono ?_;rintro e w2 ⟨rfl,hb2⟩))
   exact bJ
def oneB (ks:List Rx):Bool:=match ks with|[x]=>repB x.kind|_=>false
theorem AU {k:Int} {b:Bool} (w:World) (h:repB k=b):Calls Tryz.prog 91 #[.int .i64 k] w fun e w'=>e=.returned (.bool b)∧w=w':=by
 subst h;exact zI k w
theorem fields_7 (S:Nat→Prop) (c:Str) (ng:Bool) (ra:Option Addr) (rs:List (Str × Str)) (rc:Nat) (lo hi:Int) (lz:Bool) (ka:Option Addr) (ks:List Rx) (kc:Nat) (w:World)
  (hx:RxSl w S ka ks.length ks) (hsm:(Rx.mk 7 c ng rs lo hi lz ks).small1) :
  Calls Tryz.prog 71 #[.agg #[.int .i64 7,.string ⟨c.toArray⟩,.bool ng,.slice ra rs.length rc,.int .i64 lo,.int .i64 hi,.bool lz,.slice ka ks.length kc]] w fun e w'=>e=.returned (.bool (lf (.mk 7 c ng rs lo hi lz ks)))∧Below w.heap.size w w':=by
 generalize hR:lf (.mk 7 c ng rs lo hi lz ks)=R
 have HR:=ab hR;clear hR;have HS:Hid (R=(pc c ng rs.length 0 0 false&&oneB ks&&decide (0≤lo∧lo≤255∧(hi=-1∨lo≤hi∧hi≤255)))):=ab (by rw [←HR.out,←pO 7 c ng rs 0 0 false ks];rfl);obtain⟨s1,s2,s3,s4⟩:=hsm;clear HR s3;cases hbv:pc c ng rs.length 0 0 false with
 | false =>
  have HB:=ab hbv;have HR:Hid (R=false):=ab iR;clear hbv;go_enter Tryz.func71,Tryz.ntmps71
  go_wp2
  go_quiet (fail)
  go_wp2_with (go_at_call 88;refine(ny _ HB.out).mono ?_;rintro e w1 ⟨rfl,hb1,hc1⟩;have hq7:=hc1 ⟨w.heap.size,7,none⟩ (.slice ka (ks.length) kc) (by simp [go_sem]))
  go_ret
  exact⟨ll HR.out.symm,((((below_drewN ((Below.refl w.heap.size w).alloc (Ia _) _) _).setCell gz _).setCell gz _).setCell gz _).trans (hb1.mono jx)⟩
 | true =>
  have HB:=ab hbv;have HR:Hid (R=(oneB ks&&decide (0≤lo∧lo≤255∧(hi=-1∨lo≤hi∧hi≤255)))):=ab iR;clear hbv;rcases ks with _|⟨x,_|⟨y,ks⟩⟩
  ·have HR2:Hid (R=false):=ab iP
   go_enter Tryz.func71,Tryz.ntmps71
   go_wp2
   go_quiet (fail)
   go_wp2_with (go_at_call 88;refine(ny _ HB.out).mono ?_;rintro e w1 ⟨rfl,hb1,hc1⟩;have hq7:=hc1 ⟨w.heap.size,7,none⟩ (.slice ka (0) kc) (by simp [go_sem]))
   exact cD
  ·obtain⟨xk,xc,xn,xr,xl,xh,xz,xs⟩:=x
   obtain⟨b,o,_,_,_,_,rfl,_,hbB,_,_,_,q0,_⟩:=hx.cells (m:=0) rfl;simp only [Nat.zero_mul,Nat.add_zero] at q0;obtain⟨rb,hrb⟩:∃rb,repB xk=rb:=⟨_,rfl⟩;have HRB:=ab hrb;have HR2:Hid (R=(rb&&decide (0≤lo∧lo≤255∧(hi=-1∨lo≤hi∧hi≤255)))):=ab (by rw [HR.out,←HRB.out];rfl);clear hrb;cases rb
   all_goals
    go_enter Tryz.func71,Tryz.ntmps71
    go_wp2
    go_quiet (fail)
    go_wp2_with (first|(go_at_call 88;refine(ny _ HB.out).mono ?_;rintro e w1 ⟨rfl,hb1,hc1⟩;have hq7:=hc1 ⟨w.heap.size,7,none⟩ (.slice (some ⟨b,o,none⟩) 1 kc) (by simp [go_sem]);have hq0:w1.cell? ⟨b,o,none⟩=some (.int .i64 xk):=hc1 _ _ (by simp [go_sem,World.cell?_alloc_lt,hbB,q0]))|(go_at_call 91;refine(AU _ HRB.out).mono ?_;rintro e w2 ⟨rfl,rfl⟩))
    all_goals
     go_ret
     refine⟨ll ?_,((((below_drewN ((Below.refl w.heap.size w).alloc (Ia _) _) _).setCell gz _).setCell gz _).setCell gz _).trans (hb1.mono jx)⟩;rw [HR2.out];first|rfl|(rw [Im,Bool.eq_iff_iff];simp;omega)
  ·have HR2:Hid (R=false):=ab iP
   go_enter Tryz.func71,Tryz.ntmps71
   go_wp2
   go_quiet (fail)
   go_wp2_with (go_at_call 88;refine(ny _ HB.out).mono ?_;rintro e w1 ⟨rfl,hb1,hc1⟩;have hq7:=hc1 ⟨w.heap.size,7,none⟩ (.slice ka (ks.length+1+1) kc) (by simp [go_sem]))
   exact cD
theorem Dm (S:Nat→Prop) (K:Int) (c:Str) (ng:Bool) (ra:Option Addr) (rs:List (Str × Str)) (rc:Nat) (lo hi:Int) (lz:Bool) (ka:Option Addr) (ks:List Rx) (kc:Nat) (w:World)
  (hr:SlS w S ra 2 rs.length (kR rs)) (hx:RxSl w S ka ks.length ks) (hsm:(Rx.mk K c ng rs lo hi lz ks).small1) :
  Calls Tryz.prog 71 #[.agg #[.int .i64 K,.string ⟨c.toArray⟩,.bool ng,.slice ra rs.length rc,.int .i64 lo,.int .i64 hi,.bool lz,.slice ka ks.length kc]] w fun e w'=>e=.returned (.bool (lf (.mk K c ng rs lo hi lz ks)))∧Below w.heap.size w w':=by
 by_cases h0:K=0
 ·subst h0;exact fields_0 S c ng ra rs rc lo hi lz ka ks kc w hx hsm
 by_cases h1:K=1
 ·subst h1;exact fields_1 S c ng ra rs rc lo hi lz ka ks kc w hx hsm
 by_cases h2:K=2
 ·subst h2;exact fields_2 c ng ra rs rc lo hi lz ka ks kc w hsm
 by_cases h4:K=4
 ·subst h4;exact fields_4 c ng ra rs rc lo hi lz ka ks kc w hr.sl hsm
 by_cases h7:K=7
 ·subst h7;exact fields_7 S c ng ra rs rc lo hi lz ka ks kc w hx hsm
 by_cases h5:K=5∨K=6
 ·exact Dk K h5 c ng ra rs rc lo hi lz ka ks kc w hsm
 by_cases h3:K=3∨K=8∨K=9∨K=10∨K=11
 ·exact BH K h3 c ng ra rs rc lo hi lz ka ks kc w hsm
 ·exact BO K gj c ng ra rs.length rs rc lo hi lz ka ks.length ks kc w
def FitPost (x:Rx) (left dp:Int) (e:Ending):Prop :=
 ∃l':Int,e=.returned (.tuple #[.int .i64 l',.bool (okB x left dp)])∧(okB x left dp=true→l'=left-x.parts)
def FitRel (ks:List Rx) (R:Bool) (tot dp:Int) (w:World) (t q:Value) (wr:World):Prop :=
 ∃(k:Nat) (l:Int),k≤ks.length∧q=.int .i64 k∧t=.int .i64 l∧0≤l∧l≤100000∧Below w.heap.size w wr∧Hid (okL (ks.drop k) l dp=R)∧Hid (l-Rx.partsL (ks.drop k)=tot)
theorem okL_nil {l dp:Int} (h:0≤l) (h':0≤dp):okL [] l dp=true:=by
 unfold okL;rw [Iw (show ((Rx.partsL []:Nat):Int)≤l from h),Iw (show ((Rx.deepL []:Nat):Int)≤dp from h')];rfl
theorem sO {S:Nat→Prop} {K:Int} {c:Str} {ng:Bool} {ra:Option Addr} {rs:List (Str × Str)} {rc:Nat} {lo hi:Int} {lz:Bool} {ka:Option Addr} {ks:List Rx} {kc:Nat} {b:Bool} (w:World)
  (h:lf (.mk K c ng rs lo hi lz ks)=b) (hr:SlS w S ra 2 rs.length (kR rs)) (hx:RxSl w S ka ks.length ks) (hsm:(Rx.mk K c ng rs lo hi lz ks).small1) :
  Calls Tryz.prog 71 #[.agg #[.int .i64 K,.string ⟨c.toArray⟩,.bool ng,.slice ra rs.length rc,.int .i64 lo,.int .i64 hi,.bool lz,.slice ka ks.length kc]] w fun e w'=>e=.returned (.bool b)∧Below w.heap.size w w'∧∀a u,w.cell? a=some u→w'.cell? a=some u:=by
 subst h;exact(Dm S K c ng ra rs rc lo hi lz ka ks kc w hr hx hsm).mono fun _ _ ⟨h1,h2⟩=>⟨h1,h2,lp h2⟩
theorem Ci (S:Nat→Prop):∀(N:Nat) (x:Rx),x.parts≤N→x.parts≤1000000→x.small→∀(cc:List Value) (w:World) (left dp:Int),RxV w S cc x→-100000≤left→left≤100000→-100000≤dp→dp≤100000 →
  Calls Tryz.prog 54 #[.agg cc.toArray,.int .i64 left,.int .i64 dp] w fun e w'=>FitPost x left dp e∧Below w.heap.size w w'
 | 0,x,h,_,_,_,_,_,_,_,_,_,_,_=>by have:=Rx.parts_pos x;omega
 | N+1,.mk k c ng rs lo hi lz ks,h,hm,hsm,cc,w,left,dp,hv,l0,l1,d0,d1=>by
  obtain⟨ra,rc,ka,kc,rfl,hrs,hx⟩:=hv.open_;obtain⟨hs1,hs2⟩:=hsm;simp only [Rx.parts] at h hm;have hlen:=Rx.len_parts ks;have ih:=fun(y:Rx) (hy:y.parts≤Rx.partsL ks)=>Ci S N y gj gj
  have IH:=ab ih;have HSM:=ab hs2;have HS1:=ab hs1;have hb0:=(Below.refl w.heap.size w).alloc (Ia _) (.cells #[.int .i64 k,.string ⟨c.toArray⟩,.bool ng,.slice ra rs.length rc,.int .i64 lo,.int .i64 hi,.bool lz,.slice ka ks.length kc] 38);have HX0:=ab (hx.later hb0);have HRS:=ab (hrs.keep (Kept.all hb0));clear hx hv hrs ih hs1 hs2;unfold rxc;cases hG:grpB k with
  | true =>
   cases hF:lf (.mk k c ng rs lo hi lz ks) with
   | false =>
    exact bn
   | true =>
    have HF:=ab hF;by_cases hld:left<1∨dp-1<0
    ·exact bk
    ·have hl1:1≤left:=gj
     have hd0:0≤dp-1:=gj;have HO:Hid (okB (.mk k c ng rs lo hi lz ks) left dp=okL ks (left-1) (dp-1)):=ab (by rw [B6,hG,hF,Iw hl1];simp;omega);clear hF hld;obtain⟨R,hR⟩:∃R,okL ks (left-1) (dp-1)=R:=⟨_,rfl⟩;have HR0:Hid (okL (ks.drop 0) (left-1) (dp-1)=R):=ab hR;have HT0:Hid (left-1-Rx.partsL (ks.drop 0)=left-(Rx.mk k c ng rs lo hi lz ks).parts):=ab (by simp only [Rx.parts,ID];omega);obtain⟨tot,htot⟩:∃tot,left-((Rx.mk k c ng rs lo hi lz ks).parts:Int)=tot:=⟨_,rfl⟩;have HOR:Hid (okB (.mk k c ng rs lo hi lz ks) left dp=R):=ab (by rw [HO.out,hR]);have HTT:=ab htot;rw [htot] at HT0;clear hR htot HO;go_enter Tryz.func54,Tryz.ntmps54
     go_wp2_with (first|(go_at_call 70;refine(sF _ _).mono ?_;rintro e w1 ⟨rfl,rfl⟩;rw [hG])|(go_at_call 71;refine(sO _ HF.out HRS.out HX0.out HS1.out).mono ?_;rintro e w1 ⟨rfl,hb1,hc1⟩;have z1:=hc1 ⟨w.heap.size,7,none⟩ (.slice ka ks.length kc) gz))
     have HX1:=ab ((HX0.out.later (Below.refl _ _)).later hb1);have hbw1:Below w.heap.size w w1:=((Below.refl _ _).alloc (Ia _) _).trans (hb1.mono gz);have hz1:=hbw1.size;clear hb1 hc1 z1;go_loopw [1,33] (fun t q wr=>FitRel ks R tot (dp-1) w1 t q wr) (fun _ q _=>ks.length-(intOf q).toNat)
     case atStart=>exact⟨0,left-1,by omega,rfl,rfl,by omega,by omega,Below.refl _ _,HR0,HT0⟩
     case round =>
      obtain⟨i,l,hi,rfl,rfl,hl0,hl9,hb,HL,HTL⟩:=hrel;clear HR0 HT0;have hB:=hb.size;cases hd:ks.drop i with
      | nil =>
       exact b8
      | cons y r =>
       have HX:=HX1;obtain⟨h2,h3,hr⟩:=kV hd;obtain⟨yk,yc,yn,yr,yl,yh,yz,ys⟩:=y;obtain⟨b,o,ya,yrc,yka,ykc,rfl,hS,hbB,_,_,hyv,c0,c1,c2,c3,c4,c5,c6,c7⟩:=(HX.out.later hb).cells h3;have hyp:=Rx.parts_mem (In h3);have hym:=nJ HSM.out (In h3);have Hr:=ab hr;have HE:Hid (R=(okB (.mk yk yc yn yr yl yh yz ys) l (dp-1)&&okL r (l-(Rx.mk yk yc yn yr yl yh yz ys).parts) (dp-1))):=ab (by rw [←HL.out,hd,CP]);have HE2:Hid (l-(Rx.mk yk yc yn yr yl yh yz ys).parts-Rx.partsL r=tot):=ab (by rw [←HTL.out,hd];simp only [Rx.partsL];omega);have HYV:=ab (hyv.later ((Below.refl wr.heap.size wr).alloc (Ia _) (.cells (rxc yk yc yn ya yr.length yrc yl yh yz yka ys.length ykc).toArray 38)));unfold rxc at HYV;have HYM:=ab hym;clear hd HL HTL hr h3 hyv hym;go_wp2_with (go_at_call 54;refine(IH.out _ hyp HYM.out _ _ l (dp-1) HYV.out gj gj gj gj).mono ?_)
       rintro e w2 ⟨⟨l',rfl,hl'⟩,hb2⟩;have hbw2:Below w.heap.size w w2:=hbw1.trans (((hb.alloc hB _).trans (hb2.mono gD)).mono hz1);cases hok:okB (.mk yk yc yn yr yl yh yz ys) l (dp-1) with
       | false =>
        exact cP
       | true =>
        have hl2:=hl' hok;have hpp:(Rx.mk yk yc yn yr yl yh yz ys).parts≤l:=by
         have h:=hok;simp only [okB,Ie,Hs] at h;exact h.1.2
        have HE3:Hid (okL r l' (dp-1)=R):=ab (by rw [HE.out,hok,hl2];rfl);exact bV
  | false =>
   cases hF:lf (.mk k c ng rs lo hi lz ks) with
   | false =>
    exact bn
   | true =>
    have HF:=ab hF;by_cases hld:left<1∨dp<0
    ·exact bk
    ·have hl1:1≤left:=gj
     have hd0:0≤dp:=gj;have HO:Hid (okB (.mk k c ng rs lo hi lz ks) left dp=okL ks (left-1) (dp)):=ab (by rw [B6,hG,hF,Iw hl1];simp;omega);clear hF hld;obtain⟨R,hR⟩:∃R,okL ks (left-1) (dp)=R:=⟨_,rfl⟩;have HR0:Hid (okL (ks.drop 0) (left-1) (dp)=R):=ab hR;have HT0:Hid (left-1-Rx.partsL (ks.drop 0)=left-(Rx.mk k c ng rs lo hi lz ks).parts):=ab (by simp only [Rx.parts,ID];omega);obtain⟨tot,htot⟩:∃tot,left-((Rx.mk k c ng rs lo hi lz ks).parts:Int)=tot:=⟨_,rfl⟩;have HOR:Hid (okB (.mk k c ng rs lo hi lz ks) left dp=R):=ab (by rw [HO.out,hR]);have HTT:=ab htot;rw [htot] at HT0;clear hR htot HO;go_enter Tryz.func54,Tryz.ntmps54
     go_wp2_with (first|(go_at_call 70;refine(sF _ _).mono ?_;rintro e w1 ⟨rfl,rfl⟩;rw [hG])|(go_at_call 71;refine(sO _ HF.out HRS.out HX0.out HS1.out).mono ?_;rintro e w1 ⟨rfl,hb1,hc1⟩;have z1:=hc1 ⟨w.heap.size,7,none⟩ (.slice ka ks.length kc) gz))
     have HX1:=ab ((HX0.out.later (Below.refl _ _)).later hb1);have hbw1:Below w.heap.size w w1:=((Below.refl _ _).alloc (Ia _) _).trans (hb1.mono gz);have hz1:=hbw1.size;clear hb1 hc1 z1;go_loopw [1,33] (fun t q wr=>FitRel ks R tot (dp) w1 t q wr) (fun _ q _=>ks.length-(intOf q).toNat)
     case atStart=>exact⟨0,left-1,by omega,rfl,rfl,by omega,by omega,Below.refl _ _,HR0,HT0⟩
     case round =>
      obtain⟨i,l,hi,rfl,rfl,hl0,hl9,hb,HL,HTL⟩:=hrel;clear HR0 HT0;have hB:=hb.size;cases hd:ks.drop i with
      | nil =>
       exact b8
      | cons y r =>
       have HX:=HX1;obtain⟨h2,h3,hr⟩:=kV hd;obtain⟨yk,yc,yn,yr,yl,yh,yz,ys⟩:=y;obtain⟨b,o,ya,yrc,yka,ykc,rfl,hS,hbB,_,_,hyv,c0,c1,c2,c3,c4,c5,c6,c7⟩:=(HX.out.later hb).cells h3;have hyp:=Rx.parts_mem (In h3);have hym:=nJ HSM.out (In h3);have Hr:=ab hr;have HE:Hid (R=(okB (.mk yk yc yn yr yl yh yz ys) l (dp)&&okL r (l-(Rx.mk yk yc yn yr yl yh yz ys).parts) (dp))):=ab (by rw [←HL.out,hd,CP]);have HE2:Hid (l-(Rx.mk yk yc yn yr yl yh yz ys).parts-Rx.partsL r=tot):=ab (by rw [←HTL.out,hd];simp only [Rx.partsL];omega);have HYV:=ab (hyv.later ((Below.refl wr.heap.size wr).alloc (Ia _) (.cells (rxc yk yc yn ya yr.length yrc yl yh yz yka ys.length ykc).toArray 38)));unfold rxc at HYV;have HYM:=ab hym;clear hd HL HTL hr h3 hyv hym;go_wp2_with (go_at_call 54;refine(IH.out _ hyp HYM.out _ _ l (dp) HYV.out gj gj gj gj).mono ?_)
       rintro e w2 ⟨⟨l',rfl,hl'⟩,hb2⟩;have hbw2:Below w.heap.size w w2:=hbw1.trans (((hb.alloc hB _).trans (hb2.mono gD)).mono hz1);cases hok:okB (.mk yk yc yn yr yl yh yz ys) l (dp) with
       | false =>
        exact cP
       | true =>
        have hl2:=hl' hok;have hpp:(Rx.mk yk yc yn yr yl yh yz ys).parts≤l:=by
         have h:=hok;simp only [okB,Ie,Hs] at h;exact h.1.2
        have HE3:Hid (okL r l' (dp)=R):=ab (by rw [HE.out,hok,hl2];rfl);exact bV
theorem AF (S:Nat→Prop) (x:Rx) (cc:List Value) (w:World) (hm:x.parts≤1000000) (hsm:x.small) (hv:RxV w S cc x) :
  Calls Tryz.prog 37 #[.agg cc.toArray] w fun e w'=>e=.returned (.bool (mayB x))∧Below w.heap.size w w':=by
 obtain⟨k,c,ng,rs,lo,hi,lz,ks⟩:=x;obtain⟨ra,rc,ka,kc,rfl,hrs,hx⟩:=hv.open_;have HV:=ab (hv.later ((Below.refl w.heap.size w).alloc (Ia _) (.cells #[.int .i64 k,.string ⟨c.toArray⟩,.bool ng,.slice ra rs.length rc,.int .i64 lo,.int .i64 hi,.bool lz,.slice ka ks.length kc] 38)));have HSM:=ab hsm;have HM:=ab hm;clear hv hrs hx hsm hm;unfold rxc at HV ⊢;go_enter Tryz.func37,Tryz.ntmps37
 go_wp2_with (go_at_call 54;refine(Ci S _ _ (Ia _) HM.out HSM.out _ _ 512 16 HV.out gv gv gv gv).mono ?_;rintro e w1 ⟨⟨l',rfl,hl'⟩,hb1⟩)
 exact ep
def ShowC (B g:Nat) (x:Rx):Prop:=∀(cc:List Value) (acc:Str) (w:World),RxV w (·<B) cc x→Bld B g acc w→B≤w.heap.size→Tab w→(acc++x.tell).length≤10000000 →
 Calls Tryz.prog 38 #[.pointer (some ⟨g,0,none⟩),.agg cc.toArray] w fun e w'=>qV B g (acc++x.tell) w e w'
theorem ShowC.at_ {B g:Nat} {x:Rx} {out:Str} (h:ShowC B g x) {cc:List Value} {acc:Str} {w:World} (hv:RxV w (·<B) cc x) (hbl:Bld B g acc w) (hB:B≤w.heap.size) (ht:Tab w) (ho:acc++x.tell=out) (hl:out.length≤10000000) :
  Calls Tryz.prog 38 #[.pointer (some ⟨g,0,none⟩),.agg cc.toArray] w fun e w'=>e=.returned (.tuple #[])∧Bld B g out w'∧Fr B [g] [5] w w':=by
 subst ho;exact h cc acc w hv hbl hB ht hl
def tlF (_:Nat) (ks:List Rx):Str:=Rx.tellL ks
def taF (k:Nat) (ks:List Rx):Str:=Rx.tellA (decide (0<k)) ks
theorem show_seq (B g:Nat) (acc:Str) (c:Str) (ng:Bool) (ra:Option Addr) (rs:List (Str × Str)) (rn rc:Nat) (lo hi:Int) (lz:Bool) (ka:Option Addr) (ks:List Rx) (kc:Nat) (w:World)
  (ih:∀y∈ks,ShowC B g y) (hgT:1<B)
  (hbl:Bld B g acc w) (hB:B≤w.heap.size) (ht:Tab w) (hx:RxSl w (·<B) ka ks.length ks) (hkl:ks.length≤1000000)
  (hlen:(acc++tlF 0 ks).length≤10000000) :
  Calls Tryz.prog 38 #[.pointer (some ⟨g,0,none⟩),.agg #[.int .i64 0,.string ⟨c.toArray⟩,.bool ng,.slice ra rn rc,.int .i64 lo,.int .i64 hi,.bool lz,.slice ka ks.length kc]] w fun e w'=>qV B g (acc++(Rx.mk 0 c ng rs lo hi lz ks).tell) w e w':=by
 have IH:=ab ih;clear ih;obtain⟨T,hT⟩:∃T,acc++tlF 0 ks=T:=⟨_,rfl⟩;have HT0:Hid (acc++tlF 0 (ks.drop 0)=T):=ab hT;have HTL:T.length≤10000000:=by rw [←hT];exact hlen
 have HTT:=ab hT;clear hT hlen;have hgl:=hbl.lt;have hgB:=hbl.le;obtain⟨w0,hw0⟩:∃w0,w0=w.alloc (.cells #[.int .i64 0,.string ⟨c.toArray⟩,.bool ng,.slice ra rn rc,.int .i64 lo,.int .i64 hi,.bool lz,.slice ka ks.length kc] 38):=⟨_,rfl⟩;have hb0:Below w.heap.size w w0:=by rw [hw0];exact(Below.refl _ _).alloc (Ia _) _
 have HX:=ab (hx.keep (Kept.all hb0));have hbl0:Bld B g acc w0:=by rw [hw0];exact hbl.alloc _
 have HTB:=ab (ht.keep hb0);have hB0:B≤w0.heap.size:=Ib hB hb0.size;clear hx ht hbl;go_enter Tryz.func38,Tryz.ntmps38
 go_wp2
 rw [←hw0];have hf0:Fr B [g] [5] w w0:=Fr.of_below hb0 (Ia _);clear hw0;go_loopw [15] (fun q wr=>FH B g ks tlF T w0 q wr) (fun q _=>ks.length-(intOf q).toNat)
 case atStart=>exact⟨0,acc,by omega,rfl,hbl0,Fr.refl _ _ _ _,HT0⟩
 case round =>
  obtain⟨k,ac,hk,rfl,hblr,hfrr,HF⟩:=hrel;clear HT0 hbl0;have hBr:B≤wr.heap.size:=Ib hB0 hfrr.size;have hkp:=Kept.fr hfrr hB0 hgB;have htr:Tab wr:=HTB.out.keepB hgT (hfrr.below hB0 jX);have hgl2:=hblr.lt;have hacl:ac.length≤10000000:=by have h:=Hy List.length HF.out;simp only [Ig] at h;omega
  cases hd:ks.drop k with
  | nil =>
   have h2:ks.length≤k:=gX;have HE:Hid (ac=T):=ab (by rw [←HF.out,hd];simp [tlF,Rx.tellL]);clear hd HF;go_wp2
   go_end0
   exact⟨rfl,by have h:=hblr;rw [HE.out,←HTT.out] at h;simpa [Rx.tell,tlF] using h,hf0.trans hfrr⟩
  | cons y r =>
   obtain⟨h2,h3,hr⟩:=kV hd;have hymem:=In h3;obtain⟨yk,yc,yn,yr,yl,yh,yz,ys⟩:=y;obtain⟨b,o,ya,yrc,yka,ykc,rfl,hS,hbB,_,_,hyv,c0,c1,c2,c3,c4,c5,c6,c7⟩:=(HX.out.keep hkp).cells h3;have Hr:=ab hr;have HYV:=ab (hyv.keep (Kept.all ((Below.refl wr.heap.size wr).alloc (Ia _) (.cells (rxc yk yc yn ya yr.length yrc yl yh yz yka ys.length ykc).toArray 38))));unfold rxc at HYV;have HE:Hid (ac++(Rx.tell (.mk yk yc yn yr yl yh yz ys)++tlF (k+1) r)=T):=ab ic;have hol:(ac++Rx.tell (.mk yk yc yn yr yl yh yz ys)).length≤10000000:=by have h:=Hy List.length HE.out;simp only [Ig] at h ⊢;omega
   have HTA:=ab (htr.keep ((Below.refl wr.heap.size wr).alloc (Ia _) (.cells (rxc yk yc yn ya yr.length yrc yl yh yz yka ys.length ykc).toArray 38)));unfold rxc at HTA;clear hd HF hr h3 hyv htr;go_wp2_with (go_at_call 38;refine((IH.out _ hymem).at_ HYV.out (hblr.alloc _) gD HTA.out rfl hol).mono ?_)
   first|rintro e w2 rfl hbl2 hfr2|rintro e w2 ⟨rfl,hbl2,hfr2⟩
   go_wp2_with fail
   go_roundw
   case rel=>exact⟨k+1,_,by omega,by go_num,hbl2,hfrr.trans (((Fr.refl _ _ _ _).alloc _).trans hfr2),ab (by rw [Hr.out,←HE.out,II])⟩
   case measure=>simp [intOf];omega
theorem show_alt (B g:Nat) (acc:Str) (c:Str) (ng:Bool) (ra:Option Addr) (rs:List (Str × Str)) (rn rc:Nat) (lo hi:Int) (lz:Bool) (ka:Option Addr) (ks:List Rx) (kc:Nat) (w:World)
  (ih:∀y∈ks,ShowC B g y) (hgT:1<B)
  (hbl:Bld B g acc w) (hB:B≤w.heap.size) (ht:Tab w) (hx:RxSl w (·<B) ka ks.length ks) (hkl:ks.length≤1000000)
  (hlen:(acc++taF 0 ks).length≤10000000) :
  Calls Tryz.prog 38 #[.pointer (some ⟨g,0,none⟩),.agg #[.int .i64 1,.string ⟨c.toArray⟩,.bool ng,.slice ra rn rc,.int .i64 lo,.int .i64 hi,.bool lz,.slice ka ks.length kc]] w fun e w'=>qV B g (acc++(Rx.mk 1 c ng rs lo hi lz ks).tell) w e w':=by
 have IH:=ab ih;clear ih;obtain⟨T,hT⟩:∃T,acc++taF 0 ks=T:=⟨_,rfl⟩;have HT0:Hid (acc++taF 0 (ks.drop 0)=T):=ab hT;have HTL:T.length≤10000000:=by rw [←hT];exact hlen
 have HTT:=ab hT;clear hT hlen;have hgl:=hbl.lt;have hgB:=hbl.le;obtain⟨w0,hw0⟩:∃w0,w0=w.alloc (.cells #[.int .i64 1,.string ⟨c.toArray⟩,.bool ng,.slice ra rn rc,.int .i64 lo,.int .i64 hi,.bool lz,.slice ka ks.length kc] 38):=⟨_,rfl⟩;have hb0:Below w.heap.size w w0:=by rw [hw0];exact(Below.refl _ _).alloc (Ia _) _
 have HX:=ab (hx.keep (Kept.all hb0));have hbl0:Bld B g acc w0:=by rw [hw0];exact hbl.alloc _
 have HTB:=ab (ht.keep hb0);have hB0:B≤w0.heap.size:=Ib hB hb0.size;clear hx ht hbl;go_enter Tryz.func38,Tryz.ntmps38
 go_wp2
 rw [←hw0];have hf0:Fr B [g] [5] w w0:=Fr.of_below hb0 (Ia _);clear hw0;go_loopw [28] (fun q wr=>FH B g ks taF T w0 q wr) (fun q _=>ks.length-(intOf q).toNat)
 case atStart=>exact⟨0,acc,by omega,rfl,hbl0,Fr.refl _ _ _ _,HT0⟩
 case round =>
  obtain⟨k,ac,hk,rfl,hblr,hfrr,HF⟩:=hrel;clear HT0 hbl0;have hBr:B≤wr.heap.size:=Ib hB0 hfrr.size;have hkp:=Kept.fr hfrr hB0 hgB;have htr:Tab wr:=HTB.out.keepB hgT (hfrr.below hB0 jX);have hgl2:=hblr.lt;have hacl:ac.length≤10000000:=by have h:=Hy List.length HF.out;simp only [Ig] at h;omega
  cases hd:ks.drop k with
  | nil =>
   have h2:ks.length≤k:=gX;have HE:Hid (ac=T):=ab (by rw [←HF.out,hd];simp [taF,Rx.tellA]);clear hd HF;go_wp2
   go_end0
   exact⟨rfl,by have h:=hblr;rw [HE.out,←HTT.out] at h;simpa [Rx.tell,taF] using h,hf0.trans hfrr⟩
  | cons y r =>
   obtain⟨h2,h3,hr⟩:=kV hd;have hymem:=In h3;obtain⟨yk,yc,yn,yr,yl,yh,yz,ys⟩:=y;obtain⟨b,o,ya,yrc,yka,ykc,rfl,hS,hbB,_,_,hyv,c0,c1,c2,c3,c4,c5,c6,c7⟩:=(HX.out.keep hkp).cells h3;have Hr:=ab hr;have HYV:=ab (hyv.keep (Kept.all ((Below.refl wr.heap.size wr).alloc (Ia _) (.cells (rxc yk yc yn ya yr.length yrc yl yh yz yka ys.length ykc).toArray 38))));unfold rxc at HYV;have HE:Hid (ac++((if 0<k then [124] else [])++(Rx.tell (.mk yk yc yn yr yl yh yz ys)++taF (k+1) r))=T):=ab (by rw [←HF.out,hd];simp [taF,Rx.tellA]);have HTA:=ab (htr.keep ((Below.refl wr.heap.size wr).alloc (Ia _) (.cells (rxc yk yc yn ya yr.length yrc yl yh yz yka ys.length ykc).toArray 38)));unfold rxc at HTA;by_cases hk0:0<k
   ·have HE2:Hid (ac++[124]++Rx.tell (.mk yk yc yn yr yl yh yz ys)++taF (k+1) r=T):=ab (by rw [←HE.out,Hu hk0];simp)
    have hol:(ac++[124]++Rx.tell (.mk yk yc yn yr yl yh yz ys)).length≤10000000:=by have h:=Hy List.length HE2.out;simp only [Ig] at h ⊢;omega
    clear hd HF hr h3 hyv htr;go_wp2_with (go_at_call 34;refine(kQ B _ (ac) 124 _ (hblr.alloc _) gq gq gv gv).mono ?_)
    first|rintro e w1 rfl hbl1 hfr1|rintro e w1 ⟨rfl,hbl1,hfr1⟩
    have hbx1:=hfr1.held (heap_alloc_new wr _) gv (Nat.ne_of_gt hgl2);have z0:w1.cell? ⟨wr.heap.size,0,none⟩=some (.int .i64 yk):= gW;have z1:w1.cell? ⟨wr.heap.size,1,none⟩=some (.string ⟨yc.toArray⟩):= gW;have z2:w1.cell? ⟨wr.heap.size,2,none⟩=some (.bool yn):= gW;have z3:w1.cell? ⟨wr.heap.size,3,none⟩=some (.slice ya yr.length yrc):= gW;have z4:w1.cell? ⟨wr.heap.size,4,none⟩=some (.int .i64 yl):= gW;have z5:w1.cell? ⟨wr.heap.size,5,none⟩=some (.int .i64 yh):= gW;have z6:w1.cell? ⟨wr.heap.size,6,none⟩=some (.bool yz):= gW;have z7:w1.cell? ⟨wr.heap.size,7,none⟩=some (.slice yka ys.length ykc):= gW;have hBA:B≤(wr.alloc (.cells (rxc yk yc yn ya yr.length yrc yl yh yz yka ys.length ykc).toArray 38)).heap.size:=by simp;omega
    have hB1:B≤w1.heap.size:=Ib hBA hfr1.size;have HYV1:=ab (HYV.out.keep (Kept.fr hfr1 hBA hgB));have HTA1:=ab (HTA.out.keepB hgT (hfr1.below hBA jX));have hfx:=hfrr.trans (((Fr.refl _ _ _ _).alloc _).trans hfr1);clear hbx1 hfr1;go_wp2_with (go_at_call 38;refine((IH.out _ hymem).at_ HYV1.out hbl1 hB1 HTA1.out rfl hol).mono ?_)
    first|rintro e w2 rfl hbl2 hfr2|rintro e w2 ⟨rfl,hbl2,hfr2⟩
    go_wp2_with fail
    go_roundw
    case rel=>exact⟨k+1,_,by omega,by go_num,hbl2,hfx.trans hfr2,ab (by rw [Hr.out];exact HE2.out)⟩
    case measure=>simp [intOf];omega
   ·have hk1:k=0:=gj
    subst hk1;have HE2:Hid (ac++Rx.tell (.mk yk yc yn yr yl yh yz ys)++taF (0+1) r=T):=ab (by rw [←HE.out,Hx hk0];simp);have hol:(ac++Rx.tell (.mk yk yc yn yr yl yh yz ys)).length≤10000000:=by have h:=Hy List.length HE2.out;simp only [Ig] at h ⊢;omega
    simp only [Nat.zero_mul,Nat.add_zero] at c0 c1 c2 c3 c4 c5 c6 c7;clear hd HF hr h3 hyv htr hk0;go_wp2_with (go_at_call 38;refine((IH.out _ hymem).at_ HYV.out (hblr.alloc _) gD HTA.out rfl hol).mono ?_)
    first|rintro e w2 rfl hbl2 hfr2|rintro e w2 ⟨rfl,hbl2,hfr2⟩
    go_wp2_with fail
    go_roundw
    case rel=>exact⟨0+1,_,by omega,by go_num,hbl2,hfrr.trans (((Fr.refl _ _ _ _).alloc _).trans hfr2),ab (by rw [Hr.out];exact HE2.out)⟩
    case measure=>simp [intOf];omega
theorem wZ (B g:Nat) (acc:Str) (K:Int) (hK:K=5∨K=6) (c:Str) (ng:Bool) (ra:Option Addr) (rs:List (Str × Str)) (rn rc:Nat) (lo hi:Int) (lz:Bool) (ka:Option Addr) (y:Rx) (kc:Nat) (w:World)
  (ih:ShowC B g y) (hgT:1<B)
  (hbl:Bld B g acc w) (hB:B≤w.heap.size) (ht:Tab w) (hx:RxSl w (·<B) ka 1 [y])
  (hlen:(acc++(Rx.mk K c ng rs lo hi lz [y]).tell).length≤10000000) :
  Calls Tryz.prog 38 #[.pointer (some ⟨g,0,none⟩),.agg #[.int .i64 K,.string ⟨c.toArray⟩,.bool ng,.slice ra rn rc,.int .i64 lo,.int .i64 hi,.bool lz,.slice ka 1 kc]] w fun e w'=>qV B g (acc++(Rx.mk K c ng rs lo hi lz [y]).tell) w e w':=by
 have IH:=ab ih;clear ih;rcases hK with rfl|rfl
 ·have HO:Hid (acc++(Rx.mk 5 c ng rs lo hi lz [y]).tell=acc++[40]++y.tell++[41]):=ab (by simp [Rx.tell,Rx.tellL])
  rw [HO.out] at hlen ⊢;simp only [Ig,H7,IE] at hlen;obtain⟨yk,yc,yn,yr,yl,yh,yz,ys⟩:=y;have hgl:=hbl.lt;have hgB:=hbl.le;obtain⟨w0,hw0⟩:∃w0,w0=w.alloc (.cells #[.int .i64 5,.string ⟨c.toArray⟩,.bool ng,.slice ra rn rc,.int .i64 lo,.int .i64 hi,.bool lz,.slice ka 1 kc] 38):=⟨_,rfl⟩;have hb0:Below w.heap.size w w0:=by rw [hw0];exact(Below.refl _ _).alloc (Ia _) _
  have hbx0:w0.heap[w.heap.size]?=some (.cells #[.int .i64 5,.string ⟨c.toArray⟩,.bool ng,.slice ra rn rc,.int .i64 lo,.int .i64 hi,.bool lz,.slice ka 1 kc] 38 (0,0)):=by rw [hw0];exact heap_alloc_new w _
  have HX:=ab (hx.keep (Kept.all hb0));have hbl0:Bld B g acc w0:=by rw [hw0];exact hbl.alloc _
  have htb:=ht.keep hb0;have hB0:B≤w0.heap.size:=Ib hB hb0.size;have hf0:Fr B [g] [5] w w0:=Fr.of_below hb0 (Ia _);have hBX0:=ab hbx0;have HTB:=ab htb;have HW0:=ab hw0;clear hx ht htb hbl0 hw0;obtain⟨b,o,ya,yrc,yka,ykc,rfl,hS,hbB,_,_,hyv,c0,c1,c2,c3,c4,c5,c6,c7⟩:=HX.out.cells (m:=0) rfl;have HYV:=ab hyv;unfold rxc at HYV;simp only [Nat.zero_mul,Nat.add_zero] at c0 c1 c2 c3 c4 c5 c6 c7;have C:=ab (And.intro c0 (And.intro c1 (And.intro c2 (And.intro c3 (And.intro c4 (And.intro c5 (And.intro c6 c7)))))));clear c0 c1 c2 c3 c4 c5 c6 c7 hyv;go_enter Tryz.func38,Tryz.ntmps38
  go_wp2_with (go_at_call 34;refine(kQ B _ (acc) 40 _ (hbl.alloc _) gq gq gv gv).mono ?_)
  first|rintro e w1 rfl hbl1 hfr1|rintro e w1 ⟨rfl,hbl1,hfr1⟩
  rw [←HW0.out] at hfr1;have hbx1:=hfr1.held hbx0 gv (Nat.ne_of_gt hgl);have z0:w1.cell? ⟨w.heap.size,0,none⟩=some (.int .i64 5):= gW;have z7:w1.cell? ⟨w.heap.size,7,none⟩=some (.slice (some ⟨b,o,none⟩) 1 kc):= gW;have hB1:B≤w1.heap.size:=Ib hB0 hfr1.size;have hbw1:=hfr1.below hB0 jX;have kb:b<B:=hS;have kc0:∀j u,w0.cell? ⟨b,o+j,none⟩=some u→w1.cell? ⟨b,o+j,none⟩=some u:=fun j u h=>((hbw1).cell (p:=⟨b,o+j,none⟩) kb).trans h
  have d0:w1.cell? ⟨b,o,none⟩=some (.int .i64 yk):=kc0 0 _ C.out.1;have d1:=kc0 1 _ C.out.2.1;have d2:=kc0 2 _ C.out.2.2.1;have d3:=kc0 3 _ C.out.2.2.2.1;have d4:=kc0 4 _ C.out.2.2.2.2.1;have d5:=kc0 5 _ C.out.2.2.2.2.2.1;have d6:=kc0 6 _ C.out.2.2.2.2.2.2.1;have d7:=kc0 7 _ C.out.2.2.2.2.2.2.2;clear kc0;have HYV1:=ab (HYV.out.keep (Kept.fr hfr1 hB0 hgB));have HTB1:=ab (HTB.out.keepB hgT hbw1);have hfx:=hf0.trans hfr1;clear hbx1 hfr1 hbx0;go_wp2_with (go_at_call 38;refine(IH.out.at_ HYV1.out hbl1 hB1 HTB1.out rfl ja).mono ?_)
  first|rintro e w2 rfl hbl2 hfr2|rintro e w2 ⟨rfl,hbl2,hfr2⟩
  have hB2:B≤w2.heap.size:=Ib hB1 hfr2.size;go_wp2_with (go_at_call 34;refine(kQ B _ (acc++[40]++Rx.tell (.mk yk yc yn yr yl yh yz ys)) 41 _ (hbl2) gq gq gv gv).mono ?_)
  first|rintro e w3 rfl hbl3 hfr3|rintro e w3 ⟨rfl,hbl3,hfr3⟩
  go_wp2_with fail
  go_end0
  exact⟨rfl,hbl3,(hfx.trans hfr2).trans hfr3⟩
 ·have HO:Hid (acc++(Rx.mk 6 c ng rs lo hi lz [y]).tell=acc++[40]++[63,58]++y.tell++[41]):=ab (by simp [Rx.tell,Rx.tellL])
  rw [HO.out] at hlen ⊢;simp only [Ig,H7,IE] at hlen;obtain⟨yk,yc,yn,yr,yl,yh,yz,ys⟩:=y;have hgl:=hbl.lt;have hgB:=hbl.le;obtain⟨w0,hw0⟩:∃w0,w0=w.alloc (.cells #[.int .i64 6,.string ⟨c.toArray⟩,.bool ng,.slice ra rn rc,.int .i64 lo,.int .i64 hi,.bool lz,.slice ka 1 kc] 38):=⟨_,rfl⟩;have hb0:Below w.heap.size w w0:=by rw [hw0];exact(Below.refl _ _).alloc (Ia _) _
  have hbx0:w0.heap[w.heap.size]?=some (.cells #[.int .i64 6,.string ⟨c.toArray⟩,.bool ng,.slice ra rn rc,.int .i64 lo,.int .i64 hi,.bool lz,.slice ka 1 kc] 38 (0,0)):=by rw [hw0];exact heap_alloc_new w _
  have HX:=ab (hx.keep (Kept.all hb0));have hbl0:Bld B g acc w0:=by rw [hw0];exact hbl.alloc _
  have htb:=ht.keep hb0;have hB0:B≤w0.heap.size:=Ib hB hb0.size;have hf0:Fr B [g] [5] w w0:=Fr.of_below hb0 (Ia _);have hBX0:=ab hbx0;have HTB:=ab htb;have HW0:=ab hw0;clear hx ht htb hbl0 hw0;obtain⟨b,o,ya,yrc,yka,ykc,rfl,hS,hbB,_,_,hyv,c0,c1,c2,c3,c4,c5,c6,c7⟩:=HX.out.cells (m:=0) rfl;have HYV:=ab hyv;unfold rxc at HYV;simp only [Nat.zero_mul,Nat.add_zero] at c0 c1 c2 c3 c4 c5 c6 c7;have C:=ab (And.intro c0 (And.intro c1 (And.intro c2 (And.intro c3 (And.intro c4 (And.intro c5 (And.intro c6 c7)))))));clear c0 c1 c2 c3 c4 c5 c6 c7 hyv;go_enter Tryz.func38,Tryz.ntmps38
  go_wp2_with (go_at_call 34;refine(kQ B _ (acc) 40 _ (hbl.alloc _) gq gq gv gv).mono ?_)
  first|rintro e w1 rfl hbl1 hfr1|rintro e w1 ⟨rfl,hbl1,hfr1⟩
  rw [←HW0.out] at hfr1;have hbx1:=hfr1.held hbx0 gv (Nat.ne_of_gt hgl);have z0:w1.cell? ⟨w.heap.size,0,none⟩=some (.int .i64 6):= gW;have hB1:B≤w1.heap.size:=Ib hB0 hfr1.size;have hfx:=hf0.trans hfr1;have HBX1:=ab hbx1;have HFA:=ab hfr1;clear hbx1 hfr1 hbx0;go_wp2_with (go_at_call 32;refine(kU B _ (acc++[40]) _ _ (hbl1) gq gq gq).mono ?_)
  first|rintro e w1b rfl hbl1b hfr1b|rintro e w1b ⟨rfl,hbl1b,hfr1b⟩
  have hbx1b:=hfr1b.held HBX1.out gv (Nat.ne_of_gt hgl);have z7:w1b.cell? ⟨w.heap.size,7,none⟩=some (.slice (some ⟨b,o,none⟩) 1 kc):=(by rw [Ic hbx1b];rfl);have hB1b:B≤w1b.heap.size:=Ib hB1 hfr1b.size;have hfrA:=HFA.out.trans hfr1b;have hbw1:=hfrA.below hB0 jX;have kb:b<B:=hS;have kc0:∀j u,w0.cell? ⟨b,o+j,none⟩=some u→w1b.cell? ⟨b,o+j,none⟩=some u:=fun j u h=>((hbw1).cell (p:=⟨b,o+j,none⟩) kb).trans h
  have d0:w1b.cell? ⟨b,o,none⟩=some (.int .i64 yk):=kc0 0 _ C.out.1;have d1:=kc0 1 _ C.out.2.1;have d2:=kc0 2 _ C.out.2.2.1;have d3:=kc0 3 _ C.out.2.2.2.1;have d4:=kc0 4 _ C.out.2.2.2.2.1;have d5:=kc0 5 _ C.out.2.2.2.2.2.1;have d6:=kc0 6 _ C.out.2.2.2.2.2.2.1;have d7:=kc0 7 _ C.out.2.2.2.2.2.2.2;clear kc0;have HYV1:=ab (HYV.out.keep (Kept.fr hfrA hB0 hgB));have HTB1:=ab (HTB.out.keepB hgT hbw1);have hfxb:=hfx.trans hfr1b;clear hbx1b hfr1b hfrA;go_wp2_with (go_at_call 38;refine(IH.out.at_ HYV1.out hbl1b hB1b HTB1.out rfl ja).mono ?_)
  first|rintro e w2 rfl hbl2 hfr2|rintro e w2 ⟨rfl,hbl2,hfr2⟩
  have hB2:B≤w2.heap.size:=Ib hB1b hfr2.size;go_wp2_with (go_at_call 34;refine(kQ B _ (acc++[40]++[63,58]++Rx.tell (.mk yk yc yn yr yl yh yz ys)) 41 _ (hbl2) gq gq gv gv).mono ?_)
  first|rintro e w3 rfl hbl3 hfr3|rintro e w3 ⟨rfl,hbl3,hfr3⟩
  go_wp2_with fail
  go_end0
  exact⟨rfl,hbl3,(hfxb.trans hfr2).trans hfr3⟩
theorem often_eq {lo hi:Int} (w:World) (h0:0≤lo) (h1:lo≤255) (h2:hi=-1∨lo≤hi∧hi≤255) (ht:Tab w) :
  Calls Tryz.prog 57 #[.int .i64 lo,.int .i64 hi] w fun e w'=>e=.returned (.string ⟨(oftS lo hi).toArray⟩)∧Below w.heap.size w w':=EK lo hi w h0 h1 h2 ht
theorem show_rep (B g:Nat) (acc:Str) (c:Str) (ng:Bool) (ra:Option Addr) (rs:List (Str × Str)) (rn rc:Nat) (lo hi:Int) (lz:Bool) (ka:Option Addr) (y:Rx) (kc:Nat) (w:World)
  (ih:ShowC B g y) (hgT:1<B) (h0:0≤lo) (h1:lo≤255) (h2:hi=-1∨lo≤hi∧hi≤255)
  (hbl:Bld B g acc w) (hB:B≤w.heap.size) (ht:Tab w) (hx:RxSl w (·<B) ka 1 [y])
  (hlen:(acc++(Rx.mk 7 c ng rs lo hi lz [y]).tell).length≤10000000) :
  Calls Tryz.prog 38 #[.pointer (some ⟨g,0,none⟩),.agg #[.int .i64 7,.string ⟨c.toArray⟩,.bool ng,.slice ra rn rc,.int .i64 lo,.int .i64 hi,.bool lz,.slice ka 1 kc]] w fun e w'=>qV B g (acc++(Rx.mk 7 c ng rs lo hi lz [y]).tell) w e w':=by
 have IH:=ab ih;have H2:=ab h2;have HO:Hid (acc++(Rx.mk 7 c ng rs lo hi lz [y]).tell=acc++y.tell++oftS lo hi++(if lz=true then [63] else [])):=ab (by simp [Rx.tell,Rx.tellL]);rw [HO.out] at hlen ⊢;have hl3:acc.length+y.tell.length+(oftS lo hi).length≤10000000:=by simp only [Ig] at hlen;omega
 clear ih h2 hlen;obtain⟨yk,yc,yn,yr,yl,yh,yz,ys⟩:=y;have hgl:=hbl.lt;have hgB:=hbl.le;obtain⟨w0,hw0⟩:∃w0,w0=w.alloc (.cells #[.int .i64 7,.string ⟨c.toArray⟩,.bool ng,.slice ra rn rc,.int .i64 lo,.int .i64 hi,.bool lz,.slice ka 1 kc] 38):=⟨_,rfl⟩;have hb0:Below w.heap.size w w0:=by rw [hw0];exact(Below.refl _ _).alloc (Ia _) _
 have hbx0:w0.heap[w.heap.size]?=some (.cells #[.int .i64 7,.string ⟨c.toArray⟩,.bool ng,.slice ra rn rc,.int .i64 lo,.int .i64 hi,.bool lz,.slice ka 1 kc] 38 (0,0)):=by rw [hw0];exact heap_alloc_new w _
 obtain⟨b,o,ya,yrc,yka,ykc,rfl,hS,hbB,_,_,hyv,c0,c1,c2,c3,c4,c5,c6,c7⟩:=hx.cells (m:=0) rfl;simp only [Nat.zero_mul,Nat.add_zero] at c0 c1 c2 c3 c4 c5 c6 c7;have HYV:=ab (hyv.later hb0);unfold rxc at HYV;have HTB:=ab (ht.keep hb0);have hB0:B≤w0.heap.size:=Ib hB hb0.size;have hf0:Fr B [g] [5] w w0:=Fr.of_below hb0 (Ia _);have HBX0:=ab hbx0;have HBL0:Hid (Bld B g acc w0):=ab (by rw [hw0];exact hbl.alloc _);rw [hw0] at HYV HTB HBL0;have HW0:=ab hw0;clear hx ht hw0 hyv hbx0;go_enter Tryz.func38,Tryz.ntmps38
 go_wp2_with (go_at_call 38;refine(IH.out.at_ HYV.out HBL0.out gD HTB.out rfl (by simp only [Ig];omega)).mono ?_)
 first|rintro e w1 rfl hbl1 hfr1|rintro e w1 ⟨rfl,hbl1,hfr1⟩
 rw [←HW0.out] at hfr1;have hbx1:=hfr1.held HBX0.out gv (Nat.ne_of_gt hgl);have z4:w1.cell? ⟨w.heap.size,4,none⟩=some (.int .i64 lo):= gW;have z5:w1.cell? ⟨w.heap.size,5,none⟩=some (.int .i64 hi):= gW;have hB1:B≤w1.heap.size:=Ib hB0 hfr1.size;have hbw1:=hfr1.below hB0 jX;have HTB1:=ab ((show Tab w0 by rw [HW0.out];exact HTB.out).keepB hgT hbw1);have hfx:=hf0.trans hfr1;have HBX1:=ab hbx1;have hgl1:=hbl1.lt;clear hbx1 hfr1;go_wp2_with (go_at_call 57;refine(often_eq _ h0 h1 H2.out HTB1.out).mono ?_)
 first|rintro e w2 rfl hb2|rintro e w2 ⟨rfl,hb2⟩
 have hbl2:=hbl1.below hb2;have hB2:B≤w2.heap.size:=Ib hB1 hb2.size;have hfx2:Fr B [g] [5] w w2:=hfx.trans (Fr.of_below hb2 (Ia _));have HBX2:Hid (w2.heap[w.heap.size]?=some (.cells #[.int .i64 7,.string ⟨c.toArray⟩,.bool ng,.slice ra rn rc,.int .i64 lo,.int .i64 hi,.bool lz,.slice (some ⟨b,o,none⟩) 1 kc] 38 (0,0))):=ab ((hb2.block _ (ky HBX1.out)).trans HBX1.out);clear hb2;go_wp2_with (go_at_call 32;refine(kU B _ (acc++Rx.tell (.mk yk yc yn yr yl yh yz ys)) _ _ (hbl2) gq gq gq).mono ?_)
 first|rintro e w3 rfl hbl3 hfr3|rintro e w3 ⟨rfl,hbl3,hfr3⟩
 have hbx3:=hfr3.held HBX2.out gv (Nat.ne_of_gt hgl);have z6:w3.cell? ⟨w.heap.size,6,none⟩=some (.bool lz):=(by rw [Ic hbx3];rfl);have hB3:B≤w3.heap.size:=Ib hB2 hfr3.size;have hfx3:=hfx2.trans hfr3;clear hbx3 hfr3;cases lz with
 | false =>
  go_wp2
  go_end0
  exact⟨rfl,by simpa using hbl3,hfx3⟩
 | true =>
  go_wp2_with (go_at_call 34;refine(kQ B _ (acc++Rx.tell (.mk yk yc yn yr yl yh yz ys)++oftS lo hi) 63 _ (hbl3) gq gq gv gv).mono ?_)
  first|rintro e w4 rfl hbl4 hfr4|rintro e w4 ⟨rfl,hbl4,hfr4⟩
  go_wp2_with fail
  go_end0
  exact⟨rfl,by simpa using hbl4,hfx3.trans hfr4⟩
theorem len1 {α:Type} {l:List α} (h:l.length=1):∃a,l=[a]:=by
 match l,h with
 | [a],_=>exact⟨a,rfl⟩
theorem Ca (B g:Nat) (hgT:1<B):∀(N:Nat) (x:Rx),x.parts≤N→x.small→x.wf=true→ShowC B g x
 | 0,x,h,_,_=>by have:=Rx.parts_pos x;omega
 | N+1,.mk k c ng rs lo hi lz ks,h,hsm,hwf=>by
  intro cc acc w hv hbl hB ht hlen;obtain⟨ra,rc,ka,kc,rfl,hrs,hx⟩:=hv.open_;obtain⟨⟨s1,s2,s3,s4⟩,hsmL⟩:=hsm;obtain⟨hf,hwl⟩:=wf_mk hwf;simp only [Rx.parts] at h;have ih:∀y∈ks,ShowC B g y:=fun y hy=>Ca B g hgT N y jc (nJ hsmL hy) (xY hwl hy)
  have hrB:Sl w B ra 2 rs.length (kR rs):=⟨hrs.1,fun hn=>by
   obtain⟨b,o,e1,e2,_,e4⟩:=hrs.2 hn;exact⟨b,o,e1,e2,e4⟩⟩
  have hal:acc.length≤10000000:=by simp only [Ig] at hlen;omega
  unfold rxc;rcases A8 hf with rfl|rfl|rfl|rfl|rfl|rfl|rfl|rfl|rfl|rfl|rfl|rfl
  ·exact show_seq B g acc c ng ra rs _ rc lo hi lz ka ks kc w ih hgT hbl hB ht hx s4 (by simpa [Rx.tell,tlF] using hlen)
  ·exact show_alt B g acc c ng ra rs _ rc lo hi lz ka ks kc w ih hgT hbl hB ht hx s4 (by simpa [Rx.tell,taF] using hlen)
  ·have hp:lG c=true:=by simp [lf] at hf;exact hf.2
   exact GD B g acc c ng ra rs _ rc lo hi lz ka ks _ kc w hbl hB hal (vw hp) s1
  ·exact pD B g acc 3 gz c ng ra rs _ rc lo hi lz ka ks _ kc w hbl hB hal
  ·have hp:oF rs=true:=by simp [lf] at hf;exact hf.2
   exact show_set B g acc c ng ra rs rc lo hi lz ka ks _ kc w hbl hB hrB (E0 hp) s3 s2 (by simpa [Rx.tell] using hlen)
  ·have h1:ks.length=1:=by simp [lf] at hf;exact hf.2
   obtain⟨y,rfl⟩:=len1 h1;exact wZ B g acc 5 (.inl rfl) c ng ra rs _ rc lo hi lz ka y kc w (ih y gz) hgT hbl hB ht hx hlen
  ·have h1:ks.length=1:=by simp [lf] at hf;exact hf.2
   obtain⟨y,rfl⟩:=len1 h1;exact wZ B g acc 6 (.inr rfl) c ng ra rs _ rc lo hi lz ka y kc w (ih y gz) hgT hbl hB ht hx hlen
  ·simp only [lf] at hf
   rw [Hx gv,Hx gv,Hu trivial] at hf;simp only [Ie,Hs] at hf;obtain⟨⟨_,h1⟩,h2,h3,h4⟩:=hf;match ks,h1 with
   | [y],_=>exact show_rep B g acc c ng ra rs _ rc lo hi lz ka y kc w (ih y gz) hgT h2 h3 h4 hbl hB ht hx hlen
  ·exact pD B g acc 8 gz c ng ra rs _ rc lo hi lz ka ks _ kc w hbl hB hal
  ·exact pD B g acc 9 gz c ng ra rs _ rc lo hi lz ka ks _ kc w hbl hB hal
  ·exact pD B g acc 10 gz c ng ra rs _ rc lo hi lz ka ks _ kc w hbl hB hal
  ·exact pD B g acc 11 gz c ng ra rs _ rc lo hi lz ka ks _ kc w hbl hB hal
theorem sM (S:Nat→Prop) (x:Rx) (cc:List Value) (w:World) (hm:x.parts≤1000000) (hsm:x.small) (hv:RxV w S cc x) (ht:Tab w) (hmay:mayB x=true) (hlen:x.tell.length≤10000000) :
  Calls Tryz.prog 23 #[.agg cc.toArray] w fun e w'=>e=.returned (.tuple #[.string ⟨(x.tell).toArray⟩,.int .i64 0])∧Below w.heap.size w w':=by
 have hwf:x.wf=true:=by
  have h:=hmay;simp only [mayB,okB,Ie] at h;exact h.1.1
 obtain⟨k,c,ng,rs,lo,hi,lz,ks⟩:=x;obtain⟨ra,rc,ka,kc,rfl,hrs,hx⟩:=hv.open_;obtain⟨w0,hw0⟩:∃w0,w0=w.alloc (.cells #[.int .i64 k,.string ⟨c.toArray⟩,.bool ng,.slice ra rs.length rc,.int .i64 lo,.int .i64 hi,.bool lz,.slice ka ks.length kc] 38):=⟨_,rfl⟩;have hb0:Below w.heap.size w w0:=by rw [hw0];exact(Below.refl _ _).alloc (Ia _) _
 have hbx0:w0.heap[w.heap.size]?=some (.cells #[.int .i64 k,.string ⟨c.toArray⟩,.bool ng,.slice ra rs.length rc,.int .i64 lo,.int .i64 hi,.bool lz,.slice ka ks.length kc] 38 (0,0)):=by rw [hw0];exact heap_alloc_new w _
 have HV0:=ab (hv.later hb0).any;have HTB:=ab (ht.keep hb0);have HSM:=ab hsm;have HMAY:=ab hmay;have HWF:=ab hwf;have HBX0:=ab hbx0;have HLEN:=ab hlen;have HM:=ab hm;rw [hw0] at HV0;have HW0:=ab hw0;clear hv hrs hx hsm hmay hwf ht hbx0 hw0 hlen hm;unfold rxc at HV0 ⊢;go_enter Tryz.func23,Tryz.ntmps23
 go_wp2_with (go_at_call 37;refine(AF Any _ _ _ HM.out HSM.out HV0.out).mono ?_)
 first|rintro e w1 rfl hb1|rintro e w1 ⟨rfl,hb1⟩
 rw [HMAY.out];have hb1':Below w0.heap.size w0 w1:=by rw [HW0.out];exact hb1.mono gz
 have HV1:=ab ((show RxV w0 Any _ _ by rw [HW0.out];exact HV0.out).later hb1');have HTB1:=ab (HTB.out.keep hb1');have hbx1:=(hb1'.block _ (ky HBX0.out)).trans HBX0.out;have hbw1:Below w.heap.size w w1:=hb0.trans (hb1'.mono hb0.size);have hz1:=hbw1.size;have hl1:=ky hbx1;have e0:w1.cell? ⟨w.heap.size,0,none⟩=some (.int .i64 k):=by rw [Ic hbx1];rfl
 have e1:w1.cell? ⟨w.heap.size,1,none⟩=some (.string ⟨c.toArray⟩):=by rw [Ic hbx1];rfl
 have e2:w1.cell? ⟨w.heap.size,2,none⟩=some (.bool ng):=by rw [Ic hbx1];rfl
 have e3:w1.cell? ⟨w.heap.size,3,none⟩=some (.slice ra rs.length rc):=by rw [Ic hbx1];rfl
 have e4:w1.cell? ⟨w.heap.size,4,none⟩=some (.int .i64 lo):=by rw [Ic hbx1];rfl
 have e5:w1.cell? ⟨w.heap.size,5,none⟩=some (.int .i64 hi):=by rw [Ic hbx1];rfl
 have e6:w1.cell? ⟨w.heap.size,6,none⟩=some (.bool lz):=by rw [Ic hbx1];rfl
 have e7:w1.cell? ⟨w.heap.size,7,none⟩=some (.slice ka ks.length kc):=by rw [Ic hbx1];rfl
 have HV2:=ab ((HV1.out.mono (S':=(·<w1.heap.size)) (fun _ _ h=>h)).later ((Below.refl _ _).alloc (Ia _) (.cells #[.pointer none,.slice none 0 0] 54)));have HTB2:=ab (HTB1.out.keep ((Below.refl _ _).alloc (Ia _) (.cells #[.pointer none,.slice none 0 0] 54)));have hgT:=HTB1.out.lt;clear hb1 hbx1;go_wp2_with (go_at_call 38;refine((Ca w1.heap.size w1.heap.size hgT _ _ (Ia _) HSM.out HWF.out).at_ (acc:=[]) HV2.out (Bld.fresh _ _ (Ia _)) gz HTB2.out (Iz _) HLEN.out).mono ?_)
 first|rintro e w2 rfl hbl2 hfr2|rintro e w2 ⟨rfl,hbl2,hfr2⟩
 have hB2:w1.heap.size≤w2.heap.size:=by have:=hfr2.size;simp at this;omega
 have hbw2:Below w1.heap.size w1 w2:=((Below.refl _ _).alloc (Ia _) _).trans (hfr2.below gz gz);go_wp2_with (go_at_call 21;refine(rC _ _ _ _ hbl2 hB2).mono ?_;rintro e w3 ⟨rfl,hb3⟩)
 go_ret2
 exact⟨rfl,hbw1.trans ((hbw2.trans hb3).mono hz1)⟩
def QuRel (th l:Str) (g:Nat) (w0:World) (R:Str) (q:Value) (wr:World):Prop :=
 ∃(i:Nat) (acc:Str),i≤l.length∧q=.int .i64 i∧Bld w0.heap.size g acc wr∧Below w0.heap.size w0 wr∧acc.length≤2*i∧Hid (acc++quot th (l.drop i)=R)
theorem nL (l th:Str) (w:World) (hs:l.length≤1000000) :
  Calls Tryz.prog 86 #[.string ⟨l.toArray⟩,.string ⟨th.toArray⟩] w fun e w'=>e=.returned (.string ⟨(quot th l).toArray⟩)∧Below w.heap.size w w':=by
 generalize hR:quot th l=R
 have HR:=ab hR;clear hR;have HR0:Hid ([]++quot th (l.drop 0)=R):=HR;clear HR;go_enter Tryz.func86,Tryz.ntmps86
 go_wp2
 go_loopw [6] (fun q wr=>QuRel th l w.heap.size w R q wr) (fun q _=>l.length-(intOf q).toNat)
 case atStart=>exact⟨0,[],by omega,rfl,Bld.fresh _ _ (Ia _),(Below.refl _ _).alloc (Ia _) _,by simp,HR0⟩
 case round =>
  obtain⟨i,acc,hi,rfl,hbl,hb,hacc,HF⟩:=hrel;clear HR0;have hB:=hb.size;cases hd:l.drop i with
  | nil =>
   have h2:=lX hd;have HF':Hid (acc=R):=ab (by rw [←HF.out,hd];simp [quot]);clear hd HF;go_wp2_with (go_at_call 21;refine(rC _ _ _ _ hbl hB).mono ?_;rintro e w1 ⟨rfl,hb1⟩)
   go_ret
   exact⟨tb HF'.out,hb.trans hb1⟩
  | cons c r =>
   obtain⟨h2,h3,hr⟩:=kY hd;have HF':Hid (acc++((if th.contains c=true then [92,c] else [c])++quot th r)=R):=ab ic;have Hr:=ab hr;have hc256:=u8_lt c;clear hd HF hr;by_cases hc:th.contains c=true
   ·obtain⟨k,hk⟩:=yK hc
    have HK:=ab hk;have HC:=ab hc;clear hk hc;go_wp2_with (first|(go_at_call 47;refine(lB _ HK.out).mono ?_;rintro e w1 ⟨rfl,rfl⟩)|(go_at_call 34;refine(kQ w.heap.size _ (acc) (92) _ hbl gK gj gj gj).mono ?_))
    rintro e w2 ⟨rfl,hbl2,hfr2⟩;have hb2:=hb.trans (hfr2.below hB gz);have hB2:=hb2.size;go_wp2_with (go_at_call 34;refine(kQ w.heap.size _ (acc++[92]) ((c.toNat:Int)) _ hbl2 gK gj gj gj).mono ?_)
    rintro e w3 ⟨rfl,hbl3,hfr3⟩;go_wp2_with fail
    go_roundw
    case rel =>
     refine⟨i+1,acc++[92,c],by omega,by go_num,?_,hb2.trans (hfr3.below hB2 gz),by simp;omega,ab ?_⟩
     ·simpa using hbl3
     ·rw [Hr.out,←HF'.out,Hu HC.out];simp
    case measure=>simp [intOf];omega
   ·have hk:=um hc
    have HK:=ab hk;have HC:=ab hc;clear hk hc;go_wp2_with (first|(go_at_call 47;refine(lB _ HK.out).mono ?_;rintro e w1 ⟨rfl,rfl⟩)|(go_at_call 34;refine(kQ w.heap.size _ (acc) ((c.toNat:Int)) _ hbl gK gj gj gj).mono ?_))
    rintro e w2 ⟨rfl,hbl2,hfr2⟩;go_wp2_with fail
    go_roundw
    case rel =>
     refine⟨i+1,acc++[c],by omega,by go_num,?_,hb.trans (hfr2.below hB gz),by simp;omega,ab ?_⟩
     ·simpa using hbl2
     ·rw [Hr.out,←HF'.out,Hx HC.out];simp
    case measure=>simp [intOf];omega
theorem xO:∀(pt:Bool) (fs:List Fm),mayL pt fs=true→∀f∈fs,mayF f=true
 | _,[],_,f,hf=>by simp at hf
 | pt,g::r,h,f,hf=>by
  simp only [mayL,Ie] at h;rcases Ii.1 hf with rfl|hf
  ·exact h.1.1
  ·exact xO _ r h.2 f hf
theorem mayF_n {f:Fm} (h:mayF f=true):0≤f.n∧f.n≤9999:=by
 unfold mayF at h;rw [Ie] at h;simpa using h.1
theorem Gv {f:Fm} (h:mayF f=true):f.kind=0∨f.kind=1∨f.kind=2∨f.kind=3∨f.kind=4∨f.kind=5:=by
 unfold mayF at h;rw [Ie] at h;have h2:=h.2;by_cases h0:f.kind=0
 ·exact .inl h0
 by_cases h1:f.kind=1
 ·exact .inr (.inl h1)
 by_cases h3:f.kind=2
 ·exact .inr (.inr (.inl h3))
 by_cases h4:f.kind=3
 ·exact .inr (.inr (.inr (.inl h4)))
 by_cases h5:f.kind=4
 ·exact .inr (.inr (.inr (.inr (.inl h5))))
 by_cases h6:f.kind=5
 ·exact .inr (.inr (.inr (.inr (.inr h6))))
 rw [Hx h0,Hx h1,Hx h3,Hx h4,Hx h5,Hx h6] at h2;cases h2
end Go.Proofs.YtdcnncgpomcaaaaGreatDoor
