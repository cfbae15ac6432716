/- walk of rxtree.fields: the rest -/
import Derived.Test.YtbnkaecmgfolpaaGreatJb9
set_option maxRecDepth 100000
set_option maxHeartbeats 4000000
namespace Go.Proofs.YtbnkaecmgfolpaaGreat
open Go.RowKit
theorem any_no2 (ks:List Rx):(!anyK ks [0,1])=ks.all fun x=>decide (x.kind≠0∧x.kind≠1):=by
 induction ks with
 | nil=>rfl
 | cons x r ih =>
  exact cU
theorem any_no1 (ks:List Rx):(!anyK ks [1])=ks.all fun x=>decide (x.kind≠1):=by
 induction ks with
 | nil=>rfl
 | cons x r ih =>
  exact cU
theorem rQ {S:Nat→Prop} {xa:Option Addr} {xc m:Nat} {xs:List Rx} {zs:List Int} {a:Option Addr} {n c:Nat} {b:Bool} (w:World) (h0:anyK xs zs=b)
  (hx:RxSl w S xa m xs) (hxn:xs.length≤100000000) (h:Sl w w.heap.size a 1 n (kR zs)) (hn:n≤100000000) :
  Calls Tryz.prog 154 #[.slice xa m xc,.slice a n c] w fun e w'=>e=.returned (.bool b)∧Below w.heap.size w w':=by
 obtain rfl:=hx.len;subst h0;exact some_any S xa xc xs zs a n c w hx hxn h hn
theorem fields_0 (S:Nat→Prop) (c:Str) (ng:Bool) (ra:Option Addr) (rs:List (Str × Str)) (rc:Nat) (lo hi:Int) (lz:Bool) (ka:Option Addr) (ks:List Rx) (kc:Nat) (w:World)
  (hx:RxSl w S ka ks.length ks) (hsm:(Rx.mk 0 c ng rs lo hi lz ks).small1) :
  Calls Tryz.prog 116 #[.agg #[.int .i64 0,.string ⟨c.toArray⟩,.bool ng,.slice ra rs.length rc,.int .i64 lo,.int .i64 hi,.bool lz,.slice ka ks.length kc]] w fun e w'=>e=.returned (.bool (iA (.mk 0 c ng rs lo hi lz ks)))∧Below w.heap.size w w':=by
 generalize hR:iA (.mk 0 c ng rs lo hi lz ks)=R
 have HR:=ab hR;clear hR;have HS:Hid (R=(kq c ng rs.length lo hi lz&&decide (ks.length≠1)&&!anyK ks [0,1])):=ab (by rw [←HR.out,←kF 0 c ng rs lo hi lz ks,any_no2];rfl);obtain⟨s1,s2,s3,s4⟩:=hsm;clear HR s3;cases hbv:kq c ng rs.length lo hi lz with
 | false =>
  exact aE
 | true =>
  have HB:=ab hbv;have HR:Hid (R=(decide (ks.length≠1)&&!anyK ks [0,1])):=ab fp;clear hbv;obtain⟨b,hab⟩:∃b,anyK ks [0,1]=b:=⟨_,rfl⟩;have HA:=ab hab;rw [hab] at HR;clear hab;rcases ks with _|⟨x,_|⟨y,ks⟩⟩
  ·have HR2:Hid (R=!b):=ab (by rw [HR.out];simp)
   go_enter Tryz.func116,Tryz.ntmps116
   go_wp2_with (first|(((go_at_call 151;refine(jD _ HB.out).mono ?_;rintro e w1 ⟨rfl,hb1,hc1⟩;have hq7:=hc1 ⟨w.heap.size,7,none⟩ (.slice ka (0) kc) eB));have HX1:=ab ((hx.later ((Below.refl _ _).alloc (wY _) _)).later hb1))|(go_at_call 154;refine(rQ (zs:=[0,1]) _ HA.out (HX1.out.later ((Below.refl _ _).alloc (wY _) _)) fw (Sl.lit (n:=2) (heap_alloc_new w1 (.cells #[.int .i64 0,.int .i64 1] 3)) rfl) ez).mono ?_;rintro e w2 ⟨rfl,hb2⟩))
   exact br
  ·have HR2:Hid (R=false):=ab fh
   exact dB
  ·have HR2:Hid (R=!b):=ab (by rw [HR.out];simp)
   simp only [xg] at s4;go_enter Tryz.func116,Tryz.ntmps116
   go_wp2_with (first|(((go_at_call 151;refine(jD _ HB.out).mono ?_;rintro e w1 ⟨rfl,hb1,hc1⟩;have hq7:=hc1 ⟨w.heap.size,7,none⟩ (.slice ka (ks.length+1+1) kc) eB));have HX1:=ab ((hx.later ((Below.refl _ _).alloc (wY _) _)).later hb1))|(go_at_call 154;refine(rQ (zs:=[0,1]) _ HA.out (HX1.out.later ((Below.refl _ _).alloc (wY _) _)) fw (Sl.lit (n:=2) (heap_alloc_new w1 (.cells #[.int .i64 0,.int .i64 1] 3)) rfl) ez).mono ?_;rintro e w2 ⟨rfl,hb2⟩))
   exact br
theorem fields_1 (S:Nat→Prop) (c:Str) (ng:Bool) (ra:Option Addr) (rs:List (Str × Str)) (rc:Nat) (lo hi:Int) (lz:Bool) (ka:Option Addr) (ks:List Rx) (kc:Nat) (w:World)
  (hx:RxSl w S ka ks.length ks) (hsm:(Rx.mk 1 c ng rs lo hi lz ks).small1) :
  Calls Tryz.prog 116 #[.agg #[.int .i64 1,.string ⟨c.toArray⟩,.bool ng,.slice ra rs.length rc,.int .i64 lo,.int .i64 hi,.bool lz,.slice ka ks.length kc]] w fun e w'=>e=.returned (.bool (iA (.mk 1 c ng rs lo hi lz ks)))∧Below w.heap.size w w':=by
 generalize hR:iA (.mk 1 c ng rs lo hi lz ks)=R
 have HR:=ab hR;clear hR;have HS:Hid (R=(kq c ng rs.length lo hi lz&&decide (1<ks.length)&&!anyK ks [1])):=ab (by rw [←HR.out,←kF 1 c ng rs lo hi lz ks,any_no1];rfl);obtain⟨s1,s2,s3,s4⟩:=hsm;clear HR s3;cases hbv:kq c ng rs.length lo hi lz with
 | false =>
  exact aE
 | true =>
  have HB:=ab hbv;have HR:Hid (R=(decide (1<ks.length)&&!anyK ks [1])):=ab fp;clear hbv;obtain⟨b,hab⟩:∃b,anyK ks [1]=b:=⟨_,rfl⟩;have HA:=ab hab;rw [hab] at HR;clear hab;rcases ks with _|⟨x,_|⟨y,ks⟩⟩
  ·have HR2:Hid (R=false):=ab fh
   exact dA
  ·have HR2:Hid (R=false):=ab fh
   exact dB
  ·have HR2:Hid (R=!b):=ab (by rw [HR.out];simp)
   simp only [xg] at s4;go_enter Tryz.func116,Tryz.ntmps116
   go_wp2_with (first|(((go_at_call 151;refine(jD _ HB.out).mono ?_;rintro e w1 ⟨rfl,hb1,hc1⟩;have hq7:=hc1 ⟨w.heap.size,7,none⟩ (.slice ka (ks.length+1+1) kc) eB));have HX1:=ab ((hx.later ((Below.refl _ _).alloc (wY _) _)).later hb1))|(go_at_call 154;refine(rQ (zs:=[1]) _ HA.out (HX1.out.later ((Below.refl _ _).alloc (wY _) _)) fw (Sl.lit (n:=1) (heap_alloc_new w1 (.cells #[.int .i64 1] 3)) rfl) ez).mono ?_;rintro e w2 ⟨rfl,hb2⟩))
   exact br
def oneB (ks:List Rx):Bool:=match ks with|[x]=>repB x.kind|_=>false
theorem rX {k:Int} {b:Bool} (w:World) (h:repB k=b):Calls Tryz.prog 153 #[.int .i64 k] w fun e w'=>e=.returned (.bool b)∧w=w':=by
 subst h;exact qC k w
theorem fields_7 (S:Nat→Prop) (c:Str) (ng:Bool) (ra:Option Addr) (rs:List (Str × Str)) (rc:Nat) (lo hi:Int) (lz:Bool) (ka:Option Addr) (ks:List Rx) (kc:Nat) (w:World)
  (hx:RxSl w S ka ks.length ks) (hsm:(Rx.mk 7 c ng rs lo hi lz ks).small1) :
  Calls Tryz.prog 116 #[.agg #[.int .i64 7,.string ⟨c.toArray⟩,.bool ng,.slice ra rs.length rc,.int .i64 lo,.int .i64 hi,.bool lz,.slice ka ks.length kc]] w fun e w'=>e=.returned (.bool (iA (.mk 7 c ng rs lo hi lz ks)))∧Below w.heap.size w w':=by
 generalize hR:iA (.mk 7 c ng rs lo hi lz ks)=R
 have HR:=ab hR;clear hR;have HS:Hid (R=(kq c ng rs.length 0 0 false&&oneB ks&&decide (0≤lo∧lo≤255∧(hi=-1∨lo≤hi∧hi≤255)))):=ab (by rw [←HR.out,←kF 7 c ng rs 0 0 false ks];rfl);obtain⟨s1,s2,s3,s4⟩:=hsm;clear HR s3;cases hbv:kq c ng rs.length 0 0 false with
 | false =>
  have HB:=ab hbv;have HR:Hid (R=false):=ab fp;clear hbv;go_enter Tryz.func116,Tryz.ntmps116
  go_wp2
  go_quiet (fail)
  go_wp2_with (go_at_call 151;refine(jD _ HB.out).mono ?_;rintro e w1 ⟨rfl,hb1,hc1⟩;have hq7:=hc1 ⟨w.heap.size,7,none⟩ (.slice ka (ks.length) kc) (by simp [go_sem]))
  go_ret
  exact⟨gX HR.out.symm,((((below_drewN ((Below.refl w.heap.size w).alloc (wY _) _) _).setCell eB _).setCell eB _).setCell eB _).trans (hb1.mono gC)⟩
 | true =>
  have HB:=ab hbv;have HR:Hid (R=(oneB ks&&decide (0≤lo∧lo≤255∧(hi=-1∨lo≤hi∧hi≤255)))):=ab fp;clear hbv;rcases ks with _|⟨x,_|⟨y,ks⟩⟩
  ·have HR2:Hid (R=false):=ab fh
   go_enter Tryz.func116,Tryz.ntmps116
   go_wp2
   go_quiet (fail)
   go_wp2_with (go_at_call 151;refine(jD _ HB.out).mono ?_;rintro e w1 ⟨rfl,hb1,hc1⟩;have hq7:=hc1 ⟨w.heap.size,7,none⟩ (.slice ka (0) kc) (by simp [go_sem]))
   exact bW
  ·obtain⟨xk,xc,xn,xr,xl,xh,xz,xs⟩:=x
   obtain⟨b,o,_,_,_,_,rfl,_,hbB,_,_,_,q0,_⟩:=hx.cells (m:=0) rfl;simp only [Nat.zero_mul,Nat.add_zero] at q0;obtain⟨rb,hrb⟩:∃rb,repB xk=rb:=⟨_,rfl⟩;have HRB:=ab hrb;have HR2:Hid (R=(rb&&decide (0≤lo∧lo≤255∧(hi=-1∨lo≤hi∧hi≤255)))):=ab (by rw [HR.out,←HRB.out];rfl);clear hrb;cases rb
   all_goals
    go_enter Tryz.func116,Tryz.ntmps116
    go_wp2
    go_quiet (fail)
    go_wp2_with (first|(go_at_call 151;refine(jD _ HB.out).mono ?_;rintro e w1 ⟨rfl,hb1,hc1⟩;have hq7:=hc1 ⟨w.heap.size,7,none⟩ (.slice (some ⟨b,o,none⟩) 1 kc) (by simp [go_sem]);have hq0:w1.cell? ⟨b,o,none⟩=some (.int .i64 xk):=hc1 _ _ (by simp [go_sem,World.cell?_alloc_lt,hbB,q0]))|(go_at_call 153;refine(rX _ HRB.out).mono ?_;rintro e w2 ⟨rfl,rfl⟩))
    all_goals
     go_ret
     refine⟨gX ?_,((((below_drewN ((Below.refl w.heap.size w).alloc (wY _) _) _).setCell eB _).setCell eB _).setCell eB _).trans (hb1.mono gC)⟩;rw [HR2.out];first|rfl|(rw [xy,Bool.eq_iff_iff];simp;omega)
  ·have HR2:Hid (R=false):=ab fh
   go_enter Tryz.func116,Tryz.ntmps116
   go_wp2
   go_quiet (fail)
   go_wp2_with (go_at_call 151;refine(jD _ HB.out).mono ?_;rintro e w1 ⟨rfl,hb1,hc1⟩;have hq7:=hc1 ⟨w.heap.size,7,none⟩ (.slice ka (ks.length+1+1) kc) (by simp [go_sem]))
   exact bW
theorem uv (S:Nat→Prop) (K:Int) (c:Str) (ng:Bool) (ra:Option Addr) (rs:List (Str × Str)) (rc:Nat) (lo hi:Int) (lz:Bool) (ka:Option Addr) (ks:List Rx) (kc:Nat) (w:World)
  (hr:SlS w S ra 2 rs.length (gR rs)) (hx:RxSl w S ka ks.length ks) (hsm:(Rx.mk K c ng rs lo hi lz ks).small1) :
  Calls Tryz.prog 116 #[.agg #[.int .i64 K,.string ⟨c.toArray⟩,.bool ng,.slice ra rs.length rc,.int .i64 lo,.int .i64 hi,.bool lz,.slice ka ks.length kc]] w fun e w'=>e=.returned (.bool (iA (.mk K c ng rs lo hi lz ks)))∧Below w.heap.size w w':=by
 by_cases h0:K=0
 ·subst h0;exact fields_0 S c ng ra rs rc lo hi lz ka ks kc w hx hsm
 by_cases h1:K=1
 ·subst h1;exact fields_1 S c ng ra rs rc lo hi lz ka ks kc w hx hsm
 by_cases h2:K=2
 ·subst h2;exact fields_2 c ng ra rs rc lo hi lz ka ks kc w hsm
 by_cases h4:K=4
 ·subst h4;exact fields_4 c ng ra rs rc lo hi lz ka ks kc w hr.sl hsm
 by_cases h7:K=7
 ·subst h7;exact fields_7 S c ng ra rs rc lo hi lz ka ks kc w hx hsm
 by_cases h5:K=5∨K=6
 ·exact tX K h5 c ng ra rs rc lo hi lz ka ks kc w hsm
 by_cases h3:K=3∨K=8∨K=9∨K=10∨K=11
 ·exact rU K h3 c ng ra rs rc lo hi lz ka ks kc w hsm
 ·exact sw K eu c ng ra rs.length rs rc lo hi lz ka ks.length ks kc w
def FitPost (x:Rx) (left dp:Int) (e:Ending):Prop :=
 ∃l':Int,e=.returned (.tuple #[.int .i64 l',.bool (okB x left dp)])∧(okB x left dp=true→l'=left-x.parts)
def FitRel (ks:List Rx) (R:Bool) (tot dp:Int) (w:World) (t q:Value) (wr:World):Prop :=
 ∃(k:Nat) (l:Int),k≤ks.length∧q=.int .i64 k∧t=.int .i64 l∧0≤l∧l≤100000∧Below w.heap.size w wr∧Hid (okL (ks.drop k) l dp=R)∧Hid (l-Rx.partsL (ks.drop k)=tot)
theorem okL_nil {l dp:Int} (h:0≤l) (h':0≤dp):okL [] l dp=true:=by
 unfold okL;rw [xJ (show ((Rx.partsL []:Nat):Int)≤l from h),xJ (show ((Rx.deepL []:Nat):Int)≤dp from h')];rfl
theorem mu {S:Nat→Prop} {K:Int} {c:Str} {ng:Bool} {ra:Option Addr} {rs:List (Str × Str)} {rc:Nat} {lo hi:Int} {lz:Bool} {ka:Option Addr} {ks:List Rx} {kc:Nat} {b:Bool} (w:World)
  (h:iA (.mk K c ng rs lo hi lz ks)=b) (hr:SlS w S ra 2 rs.length (gR rs)) (hx:RxSl w S ka ks.length ks) (hsm:(Rx.mk K c ng rs lo hi lz ks).small1) :
  Calls Tryz.prog 116 #[.agg #[.int .i64 K,.string ⟨c.toArray⟩,.bool ng,.slice ra rs.length rc,.int .i64 lo,.int .i64 hi,.bool lz,.slice ka ks.length kc]] w fun e w'=>e=.returned (.bool b)∧Below w.heap.size w w'∧∀a u,w.cell? a=some u→w'.cell? a=some u:=by
 subst h;exact(uv S K c ng ra rs rc lo hi lz ka ks kc w hr hx hsm).mono fun _ _ ⟨h1,h2⟩=>⟨h1,h2,gW h2⟩
theorem tz (S:Nat→Prop):∀(N:Nat) (x:Rx),x.parts≤N→x.parts≤1000000→x.small→∀(cc:List Value) (w:World) (left dp:Int),RxV w S cc x→-100000≤left→left≤100000→-100000≤dp→dp≤100000 →
  Calls Tryz.prog 81 #[.agg cc.toArray,.int .i64 left,.int .i64 dp] w fun e w'=>FitPost x left dp e∧Below w.heap.size w w'
 | 0,x,h,_,_,_,_,_,_,_,_,_,_,_=>by have:=Rx.parts_pos x;omega
 | N+1,.mk k c ng rs lo hi lz ks,h,hm,hsm,cc,w,left,dp,hv,l0,l1,d0,d1=>by
  obtain⟨ra,rc,ka,kc,rfl,hrs,hx⟩:=hv.open_;obtain⟨hs1,hs2⟩:=hsm;simp only [Rx.parts] at h hm;have hlen:=Rx.len_parts ks;have ih:=fun(y:Rx) (hy:y.parts≤Rx.partsL ks)=>tz S N y eu eu
  have IH:=ab ih;have HSM:=ab hs2;have HS1:=ab hs1;have hb0:=(Below.refl w.heap.size w).alloc (wY _) (.cells #[.int .i64 k,.string ⟨c.toArray⟩,.bool ng,.slice ra rs.length rc,.int .i64 lo,.int .i64 hi,.bool lz,.slice ka ks.length kc] 25);have HX0:=ab (hx.later hb0);have HRS:=ab (hrs.keep (Kept.all hb0));clear hx hv hrs ih hs1 hs2;unfold rxc;cases hG:grpB k with
  | true =>
   cases hF:iA (.mk k c ng rs lo hi lz ks) with
   | false =>
    exact aZ
   | true =>
    have HF:=ab hF;by_cases hld:left<1∨dp-1<0
    ·exact aX
    ·have hl1:1≤left:=eu
     have hd0:0≤dp-1:=eu;have HO:Hid (okB (.mk k c ng rs lo hi lz ks) left dp=okL ks (left-1) (dp-1)):=ab (by rw [sW,hG,hF,xJ hl1];simp;omega);clear hF hld;obtain⟨R,hR⟩:∃R,okL ks (left-1) (dp-1)=R:=⟨_,rfl⟩;have HR0:Hid (okL (ks.drop 0) (left-1) (dp-1)=R):=ab hR;have HT0:Hid (left-1-Rx.partsL (ks.drop 0)=left-(Rx.mk k c ng rs lo hi lz ks).parts):=ab (by simp only [Rx.parts,xT];omega);obtain⟨tot,htot⟩:∃tot,left-((Rx.mk k c ng rs lo hi lz ks).parts:Int)=tot:=⟨_,rfl⟩;have HOR:Hid (okB (.mk k c ng rs lo hi lz ks) left dp=R):=ab (by rw [HO.out,hR]);have HTT:=ab htot;rw [htot] at HT0;clear hR htot HO;go_enter Tryz.func81,Tryz.ntmps81
     go_wp2_with (first|(go_at_call 115;refine(ma _ _).mono ?_;rintro e w1 ⟨rfl,rfl⟩;rw [hG])|(go_at_call 116;refine(mu _ HF.out HRS.out HX0.out HS1.out).mono ?_;rintro e w1 ⟨rfl,hb1,hc1⟩;have z1:=hc1 ⟨w.heap.size,7,none⟩ (.slice ka ks.length kc) eB))
     have HX1:=ab ((HX0.out.later (Below.refl _ _)).later hb1);have hbw1:Below w.heap.size w w1:=((Below.refl _ _).alloc (wY _) _).trans (hb1.mono eB);have hz1:=hbw1.size;clear hb1 hc1 z1;go_loopw [1,33] (fun t q wr=>FitRel ks R tot (dp-1) w1 t q wr) (fun _ q _=>ks.length-(intOf q).toNat)
     case atStart=>exact⟨0,left-1,by omega,rfl,rfl,by omega,by omega,Below.refl _ _,HR0,HT0⟩
     case round =>
      obtain⟨i,l,hi,rfl,rfl,hl0,hl9,hb,HL,HTL⟩:=hrel;clear HR0 HT0;have hB:=hb.size;cases hd:ks.drop i with
      | nil =>
       exact bH
      | cons y r =>
       have HX:=HX1;obtain⟨h2,h3,hr⟩:=ig hd;obtain⟨yk,yc,yn,yr,yl,yh,yz,ys⟩:=y;obtain⟨b,o,ya,yrc,yka,ykc,rfl,hS,hbB,_,_,hyv,c0,c1,c2,c3,c4,c5,c6,c7⟩:=(HX.out.later hb).cells h3;have hyp:=Rx.parts_mem (xA h3);have hym:=jH HSM.out (xA h3);have Hr:=ab hr;have HE:Hid (R=(okB (.mk yk yc yn yr yl yh yz ys) l (dp-1)&&okL r (l-(Rx.mk yk yc yn yr yl yh yz ys).parts) (dp-1))):=ab (by rw [←HL.out,hd,s7]);have HE2:Hid (l-(Rx.mk yk yc yn yr yl yh yz ys).parts-Rx.partsL r=tot):=ab (by rw [←HTL.out,hd];simp only [Rx.partsL];omega);have HYV:=ab (hyv.later ((Below.refl wr.heap.size wr).alloc (wY _) (.cells (rxc yk yc yn ya yr.length yrc yl yh yz yka ys.length ykc).toArray 25)));unfold rxc at HYV;have HYM:=ab hym;clear hd HL HTL hr h3 hyv hym;go_wp2_with (go_at_call 81;refine(IH.out _ hyp HYM.out _ _ l (dp-1) HYV.out eu eu eu eu).mono ?_)
       rintro e w2 ⟨⟨l',rfl,hl'⟩,hb2⟩;have hbw2:Below w.heap.size w w2:=hbw1.trans (((hb.alloc hB _).trans (hb2.mono eC)).mono hz1);cases hok:okB (.mk yk yc yn yr yl yh yz ys) l (dp-1) with
       | false =>
        exact cg
       | true =>
        have hl2:=hl' hok;have hpp:(Rx.mk yk yc yn yr yl yh yz ys).parts≤l:=by
         have h:=hok;simp only [okB,xi,wS] at h;exact h.1.2
        have HE3:Hid (okL r l' (dp-1)=R):=ab (by rw [HE.out,hok,hl2];rfl);exact bC
  | false =>
   cases hF:iA (.mk k c ng rs lo hi lz ks) with
   | false =>
    exact aZ
   | true =>
    have HF:=ab hF;by_cases hld:left<1∨dp<0
    ·exact aX
    ·have hl1:1≤left:=eu
     have hd0:0≤dp:=eu;have HO:Hid (okB (.mk k c ng rs lo hi lz ks) left dp=okL ks (left-1) (dp)):=ab (by rw [sW,hG,hF,xJ hl1];simp;omega);clear hF hld;obtain⟨R,hR⟩:∃R,okL ks (left-1) (dp)=R:=⟨_,rfl⟩;have HR0:Hid (okL (ks.drop 0) (left-1) (dp)=R):=ab hR;have HT0:Hid (left-1-Rx.partsL (ks.drop 0)=left-(Rx.mk k c ng rs lo hi lz ks).parts):=ab (by simp only [Rx.parts,xT];omega);obtain⟨tot,htot⟩:∃tot,left-((Rx.mk k c ng rs lo hi lz ks).parts:Int)=tot:=⟨_,rfl⟩;have HOR:Hid (okB (.mk k c ng rs lo hi lz ks) left dp=R):=ab (by rw [HO.out,hR]);have HTT:=ab htot;rw [htot] at HT0;clear hR htot HO;go_enter Tryz.func81,Tryz.ntmps81
     go_wp2_with (first|(go_at_call 115;refine(ma _ _).mono ?_;rintro e w1 ⟨rfl,rfl⟩;rw [hG])|(go_at_call 116;refine(mu _ HF.out HRS.out HX0.out HS1.out).mono ?_;rintro e w1 ⟨rfl,hb1,hc1⟩;have z1:=hc1 ⟨w.heap.size,7,none⟩ (.slice ka ks.length kc) eB))
     have HX1:=ab ((HX0.out.later (Below.refl _ _)).later hb1);have hbw1:Below w.heap.size w w1:=((Below.refl _ _).alloc (wY _) _).trans (hb1.mono eB);have hz1:=hbw1.size;clear hb1 hc1 z1;go_loopw [1,33] (fun t q wr=>FitRel ks R tot (dp) w1 t q wr) (fun _ q _=>ks.length-(intOf q).toNat)
     case atStart=>exact⟨0,left-1,by omega,rfl,rfl,by omega,by omega,Below.refl _ _,HR0,HT0⟩
     case round =>
      obtain⟨i,l,hi,rfl,rfl,hl0,hl9,hb,HL,HTL⟩:=hrel;clear HR0 HT0;have hB:=hb.size;cases hd:ks.drop i with
      | nil =>
       exact bH
      | cons y r =>
       have HX:=HX1;obtain⟨h2,h3,hr⟩:=ig hd;obtain⟨yk,yc,yn,yr,yl,yh,yz,ys⟩:=y;obtain⟨b,o,ya,yrc,yka,ykc,rfl,hS,hbB,_,_,hyv,c0,c1,c2,c3,c4,c5,c6,c7⟩:=(HX.out.later hb).cells h3;have hyp:=Rx.parts_mem (xA h3);have hym:=jH HSM.out (xA h3);have Hr:=ab hr;have HE:Hid (R=(okB (.mk yk yc yn yr yl yh yz ys) l (dp)&&okL r (l-(Rx.mk yk yc yn yr yl yh yz ys).parts) (dp))):=ab (by rw [←HL.out,hd,s7]);have HE2:Hid (l-(Rx.mk yk yc yn yr yl yh yz ys).parts-Rx.partsL r=tot):=ab (by rw [←HTL.out,hd];simp only [Rx.partsL];omega);have HYV:=ab (hyv.later ((Below.refl wr.heap.size wr).alloc (wY _) (.cells (rxc yk yc yn ya yr.length yrc yl yh yz yka ys.length ykc).toArray 25)));unfold rxc at HYV;have HYM:=ab hym;clear hd HL HTL hr h3 hyv hym;go_wp2_with (go_at_call 81;refine(IH.out _ hyp HYM.out _ _ l (dp) HYV.out eu eu eu eu).mono ?_)
       rintro e w2 ⟨⟨l',rfl,hl'⟩,hb2⟩;have hbw2:Below w.heap.size w w2:=hbw1.trans (((hb.alloc hB _).trans (hb2.mono eC)).mono hz1);cases hok:okB (.mk yk yc yn yr yl yh yz ys) l (dp) with
       | false =>
        exact cg
       | true =>
        have hl2:=hl' hok;have hpp:(Rx.mk yk yc yn yr yl yh yz ys).parts≤l:=by
         have h:=hok;simp only [okB,xi,wS] at h;exact h.1.2
        have HE3:Hid (okL r l' (dp)=R):=ab (by rw [HE.out,hok,hl2];rfl);exact bC
theorem ou (S:Nat→Prop) (x:Rx) (cc:List Value) (w:World) (hm:x.parts≤1000000) (hsm:x.small) (hv:RxV w S cc x) :
  Calls Tryz.prog 50 #[.agg cc.toArray] w fun e w'=>e=.returned (.bool (mayB x))∧Below w.heap.size w w':=by
 obtain⟨k,c,ng,rs,lo,hi,lz,ks⟩:=x;obtain⟨ra,rc,ka,kc,rfl,hrs,hx⟩:=hv.open_;have HV:=ab (hv.later ((Below.refl w.heap.size w).alloc (wY _) (.cells #[.int .i64 k,.string ⟨c.toArray⟩,.bool ng,.slice ra rs.length rc,.int .i64 lo,.int .i64 hi,.bool lz,.slice ka ks.length kc] 25)));have HSM:=ab hsm;have HM:=ab hm;clear hv hrs hx hsm hm;unfold rxc at HV ⊢;go_enter Tryz.func50,Tryz.ntmps50
 go_wp2_with (go_at_call 81;refine(tz S _ _ (wY _) HM.out HSM.out _ _ 512 16 HV.out ez ez ez ez).mono ?_;rintro e w1 ⟨⟨l',rfl,hl'⟩,hb1⟩)
 exact df
theorem nv {fn:Func} {p u1 u2 u3:Tmp} {ty t:TypeId} {tmps:Array Value} {w:World} {b:Nat} {cs:Array Value} {f:Nat × Nat} {fs:Array Field} {n:Nat} {v1 v2 v3:Value} (hr:fn.results=#[.cell p ty,.tmp u1,.tmp u2,.tmp u3]) (hu:Tryz.prog.underlying ty=some (.struct fs)) (hi:(Tryz.prog.info? ty).map (·.size)=some n)
  (h:w.heap[b]?=some (.cells cs t f)) (hn:cs.size=n) (hp:tmps.getD p undef=.pointer (some ⟨b,0,none⟩)) (hv1:tmps.getD u1 undef=v1) (hv2:tmps.getD u2 undef=v2) (hv3:tmps.getD u3 undef=v3):(results fn tmps).run Tryz.prog w=.ok (.tuple #[.agg cs,v1,v2,v3]) w:=by
 subst hn;have e:(results fn tmps).run Tryz.prog w=((asAddr (tmps.getD p undef)).run Tryz.prog w).andThen fun a w₁=>((loadVar ty a).run Tryz.prog w₁).andThen fun v w₂=>.ok (.tuple #[v,tmps.getD u1 undef,tmps.getD u2 undef,tmps.getD u3 undef]) w₂:=by
  simp only [results,hr];simp [Sem.run_bind,Result.andThen]
 rw [e,hp,hv1,hv2,hv3];exact cX
def nI (x:Rx) (fold:Bool) (s:Str) (z:Int):Option (Nat × Nat × List (Int × Int)) × Rst:=kK (rcM fold s) x ((rcM fold s).offs.length+1) 0 (j9 x.groups z)
def FndP (x:Rx) (fold:Bool) (s:Str) (z:Int) (w:World) (e:Ending) (w':World):Prop :=
 Below w.heap.size w w' ∧
  ((mayB x=false∧e=.returned (.tuple #[mz,.int .i64 0,.bool false,.int .i64 10]))
  ∨ (mayB x=true∧(nI x fold s z).2.out=true∧e=.returned (.tuple #[mz,.int .i64 0,.bool false,.int .i64 9]))
  ∨ (mayB x=true∧(nI x fold s z).2.out=false∧(nI x fold s z).1=none∧e=.returned (.tuple #[mz,.int .i64 ((nI x fold s z).2.fuel:Int),.bool false,.int .i64 0]))
  ∨ (mayB x=true∧(nI x fold s z).2.out=false∧∃a b ps aa c,(nI x fold s z).1=some (a,b,ps)∧e=.returned (.tuple #[.agg #[.int .i64 (((rcM fold s).offs.getD a 0:Nat):Int),.int .i64 (((rcM fold s).offs.getD b 0:Nat):Int),.slice aa x.groups c],.int .i64 ((nI x fold s z).2.fuel:Int),.bool true,.int .i64 0])
    ∧ SlS w' (fun b=>w.heap.size≤b) aa 2 x.groups (gV ps)∧ps.length=x.groups∧a≤b∧b≤(rcM fold s).cs.length))
theorem told_any (S:Nat→Prop) {x:Rx} {cc:List Value} {fold:Bool} {s:Str} {z:Int} (w:World) (hv:RxV w S cc x) (hm:x.parts≤1000000) (hsm:x.small) (hwf:x.wf=true) (hs:s.length≤1000000) (hg:x.groups≤1000) :
  Calls Tryz.prog 86 #[.agg cc.toArray,.bool fold,.string ⟨s.toArray⟩,.int .i64 0,.int .i64 z,.func (.func 84) #[] #[]] w (FndP x fold s z w):=by
 have hv0:=hv;obtain⟨X,hX⟩:∃X,X=x:=⟨_,rfl⟩;obtain⟨kd,ch,ng,rs,lo,hi,lz,ks⟩:=x;obtain⟨ra,rc,ka,kc,rfl,hrs,hks⟩:=hv0.open_;rw [←hX];obtain⟨W1,hW1⟩:∃W1,W1=(w.alloc (.cells (rxc kd ch ng ra rs.length rc lo hi lz ka ks.length kc).toArray 25)).alloc (.cells #[.int .i64 0,.int .i64 0,.slice none 0 0] 72):=⟨_,rfl⟩;have hb1:Below w.heap.size w W1:=by rw [hW1];exact((Below.refl _ _).alloc (wY _) _).alloc eB _
 have hz1:W1.heap.size=w.heap.size+2:=by rw [hW1];simp
 have hx1:W1.heap[w.heap.size]?=some (.cells (rxc kd ch ng ra rs.length rc lo hi lz ka ks.length kc).toArray 25 (0,0)):=by rw [hW1,Below.heap_alloc _ _ _ eB];exact heap_alloc_new w _
 have hy1:W1.heap[w.heap.size+1]?=some (.cells #[.int .i64 0,.int .i64 0,.slice none 0 0] 72 (0,0)):=by
  exact cd
 rw [←hX] at hv hm hsm hwf hg;have hv1:=hv.later hb1;have HM:=ab (ou S X _ W1 hm hsm hv1);have x0:W1.cell? ⟨w.heap.size,0,none⟩=some (.int .i64 kd):=by rw [xe hx1];rfl
 have x1:W1.cell? ⟨w.heap.size,1,none⟩=some (.string ⟨ch.toArray⟩):=by rw [xe hx1];rfl
 have x2:W1.cell? ⟨w.heap.size,2,none⟩=some (.bool ng):=by rw [xe hx1];rfl
 have x3:W1.cell? ⟨w.heap.size,3,none⟩=some (.slice ra rs.length rc):=by rw [xe hx1];rfl
 have x4:W1.cell? ⟨w.heap.size,4,none⟩=some (.int .i64 lo):=by rw [xe hx1];rfl
 have x5:W1.cell? ⟨w.heap.size,5,none⟩=some (.int .i64 hi):=by rw [xe hx1];rfl
 have x6:W1.cell? ⟨w.heap.size,6,none⟩=some (.bool lz):=by rw [xe hx1];rfl
 have x7:W1.cell? ⟨w.heap.size,7,none⟩=some (.slice ka ks.length kc):=by rw [xe hx1];rfl
 have HB1:=ab hb1;have HZ1:=ab hz1;have HX1:=ab hx1;have HY1:=ab hy1;have HW1:=ab hW1;have HV1:=ab hv1;have HXe:=ab hX;clear hb1 hz1 hx1 hy1 hW1 hv1 hX hrs hks hv hv0;unfold rxc at HM HW1 ⊢;go_enter Tryz.func86,Tryz.ntmps86
 go_upto_region 1 with fail
 rw [←HW1.out];go_wp2_with (go_at_call 50;refine HM.out.mono ?_)
 first|rintro e w2 rfl hb2|rintro e w2 ⟨rfl,hb2⟩
 have HB2:=ab hb2;have keep2:∀(b:Nat) (o:Obj),W1.heap[b]?=some o→w2.heap[b]?=some o:=fun b o h=>(HB2.out.block b (gI h)).trans h
 clear hb2;cases hmb:mayB X with
 | false =>
  have hy2:=keep2 _ _ HY1.out;have HR2:=ab (ls (cs:=#[.int .i64 0,.int .i64 0,.slice none 0 0]) hy2);have HY2:=ab hy2;have HMB:=ab hmb;clear hmb hy2;go_wp2_with (refine jr rfl 72 (.tmp 12) (.tmp 23) rfl (w.heap.size+1) (#[.int .i64 0,.int .i64 0,.slice none 0 0]) rfl rfl 72 _ (HY2.out) (iw) rfl rfl (eG) (W:=(w2.setRow (w.heap.size+1) #[.int .i64 0,.int .i64 0,.slice none 0 0])) (rfl) ?_)
  refine xE (nv Tryz.results86 ja iw HR2.out rfl rfl rfl rfl rfl) rfl ?_;exact⟨below_setRow (bel2 HB1.out HB2.out) eu _,.inl ⟨HMB.out,rfl⟩⟩
 | true =>
  have HMB:=ab hmb;clear hmb;have hx2:=keep2 _ _ HX1.out;have HY2:=ab (keep2 _ _ HY1.out);have hc:∀(j:Nat) (v:Value),W1.cell? ⟨w.heap.size,j,none⟩=some v→w2.cell? ⟨w.heap.size,j,none⟩=some v:=fun j v h=>by rw [←h];exact World.cell?_of_block (HB2.out.block _ (gI HX1.out))
  have x0:=hc _ _ x0;have x1:=hc _ _ x1;have x2:=hc _ _ x2;have x3:=hc _ _ x3;have x4:=hc _ _ x4;have x5:=hc _ _ x5;have x6:=hc _ _ x6;have x7:=hc _ _ x7;have HBG:=ab (qW S (fold:=fold) (s:=s) (z:=z) w2 (HV1.out.later HB2.out) hsm hwf hs hg);have hz2:=HB2.out.size;unfold rxc at HBG;clear hc hx2;go_wp2_with (go_at_call 83;refine HBG.out.mono ?_)
  rintro e w3 ⟨R,rfl,hB⟩;have hy3:=(hB.bel.block _ (gI HY2.out)).trans HY2.out;have hf:=th hB.j hB.run hB.tr (k:=0) (N:=R.C.offs.length+1) eu (by have:=hB.j.of;omega);have hpl:=qE R.S R.oa R.oc R.C.offs w3 (by rw [hB.j.of];exact hB.run.of) (by have:=hB.j.of;have:=hB.j.cs;omega) hB.up 0 (by have:=hB.j.of;omega) 0 (by rw [hB.C];exact(iZ _ 0 eu).trans rfl);rw [hB.j.of] at hpl;obtain⟨q,hq⟩:∃q,kK R.C X (R.C.offs.length+1) 0 (j9 X.groups z)=q:=⟨_,rfl⟩;have hqf:nI X fold s z=q:=by unfold nI;rw [←hB.C];exact hq
  rw [hq] at hf;have cell:∀(w9:World) (s9:Rst) (_:RunJ R w9 s9) (jj:Nat) (u:Value),[Value.bool R.C.fold,.slice R.ca R.C.cs.length R.cc,.slice R.oa (R.C.cs.length+1) R.oc,.slice R.pa R.n R.pc,.int .i64 (s9.fuel:Int),.bool s9.out][jj]?=some u→w9.cell? ⟨R.r,11+jj,none⟩=some u:=fun w9 s9 hj jj u hu=>by
   exact ck
  have c14:w3.cell? ⟨R.r,13,none⟩=some (.slice R.oa (R.C.cs.length+1) R.oc):=cell _ _ hB.run 2 _ rfl;have HF:=ab hf;have HPL:Hid (Calls Tryz.prog 85 #[.slice R.oa (R.C.cs.length+1) R.oc,.int .i64 0] w3 fun e w'=>e=.returned (.tuple #[.int .i64 0,.bool true])∧w3=w'):=ab hpl;have HQ:=ab hqf;have HB:=ab hB;have HY3:=ab hy3;have HCL:=ab cell;clear hf hpl hq hqf hB hy3 cell x0 x1 x2 x3 x4 x5 x6 x7 HBG HM;go_wp2_with (first|(go_at_call 85;refine HPL.out.mono ?_;rintro e w9 ⟨rfl,rfl⟩)|(go_at_call 84;refine HF.out.mono ?_))
  rintro e w4 ⟨hj4,hg4,hm4⟩;obtain⟨ia,ib,aa,nn,cc,ok,rfl,hend⟩:∃(ia ib:Int) (aa:Option Addr) (nn cc:Nat) (ok:Bool),e=.returned (.tuple #[.agg #[.int .i64 ia,.int .i64 ib,.slice aa nn cc],.bool ok]) ∧
    ((q.1=none∧ok=false∧ia=0∧ib=0∧aa=none∧nn=0∧cc=0)∨(∃a b ps,q.1=some (a,b,ps)∧ok=true∧ia=((R.C.offs.getD a 0:Nat):Int)∧ib=((R.C.offs.getD b 0:Nat):Int)∧nn=R.n∧SlS w4 (fun b=>w3.heap.size≤b) aa 2 R.n (gV ps)∧ps.length=R.n∧a≤b∧b≤R.C.cs.length)):=by
   cases hq1:q.1 with
   | none=>rw [hq1] at hm4;exact⟨0,0,none,0,0,false,hm4,.inl ⟨rfl,rfl,rfl,rfl,rfl,rfl,rfl⟩⟩
   | some t =>
    obtain⟨a,b,ps⟩:=t;rw [hq1] at hm4;obtain⟨aa,c,he,h1,h2,_,h4,h5⟩:=hm4;exact⟨_,_,aa,R.n,c,true,he,.inr ⟨a,b,ps,rfl,rfl,rfl,rfl,rfl,h1,h2,h4,h5⟩⟩
  obtain⟨W5,hW5⟩:∃W5,W5=w4.alloc (.cells #[.int .i64 ia,.int .i64 ib,.slice aa nn cc] 72):=⟨_,rfl⟩;have hb5:Below w4.heap.size w4 W5:=by rw [hW5];exact(Below.refl _ _).alloc (wY _) _
  have hl5:W5.heap[w4.heap.size]?=some (.cells #[.int .i64 ia,.int .i64 ib,.slice aa nn cc] 72 (0,0)):=by rw [hW5];exact heap_alloc_new w4 _
  have hj5:=hj4.later hb5;have z3:=HB.out.bel.size;have z4:=hg4.size;have hy4:=Gx.heap hg4 HY3.out (fun h=>by have h1:=HB.out.new _ h;have h2:=HB2.out.size;have h3:=HZ1.out;omega);have hy5:=(hb5.block _ (gI hy4)).trans hy4;have b24:Below w2.heap.size w2 W5:=HB.out.bel.trans ((hg4.below (xb (wY _) z3) (fun k hk=>HB.out.new k hk)).trans (hb5.mono eu));have hbw:Below w.heap.size w W5:=(bel2 HB1.out HB2.out).trans (b24.mono (by have:=HZ1.out;omega));obtain⟨oo,hoo⟩:∃o,q.2.out=o:=⟨_,rfl⟩;obtain⟨ff,hff⟩:∃f,q.2.fuel=f:=⟨_,rfl⟩;have c16:W5.cell? ⟨R.r,16,none⟩=some (.bool oo):=by rw [←hoo];exact HCL.out _ _ hj5 5 _ rfl
  have c15:W5.cell? ⟨R.r,15,none⟩=some (.int .i64 (ff:Int)):=by rw [←hff];exact HCL.out _ _ hj5 4 _ rfl
  have m0:W5.cell? ⟨w4.heap.size,0,none⟩=some (.int .i64 ia):=by rw [xe hl5];rfl
  have m1:W5.cell? ⟨w4.heap.size,1,none⟩=some (.int .i64 ib):=by rw [xe hl5];rfl
  have m2:W5.cell? ⟨w4.heap.size,2,none⟩=some (.slice aa nn cc):=by rw [xe hl5];rfl
  have hend5:(q.1=none∧ok=false∧ia=0∧ib=0∧aa=none∧nn=0∧cc=0)∨(∃a b ps,q.1=some (a,b,ps)∧ok=true∧ia=((R.C.offs.getD a 0:Nat):Int)∧ib=((R.C.offs.getD b 0:Nat):Int)∧nn=R.n∧SlS W5 (fun b=>w3.heap.size≤b) aa 2 R.n (gV ps)∧ps.length=R.n∧a≤b∧b≤R.C.cs.length):=hend.imp id (fun⟨a,b,ps,h1,h2,h3,h4,h5,h6,h7⟩=>⟨a,b,ps,h1,h2,h3,h4,h5,SlS.keep h6 (Kept.all hb5),h7⟩);have HEND:=ab hend5;have HW5:=ab hW5;have HBW:=ab hbw;have HY5:=ab hy5;have HOO:=ab hoo;have HFF:=ab hff;clear hj4 hg4 hm4 hend hend5 hW5 hb5 hl5 hj5 hy4 hy5 b24 hbw hoo hff z4 c14 HF HPL;cases oo with
  | true =>
   have HR5:=ab (ls (cs:=#[.int .i64 0,.int .i64 0,.slice none 0 0]) HY5.out);go_upto_region 8 with fail
   rw [←HW5.out];go_wp2_with (refine jr rfl 72 (.tmp 12) (.tmp 52) rfl (w.heap.size+1) (#[.int .i64 0,.int .i64 0,.slice none 0 0]) rfl rfl 72 _ (HY5.out) (iw) rfl rfl (eG) (W:=(W5.setRow (w.heap.size+1) #[.int .i64 0,.int .i64 0,.slice none 0 0])) (rfl) ?_)
   refine xE (nv Tryz.results86 ja iw HR5.out rfl rfl rfl rfl rfl) rfl ?_;exact⟨below_setRow HBW.out eu _,.inr (.inl ⟨HMB.out,by rw [HQ.out];exact HOO.out,rfl⟩)⟩
  | false =>
   go_upto_region 8 with fail
   rw [←HW5.out];go_upto_region 10 with fail
   have hne:R.r≠w.heap.size+1:=fun h=>by have h1:=HB.out.new R.r (.inl rfl);have h2:=HB2.out.size;have h3:=HZ1.out;omega
   have e15:W5.drew.cell? ⟨R.r,15,none⟩=some (.int .i64 (ff:Int)):=c15;have n0:W5.drew.cell? ⟨w4.heap.size,0,none⟩=some (.int .i64 ia):=m0;have n1:W5.drew.cell? ⟨w4.heap.size,1,none⟩=some (.int .i64 ib):=m1;have n2:W5.drew.cell? ⟨w4.heap.size,2,none⟩=some (.slice aa nn cc):=m2;have HYD:Hid (W5.drew.heap[w.heap.size+1]?=some (.cells #[.int .i64 0,.int .i64 0,.slice none 0 0] 72 (0,0))):=ab HY5.out;clear c15 c16 m0 m1 m2;have hyd:=HYD.out;have b0:W5.drew.cell? ⟨w.heap.size+1,0,none⟩=some (.int .i64 0):=by rw [xe hyd];rfl
   have b1:W5.drew.cell? ⟨w.heap.size+1,1,none⟩=some (.int .i64 0):=by rw [xe hyd];rfl
   have b2:W5.drew.cell? ⟨w.heap.size+1,2,none⟩=some (.slice none 0 0):=by rw [xe hyd];rfl
   have f0:W5.drew.frozen? ⟨w.heap.size+1,0,none⟩=false:=by simp only [World.frozen?,hyd];simp
   have f1:W5.drew.frozen? ⟨w.heap.size+1,1,none⟩=false:=by simp only [World.frozen?,hyd];simp
   have f2:W5.drew.frozen? ⟨w.heap.size+1,2,none⟩=false:=by simp only [World.frozen?,hyd];simp
   have hne2:w.heap.size+1≠R.r:=Ne.symm hne;have g0:W5.cell? ⟨w.heap.size+1,0,none⟩=some (.int .i64 0):=b0;have g1:W5.cell? ⟨w.heap.size+1,1,none⟩=some (.int .i64 0):=b1;have g2:W5.cell? ⟨w.heap.size+1,2,none⟩=some (.slice none 0 0):=b2;have k0:W5.frozen? ⟨w.heap.size+1,0,none⟩=false:=f0;have k1:W5.frozen? ⟨w.heap.size+1,1,none⟩=false:=f1;have k2:W5.frozen? ⟨w.heap.size+1,2,none⟩=false:=f2;have k15:W5.cell? ⟨R.r,15,none⟩=some (.int .i64 (ff:Int)):=e15;clear hyd;obtain⟨W6,hW6⟩:∃W6,(((W5.setCell ⟨w.heap.size+1,0,none⟩ (.int .i64 ia)).setCell ⟨w.heap.size+1,1,none⟩ (.int .i64 ib)).setCell ⟨w.heap.size+1,2,none⟩ (.slice aa nn cc)).drew=W6:=⟨_,rfl⟩;have y1:(W5.setCell ⟨w.heap.size+1,0,none⟩ (.int .i64 ia)).heap[w.heap.size+1]?=some (.cells #[.int .i64 ia,.int .i64 0,.slice none 0 0] 72 (0,0)):=by rw [heap_setCell_same _ _ _ _ _ _ HY5.out];rfl
   have y2:((W5.setCell ⟨w.heap.size+1,0,none⟩ (.int .i64 ia)).setCell ⟨w.heap.size+1,1,none⟩ (.int .i64 ib)).heap[w.heap.size+1]?=some (.cells #[.int .i64 ia,.int .i64 ib,.slice none 0 0] 72 (0,0)):=by rw [heap_setCell_same _ _ _ _ _ _ y1];rfl
   have y3:W6.heap[w.heap.size+1]?=some (.cells #[.int .i64 ia,.int .i64 ib,.slice aa nn cc] 72 (0,0)):=by
    rw [←hW6];show (((W5.setCell ⟨w.heap.size+1,0,none⟩ (.int .i64 ia)).setCell ⟨w.heap.size+1,1,none⟩ (.int .i64 ib)).setCell ⟨w.heap.size+1,2,none⟩ (.slice aa nn cc)).heap[w.heap.size+1]?=_
    rw [heap_setCell_same _ _ _ _ _ _ y2];rfl
   have x6:Gx (fun k=>k=w.heap.size+1) W5 W6:=by
    rw [←hW6];exact(((Gx.set (X:=fun k=>k=w.heap.size+1) W5 (a:=⟨w.heap.size+1,0,none⟩) _ rfl).to (Gx.set (X:=fun k=>k=w.heap.size+1) _ _ rfl) (fun _ _ h=>h)).to (Gx.set (X:=fun k=>k=w.heap.size+1) _ _ rfl) (fun _ _ h=>h)).to (Gx.of_below (X:=fun _=>False) (Below.refl _ _).drew) (fun _ _ h=>h.elim)
   have b6:Below w.heap.size w W6:=HBW.out.trans (x6.below (by have:=HBW.out.size;omega) (fun k hk=>by have:k=w.heap.size+1:=hk;omega));have HP:Hid (FndP X fold s z w (.returned (.tuple #[.agg #[.int .i64 ia,.int .i64 ib,.slice aa nn cc],.int .i64 (ff:Int),.bool ok,.int .i64 0])) W6):=ab (by
    refine⟨b6,?_⟩;rw [HQ.out];rcases HEND.out with⟨h1,rfl,rfl,rfl,rfl,rfl,rfl⟩|⟨a,b,ps,h1,rfl,rfl,rfl,rfl,h6,h7,h8,h9⟩
    ·exact .inr (.inr (.inl ⟨HMB.out,HOO.out,h1,by rw [HFF.out];rfl⟩))
    ·refine .inr (.inr (.inr ⟨HMB.out,HOO.out,a,b,ps,aa,cc,h1,by rw [HFF.out,HB.out.C,HB.out.n],?_,by rw [h7,HB.out.n],h8,by rw [←HB.out.C];exact h9⟩))
     rw [←HB.out.n];refine(SlS.keep h6 (x6.kept fun b hb e=>?_)).mono fun b hb _=>?_
     ·have h1:w3.heap.size≤b:=hb
      have h2:b=w.heap.size+1:=e;have:=HB2.out.size
      have:=HZ1.out
      omega
     ·have h1:w3.heap.size≤b:=hb
      have:=HB2.out.size
      have:=HZ1.out
      omega)
   have HY6:=ab y3;have HW6:=ab hW6;clear y1 y2 y3 x6 b6 hW6;go_region_law (fail)
   all_goals
    simp [Act.put]
    rw [HW6.out];go_wp2
    refine xE (nv Tryz.results86 ja iw HY6.out rfl rfl rfl rfl rfl) rfl ?_;exact HP.out
theorem FndP.form {x:Rx} {fold:Bool} {s:Str} {z:Int} {w:World} {e:Ending} {w':World} (h:FndP x fold s z w e w') :
  ∃(ia ib:Int) (aa:Option Addr) (nn cc:Nat) (ff:Int) (ok:Bool) (er:Int),e=.returned (.tuple #[.agg #[.int .i64 ia,.int .i64 ib,.slice aa nn cc],.int .i64 ff,.bool ok,.int .i64 er]) ∧
   ∀(w0 w9:World),Below w0.heap.size w0 w9→w0.heap.size≤w.heap.size→Gx (fun k=>k<w.heap.size) w' w9→FndP x fold s z w0 e w9:=by
 obtain⟨_,h1|h1|h1|h1⟩:=h
 ·obtain⟨h1,rfl⟩:=h1
  exact⟨0,0,none,0,0,0,false,10,rfl,fun w0 w9 hb _ _=>⟨hb,.inl ⟨h1,rfl⟩⟩⟩
 ·obtain⟨h1,h2,rfl⟩:=h1
  exact⟨0,0,none,0,0,0,false,9,rfl,fun w0 w9 hb _ _=>⟨hb,.inr (.inl ⟨h1,h2,rfl⟩)⟩⟩
 ·obtain⟨h1,h2,h3,rfl⟩:=h1
  exact⟨0,0,none,0,0,_,false,0,rfl,fun w0 w9 hb _ _=>⟨hb,.inr (.inr (.inl ⟨h1,h2,h3,rfl⟩))⟩⟩
 ·obtain⟨h1,h2,a,b,ps,aa,c,h3,rfl,h4,h5⟩:=h1
  exact⟨_,_,aa,_,c,_,true,0,rfl,fun w0 w9 hb hle hg=>⟨hb,.inr (.inr (.inr ⟨h1,h2,a,b,ps,aa,c,h3,rfl,(SlS.keep h4 (hg.kept fun b hb e=>by
   have h6:w.heap.size≤b:=hb;have h7:b<w.heap.size:=e;omega)).mono (fun b hb _=>xb hle hb),h5⟩))⟩⟩
theorem Find_any (S:Nat→Prop) {x:Rx} {cc:List Value} {fold:Bool} {s:Str} {z:Int} (w:World) (hv:RxV w S cc x) (hm:x.parts≤1000000) (hsm:x.small) (hwf:x.wf=true) (hs:s.length≤1000000) (hg:x.groups≤1000) :
  Calls Tryz.prog 56 #[.agg cc.toArray,.bool fold,.string ⟨s.toArray⟩,.int .i64 0,.int .i64 z] w (FndP x fold s z w):=by
 have hv0:=hv;obtain⟨X,hX⟩:∃X,X=x:=⟨_,rfl⟩;obtain⟨kd,ch,ng,rs,lo,hi,lz,ks⟩:=x;obtain⟨ra,rc,ka,kc,rfl,hrs,hks⟩:=hv0.open_;rw [←hX];obtain⟨W1,hW1⟩:∃W1,W1=(w.alloc (.cells (rxc kd ch ng ra rs.length rc lo hi lz ka ks.length kc).toArray 25)).alloc (.cells #[.int .i64 0,.int .i64 0,.slice none 0 0] 72):=⟨_,rfl⟩;have hb1:Below w.heap.size w W1:=by rw [hW1];exact((Below.refl _ _).alloc (wY _) _).alloc eB _
 have hz1:W1.heap.size=w.heap.size+2:=by rw [hW1];simp
 have hx1:W1.heap[w.heap.size]?=some (.cells (rxc kd ch ng ra rs.length rc lo hi lz ka ks.length kc).toArray 25 (0,0)):=by rw [hW1,Below.heap_alloc _ _ _ eB];exact heap_alloc_new w _
 have hy1:W1.heap[w.heap.size+1]?=some (.cells #[.int .i64 0,.int .i64 0,.slice none 0 0] 72 (0,0)):=by
  exact cd
 rw [←hX] at hv hm hsm hwf hg;have hv1:=hv.later hb1;have HT:=ab (told_any S (fold:=fold) (s:=s) (z:=z) W1 hv1 hm hsm hwf hs hg);have x0:W1.cell? ⟨w.heap.size,0,none⟩=some (.int .i64 kd):=by rw [xe hx1];rfl
 have x1:W1.cell? ⟨w.heap.size,1,none⟩=some (.string ⟨ch.toArray⟩):=by rw [xe hx1];rfl
 have x2:W1.cell? ⟨w.heap.size,2,none⟩=some (.bool ng):=by rw [xe hx1];rfl
 have x3:W1.cell? ⟨w.heap.size,3,none⟩=some (.slice ra rs.length rc):=by rw [xe hx1];rfl
 have x4:W1.cell? ⟨w.heap.size,4,none⟩=some (.int .i64 lo):=by rw [xe hx1];rfl
 have x5:W1.cell? ⟨w.heap.size,5,none⟩=some (.int .i64 hi):=by rw [xe hx1];rfl
 have x6:W1.cell? ⟨w.heap.size,6,none⟩=some (.bool lz):=by rw [xe hx1];rfl
 have x7:W1.cell? ⟨w.heap.size,7,none⟩=some (.slice ka ks.length kc):=by rw [xe hx1];rfl
 have HB1:=ab hb1;have HZ1:=ab hz1;have HY1:=ab hy1;have HW1:=ab hW1;have HXe:=ab hX;clear hb1 hz1 hx1 hy1 hW1 hv1 hX hrs hks hv hv0;unfold rxc at HT HW1 ⊢;go_enter Tryz.func56,Tryz.ntmps56
 go_upto_region 1 with fail
 rw [←HW1.out];go_wp2_with (go_at_call 86;refine HT.out.mono ?_)
 intro e w2 h2;obtain⟨ia,ib,aa,nn,cc,ff,ok,er,rfl,hend⟩:=h2.form;have hb2:=h2.1;have hy2:=(hb2.block _ (gI HY1.out)).trans HY1.out;have hgr:=nf w2 (w.heap.size+1) #[.int .i64 ia,.int .i64 ib,.slice aa nn cc];have hz1:=HZ1.out;have hfin:=hend w _ (below_setRow (bel2 HB1.out hb2) eu #[.int .i64 ia,.int .i64 ib,.slice aa nn cc]) eu ((Gx.refl (fun k=>k<W1.heap.size) w2).to hgr (fun k _ (hk:k=w.heap.size+1)=>by show k<W1.heap.size;omega));have HR2:=ab (ls (cs:=#[.int .i64 ia,.int .i64 ib,.slice aa nn cc]) hy2);have HY2:=ab hy2;have HFIN:=ab hfin;clear h2 hend hb2 hy2 hgr hfin x0 x1 x2 x3 x4 x5 x6 x7 HT;go_wp2_with (refine jr rfl 72 (.tmp 10) (.tmp 20) rfl (w.heap.size+1) (#[.int .i64 ia,.int .i64 ib,.slice aa nn cc]) rfl rfl 72 _ (HY2.out) (iw) rfl rfl (eG) (W:=(w2.setRow (w.heap.size+1) #[.int .i64 ia,.int .i64 ib,.slice aa nn cc])) (rfl) ?_)
 refine xE (nv Tryz.results56 ja iw HR2.out rfl rfl rfl rfl rfl) rfl ?_;exact HFIN.out
def mQ:Str→Nat→Nat→Option (Nat × Str)
 | [],k,n=>if 0<k then some (n,[]) else none
 | c::r,k,n=>if 48≤c.toNat∧c.toNat≤57 then(if k=4 then none else mQ r (k+1) (10*n+(c.toNat-48))) else if 0<k then some (n,c::r) else none
def mB (r:Str):Option (Nat × Str):=mQ r 0 0
def kP (r these:Str):Bool:=match r with|[]=>false|c::_=>these.contains c
def four:Str:=[36,125,92,47]
def five:Str:=[36,125,92,47,58]
def ie (one:Int):Str→Str→Option (Str × Str)
 | [],_=>none
 | [c],t=>if c.toNat=one.toNat then some (t,[c]) else none
 | c::d::r,t=>if c.toNat=one.toNat then some (t,c::d::r) else if c.toNat=92∧five.contains d=true then ie one r (t++[d]) else ie one (d::r) (t++[c])
structure Fm where
 kind:Int
 n:Int
 cse:Int
 thn:Str
 els:Str
deriving DecidableEq
def jm (d:UInt8):Bool:=decide (d.toNat≠125)
def jh (r:Str) (n:Nat):Option (Fm × Str) :=
 match r with
 | []=>none
 | c::r' =>
  if c.toNat=47 then
   (match r'.dropWhile jm with
    | []=>none
    | _::r2=>if lT (r'.takeWhile jm)=0 then none else some (⟨2,n,lT (r'.takeWhile jm),[],[]⟩,r2))
  else if c.toNat=43 then
   (match ie 125 r' [] with
    | some (t,_::r2)=>some (⟨3,n,0,t,[]⟩,r2)
    | _=>none)
  else if c.toNat=63 then
   (match ie 58 r' [] with
    | some (t,_::r2) =>
     (match ie 125 r2 [] with
     | some (u,_::r3)=>some (⟨5,n,0,t,u⟩,r3)
     | _=>none)
    | _=>none)
  else if c.toNat=45 then
   (match ie 125 r' [] with
    | some (t,_::r2)=>some (⟨4,n,0,[],t⟩,r2)
    | _=>none)
  else
   (match ie 125 (c::r') [] with
    | some (t,_::r2)=>some (⟨4,n,0,[],t⟩,r2)
    | _=>none)
def partC (n:Nat):Str→Option (Fm × Str)
 | []=>none
 | d::r3=>if d.toNat=125 then some (⟨1,n,0,[],[]⟩,r3) else if d.toNat=58 then jh r3 n else none
def partB:Str→Option (Fm × Str)
 | []=>none
 | c::r1=>if c.toNat=123 then(match mB r1 with|none=>none|some p=>partC p.1 p.2) else none
def lU (r:Str):Option (Fm × Str) :=
 match mB r with
 | some p=>some (⟨1,p.1,0,[],[]⟩,p.2)
 | none=>partB r
theorem jn (one:Int):∀(r t:Str) {u s:Str},ie one r t=some (u,s)→∃c s',s=c::s'∧c.toNat=one.toNat
 | [],t,u,s,h=>by simp [ie] at h
 | [c],t,u,s,h=>by
  simp only [ie] at h;split at h
  ·rename_i hc;simp at h;exact⟨c,[],h.2.symm,hc⟩
  ·cases h
 | c::d::r,t,u,s,h=>by
  simp only [ie] at h;split at h
  ·rename_i hc;simp at h;exact⟨c,d::r,h.2.symm,hc⟩
  ·split at h
   ·exact jn one r _ h
   ·exact jn one (d::r) _ h
theorem tj:∀(r:Str) (k n:Nat) {m:Nat} {s:Str},mQ r k n=some (m,s)→s.length≤r.length∧(k=0→s.length<r.length)
 | [],k,n,m,s,h=>by
  simp only [mQ] at h;exact cP
 | c::r,k,n,m,s,h=>by
  simp only [mQ] at h;split at h
  ·split at h
   ·cases h
   ·have:=tj r (k+1) _ h;simp;omega
  ·exact cP
theorem tf {r:Str} {m:Nat} {s:Str} (h:mB r=some (m,s)):s.length<r.length:=(tj r 0 0 h).2 rfl
theorem kv (one:Int):∀(r t:Str) {u s:Str},ie one r t=some (u,s)→s.length≤r.length
 | [],t,u,s,h=>by simp [ie] at h
 | [c],t,u,s,h=>by
  simp only [ie] at h;split at h
  ·simp at h;rw [←h.2];simp
  ·cases h
 | c::d::r,t,u,s,h=>by
  simp only [ie] at h;split at h
  ·simp at h;rw [←h.2];simp
  ·split at h
   ·have:=kv one r _ h;simp;omega
   ·have:=kv one (d::r) _ h;simp at *;omega
theorem rS {r:Str} {n:Nat} {f:Fm} {s:Str} (h:jh r n=some (f,s)):s.length<r.length:=by
 cases r with
 | nil=>cases h
 | cons c r =>
  simp only [jh] at h;split at h
  ·have h1:=xM List.length (xL (p:=jm) (l:=r))
   split at h
   ·cases h
   ·rename_i heq
    split at h
    ·cases h
    ·injection h with h;injection h with _ h;subst h
     rw [heq] at h1;simp at h1 ⊢;omega
  ·split at h
   ·exact bR
   ·split at h
    ·split at h
     ·rename_i heq
      have h1:=kv _ _ _ heq;split at h
      ·rename_i heq2
       have h2:=kv _ _ _ heq2;exact dX
      ·cases h
     ·cases h
    ·split at h
     ·exact bR
     ·exact bR
theorem nV {r:Str} {f:Fm} {s:Str} (h:lU r=some (f,s)):s.length<r.length:=by
 unfold lU at h;split at h
 ·rename_i p heq
  obtain⟨m,s'⟩:=p;have:=tf heq
  injection h with h;injection h with _ h;subst h;exact this
 ·cases r with
  | nil=>cases h
  | cons c r =>
   simp only [partB] at h;split at h
   ·split at h
    ·cases h
    ·rename_i p heq
     obtain⟨m,s'⟩:=p;have h1:=tf heq;cases s' with
     | nil=>cases h
     | cons d r3 =>
      simp only [partC] at h;split at h
      ·exact dX
      ·split at h
       ·have:=rS h;simp at *;omega
       ·cases h
   ·cases h
def j0 (tx:Str) (fs:List Fm):List Fm:=if tx=[] then fs else fs++[⟨0,0,0,tx,[]⟩]
def nY:Nat→Str→Str→List Fm→Option (List Fm × Str)
 | 0,_,_,_=>none
 | _+1,[],_,_=>none
 | k+1,c::r,tx,fs =>
  if c.toNat=47 then some (j0 tx fs,c::r)
  else if c.toNat=36 then
   (match lU r with
    | some p=>nY k p.2 [] (j0 tx fs++[p.1])
    | none=>nY k r (tx++[c]) fs)
  else if c.toNat=92∧kP r four=true then nY k (r.drop 1) (tx++r.take 1) fs
  else nY k r (tx++[c]) fs
theorem kh:∀(k k':Nat) (r tx:Str) (fs:List Fm),r.length<k→r.length<k'→nY k r tx fs=nY k' r tx fs
 | 0,_,_,_,_,h,_=>by omega
 | _+1,0,_,_,_,_,h=>by omega
 | k+1,k'+1,[],tx,fs,_,_=>rfl
 | k+1,k'+1,c::r,tx,fs,h,h'=>by
  simp only [xg] at h h';have hd:(r.drop 1).length≤r.length:=eB;simp only [nY];rw [kh k k' r (tx++[c]) fs eu eu,kh k k' (r.drop 1) (tx++r.take 1) fs eu eu];cases hp:lU r with
  | none=>rfl
  | some p =>
   have hl:=nV (f:=p.1) (s:=p.2) hp;simp only [];rw [kh k k' p.2 [] _ eu eu]
def jZ (r tx:Str) (fs:List Fm):Option (List Fm × Str):=nY (r.length+1) r tx fs
theorem jT (c:UInt8) (r tx:Str) (fs:List Fm):jZ (c::r) tx fs =
  if c.toNat=47 then some (j0 tx fs,c::r)
  else if c.toNat=36 then
   (match lU r with
    | some p=>jZ p.2 [] (j0 tx fs++[p.1])
    | none=>jZ r (tx++[c]) fs)
  else if c.toNat=92∧kP r four=true then jZ (r.drop 1) (tx++r.take 1) fs
  else jZ r (tx++[c]) fs:=by
 have hd:(r.drop 1).length≤r.length:=eB;simp only [jZ,nY,xg];rw [kh (r.length+1) ((r.drop 1).length+1) (r.drop 1) (tx++r.take 1) fs eu eu];cases hp:lU r with
 | none=>rfl
 | some p =>
  have hl:=nV (f:=p.1) (s:=p.2) hp;simp only [];rw [kh (r.length+1) (p.2.length+1) p.2 [] _ eu eu]
def Fm.cells (f:Fm):List Value:=[.int .i64 f.kind,.int .i64 f.n,.int .i64 f.cse,.string ⟨(f.thn).toArray⟩,.string ⟨(f.els).toArray⟩]
def iV (fs:List Fm):List Value:=fs.flatMap Fm.cells
theorem mv (fs:List Fm):(iV fs).length=fs.length*5:=by
 induction fs with
 | nil=>rfl
 | cons f fs ih=>simp only [iV,xj,xm] at *;rw [ih];simp [Fm.cells];omega
theorem kZ {fs:List Fm} {k:Nat} {f:Fm} (h:fs[k]?=some f) (j:Nat) (hj:j<5):(iV fs)[k*5+j]?=f.cells[j]?:=by
 induction fs generalizing k with
 | nil=>simp at h
 | cons g fs ih =>
  cases k with
  | zero =>
   simp at h;subst h
   simp only [iV,xj,Nat.zero_mul,Nat.zero_add];rw [xp (by simp [Fm.cells];omega)]
  | succ k =>
   simp only [List.getElem?_cons_succ] at h;simp only [iV,xj];rw [xx (by simp [Fm.cells];omega)];rw [show (k+1)*5+j-g.cells.length=k*5+j by simp [Fm.cells];omega];exact ih h
theorem Sl.fm {w:World} {B:Nat} {a:Option Addr} {n:Nat} {fs:List Fm} (h:Sl w B a 5 n (iV fs)) {k:Nat} {f:Fm} (hk:fs[k]?=some f) :
  ∃b o,a=some ⟨b,o,none⟩∧b<B∧w.cell? ⟨b,o+k*5,none⟩=some (.int .i64 f.kind)∧w.cell? ⟨b,o+k*5+1,none⟩=some (.int .i64 f.n)∧w.cell? ⟨b,o+k*5+2,none⟩=some (.int .i64 f.cse) ∧
   w.cell? ⟨b,o+k*5+3,none⟩=some (.string ⟨(f.thn).toArray⟩)∧w.cell? ⟨b,o+k*5+4,none⟩=some (.string ⟨(f.els).toArray⟩):=by
 have hlt:=(wZ.1 hk).1;have hn:n=fs.length:=by have:=h.1;rw [mv] at this;omega
 obtain⟨b,o,h1,h2,h3⟩:=h.2 eu;refine⟨b,o,h1,h2,?_,?_,?_,?_,?_⟩
 ·exact h3 (k*5+0) _ (kZ hk 0 eu)
 ·exact h3 (k*5+1) _ (kZ hk 1 eu)
 ·exact h3 (k*5+2) _ (kZ hk 2 eu)
 ·exact h3 (k*5+3) _ (kZ hk 3 eu)
 ·exact h3 (k*5+4) _ (kZ hk 4 eu)
def jw (f:Fm) (n way thn els:Bool):Bool:=(n||decide (f.n=0))&&(way||decide (f.cse=0))&&(thn||decide (f.thn=[]))&&(els||decide (f.els=[]))
def mayF (f:Fm):Bool :=
 decide (0≤f.n∧f.n≤9999) &&
 (if f.kind=0 then jw f false false true false&&decide (f.thn≠[])
  else if f.kind=1 then jw f true false false false
  else if f.kind=2 then jw f true true false false&&decide (kS f.cse≠[])
  else if f.kind=3 then jw f true false true false
  else if f.kind=4 then jw f true false false true
  else if f.kind=5 then jw f true false true true
  else false)
def mayL:Bool→List Fm→Bool
 | _,[]=>true
 | pt,f::r=>mayF f&&!(decide (f.kind=0)&&pt)&&mayL (decide (f.kind=0)) r
def oP (fs:List Fm):Bool:=mayL false fs
theorem Sl.fs_len {w:World} {B:Nat} {a:Option Addr} {n:Nat} {fs:List Fm} (h:Sl w B a 5 n (iV fs)):n=fs.length:=by
 have:=h.1;rw [mv] at this;omega
theorem wv:Tryz.prog.underlying 43=some (.struct (Tryz.prog.fieldsOf 43)):=by kernel_rfl
theorem mA (f:Fm) (b1 b2 b3 b4:Bool) (w:World) :
  Calls Tryz.prog 117 #[.agg #[.int .i64 (f).kind,.int .i64 (f).n,.int .i64 (f).cse,.string ⟨((f).thn).toArray⟩,.string ⟨((f).els).toArray⟩],.bool b1,.bool b2,.bool b3,.bool b4] w fun e w'=>e=.returned (.bool (jw f b1 b2 b3 b4))∧Below w.heap.size w w':=by
 generalize hR:jw f b1 b2 b3 b4=R
 have HR:=ab hR;clear hR;cases b1<;>cases b2<;>cases b3<;>cases b4
 all_goals
  go_enter Tryz.func117,Tryz.ntmps117
  go_wp2
  all_goals
   go_ret
   refine⟨gX ?_,(Below.refl _ _).alloc (wY _) _⟩;rw [←HR.out,Bool.eq_iff_iff];simp [jw, *]
def kQ (ps:List Str) (n:Int):Str:=ps.getD n.toNat []
def jO (ps:List Str) (f:Fm):Str :=
 if f.kind=0 then f.thn
 else if f.kind=1 then kQ ps f.n
 else if f.kind=2 then(turn (kQ ps f.n) f.cse).1
 else if f.kind=4 then(if kQ ps f.n=[] then f.els else kQ ps f.n)
 else(if kQ ps f.n=[] then f.els else f.thn)
def kg (fs:List Fm) (ps:List Str):Str:=if oP fs=true then fs.flatMap (jO ps) else []
theorem sF:∀(pt:Bool) (fs:List Fm),mayL pt fs=true→∀f∈fs,mayF f=true
 | _,[],_,f,hf=>by simp at hf
 | pt,g::r,h,f,hf=>by
  simp only [mayL,xi] at h;rcases xo.1 hf with rfl|hf
  ·exact h.1.1
  ·exact sF _ r h.2 f hf
theorem mayF_n {f:Fm} (h:mayF f=true):0≤f.n∧f.n≤9999:=by
 unfold mayF at h;rw [xi] at h;simpa using h.1
theorem wI {f:Fm} (h:mayF f=true):f.kind=0∨f.kind=1∨f.kind=2∨f.kind=3∨f.kind=4∨f.kind=5:=by
 unfold mayF at h;rw [xi] at h;have h2:=h.2;by_cases h0:f.kind=0
 ·exact .inl h0
 by_cases h1:f.kind=1
 ·exact .inr (.inl h1)
 by_cases h3:f.kind=2
 ·exact .inr (.inr (.inl h3))
 by_cases h4:f.kind=3
 ·exact .inr (.inr (.inr (.inl h4)))
 by_cases h5:f.kind=4
 ·exact .inr (.inr (.inr (.inr (.inl h5))))
 by_cases h6:f.kind=5
 ·exact .inr (.inr (.inr (.inr (.inr h6))))
 rw [wX h0,wX h1,wX h3,wX h4,wX h5,wX h6] at h2;cases h2
theorem ud {ps:List Str} {m:Nat} (h:∀p∈ps,p.length≤m) (n:Int):(kQ ps n).length≤m:=by
 unfold kQ;rw [List.getD_eq_getElem?_getD];cases hg:ps[n.toNat]? with
 | none=>simp
 | some p=>exact h p (xA hg)
theorem oz {ps:List Str} {m:Nat} {f:Fm} (h:∀p∈ps,p.length≤m) (h1:f.thn.length≤m) (h2:f.els.length≤m):(jO ps f).length≤m:=by
 have h3:=ud h f.n;have h4:=lW (kQ ps f.n) f.cse;unfold jO;(repeat' split)<;>omega
def jv (s:Str) (a b:Nat):Str:=(s.drop a).take (b-a)
def lL (s:Str) (v:Int × Int):Str:=if v.1<0 then [] else jv s v.1.toNat v.2.toNat
abbrev Mt:=Nat × Nat × List (Int × Int)
def kO (s:Str) (offs:List Nat) (m:Mt):List Str:=jv s (offs.getD m.1 0) (offs.getD m.2.1 0)::m.2.2.map (lL s)
def putM (ps:List Str):List Fm→Str→Str
 | [],out=>out
 | f::r,out=>putM ps r (if out.length≤65536 then out++kg [f] ps else out)
def goM (s:Str) (offs:List Nat) (fs:List Fm):List Mt→Nat→Str→Option (Nat × Str)
 | [],at_,out=>some (at_,out)
 | m::r,at_,out =>
  if 65536<(putM (kO s offs m) fs (out++jv s at_ (offs.getD m.1 0))).length then none
  else goM s offs fs r (offs.getD m.2.1 0) (putM (kO s offs m) fs (out++jv s at_ (offs.getD m.1 0)))
def jk (x:Rx) (fold all:Bool) (s:Str) (fuel:Int):List Mt × Rst :=
 if all=true then allM (rcM fold s) x ((rcM fold s).offs.length+1) 0 (j9 x.groups fuel)
 else((kK (rcM fold s) x ((rcM fold s).offs.length+1) 0 (j9 x.groups fuel)).1.toList,(kK (rcM fold s) x ((rcM fold s).offs.length+1) 0 (j9 x.groups fuel)).2)
def ut (fs:List Fm) (s:Str) (offs:List Nat) (ms:List Mt) (left:Nat):Str × Int × Int :=
 if ms=[] then(s,(left:Int),0) else
 match goM s offs fs ms 0 [] with
 | none=>([],0,4)
 | some (at_,out)=>if 65536<out.length+(s.length-at_) then([],0,4) else(out++s.drop at_,(left:Int),0)
def oq (x:Rx) (fs:List Fm) (fold all:Bool) (s:Str) (fuel:Int):Str × Int × Int :=
 if (mayB x&&oP fs)=false then([],0,10)
 else if (jk x fold all s fuel).2.out=true then([],0,9)
 else ut fs s (rcM fold s).offs (jk x fold all s fuel).1 (jk x fold all s fuel).2.fuel
theorem aw19a:oq (.mk 2 [97] false [] 0 0 false []) [⟨2,0,1,[],[]⟩] false false [98,97,98] 100=([98,65,98],98,0):=by decide +kernel
theorem aw19b:oq (.mk 2 [98] false [] 0 0 false []) [⟨0,0,0,[120],[]⟩] false true [97,98,98] 100=([97,120,120],96,0):=by decide +kernel
end Go.Proofs.YtbnkaecmgfolpaaGreat
