/- walks of rxtree: some, fields -/
import Derived.Test.YtjggmmaojklmpaaGreatDoorKb1
set_option maxRecDepth 100000
set_option maxHeartbeats 4000000
namespace Go.Proofs.YtjggmmaojklmpaaGreatDoor
open Go.RowKit
def anyK (xs:List Rx) (zs:List Int):Bool:=xs.any fun x=>zs.contains x.kind
theorem uZ (zs:List Int) (a:Option Addr) (n c:Nat) (g:Nat) (k:Int) (ch:Str) (ng:Bool) (ra:Option Addr) (rn rc:Nat) (lo hi:Int) (lz:Bool) (ka:Option Addr) (kn kc:Nat) (w:World)
  (h:Sl w w.heap.size a 1 n (nX zs)) (hn:n≤100000000) (hg:w.cell? ⟨g,0,none⟩=some (.slice a n c)) :
  Calls Tryz.prog 117 #[.agg #[.int .i64 k,.string ⟨ch.toArray⟩,.bool ng,.slice ra rn rc,.int .i64 lo,.int .i64 hi,.bool lz,.slice ka kn kc],.pointer (some ⟨g,0,none⟩)] w fun e w'=>e=.returned (.bool (zs.contains k))∧Below w.heap.size w w':=by
 have hlt:=World.block_lt_of_cell? w _ hg;replace hlt:g<w.heap.size:=hlt;have HSl:=ab (h.alloc_self (.cells #[.int .i64 k,.string ⟨ch.toArray⟩,.bool ng,.slice ra rn rc,.int .i64 lo,.int .i64 hi,.bool lz,.slice ka kn kc] 25));clear h;go_enter Tryz.func117,Tryz.ntmps117
 go_wp2_with (go_at_call 118;refine(vy _ _ _ zs _ _ HSl.out hn).mono ?_;rintro e w1 ⟨rfl,rfl⟩)
 go_ret
 exact⟨jG fX,(Below.refl _ _).alloc (Dv _) _⟩
def SmRel (xs:List Rx) (zs:List Int) (R:Bool) (w:World) (q:Value) (wr:World):Prop :=
 ∃k:Nat,k≤xs.length∧q=.int .i64 k∧Below w.heap.size w wr∧Hid (anyK (xs.drop k) zs=R)
theorem uK (S:Nat→Prop) (xa:Option Addr) (xc:Nat) (xs:List Rx) (zs:List Int) (a:Option Addr) (n c:Nat) (g:Nat) (w:World)
  (hx:RxSl w S xa xs.length xs) (hxn:xs.length≤100000000)
  (h:Sl w w.heap.size a 1 n (nX zs)) (hn:n≤100000000) (hg:w.cell? ⟨g,0,none⟩=some (.slice a n c)) :
  Calls Tryz.prog 139 #[.slice xa xs.length xc,.func (.func 117) #[] #[.pointer (some ⟨g,0,none⟩)]] w fun e w'=>BX (anyK xs zs) e∧Below w.heap.size w w':=by
 obtain⟨R,hR⟩:∃R,anyK xs zs=R:=⟨_,rfl⟩;rw [hR];have HR0:Hid (anyK (xs.drop 0) zs=R):=ab hR;have HX:=ab hx;have HSl:=ab h;have HG:=ab hg;clear hR hx h hg;go_enter Tryz.func139,Tryz.ntmps139
 go_wp2
 go_loopw [8] (fun q wr=>SmRel xs zs R w q wr) (fun q _=>xs.length-(intOf q).toNat)
 case atStart=>exact⟨0,by omega,rfl,Below.refl _ _,HR0⟩
 case round =>
  obtain⟨k,hk,rfl,hb,HF⟩:=hrel;clear HR0;have hB:=hb.size;cases hd:xs.drop k with
  | nil =>
   have h2:xs.length≤k:=gm;have HE:Hid (R=false):=ab gC;clear hd HF;go_wp2
   go_ret
   exact⟨⟨-1,rfl,by omega,by rw [HE.out];rfl⟩,hb⟩
  | cons x r =>
   obtain⟨h2,h3,hr⟩:=jO hd;obtain⟨kd,ch,ng,rs,lo,hi,lz,ks⟩:=x;have HE:Hid (R=(zs.contains kd||anyK r zs)):=ab gC;have Hr:=ab hr;obtain⟨b,o,ra,rc,ka,kc,rfl,hS,hbB,_,_,_,c0,c1,c2,c3,c4,c5,c6,c7⟩:=(HX.out.later hb).cells h3;have HS2:=ab ((HSl.out.keep hb).mono hB);have HG2:=ab (jH hb _ _ HG.out);clear hd HF hr h3;cases hz:zs.contains kd with
   | true =>
    have HZ:=ab hz;clear hz;go_wp2_with (go_at_call 117;refine(uZ zs _ _ _ _ _ _ _ _ _ _ _ _ _ _ _ _ _ HS2.out hn HG2.out).mono ?_;rintro e w1 ⟨rfl,hb1⟩;rw [HZ.out])
    go_ret
    exact⟨⟨k,rfl,by omega,by rw [HE.out,HZ.out];simp⟩,hb.trans (hb1.mono hB)⟩
   | false =>
    have HZ:=ab hz;clear hz;go_wp2_with (go_at_call 117;refine(uZ zs _ _ _ _ _ _ _ _ _ _ _ _ _ _ _ _ _ HS2.out hn HG2.out).mono ?_;rintro e w1 ⟨rfl,hb1⟩;rw [HZ.out])
    go_roundw
    case rel=>exact⟨k+1,by omega,by go_num,hb.trans (hb1.mono hB),ab (by rw [Hr.out,HE.out,HZ.out,Bool.false_or])⟩
    case measure=>simp [intOf];omega
theorem qP (S:Nat→Prop) (xa:Option Addr) (xc:Nat) (xs:List Rx) (zs:List Int) (a:Option Addr) (n c:Nat) (g:Nat) (w:World)
  (hx:RxSl w S xa xs.length xs) (hxn:xs.length≤100000000)
  (h:Sl w w.heap.size a 1 n (nX zs)) (hn:n≤100000000) (hg:w.cell? ⟨g,0,none⟩=some (.slice a n c)) :
  Calls Tryz.prog 116 #[.slice xa xs.length xc,.func (.func 117) #[] #[.pointer (some ⟨g,0,none⟩)]] w fun e w'=>e=.returned (.bool (anyK xs zs))∧Below w.heap.size w w':=by
 have HX:=ab hx;have HSl:=ab h;have HG:=ab hg;clear hx h hg;go_enter Tryz.func116,Tryz.ntmps116
 go_wp2_with (go_at_call 139;refine(uK S _ _ xs zs _ _ _ _ _ HX.out hxn HSl.out hn HG.out).mono ?_;rintro e w1 ⟨⟨r,rfl,h1,h2⟩,hb1⟩)
 go_ret
 exact⟨jG fX,hb1⟩
theorem some_any (S:Nat→Prop) (xa:Option Addr) (xc:Nat) (xs:List Rx) (zs:List Int) (a:Option Addr) (n c:Nat) (w:World)
  (hx:RxSl w S xa xs.length xs) (hxn:xs.length≤100000000) (h:Sl w w.heap.size a 1 n (nX zs)) (hn:n≤100000000) :
  Calls Tryz.prog 95 #[.slice xa xs.length xc,.slice a n c] w fun e w'=>e=.returned (.bool (anyK xs zs))∧Below w.heap.size w w':=by
 have HX:=ab (hx.later ((Below.refl _ _).alloc (Dv _) (.cells #[.slice a n c] 119)));have HSl:=ab (h.alloc_self (.cells #[.slice a n c] 119));clear hx h;go_enter Tryz.func95,Tryz.ntmps95
 go_wp2_with (go_at_call 116;refine(qP S _ _ xs zs a n c _ _ HX.out hxn HSl.out hn fX).mono ?_;rintro e w1 ⟨rfl,hb1⟩)
 exact ex
open Go.RowKit
namespace Rx
def small1:Rx→Prop
 | mk _ c _ rs _ _ _ ks=>c.length≤1000000∧rs.length≤1000000∧(∀r∈rs,r.1.length≤1000000∧r.2.length≤1000000)∧ks.length≤1000000
mutual
def small:Rx→Prop
 | mk k c ng rs lo hi lz ks=>small1 (mk k c ng rs lo hi lz ks)∧smallL ks
def smallL:List Rx→Prop
 | []=>True
 | x::r=>small x∧smallL r
end
end Rx
theorem kV:∀{ks:List Rx} {x:Rx},Rx.smallL ks→x∈ks→x.small
 | [],_,_,h=>by simp at h
 | y::r,x,hs,h=>by
  simp only [Rx.smallL] at hs;rcases DF.1 h with rfl|h
  ·exact hs.1
  ·exact kV hs.2 h
theorem lp (k:Int) (c:Str) (ng:Bool) (rs:List (Str × Str)) (lo hi:Int) (lz:Bool) (ks:List Rx):sY (.mk k c ng rs lo hi lz ks)=lJ c ng rs.length lo hi lz:=by
 show (decide (c=[])&&!ng&&decide (rs=[])&&decide (lo=0)&&decide (hi=0)&&!lz)=_
 rw [Bool.eq_iff_iff];simp [lJ]
theorem lR {k:Int} {c:Str} {ng:Bool} {ra:Option Addr} {rn rc:Nat} {lo hi:Int} {lz:Bool} {ka:Option Addr} {kn kc:Nat} {b:Bool} (w:World) (h:lJ c ng rn lo hi lz=b) :
  Calls Tryz.prog 92 #[.agg #[.int .i64 k,.string ⟨c.toArray⟩,.bool ng,.slice ra rn rc,.int .i64 lo,.int .i64 hi,.bool lz,.slice ka kn kc]] w fun e w'=>e=.returned (.bool b)∧Below w.heap.size w w'∧∀a u,w.cell? a=some u→w'.cell? a=some u:=by
 subst h;exact(bare_any k c ng ra rn rc lo hi lz ka kn kc w).mono fun _ _ ⟨h1,h2⟩=>⟨h1,h2,jH h2⟩
def nilB (ks:List Rx):Bool:=match ks with|[]=>true|_=>false
theorem fields_2 (c:Str) (ng:Bool) (ra:Option Addr) (rs:List (Str × Str)) (rc:Nat) (lo hi:Int) (lz:Bool) (ka:Option Addr) (ks:List Rx) (kc:Nat) (w:World)
  (hsm:(Rx.mk 2 c ng rs lo hi lz ks).small1) :
  Calls Tryz.prog 68 #[.agg #[.int .i64 2,.string ⟨c.toArray⟩,.bool ng,.slice ra rs.length rc,.int .i64 lo,.int .i64 hi,.bool lz,.slice ka ks.length kc]] w fun e w'=>e=.returned (.bool (jT (.mk 2 c ng rs lo hi lz ks)))∧Below w.heap.size w w':=by
 generalize hR:jT (.mk 2 c ng rs lo hi lz ks)=R
 have HR:=ab hR;clear hR;have HS:Hid (R=(lJ [] ng rs.length lo hi lz&&nilB ks&&kj c)):=ab (by rw [←HR.out,←lp];cases ks<;>rfl);obtain⟨s1,s2,s3,s4⟩:=hsm;clear HR s3;cases hbv:lJ [] ng rs.length lo hi lz with
 | false =>
  exact aJ
 | true =>
  have HB:=ab hbv;have HR:Hid (R=(nilB ks&&kj c)):=ab ic;clear hbv;rcases ks with _|⟨x,ks⟩
  ·have HR2:Hid (R=kj c):=ab gX
   go_enter Tryz.func68,Tryz.ntmps68
   go_wp2_with (first|(go_at_call 92;refine(lR _ HB.out).mono ?_;rintro e w1 ⟨rfl,hb1,hc1⟩;have hq7:=hc1 ⟨w.heap.size,7,none⟩ (.slice ka (0) kc) fX)|(go_at_call 51;refine(nD _ _ fR).mono ?_;rintro e w2 ⟨rfl,rfl⟩))
   exact aZ
  ·exact eM
theorem fields_4 (c:Str) (ng:Bool) (ra:Option Addr) (rs:List (Str × Str)) (rc:Nat) (lo hi:Int) (lz:Bool) (ka:Option Addr) (ks:List Rx) (kc:Nat) (w:World)
  (hr:Sl w w.heap.size ra 2 rs.length (jN rs)) (hsm:(Rx.mk 4 c ng rs lo hi lz ks).small1) :
  Calls Tryz.prog 68 #[.agg #[.int .i64 4,.string ⟨c.toArray⟩,.bool ng,.slice ra rs.length rc,.int .i64 lo,.int .i64 hi,.bool lz,.slice ka ks.length kc]] w fun e w'=>e=.returned (.bool (jT (.mk 4 c ng rs lo hi lz ks)))∧Below w.heap.size w w':=by
 generalize hR:jT (.mk 4 c ng rs lo hi lz ks)=R
 have HR:=ab hR;clear hR;have HS:Hid (R=(lJ c false 0 lo hi lz&&nilB ks&&ox rs)):=ab (by rw [←HR.out,show (0:Nat)=([]:List (Str × Str)).length from rfl,←lp 4 c false [] lo hi lz ks];cases ks<;>rfl);obtain⟨s1,s2,s3,s4⟩:=hsm;have HRS:=ab hr;have HS3:=ab s3;clear HR s3 hr;cases hbv:lJ c false 0 lo hi lz with
 | false =>
  exact aJ
 | true =>
  have HB:=ab hbv;have HR:Hid (R=(nilB ks&&ox rs)):=ab ic;clear hbv;rcases ks with _|⟨x,ks⟩
  ·have HR2:Hid (R=ox rs):=ab gX
   go_enter Tryz.func68,Tryz.ntmps68
   go_wp2_with (first|(((go_at_call 92;refine(lR _ HB.out).mono ?_;rintro e w1 ⟨rfl,hb1,hc1⟩;have hq7:=hc1 ⟨w.heap.size,7,none⟩ (.slice ka (0) kc) fX));have HR1:=ab (((HRS.out.alloc_self _).keep hb1).mono hb1.size))|(go_at_call 93;refine(xt _ _ _ rs _ HR1.out fR (fun r hr=>by have:=HS3.out r hr;omega)).mono ?_;rintro e w2 ⟨rfl,hb2⟩))
   go_ret
   exact⟨jG HR2.out.symm,(((Below.refl _ _).alloc (Dv _) _).trans (hb1.mono fX)).trans (hb2.mono jd)⟩
  ·exact eM
theorem Am (K:Int) (hK:K=5∨K=6) (c:Str) (ng:Bool) (ra:Option Addr) (rs:List (Str × Str)) (rc:Nat) (lo hi:Int) (lz:Bool) (ka:Option Addr) (ks:List Rx) (kc:Nat) (w:World)
  (hsm:(Rx.mk K c ng rs lo hi lz ks).small1) :
  Calls Tryz.prog 68 #[.agg #[.int .i64 K,.string ⟨c.toArray⟩,.bool ng,.slice ra rs.length rc,.int .i64 lo,.int .i64 hi,.bool lz,.slice ka ks.length kc]] w fun e w'=>e=.returned (.bool (jT (.mk K c ng rs lo hi lz ks)))∧Below w.heap.size w w':=by
 generalize hR:jT (.mk K c ng rs lo hi lz ks)=R
 have HR:=ab hR;clear hR;have HS:Hid (R=(lJ c ng rs.length lo hi lz&&decide (ks.length=1))):=ab (by rw [←HR.out,←lp K c ng rs lo hi lz ks];rcases hK with rfl|rfl<;>rfl);obtain⟨s1,s2,s3,s4⟩:=hsm;clear HR s3;rcases hK with rfl|rfl
 all_goals
  cases hbv:lJ c ng rs.length lo hi lz with
  | false =>
   exact aJ
  | true =>
   have HB:=ab hbv;have HR:Hid (R=decide (ks.length=1)):=ab ic;clear hbv;rcases ks with _|⟨x,_|⟨y,ks⟩⟩
   ·have HR2:Hid (R=false):=ab gX
    exact eP
   ·have HR2:Hid (R=true):=ab gX
    exact eQ
   ·have HR2:Hid (R=false):=ab (by rw [HR.out];simp)
    go_enter Tryz.func68,Tryz.ntmps68
    go_wp2_with (go_at_call 92;refine(lR _ HB.out).mono ?_;rintro e w1 ⟨rfl,hb1,hc1⟩;have hq7:=hc1 ⟨w.heap.size,7,none⟩ (.slice ka (ks.length+1+1) kc) fX)
    exact aZ
theorem xE (K:Int) (hK:K=3∨K=8∨K=9∨K=10∨K=11) (c:Str) (ng:Bool) (ra:Option Addr) (rs:List (Str × Str)) (rc:Nat) (lo hi:Int) (lz:Bool) (ka:Option Addr) (ks:List Rx) (kc:Nat) (w:World)
  (hsm:(Rx.mk K c ng rs lo hi lz ks).small1) :
  Calls Tryz.prog 68 #[.agg #[.int .i64 K,.string ⟨c.toArray⟩,.bool ng,.slice ra rs.length rc,.int .i64 lo,.int .i64 hi,.bool lz,.slice ka ks.length kc]] w fun e w'=>e=.returned (.bool (jT (.mk K c ng rs lo hi lz ks)))∧Below w.heap.size w w':=by
 generalize hR:jT (.mk K c ng rs lo hi lz ks)=R
 have HR:=ab hR;clear hR;have HS:Hid (R=(lJ c ng rs.length lo hi lz&&nilB ks)):=ab (by rw [←HR.out,←lp K c ng rs lo hi lz ks];rcases hK with rfl|rfl|rfl|rfl|rfl<;>cases ks<;>rfl);obtain⟨s1,s2,s3,s4⟩:=hsm;clear HR s3;rcases hK with rfl|rfl|rfl|rfl|rfl
 all_goals
  cases hbv:lJ c ng rs.length lo hi lz with
  | false =>
   exact aJ
  | true =>
   have HB:=ab hbv;have HR:Hid (R=nilB ks):=ab ic;clear hbv;rcases ks with _|⟨x,ks⟩
   ·have HR2:Hid (R=true):=ab gX
    exact eP
   ·exact eM
theorem xZ (K:Int) (hK:¬K=0∧¬K=1∧¬K=2∧¬K=3∧¬K=4∧¬K=5∧¬K=6∧¬K=7∧¬K=8∧¬K=9∧¬K=10∧¬K=11) (c:Str) (ng:Bool) (ra:Option Addr) (rn:Nat) (rs:List (Str × Str)) (rc:Nat) (lo hi:Int) (lz:Bool) (ka:Option Addr) (kn:Nat) (ks:List Rx) (kc:Nat) (w:World) :
  Calls Tryz.prog 68 #[.agg #[.int .i64 K,.string ⟨c.toArray⟩,.bool ng,.slice ra rn rc,.int .i64 lo,.int .i64 hi,.bool lz,.slice ka kn kc]] w fun e w'=>e=.returned (.bool (jT (.mk K c ng rs lo hi lz ks)))∧Below w.heap.size w w':=by
 obtain⟨k0,k1,k2,k3,k4,k5,k6,k7,k8,k9,k10,k11⟩:=hK;have HS:Hid (jT (.mk K c ng rs lo hi lz ks)=false):=ab (by
  simp only [jT];rw [Du k2,Du k4,Du k7,Du k0,Du k1,Du fR,Du fR])
 rw [HS.out];have e0:(K==0)=false:=by simpa using k0
 have e1:(K==1)=false:=by simpa using k1
 have e2:(K==2)=false:=by simpa using k2
 have e3:(K==3)=false:=by simpa using k3
 have e4:(K==4)=false:=by simpa using k4
 have e5:(K==5)=false:=by simpa using k5
 have e6:(K==6)=false:=by simpa using k6
 have e7:(K==7)=false:=by simpa using k7
 have e8:(K==8)=false:=by simpa using k8
 have e9:(K==9)=false:=by simpa using k9
 have e10:(K==10)=false:=by simpa using k10
 have e11:(K==11)=false:=by simpa using k11
 clear k0 k1 k2 k3 k4 k5 k6 k7 k8 k9 k10 k11;go_enter Tryz.func68,Tryz.ntmps68
 go_wp2
 go_ret
 exact⟨rfl,(Below.refl _ _).alloc (Dv _) _⟩
open Go.RowKit
theorem any_no2 (ks:List Rx):(!anyK ks [0,1])=ks.all fun x=>decide (x.kind≠0∧x.kind≠1):=by
 induction ks with
 | nil=>rfl
 | cons x r ih =>
  exact ee
theorem any_no1 (ks:List Rx):(!anyK ks [1])=ks.all fun x=>decide (x.kind≠1):=by
 induction ks with
 | nil=>rfl
 | cons x r ih =>
  exact ee
theorem xR {S:Nat→Prop} {xa:Option Addr} {xc m:Nat} {xs:List Rx} {zs:List Int} {a:Option Addr} {n c:Nat} {b:Bool} (w:World) (h0:anyK xs zs=b)
  (hx:RxSl w S xa m xs) (hxn:xs.length≤100000000) (h:Sl w w.heap.size a 1 n (nX zs)) (hn:n≤100000000) :
  Calls Tryz.prog 95 #[.slice xa m xc,.slice a n c] w fun e w'=>e=.returned (.bool b)∧Below w.heap.size w w':=by
 obtain rfl:=hx.len;subst h0;exact some_any S xa xc xs zs a n c w hx hxn h hn
theorem fields_0 (S:Nat→Prop) (c:Str) (ng:Bool) (ra:Option Addr) (rs:List (Str × Str)) (rc:Nat) (lo hi:Int) (lz:Bool) (ka:Option Addr) (ks:List Rx) (kc:Nat) (w:World)
  (hx:RxSl w S ka ks.length ks) (hsm:(Rx.mk 0 c ng rs lo hi lz ks).small1) :
  Calls Tryz.prog 68 #[.agg #[.int .i64 0,.string ⟨c.toArray⟩,.bool ng,.slice ra rs.length rc,.int .i64 lo,.int .i64 hi,.bool lz,.slice ka ks.length kc]] w fun e w'=>e=.returned (.bool (jT (.mk 0 c ng rs lo hi lz ks)))∧Below w.heap.size w w':=by
 generalize hR:jT (.mk 0 c ng rs lo hi lz ks)=R
 have HR:=ab hR;clear hR;have HS:Hid (R=(lJ c ng rs.length lo hi lz&&decide (ks.length≠1)&&!anyK ks [0,1])):=ab (by rw [←HR.out,←lp 0 c ng rs lo hi lz ks,any_no2];rfl);obtain⟨s1,s2,s3,s4⟩:=hsm;clear HR s3;cases hbv:lJ c ng rs.length lo hi lz with
 | false =>
  exact aJ
 | true =>
  have HB:=ab hbv;have HR:Hid (R=(decide (ks.length≠1)&&!anyK ks [0,1])):=ab ic;clear hbv;obtain⟨b,hab⟩:∃b,anyK ks [0,1]=b:=⟨_,rfl⟩;have HA:=ab hab;rw [hab] at HR;clear hab;rcases ks with _|⟨x,_|⟨y,ks⟩⟩
  ·have HR2:Hid (R=!b):=ab (by rw [HR.out];simp)
   go_enter Tryz.func68,Tryz.ntmps68
   go_wp2_with (first|(((go_at_call 92;refine(lR _ HB.out).mono ?_;rintro e w1 ⟨rfl,hb1,hc1⟩;have hq7:=hc1 ⟨w.heap.size,7,none⟩ (.slice ka (0) kc) fX));have HX1:=ab ((hx.later ((Below.refl _ _).alloc (Dv _) _)).later hb1))|(go_at_call 95;refine(xR (zs:=[0,1]) _ HA.out (HX1.out.later ((Below.refl _ _).alloc (Dv _) _)) gP (Sl.lit (n:=2) (heap_alloc_new w1 (.cells #[.int .i64 0,.int .i64 1] 3)) rfl) fU).mono ?_;rintro e w2 ⟨rfl,hb2⟩))
   exact bQ
  ·have HR2:Hid (R=false):=ab gX
   exact eQ
  ·have HR2:Hid (R=!b):=ab (by rw [HR.out];simp)
   simp only [Dx] at s4;go_enter Tryz.func68,Tryz.ntmps68
   go_wp2_with (first|(((go_at_call 92;refine(lR _ HB.out).mono ?_;rintro e w1 ⟨rfl,hb1,hc1⟩;have hq7:=hc1 ⟨w.heap.size,7,none⟩ (.slice ka (ks.length+1+1) kc) fX));have HX1:=ab ((hx.later ((Below.refl _ _).alloc (Dv _) _)).later hb1))|(go_at_call 95;refine(xR (zs:=[0,1]) _ HA.out (HX1.out.later ((Below.refl _ _).alloc (Dv _) _)) gP (Sl.lit (n:=2) (heap_alloc_new w1 (.cells #[.int .i64 0,.int .i64 1] 3)) rfl) fU).mono ?_;rintro e w2 ⟨rfl,hb2⟩))
   exact bQ
theorem fields_1 (S:Nat→Prop) (c:Str) (ng:Bool) (ra:Option Addr) (rs:List (Str × Str)) (rc:Nat) (lo hi:Int) (lz:Bool) (ka:Option Addr) (ks:List Rx) (kc:Nat) (w:World)
  (hx:RxSl w S ka ks.length ks) (hsm:(Rx.mk 1 c ng rs lo hi lz ks).small1) :
  Calls Tryz.prog 68 #[.agg #[.int .i64 1,.string ⟨c.toArray⟩,.bool ng,.slice ra rs.length rc,.int .i64 lo,.int .i64 hi,.bool lz,.slice ka ks.length kc]] w fun e w'=>e=.returned (.bool (jT (.mk 1 c ng rs lo hi lz ks)))∧Below w.heap.size w w':=by
 generalize hR:jT (.mk 1 c ng rs lo hi lz ks)=R
 have HR:=ab hR;clear hR;have HS:Hid (R=(lJ c ng rs.length lo hi lz&&decide (1<ks.length)&&!anyK ks [1])):=ab (by rw [←HR.out,←lp 1 c ng rs lo hi lz ks,any_no1];rfl);obtain⟨s1,s2,s3,s4⟩:=hsm;clear HR s3;cases hbv:lJ c ng rs.length lo hi lz with
 | false =>
  exact aJ
 | true =>
  have HB:=ab hbv;have HR:Hid (R=(decide (1<ks.length)&&!anyK ks [1])):=ab ic;clear hbv;obtain⟨b,hab⟩:∃b,anyK ks [1]=b:=⟨_,rfl⟩;have HA:=ab hab;rw [hab] at HR;clear hab;rcases ks with _|⟨x,_|⟨y,ks⟩⟩
  ·have HR2:Hid (R=false):=ab gX
   exact eP
  ·have HR2:Hid (R=false):=ab gX
   exact eQ
  ·have HR2:Hid (R=!b):=ab (by rw [HR.out];simp)
   simp only [Dx] at s4;go_enter Tryz.func68,Tryz.ntmps68
   go_wp2_with (first|(((go_at_call 92;refine(lR _ HB.out).mono ?_;rintro e w1 ⟨rfl,hb1,hc1⟩;have hq7:=hc1 ⟨w.heap.size,7,none⟩ (.slice ka (ks.length+1+1) kc) fX));have HX1:=ab ((hx.later ((Below.refl _ _).alloc (Dv _) _)).later hb1))|(go_at_call 95;refine(xR (zs:=[1]) _ HA.out (HX1.out.later ((Below.refl _ _).alloc (Dv _) _)) gP (Sl.lit (n:=1) (heap_alloc_new w1 (.cells #[.int .i64 1] 3)) rfl) fU).mono ?_;rintro e w2 ⟨rfl,hb2⟩))
   exact bQ
def oneB (ks:List Rx):Bool:=match ks with|[x]=>repB x.kind|_=>false
theorem wV {k:Int} {b:Bool} (w:World) (h:repB k=b):Calls Tryz.prog 94 #[.int .i64 k] w fun e w'=>e=.returned (.bool b)∧w=w':=by
 subst h;exact vV k w
theorem fields_7 (S:Nat→Prop) (c:Str) (ng:Bool) (ra:Option Addr) (rs:List (Str × Str)) (rc:Nat) (lo hi:Int) (lz:Bool) (ka:Option Addr) (ks:List Rx) (kc:Nat) (w:World)
  (hx:RxSl w S ka ks.length ks) (hsm:(Rx.mk 7 c ng rs lo hi lz ks).small1) :
  Calls Tryz.prog 68 #[.agg #[.int .i64 7,.string ⟨c.toArray⟩,.bool ng,.slice ra rs.length rc,.int .i64 lo,.int .i64 hi,.bool lz,.slice ka ks.length kc]] w fun e w'=>e=.returned (.bool (jT (.mk 7 c ng rs lo hi lz ks)))∧Below w.heap.size w w':=by
 generalize hR:jT (.mk 7 c ng rs lo hi lz ks)=R
 have HR:=ab hR;clear hR;have HS:Hid (R=(lJ c ng rs.length 0 0 false&&oneB ks&&decide (0≤lo∧lo≤255∧(hi=-1∨lo≤hi∧hi≤255)))):=ab (by rw [←HR.out,←lp 7 c ng rs 0 0 false ks];rfl);obtain⟨s1,s2,s3,s4⟩:=hsm;clear HR s3;cases hbv:lJ c ng rs.length 0 0 false with
 | false =>
  have HB:=ab hbv;have HR:Hid (R=false):=ab ic;clear hbv;go_enter Tryz.func68,Tryz.ntmps68
  go_wp2
  go_quiet (fail)
  go_wp2_with (go_at_call 92;refine(lR _ HB.out).mono ?_;rintro e w1 ⟨rfl,hb1,hc1⟩;have hq7:=hc1 ⟨w.heap.size,7,none⟩ (.slice ka (ks.length) kc) (by simp [go_sem]))
  go_ret
  exact⟨jG HR.out.symm,((((below_drewN ((Below.refl w.heap.size w).alloc (Dv _) _) _).setCell fX _).setCell fX _).setCell fX _).trans (hb1.mono jp)⟩
 | true =>
  have HB:=ab hbv;have HR:Hid (R=(oneB ks&&decide (0≤lo∧lo≤255∧(hi=-1∨lo≤hi∧hi≤255)))):=ab ic;clear hbv;rcases ks with _|⟨x,_|⟨y,ks⟩⟩
  ·have HR2:Hid (R=false):=ab gX
   go_enter Tryz.func68,Tryz.ntmps68
   go_wp2
   go_quiet (fail)
   go_wp2_with (go_at_call 92;refine(lR _ HB.out).mono ?_;rintro e w1 ⟨rfl,hb1,hc1⟩;have hq7:=hc1 ⟨w.heap.size,7,none⟩ (.slice ka (0) kc) (by simp [go_sem]))
   exact cK
  ·obtain⟨xk,xc,xn,xr,xl,xh,xz,xs⟩:=x
   obtain⟨b,o,_,_,_,_,rfl,_,hbB,_,_,_,q0,_⟩:=hx.cells (m:=0) rfl;simp only [Nat.zero_mul,Nat.add_zero] at q0;obtain⟨rb,hrb⟩:∃rb,repB xk=rb:=⟨_,rfl⟩;have HRB:=ab hrb;have HR2:Hid (R=(rb&&decide (0≤lo∧lo≤255∧(hi=-1∨lo≤hi∧hi≤255)))):=ab (by rw [HR.out,←HRB.out];rfl);clear hrb;cases rb
   all_goals
    go_enter Tryz.func68,Tryz.ntmps68
    go_wp2
    go_quiet (fail)
    go_wp2_with (first|(go_at_call 92;refine(lR _ HB.out).mono ?_;rintro e w1 ⟨rfl,hb1,hc1⟩;have hq7:=hc1 ⟨w.heap.size,7,none⟩ (.slice (some ⟨b,o,none⟩) 1 kc) (by simp [go_sem]);have hq0:w1.cell? ⟨b,o,none⟩=some (.int .i64 xk):=hc1 _ _ (by simp [go_sem,World.cell?_alloc_lt,hbB,q0]))|(go_at_call 94;refine(wV _ HRB.out).mono ?_;rintro e w2 ⟨rfl,rfl⟩))
    all_goals
     go_ret
     refine⟨jG ?_,((((below_drewN ((Below.refl w.heap.size w).alloc (Dv _) _) _).setCell fX _).setCell fX _).setCell fX _).trans (hb1.mono jp)⟩;rw [HR2.out];first|rfl|(rw [DK,Bool.eq_iff_iff];simp;omega)
  ·have HR2:Hid (R=false):=ab gX
   go_enter Tryz.func68,Tryz.ntmps68
   go_wp2
   go_quiet (fail)
   go_wp2_with (go_at_call 92;refine(lR _ HB.out).mono ?_;rintro e w1 ⟨rfl,hb1,hc1⟩;have hq7:=hc1 ⟨w.heap.size,7,none⟩ (.slice ka (ks.length+1+1) kc) (by simp [go_sem]))
   exact cK
theorem zT (S:Nat→Prop) (K:Int) (c:Str) (ng:Bool) (ra:Option Addr) (rs:List (Str × Str)) (rc:Nat) (lo hi:Int) (lz:Bool) (ka:Option Addr) (ks:List Rx) (kc:Nat) (w:World)
  (hr:SlS w S ra 2 rs.length (jN rs)) (hx:RxSl w S ka ks.length ks) (hsm:(Rx.mk K c ng rs lo hi lz ks).small1) :
  Calls Tryz.prog 68 #[.agg #[.int .i64 K,.string ⟨c.toArray⟩,.bool ng,.slice ra rs.length rc,.int .i64 lo,.int .i64 hi,.bool lz,.slice ka ks.length kc]] w fun e w'=>e=.returned (.bool (jT (.mk K c ng rs lo hi lz ks)))∧Below w.heap.size w w':=by
 by_cases h0:K=0
 ·subst h0;exact fields_0 S c ng ra rs rc lo hi lz ka ks kc w hx hsm
 by_cases h1:K=1
 ·subst h1;exact fields_1 S c ng ra rs rc lo hi lz ka ks kc w hx hsm
 by_cases h2:K=2
 ·subst h2;exact fields_2 c ng ra rs rc lo hi lz ka ks kc w hsm
 by_cases h4:K=4
 ·subst h4;exact fields_4 c ng ra rs rc lo hi lz ka ks kc w hr.sl hsm
 by_cases h7:K=7
 ·subst h7;exact fields_7 S c ng ra rs rc lo hi lz ka ks kc w hx hsm
 by_cases h5:K=5∨K=6
 ·exact Am K h5 c ng ra rs rc lo hi lz ka ks kc w hsm
 by_cases h3:K=3∨K=8∨K=9∨K=10∨K=11
 ·exact xE K h3 c ng ra rs rc lo hi lz ka ks kc w hsm
 ·exact xZ K fR c ng ra rs.length rs rc lo hi lz ka ks.length ks kc w
open Go.RowKit
def FitPost (x:Rx) (left dp:Int) (e:Ending):Prop :=
 ∃l':Int,e=.returned (.tuple #[.int .i64 l',.bool (okB x left dp)])∧(okB x left dp=true→l'=left-x.parts)
def FitRel (ks:List Rx) (R:Bool) (tot dp:Int) (w:World) (t q:Value) (wr:World):Prop :=
 ∃(k:Nat) (l:Int),k≤ks.length∧q=.int .i64 k∧t=.int .i64 l∧0≤l∧l≤100000∧Below w.heap.size w wr∧Hid (okL (ks.drop k) l dp=R)∧Hid (l-Rx.partsL (ks.drop k)=tot)
theorem okL_nil {l dp:Int} (h:0≤l) (h':0≤dp):okL [] l dp=true:=by
 unfold okL;rw [DN (show ((Rx.partsL []:Nat):Int)≤l from h),DN (show ((Rx.deepL []:Nat):Int)≤dp from h')];rfl
theorem pA {S:Nat→Prop} {K:Int} {c:Str} {ng:Bool} {ra:Option Addr} {rs:List (Str × Str)} {rc:Nat} {lo hi:Int} {lz:Bool} {ka:Option Addr} {ks:List Rx} {kc:Nat} {b:Bool} (w:World)
  (h:jT (.mk K c ng rs lo hi lz ks)=b) (hr:SlS w S ra 2 rs.length (jN rs)) (hx:RxSl w S ka ks.length ks) (hsm:(Rx.mk K c ng rs lo hi lz ks).small1) :
  Calls Tryz.prog 68 #[.agg #[.int .i64 K,.string ⟨c.toArray⟩,.bool ng,.slice ra rs.length rc,.int .i64 lo,.int .i64 hi,.bool lz,.slice ka ks.length kc]] w fun e w'=>e=.returned (.bool b)∧Below w.heap.size w w'∧∀a u,w.cell? a=some u→w'.cell? a=some u:=by
 subst h;exact(zT S K c ng ra rs rc lo hi lz ka ks kc w hr hx hsm).mono fun _ _ ⟨h1,h2⟩=>⟨h1,h2,jH h2⟩
theorem zm (S:Nat→Prop):∀(N:Nat) (x:Rx),x.parts≤N→x.parts≤1000000→x.small→∀(cc:List Value) (w:World) (left dp:Int),RxV w S cc x→-100000≤left→left≤100000→-100000≤dp→dp≤100000 →
  Calls Tryz.prog 41 #[.agg cc.toArray,.int .i64 left,.int .i64 dp] w fun e w'=>FitPost x left dp e∧Below w.heap.size w w'
 | 0,x,h,_,_,_,_,_,_,_,_,_,_,_=>by have:=Rx.parts_pos x;omega
 | N+1,.mk k c ng rs lo hi lz ks,h,hm,hsm,cc,w,left,dp,hv,l0,l1,d0,d1=>by
  obtain⟨ra,rc,ka,kc,rfl,hrs,hx⟩:=hv.open_;obtain⟨hs1,hs2⟩:=hsm;simp only [Rx.parts] at h hm;have hlen:=Rx.len_parts ks;have ih:=fun(y:Rx) (hy:y.parts≤Rx.partsL ks)=>zm S N y fR fR
  have IH:=ab ih;have HSM:=ab hs2;have HS1:=ab hs1;have hb0:=(Below.refl w.heap.size w).alloc (Dv _) (.cells #[.int .i64 k,.string ⟨c.toArray⟩,.bool ng,.slice ra rs.length rc,.int .i64 lo,.int .i64 hi,.bool lz,.slice ka ks.length kc] 25);have HX0:=ab (hx.later hb0);have HRS:=ab (hrs.keep (Kept.all hb0));clear hx hv hrs ih hs1 hs2;unfold rxc;cases hG:grpB k with
  | true =>
   cases hF:jT (.mk k c ng rs lo hi lz ks) with
   | false =>
    exact bu
   | true =>
    have HF:=ab hF;by_cases hld:left<1∨dp-1<0
    ·exact bm
    ·have hl1:1≤left:=fR
     have hd0:0≤dp-1:=fR;have HO:Hid (okB (.mk k c ng rs lo hi lz ks) left dp=okL ks (left-1) (dp-1)):=ab (by rw [yJ,hG,hF,DN hl1];simp;omega);clear hF hld;obtain⟨R,hR⟩:∃R,okL ks (left-1) (dp-1)=R:=⟨_,rfl⟩;have HR0:Hid (okL (ks.drop 0) (left-1) (dp-1)=R):=ab hR;have HT0:Hid (left-1-Rx.partsL (ks.drop 0)=left-(Rx.mk k c ng rs lo hi lz ks).parts):=ab (by simp only [Rx.parts,DO];omega);obtain⟨tot,htot⟩:∃tot,left-((Rx.mk k c ng rs lo hi lz ks).parts:Int)=tot:=⟨_,rfl⟩;have HOR:Hid (okB (.mk k c ng rs lo hi lz ks) left dp=R):=ab (by rw [HO.out,hR]);have HTT:=ab htot;rw [htot] at HT0;clear hR htot HO;go_enter Tryz.func41,Tryz.ntmps41
     go_wp2_with (first|(go_at_call 67;refine(pF _ _).mono ?_;rintro e w1 ⟨rfl,rfl⟩;rw [hG])|(go_at_call 68;refine(pA _ HF.out HRS.out HX0.out HS1.out).mono ?_;rintro e w1 ⟨rfl,hb1,hc1⟩;have z1:=hc1 ⟨w.heap.size,7,none⟩ (.slice ka ks.length kc) fX))
     have HX1:=ab ((HX0.out.later (Below.refl _ _)).later hb1);have hbw1:Below w.heap.size w w1:=((Below.refl _ _).alloc (Dv _) _).trans (hb1.mono fX);have hz1:=hbw1.size;clear hb1 hc1 z1;go_loopw [1,33] (fun t q wr=>FitRel ks R tot (dp-1) w1 t q wr) (fun _ q _=>ks.length-(intOf q).toNat)
     case atStart=>exact⟨0,left-1,by omega,rfl,rfl,by omega,by omega,Below.refl _ _,HR0,HT0⟩
     case round =>
      obtain⟨i,l,hi,rfl,rfl,hl0,hl9,hb,HL,HTL⟩:=hrel;clear HR0 HT0;have hB:=hb.size;cases hd:ks.drop i with
      | nil =>
       exact cn
      | cons y r =>
       have HX:=HX1;obtain⟨h2,h3,hr⟩:=jO hd;obtain⟨yk,yc,yn,yr,yl,yh,yz,ys⟩:=y;obtain⟨b,o,ya,yrc,yka,ykc,rfl,hS,hbB,_,_,hyv,c0,c1,c2,c3,c4,c5,c6,c7⟩:=(HX.out.later hb).cells h3;have hyp:=Rx.parts_mem (DL h3);have hym:=kV HSM.out (DL h3);have Hr:=ab hr;have HE:Hid (R=(okB (.mk yk yc yn yr yl yh yz ys) l (dp-1)&&okL r (l-(Rx.mk yk yc yn yr yl yh yz ys).parts) (dp-1))):=ab (by rw [←HL.out,hd,zx]);have HE2:Hid (l-(Rx.mk yk yc yn yr yl yh yz ys).parts-Rx.partsL r=tot):=ab (by rw [←HTL.out,hd];simp only [Rx.partsL];omega);have HYV:=ab (hyv.later ((Below.refl wr.heap.size wr).alloc (Dv _) (.cells (rxc yk yc yn ya yr.length yrc yl yh yz yka ys.length ykc).toArray 25)));unfold rxc at HYV;have HYM:=ab hym;clear hd HL HTL hr h3 hyv hym;go_wp2_with (go_at_call 41;refine(IH.out _ hyp HYM.out _ _ l (dp-1) HYV.out fR fR fR fR).mono ?_)
       rintro e w2 ⟨⟨l',rfl,hl'⟩,hb2⟩;have hbw2:Below w.heap.size w w2:=hbw1.trans (((hb.alloc hB _).trans (hb2.mono fY)).mono hz1);cases hok:okB (.mk yk yc yn yr yl yh yz ys) l (dp-1) with
       | false =>
        exact cZ
       | true =>
        have hl2:=hl' hok;have hpp:(Rx.mk yk yc yn yr yl yh yz ys).parts≤l:=by
         have h:=hok;simp only [okB,Dy,Dp] at h;exact h.1.2
        have HE3:Hid (okL r l' (dp-1)=R):=ab (by rw [HE.out,hok,hl2];rfl);exact b7
  | false =>
   cases hF:jT (.mk k c ng rs lo hi lz ks) with
   | false =>
    exact bu
   | true =>
    have HF:=ab hF;by_cases hld:left<1∨dp<0
    ·exact bm
    ·have hl1:1≤left:=fR
     have hd0:0≤dp:=fR;have HO:Hid (okB (.mk k c ng rs lo hi lz ks) left dp=okL ks (left-1) (dp)):=ab (by rw [yJ,hG,hF,DN hl1];simp;omega);clear hF hld;obtain⟨R,hR⟩:∃R,okL ks (left-1) (dp)=R:=⟨_,rfl⟩;have HR0:Hid (okL (ks.drop 0) (left-1) (dp)=R):=ab hR;have HT0:Hid (left-1-Rx.partsL (ks.drop 0)=left-(Rx.mk k c ng rs lo hi lz ks).parts):=ab (by simp only [Rx.parts,DO];omega);obtain⟨tot,htot⟩:∃tot,left-((Rx.mk k c ng rs lo hi lz ks).parts:Int)=tot:=⟨_,rfl⟩;have HOR:Hid (okB (.mk k c ng rs lo hi lz ks) left dp=R):=ab (by rw [HO.out,hR]);have HTT:=ab htot;rw [htot] at HT0;clear hR htot HO;go_enter Tryz.func41,Tryz.ntmps41
     go_wp2_with (first|(go_at_call 67;refine(pF _ _).mono ?_;rintro e w1 ⟨rfl,rfl⟩;rw [hG])|(go_at_call 68;refine(pA _ HF.out HRS.out HX0.out HS1.out).mono ?_;rintro e w1 ⟨rfl,hb1,hc1⟩;have z1:=hc1 ⟨w.heap.size,7,none⟩ (.slice ka ks.length kc) fX))
     have HX1:=ab ((HX0.out.later (Below.refl _ _)).later hb1);have hbw1:Below w.heap.size w w1:=((Below.refl _ _).alloc (Dv _) _).trans (hb1.mono fX);have hz1:=hbw1.size;clear hb1 hc1 z1;go_loopw [1,33] (fun t q wr=>FitRel ks R tot (dp) w1 t q wr) (fun _ q _=>ks.length-(intOf q).toNat)
     case atStart=>exact⟨0,left-1,by omega,rfl,rfl,by omega,by omega,Below.refl _ _,HR0,HT0⟩
     case round =>
      obtain⟨i,l,hi,rfl,rfl,hl0,hl9,hb,HL,HTL⟩:=hrel;clear HR0 HT0;have hB:=hb.size;cases hd:ks.drop i with
      | nil =>
       exact cn
      | cons y r =>
       have HX:=HX1;obtain⟨h2,h3,hr⟩:=jO hd;obtain⟨yk,yc,yn,yr,yl,yh,yz,ys⟩:=y;obtain⟨b,o,ya,yrc,yka,ykc,rfl,hS,hbB,_,_,hyv,c0,c1,c2,c3,c4,c5,c6,c7⟩:=(HX.out.later hb).cells h3;have hyp:=Rx.parts_mem (DL h3);have hym:=kV HSM.out (DL h3);have Hr:=ab hr;have HE:Hid (R=(okB (.mk yk yc yn yr yl yh yz ys) l (dp)&&okL r (l-(Rx.mk yk yc yn yr yl yh yz ys).parts) (dp))):=ab (by rw [←HL.out,hd,zx]);have HE2:Hid (l-(Rx.mk yk yc yn yr yl yh yz ys).parts-Rx.partsL r=tot):=ab (by rw [←HTL.out,hd];simp only [Rx.partsL];omega);have HYV:=ab (hyv.later ((Below.refl wr.heap.size wr).alloc (Dv _) (.cells (rxc yk yc yn ya yr.length yrc yl yh yz yka ys.length ykc).toArray 25)));unfold rxc at HYV;have HYM:=ab hym;clear hd HL HTL hr h3 hyv hym;go_wp2_with (go_at_call 41;refine(IH.out _ hyp HYM.out _ _ l (dp) HYV.out fR fR fR fR).mono ?_)
       rintro e w2 ⟨⟨l',rfl,hl'⟩,hb2⟩;have hbw2:Below w.heap.size w w2:=hbw1.trans (((hb.alloc hB _).trans (hb2.mono fY)).mono hz1);cases hok:okB (.mk yk yc yn yr yl yh yz ys) l (dp) with
       | false =>
        exact cZ
       | true =>
        have hl2:=hl' hok;have hpp:(Rx.mk yk yc yn yr yl yh yz ys).parts≤l:=by
         have h:=hok;simp only [okB,Dy,Dp] at h;exact h.1.2
        have HE3:Hid (okL r l' (dp)=R):=ab (by rw [HE.out,hok,hl2];rfl);exact b7
theorem pG (S:Nat→Prop) (x:Rx) (cc:List Value) (w:World) (hm:x.parts≤1000000) (hsm:x.small) (hv:RxV w S cc x) :
  Calls Tryz.prog 20 #[.agg cc.toArray] w fun e w'=>e=.returned (.bool (mayB x))∧Below w.heap.size w w':=by
 obtain⟨k,c,ng,rs,lo,hi,lz,ks⟩:=x;obtain⟨ra,rc,ka,kc,rfl,hrs,hx⟩:=hv.open_;have HV:=ab (hv.later ((Below.refl w.heap.size w).alloc (Dv _) (.cells #[.int .i64 k,.string ⟨c.toArray⟩,.bool ng,.slice ra rs.length rc,.int .i64 lo,.int .i64 hi,.bool lz,.slice ka ks.length kc] 25)));have HSM:=ab hsm;have HM:=ab hm;clear hv hrs hx hsm hm;unfold rxc at HV ⊢;go_enter Tryz.func20,Tryz.ntmps20
 go_wp2_with (go_at_call 41;refine(zm S _ _ (Dv _) HM.out HSM.out _ _ 512 16 HV.out fU fU fU fU).mono ?_;rintro e w1 ⟨⟨l',rfl,hl'⟩,hb1⟩)
 exact ex
def upB (c:UInt8):UInt8:=if 97≤c.toNat∧c.toNat≤122 then c-32 else c
def lowB (c:UInt8):UInt8:=if 65≤c.toNat∧c.toNat≤90 then c+32 else c
def pP (c:UInt8):Bool:=decide ((97≤c.toNat∧c.toNat≤122)∨(65≤c.toNat∧c.toNat≤90)∨(48≤c.toNat∧c.toNat≤57)∨128≤c.toNat)
def na (small:Bool):Bool→Str→Str→Str
 | _,[],acc=>acc
 | pw,c::r,acc=>if pP c=true then(if pw=true then na small true r (acc++[c]) else if small=true∧acc=[] then na small true r (acc++[lowB c]) else na small true r (acc++[upB c])) else na small false r acc
def capB:Str→Str
 | []=>[]
 | c::r=>upB c::r
def turn (s:Str) (way:Int):Str × Int :=
 if way=1 then(s.map upB,0) else if way=2 then(s.map lowB,0) else if way=3 then(capB s,0) else if way=4 then(na true false s [],0) else if way=5 then(na false false s [],0) else([],2)
def n1:Str:=[117,112,99,97,115,101]
def n2:Str:=[100,111,119,110,99,97,115,101]
def n3:Str:=[99,97,112,105,116,97,108,105,122,101]
def n4:Str:=[99,97,109,101,108,99,97,115,101]
def n5:Str:=[112,97,115,99,97,108,99,97,115,101]
def lv (way:Int):Str:=if way=1 then n1 else if way=2 then n2 else if way=3 then n3 else if way=4 then n4 else if way=5 then n5 else []
def oY (s:Str):Int:=if s=n1 then 1 else if s=n2 then 2 else if s=n3 then 3 else if s=n4 then 4 else if s=n5 then 5 else 0
theorem nP (way:Int):(lv way).length≤10:=by
 unfold lv;(repeat' split)<;>decide
theorem lO (small:Bool):∀(s:Str) (pw:Bool) (acc:Str),(na small pw s acc).length≤s.length+acc.length
 | [],pw,acc=>by simp [na]
 | c::r,pw,acc=>by
  have h1:=lO small r true (acc++[c]);have h2:=lO small r true (acc++[lowB c]);have h3:=lO small r true (acc++[upB c]);have h4:=lO small r false acc;simp only [na,Dx,DE,DP] at *
  (repeat' split)<;>omega
theorem pj (s:Str) (way:Int):(turn s way).1.length≤s.length:=by
 unfold turn;have h1:=lO true s false [];have h2:=lO false s false []
 (repeat' split)<;>simp_all
 cases s<;>simp [capB]
theorem upB_nat (c:UInt8):(upB c).toNat=if 97≤c.toNat∧c.toNat≤122 then c.toNat-32 else c.toNat:=by
 unfold upB;split
 ·rename_i h
  rw [UInt8.toNat_sub_of_le _ _ (by rw [UInt8.le_iff_toNat_le];have:(32:UInt8).toNat=32:=rfl;omega)];rfl
 ·rfl
theorem lowB_nat (c:UInt8):(lowB c).toNat=if 65≤c.toNat∧c.toNat≤90 then c.toNat+32 else c.toNat:=by
 unfold lowB;split
 ·rename_i h
  rw [UInt8.toNat_add];have:(32:UInt8).toNat=32:=rfl;omega
 ·rfl
theorem sI {c:Int} (h1:c<256):(UInt8.ofNat c.toNat).toNat=c.toNat:=by
 rw [UInt8.toNat_ofNat'];omega
theorem Cy {s:Str} {k:Int} (h1:1≤k) (h5:k≤5) (h:lv k=s):oY s=k:=by
 have hk:k=1∨k=2∨k=3∨k=4∨k=5:=fR;subst h;rcases hk with rfl|rfl|rfl|rfl|rfl<;>decide
theorem AC {s:Str} (h:∀j:Int,1≤j→j<6→lv j≠s):oY s=0:=by
 unfold oY;rw [Du (fun e=>h 1 fR fR e.symm),Du (fun e=>h 2 fR fR e.symm),Du (fun e=>h 3 fR fR e.symm),Du (fun e=>h 4 fR fR e.symm),Du (fun e=>h 5 fR fR e.symm)]
def nu:Str→Nat→Nat→Option (Nat × Str)
 | [],k,n=>if 0<k then some (n,[]) else none
 | c::r,k,n=>if 48≤c.toNat∧c.toNat≤57 then(if k=4 then none else nu r (k+1) (10*n+(c.toNat-48))) else if 0<k then some (n,c::r) else none
def n6 (r:Str):Option (Nat × Str):=nu r 0 0
def nW (r these:Str):Bool:=match r with|[]=>false|c::_=>these.contains c
def four:Str:=[36,125,92,47]
def five:Str:=[36,125,92,47,58]
def j7 (one:Int):Str→Str→Option (Str × Str)
 | [],_=>none
 | [c],t=>if c.toNat=one.toNat then some (t,[c]) else none
 | c::d::r,t=>if c.toNat=one.toNat then some (t,c::d::r) else if c.toNat=92∧five.contains d=true then j7 one r (t++[d]) else j7 one (d::r) (t++[c])
structure Fm where
 kind:Int
 n:Int
 cse:Int
 thn:Str
 els:Str
deriving DecidableEq
def lg (d:UInt8):Bool:=decide (d.toNat≠125)
def lc (r:Str) (n:Nat):Option (Fm × Str) :=
 match r with
 | []=>none
 | c::r' =>
  if c.toNat=47 then
   (match r'.dropWhile lg with
    | []=>none
    | _::r2=>if oY (r'.takeWhile lg)=0 then none else some (⟨2,n,oY (r'.takeWhile lg),[],[]⟩,r2))
  else if c.toNat=43 then
   (match j7 125 r' [] with
    | some (t,_::r2)=>some (⟨3,n,0,t,[]⟩,r2)
    | _=>none)
  else if c.toNat=63 then
   (match j7 58 r' [] with
    | some (t,_::r2) =>
     (match j7 125 r2 [] with
     | some (u,_::r3)=>some (⟨5,n,0,t,u⟩,r3)
     | _=>none)
    | _=>none)
  else if c.toNat=45 then
   (match j7 125 r' [] with
    | some (t,_::r2)=>some (⟨4,n,0,[],t⟩,r2)
    | _=>none)
  else
   (match j7 125 (c::r') [] with
    | some (t,_::r2)=>some (⟨4,n,0,[],t⟩,r2)
    | _=>none)
def sX (n:Nat):Str→Option (Fm × Str)
 | []=>none
 | d::r3=>if d.toNat=125 then some (⟨1,n,0,[],[]⟩,r3) else if d.toNat=58 then lc r3 n else none
def partB:Str→Option (Fm × Str)
 | []=>none
 | c::r1=>if c.toNat=123 then(match n6 r1 with|none=>none|some p=>sX p.1 p.2) else none
def nZ (r:Str):Option (Fm × Str) :=
 match n6 r with
 | some p=>some (⟨1,p.1,0,[],[]⟩,p.2)
 | none=>partB r
theorem lI (one:Int):∀(r t:Str) {u s:Str},j7 one r t=some (u,s)→∃c s',s=c::s'∧c.toNat=one.toNat
 | [],t,u,s,h=>by simp [j7] at h
 | [c],t,u,s,h=>by
  simp only [j7] at h;split at h
  ·rename_i hc;simp at h;exact⟨c,[],h.2.symm,hc⟩
  ·cases h
 | c::d::r,t,u,s,h=>by
  simp only [j7] at h;split at h
  ·rename_i hc;simp at h;exact⟨c,d::r,h.2.symm,hc⟩
  ·split at h
   ·exact lI one r _ h
   ·exact lI one (d::r) _ h
theorem yx:∀(r:Str) (k n:Nat) {m:Nat} {s:Str},nu r k n=some (m,s)→s.length≤r.length∧(k=0→s.length<r.length)
 | [],k,n,m,s,h=>by
  simp only [nu] at h;exact dR
 | c::r,k,n,m,s,h=>by
  simp only [nu] at h;split at h
  ·split at h
   ·cases h
   ·have:=yx r (k+1) _ h;simp;omega
  ·exact dR
theorem yK {r:Str} {m:Nat} {s:Str} (h:n6 r=some (m,s)):s.length<r.length:=(yx r 0 0 h).2 rfl
theorem nh (one:Int):∀(r t:Str) {u s:Str},j7 one r t=some (u,s)→s.length≤r.length
 | [],t,u,s,h=>by simp [j7] at h
 | [c],t,u,s,h=>by
  simp only [j7] at h;split at h
  ·simp at h;rw [←h.2];simp
  ·cases h
 | c::d::r,t,u,s,h=>by
  simp only [j7] at h;split at h
  ·simp at h;rw [←h.2];simp
  ·split at h
   ·have:=nh one r _ h;simp;omega
   ·have:=nh one (d::r) _ h;simp at *;omega
theorem wU {r:Str} {n:Nat} {f:Fm} {s:Str} (h:lc r n=some (f,s)):s.length<r.length:=by
 cases r with
 | nil=>cases h
 | cons c r =>
  simp only [lc] at h;split at h
  ·have h1:=DQ List.length (DR (p:=lg) (l:=r))
   split at h
   ·cases h
   ·rename_i heq
    split at h
    ·cases h
    ·injection h with h;injection h with _ h;subst h
     rw [heq] at h1;simp at h1 ⊢;omega
  ·split at h
   ·exact cF
   ·split at h
    ·split at h
     ·rename_i heq
      have h1:=nh _ _ _ heq;split at h
      ·rename_i heq2
       have h2:=nh _ _ _ heq2;exact fA
      ·cases h
     ·cases h
    ·split at h
     ·exact cF
     ·exact cF
theorem sG {r:Str} {f:Fm} {s:Str} (h:nZ r=some (f,s)):s.length<r.length:=by
 unfold nZ at h;split at h
 ·rename_i p heq
  obtain⟨m,s'⟩:=p;have:=yK heq
  injection h with h;injection h with _ h;subst h;exact this
 ·cases r with
  | nil=>cases h
  | cons c r =>
   simp only [partB] at h;split at h
   ·split at h
    ·cases h
    ·rename_i p heq
     obtain⟨m,s'⟩:=p;have h1:=yK heq;cases s' with
     | nil=>cases h
     | cons d r3 =>
      simp only [sX] at h;split at h
      ·exact fA
      ·split at h
       ·have:=wU h;simp at *;omega
       ·cases h
   ·cases h
def l7 (tx:Str) (fs:List Fm):List Fm:=if tx=[] then fs else fs++[⟨0,0,0,tx,[]⟩]
def rH:Nat→Str→Str→List Fm→Option (List Fm × Str)
 | 0,_,_,_=>none
 | _+1,[],_,_=>none
 | k+1,c::r,tx,fs =>
  if c.toNat=47 then some (l7 tx fs,c::r)
  else if c.toNat=36 then
   (match nZ r with
    | some p=>rH k p.2 [] (l7 tx fs++[p.1])
    | none=>rH k r (tx++[c]) fs)
  else if c.toNat=92∧nW r four=true then rH k (r.drop 1) (tx++r.take 1) fs
  else rH k r (tx++[c]) fs
theorem ni:∀(k k':Nat) (r tx:Str) (fs:List Fm),r.length<k→r.length<k'→rH k r tx fs=rH k' r tx fs
 | 0,_,_,_,_,h,_=>by omega
 | _+1,0,_,_,_,_,h=>by omega
 | k+1,k'+1,[],tx,fs,_,_=>rfl
 | k+1,k'+1,c::r,tx,fs,h,h'=>by
  simp only [Dx] at h h';have hd:(r.drop 1).length≤r.length:=fX;simp only [rH];rw [ni k k' r (tx++[c]) fs fR fR,ni k k' (r.drop 1) (tx++r.take 1) fs fR fR];cases hp:nZ r with
  | none=>rfl
  | some p =>
   have hl:=sG (f:=p.1) (s:=p.2) hp;simp only [];rw [ni k k' p.2 [] _ fR fR]
def mu (r tx:Str) (fs:List Fm):Option (List Fm × Str):=rH (r.length+1) r tx fs
theorem lh (c:UInt8) (r tx:Str) (fs:List Fm):mu (c::r) tx fs =
  if c.toNat=47 then some (l7 tx fs,c::r)
  else if c.toNat=36 then
   (match nZ r with
    | some p=>mu p.2 [] (l7 tx fs++[p.1])
    | none=>mu r (tx++[c]) fs)
  else if c.toNat=92∧nW r four=true then mu (r.drop 1) (tx++r.take 1) fs
  else mu r (tx++[c]) fs:=by
 have hd:(r.drop 1).length≤r.length:=fX;simp only [mu,rH,Dx];rw [ni (r.length+1) ((r.drop 1).length+1) (r.drop 1) (tx++r.take 1) fs fR fR];cases hp:nZ r with
 | none=>rfl
 | some p =>
  have hl:=sG (f:=p.1) (s:=p.2) hp;simp only [];rw [ni (r.length+1) (p.2.length+1) p.2 [] _ fR fR]
open Go.RowKit
theorem pE (c:Int) (w:World) (h0:0≤c) (h1:c<256) :
  Calls Tryz.prog 87 #[.int .u8 c] w fun e w'=>e=.returned (.int .u8 (upB (UInt8.ofNat c.toNat)).toNat)∧w=w':=by
 obtain⟨R,hR⟩:∃R:Nat,R=(upB (UInt8.ofNat c.toNat)).toNat:=⟨_,rfl⟩;rw [←hR];rw [upB_nat,sI h1] at hR;have HR:=ab hR;clear hR;go_enter Tryz.func87,Tryz.ntmps87
 exact dH
theorem uR (c:Int) (w:World) (h0:0≤c) (h1:c<256) :
  Calls Tryz.prog 88 #[.int .u8 c] w fun e w'=>e=.returned (.int .u8 (lowB (UInt8.ofNat c.toNat)).toNat)∧w=w':=by
 obtain⟨R,hR⟩:∃R:Nat,R=(lowB (UInt8.ofNat c.toNat)).toNat:=⟨_,rfl⟩;rw [←hR];rw [lowB_nat,sI h1] at hR;have HR:=ab hR;clear hR;go_enter Tryz.func88,Tryz.ntmps88
 exact dH
theorem qe (c:Int) (w:World) (h0:0≤c) (h1:c<256) :
  Calls Tryz.prog 109 #[.int .u8 c] w fun e w'=>e=.returned (.bool (pP (UInt8.ofNat c.toNat)))∧w=w':=by
 obtain⟨R,hR⟩:∃R:Bool,R=pP (UInt8.ofNat c.toNat):=⟨_,rfl⟩;rw [←hR];rw [pP,sI h1] at hR;have HR:=ab hR;clear hR;go_enter Tryz.func109,Tryz.ntmps109
 go_wp2
 all_goals
  go_ret
  refine⟨jG ?_,rfl⟩;rw [HR.out,Bool.eq_iff_iff];simp;try omega
theorem mE (n:Int) (w:World) :
  Calls Tryz.prog 36 #[.int .i64 n] w fun e w'=>e=.returned (.string ⟨(lv n).toArray⟩)∧Below w.heap.size w w':=by
 by_cases h:1≤n∧n≤5
 ·obtain⟨h1,h2⟩:=h
  have hn:n=1∨n=2∨n=3∨n=4∨n=5:=fR;rcases hn with rfl|rfl|rfl|rfl|rfl
  all_goals
   go_enter Tryz.func36,Tryz.ntmps36
   go_wp2
   go_ret
   exact⟨rfl,(Below.refl _ _).alloc (Dv _) _⟩
 ·have hz:lv n=[]:=by
   exact dX
  rw [hz];go_enter Tryz.func36,Tryz.ntmps36
  go_wp2
  all_goals
   first
   | (go_ret;exact⟨rfl,Below.refl _ _⟩)
   | (exfalso;omega)
theorem Way_any (s:Str) (w:World) :
  Calls Tryz.prog 102 #[.string ⟨s.toArray⟩] w fun e w'=>e=.returned (.int .i64 (oY s))∧Below w.heap.size w w':=by
 generalize hR:oY s=R
 have HR:=ab hR;clear hR;go_enter Tryz.func102,Tryz.ntmps102
 go_wp2
 go_loopw [3] (fun q wr=>∃k:Int,1≤k∧k≤6∧q=.int .i64 k∧Below w.heap.size w wr∧Hid (∀j:Int,1≤j→j<k→lv j≠s)) (fun q _=>(6-intOf q).toNat)
 case atStart=>exact⟨1,by omega,by omega,rfl,Below.refl _ _,ab fun j h1 h2=>by omega⟩
 case round =>
  obtain⟨k,hk1,hk6,rfl,hb,HM⟩:=hrel;by_cases h5:k≤5
  ·by_cases hq:lv k=s
   ·have hbq:(lv k==s)=true:=by simp [hq]
    have Hq:=ab hq;clear hq;go_wp2_with (go_at_call 36;refine(mE _ _).mono ?_;rintro e w1 ⟨rfl,hb1⟩)
    go_ret
    exact⟨lC (by rw [←HR.out,Cy hk1 h5 Hq.out]),hb.trans (hb1.mono hb.size)⟩
   ·have hbq:(lv k==s)=false:=by simp [hq]
    have Hq:=ab hq;clear hq;go_wp2_with (go_at_call 36;refine(mE _ _).mono ?_;rintro e w1 ⟨rfl,hb1⟩)
    go_roundw
    case rel =>
     refine⟨k+1,by omega,by omega,rfl,hb.trans (hb1.mono hb.size),ab fun j h1 h2=>?_⟩;by_cases hj:j=k
     ·subst hj;exact Hq.out
     ·exact HM.out j h1 fR
    case measure=>simp [intOf];omega
  ·go_wp2
   go_ret
   have:k=6:=fR
   subst this;exact⟨lC (by rw [←HR.out,AC HM.out]),hb⟩
end Go.Proofs.YtjggmmaojklmpaaGreatDoor
