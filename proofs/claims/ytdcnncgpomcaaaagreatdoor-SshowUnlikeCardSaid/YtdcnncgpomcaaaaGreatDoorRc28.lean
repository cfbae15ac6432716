/- walks of sshow.braced, sshow.show, sshow.Show -/
import Derived.Test.YtdcnncgpomcaaaaGreatDoorRc27
import Derived.Deep.Slices
set_option maxRecDepth 100000
set_option maxHeartbeats 4000000
namespace Go.Proofs.YtdcnncgpomcaaaaGreatDoor
open Go.RowKit
namespace Sn
mutual
def tiny:Sn→Prop
 | mk _ t _ _ _ f o ks=>f.tiny∧t.length≤1000000∧o.length≤1000000∧(∀s∈o,s.length≤1000000)∧ks.length≤1000000∧tinyL ks
def tinyL:List Sn→Prop
 | []=>True
 | x::r=>tiny x∧tinyL r
end
end Sn
theorem rK:∀{l:List Sn},Sn.tinyL l→∀x∈l,x.tiny
 | [],_,x,h=>by cases h
 | y::r,hl,x,h=>by
  simp only [Sn.tinyL] at hl;rcases JC.1 h with rfl|h
  ·exact hl.1
  ·exact rK hl.2 x h
mutual
theorem FU:∀x:Sn,x.tiny→x.small
 | .mk k t n h u f o ks,hx=>by
  simp only [Sn.tiny] at hx;obtain⟨h1,h2,h3,_,h5,h6⟩:=hx;exact⟨h1.1,h3,h5,h2,pF ks h6⟩
theorem pF:∀l:List Sn,Sn.tinyL l→Sn.smallL l
 | [],_=>trivial
 | x::r,hl=>by
  simp only [Sn.tinyL] at hl;exact⟨FU x hl.1,pF r hl.2⟩
end
def brT (h u:Bool) (f:Tf) (ks:List Sn):Str:=(if h=true then 58::Sn.tellL ks else [])++((if u=true then pH f else [])++[125])
def ShwC (B g:Nat) (ks:List Sn):Prop:=∀(S:Nat→Prop) (a:Option Addr) (c:Nat) (acc:Str) (w:World),Bld B g acc w→Tab w→B≤w.heap.size→(∀b,S b→b<B)→SnSl w S a ks.length ks→acc.length+(Sn.tellL ks).length≤10000000 →
 Calls Tryz.prog 20 #[.pointer (some ⟨g,0,none⟩),.slice a ks.length c] w fun e w'=>e=.returned (.tuple #[])∧Bld B g (acc++Sn.tellL ks) w'∧Fr B [g] [5] w w'
theorem Fr.box {B g b:Nat} {w w':World} (h:Fr B [g] [5] w w') {cs:Array Value} {t:TypeId} {m:Nat × Nat} (hb:w.heap[b]?=some (.cells cs t m)) (hne:b≠g) (ht:t≠5):w'.heap[b]?=some (.cells cs t m) :=
 (h.block b (kT hb) (by simpa using hne) (.inr fun e he=>by
  rw [JY] at he;subst he;unfold yS;rw [hb];intro e;injection e with e;exact ht e)).trans hb
theorem Fr.keepS {B g:Nat} {S:Nat→Prop} {w w':World} (h:Fr B [g] [5] w w') (hB:B≤w.heap.size) (hg:B≤g) (hS:∀b,S b→b<B):Kept S w w' :=
 ⟨h.size,fun b hb _=>(h.below hB (by simpa using hg)).block b (hS b hb)⟩
theorem Bld.ge {B g:Nat} {l:Str} {w:World} (h:Bld B g l w):B≤g:=by obtain⟨_,_,_,h,_⟩:=h;exact h
theorem Tab.fr {B g:Nat} {w w':World} (h:Tab w) (hf:Fr B [g] [5] w w') (hB:B≤w.heap.size) (hg:B≤g) (ht:1<B):Tab w':=h.keepB ht (hf.below hB (by simpa using hg))
theorem we (B g:Nat) (k:Int) (t:Str) (n:Int) (h u:Bool) (f:Tf) (o:List Str) (ks:List Sn) (nm acc:Str) (hft:f.tiny) (hu:u=true→oZ f=true) (hhu:h=true→u=false) (HK0:h=true→ShwC B g ks) (S:Nat→Prop) (cc:List Value) (w:World) (hv:SnV w S cc (.mk k t n h u f o ks))
  (hS:∀b,S b→b<B) (hbl:Bld B g acc w) (ht:Tab w) (htb:1<B) (_hB:B≤w.heap.size) (hl:acc.length+(nm.length+(brT h u f ks).length+2)≤10000000) :
  Calls Tryz.prog 35 #[.pointer (some ⟨g,0,none⟩),.agg cc.toArray,.string ⟨nm.toArray⟩] w fun e w'=>e=.returned (.tuple #[])∧Bld B g (acc++36::123::(nm++brT h u f ks)) w'∧Fr B [g] [5] w w':=by
 have hgB:=hbl.ge;have hgl:=hbl.lt;obtain⟨W0,hW0⟩:∃W0,W0=w.alloc (.cells cc.toArray 44):=⟨_,rfl⟩;have hb0:Below w.heap.size w W0:=by rw [hW0];exact(Below.refl _ _).alloc (Ju _) _
 have HB1:Hid (W0.heap[w.heap.size]?=some (.cells cc.toArray 44 (0,0))):=ab iy;have HF0:Hid (Fr B [g] [5] w W0):=ab (Fr.of_below hb0 (Ju _));have HW0:=ab hW0;have hz0:=hb0.size;obtain⟨fc,oa,oc,ka,kc,A⟩:=hv.at_;have HA:=ab A;have HFC:=ab A.fl;have HFV:=ab (A.fv.keep (Kept.all hb0));have HKV:=ab (A.kv.later hb0);have HBL0:=ab (hbl.below hb0);have HT0:=ab (ht.keep hb0);have HS:=ab hS;have hB0:B≤W0.heap.size:=gN;have hne:w.heap.size≠g:=gN;clear hW0 A hv hbl ht hS;cases h with
 | true =>
  obtain rfl:u=false:=hhu rfl;have HK:=ab (HK0 rfl);have hbr:(brT true false f ks).length=(Sn.tellL ks).length+2:=by simp [brT]
  clear HK0 hhu hu;go_enter Tryz.func35,Tryz.ntmps35
  go_upto_region 1 with fail
  rw [←HW0.out];clear HW0;go_wp2_with (go_at_call 32;refine(lB B g (acc) (36::123::nm) _ HBL0.out ia ia gN).mono ?_)
  first|rintro e w1 rfl hbl1 hfr1|rintro e w1 ⟨rfl,hbl1,hfr1⟩
  have hx1:=hfr1.box HB1.out hne gR;have HX1:=ab hx1;have hsz1:B≤w1.heap.size:=by have:=hfr1.size;omega
  obtain⟨q0,q1,q2,q3,q4,q16,q17,qr⟩:=HA.out.box (hx1);go_wp2_with (go_at_call 34;refine(lv B g (acc++36::123::nm) (58) _ hbl1 ia gN gN gN).mono ?_)
  first|rintro e w2 rfl hbl2 hfr2|rintro e w2 ⟨rfl,hbl2,hfr2⟩
  clear q0 q1 q2 q3 q4 q16 q17 qr;have hx2:=hfr2.box HX1.out hne gR;have HX2:=ab hx2;have hsz2:B≤w2.heap.size:=by have:=hfr2.size;omega
  obtain⟨q0,q1,q2,q3,q4,q16,q17,qr⟩:=HA.out.box (hx2);have HKV2:=ab ((HKV.out.keep (hfr1.keepS hB0 hgB HS.out)).keep (hfr2.keepS hsz1 hgB HS.out));have HT2:=ab ((HT0.out.fr hfr1 hB0 hgB htb).fr hfr2 hsz1 hgB htb);have HSH:=ab (HK.out S ka kc _ w2 hbl2 HT2.out hsz2 HS.out HKV2.out ia);go_wp2_with (go_at_call 20;refine HSH.out.mono ?_)
  first|rintro e w3 rfl hbl3 hfr3|rintro e w3 ⟨rfl,hbl3,hfr3⟩
  clear q0 q1 q2 q3 q4 q16 q17 qr;have hx3:=hfr3.box HX2.out hne gR;have hsz3:B≤w3.heap.size:=by have:=hfr3.size;omega
  obtain⟨q0,q1,q2,q3,q4,q16,q17,qr⟩:=HA.out.box (hx3);exact bQ
 | false =>
  cases u with
  | true =>
   have hbr:(brT false true f ks).length=(pH f).length+1:=by simp [brT]
   have HXS:=ab (fun w' (hk:Kept S W0 w') (ht':Tab w')=>GL S f hft (hu rfl) fc w' (HFV.out.keep hk) ht');clear HK0 hhu hu;go_enter Tryz.func35,Tryz.ntmps35
   go_upto_region 1 with fail
   rw [←HW0.out];clear HW0;go_wp2_with (go_at_call 32;refine(lB B g (acc) (36::123::nm) _ HBL0.out ia ia gN).mono ?_)
   first|rintro e w1 rfl hbl1 hfr1|rintro e w1 ⟨rfl,hbl1,hfr1⟩
   have hx1:=hfr1.box HB1.out hne gR;have HX1:=ab hx1;have hsz1:B≤w1.heap.size:=by have:=hfr1.size;omega
   obtain⟨q0,q1,q2,q3,q4,q16,q17,qr⟩:=HA.out.box (hx1);have HXS1:=ab (HXS.out w1 (hfr1.keepS hB0 hgB HS.out) (HT0.out.fr hfr1 hB0 hgB htb));go_wp2_with (first
    | (refine kV rfl 41 (.tmp 23) rfl w.heap.size 5 rfl fc _ qr mG rfl ky ?_)
    | (go_at_call 50;refine HXS1.out.mono ?_))
   first|rintro e w2 rfl hb2|rintro e w2 ⟨rfl,hb2⟩
   have hfr2:Fr B [g] [5] w1 w2:=Fr.of_below hb2 (Ju _);have hbl2:=hbl1.below hb2;have hsz2:B≤w2.heap.size:=by have:=hfr2.size;omega
   clear q0 q1 q2 q3 q4 q16 q17 qr;go_wp2_with (go_at_call 32;refine(lB B g (acc++36::123::nm) (pH f) _ hbl2 ia ia gN).mono ?_)
   first|rintro e w3 rfl hbl3 hfr3|rintro e w3 ⟨rfl,hbl3,hfr3⟩
   have hsz3:B≤w3.heap.size:=by have:=hfr3.size;omega
   exact bQ
  | false =>
   have hbr:(brT false false f ks).length=1:=by simp [brT]
   clear HK0 hhu hu;go_enter Tryz.func35,Tryz.ntmps35
   go_upto_region 1 with fail
   rw [←HW0.out];clear HW0;go_wp2_with (go_at_call 32;refine(lB B g (acc) (36::123::nm) _ HBL0.out ia ia gN).mono ?_)
   first|rintro e w1 rfl hbl1 hfr1|rintro e w1 ⟨rfl,hbl1,hfr1⟩
   have hx1:=hfr1.box HB1.out hne gR;have hsz1:B≤w1.heap.size:=by have:=hfr1.size;omega
   obtain⟨q0,q1,q2,q3,q4,q16,q17,qr⟩:=HA.out.box (hx1);go_wp2_with (go_at_call 34;refine(lv B g (acc++36::123::nm) (125) _ hbl1 ia gN gN gN).mono ?_)
   first|rintro e w4 rfl hbl4 hfr4|rintro e w4 ⟨rfl,hbl4,hfr4⟩
   have HBL4:=ab hbl4;have HFR4:=ab ((HF0.out.trans hfr1).trans hfr4);clear hbl1 hbl4 hfr1 hfr4;go_wp2
   go_end0
   refine⟨rfl,?_,HFR4.out⟩;have h:=HBL4.out;simpa [brT] using h
open Go.RowKit
def jt:Bool→List Str→Str
 | _,[]=>[]
 | true,a::l=>quot fiveS a++jt false l
 | false,a::l=>44::(quot fiveS a++jt false l)
theorem DJ:∀(l:List Str) (a:Str),jt false (a::l)=44::pb (a::l)
 | [],a=>by simp [jt,pb]
 | b::l,a=>by
  have ih:=DJ l b;simp only [jt,pb] at ih ⊢;rw [ih]
theorem jt_join:∀(l:List Str),jt true l=pb l
 | []=>rfl
 | [a]=>by simp [jt,pb]
 | a::b::l=>by
  have:=DJ l b
  simp only [jt,pb] at this ⊢;rw [this]
open Go.RowKit
def SFs (g bx:Nat) (cc:List Value) (n:Int):List (Value→World→Prop) :=
 [eqP (.pointer (some ⟨g,0,none⟩)),eqP (.agg cc.toArray),eqP (.pointer (some ⟨bx,2,none⟩)),eqP (.int .i64 n),eqP (.string ⟨(dec n).toArray⟩)]
theorem SFs_mono (g bx:Nat) (cc:List Value) (n:Int):MonoF (SFs g bx cc n):=.eq (.eq (.eq (.eq (.eq .nil))))
def RSI (g bx:Nat) (cc:List Value) (n:Int) (A0:Act) (W0:World) (L:Nat→Bool) (a:Act) (w':World):Prop :=
 ∃V:Nat→Value,Fm2 [51,52,53,54,55] V A0 a∧BelI W0 (SFs g bx cc n) V L w'
def SnwRel (B g:Nat) (ks:List Sn) (w:World) (R:Str) (q:Value) (wr:World):Prop :=
 ∃(i:Nat) (acc:Str),q=.int .i64 i∧i≤ks.length∧Bld B g acc wr∧Fr B [g] [5] w wr∧Hid (acc++Sn.tellL (ks.drop i)=R)
def SoRel (B g:Nat) (o:List Str) (w:World) (R:Str) (q:Value) (wr:World):Prop :=
 ∃(j:Nat) (acc:Str),q=.int .i64 j∧j≤o.length∧Bld B g acc wr∧Fr B [g] [5] w wr∧Hid (acc++jt (decide (j=0)) (o.drop j)=R)
theorem Fw (x:Sn) (r:List Sn):Sn.tellL (x::r)=x.tell++Sn.tellL r:=by rw [Sn.tellL]
theorem sI (k:Int) (t:Str) (n:Int) (h u:Bool) (f:Tf) (o:List Str) (ks:List Sn):(Sn.mk k t n h u f o ks).tell=if k=0 then quot three t else if k=2 then 36::123::(dec n++124::(pb o++[124,125])) else 36::123::(pK k t n++brT h u f ks):=by
 rw [Sn.tell];rfl
theorem wf_kind {k:Int} {t:Str} {n:Int} {h u:Bool} {f:Tf} {o:List Str} {ks:List Sn} (hf:mB (.mk k t n h u f o ks)=true) :
  k=0∨(k=1∧0≤n∧n≤9999∧lT (.mk k t n h u f o ks)=true)∨(k=2∧0≤n∧n≤9999)∨(k=3∧t.length≤64∧lT (.mk k t n h u f o ks)=true):=by
 have hf':(if k=0 then !t.isEmpty&&(decide (n=0)&&(o.isEmpty&&nX (.mk k t n h u f o ks))) else if k=1 then t.isEmpty&&(decide (0≤n∧n≤9999)&&(o.isEmpty&&lT (.mk k t n h u f o ks))) else if k=2 then t.isEmpty&&(decide (0≤n∧n≤9999)&&(!o.isEmpty&&nX (.mk k t n h u f o ks))) else if k=3 then oR t&&(decide (n=0)&&(o.isEmpty&&lT (.mk k t n h u f o ks))) else false)=true:=hf;split at hf'
 ·exact .inl ‹_›
 split at hf'
 ·rw [Jy,Jy,Jy,Jj] at hf'
  exact .inr (.inl ⟨‹_›,hf'.2.1.1,hf'.2.1.2,hf'.2.2.2⟩)
 split at hf'
 ·rw [Jy,Jy,Jj] at hf'
  exact .inr (.inr (.inl ⟨‹_›,hf'.2.1.1,hf'.2.1.2⟩))
 split at hf'
 ·rw [Jy,Jy,Jy] at hf'
  refine .inr (.inr (.inr ⟨‹_›,?_,hf'.2.2.2⟩));have h1:=hf'.1;cases t with
  | nil=>simp
  | cons c t =>
   simp only [oR,Jy,Jj] at h1;exact h1.1.1
 ·cases hf'
theorem Br {k:Int} {t:Str} {n:Int} {h u:Bool} {f:Tf} {o:List Str} {ks:List Sn} (hb:lT (.mk k t n h u f o ks)=true):(u=true→oZ f=true)∧(h=true→u=false):=by
 cases h with
 | true =>
  cases u with
  | true=>cases hb
  | false=>exact⟨(fun e=>by cases e),fun _=>rfl⟩
 | false =>
  cases u with
  | true =>
   have hb':(ks.isEmpty&&oZ f)=true:=hb;rw [Jy] at hb';exact⟨fun _=>hb'.2,(fun e=>by cases e)⟩
  | false=>exact⟨(fun e=>by cases e),(fun e=>by cases e)⟩
theorem jt_snoc (b:Bool) (a:Str) (r:List Str):jt b (a::r)=(if b=true then [] else [44])++quot fiveS a++jt false r:=by cases b<;>simp [jt]
theorem EA (B g:Nat) (ks:List Sn) (hti:Sn.tinyL ks) (hkl:ks.length≤1000000) (hwf:Sn.wfL ks=true) (htb:1<B) (IH0:∀y∈ks,y.has=true→ShwC B g y.kids):ShwC B g ks:=by
 intro S a c acc0 w hbl0 ht hB hS hx hlen;obtain⟨R,hR⟩:∃R,acc0++Sn.tellL ks=R:=⟨_,rfl⟩;have hRl:R.length≤10000000:=by rw [←hR,JA];exact hlen
 rw [hR];have hgB:=hbl0.ge;have hgl:=hbl0.lt;have HRR:Hid (acc0++Sn.tellL (ks.drop 0)=R):=ab hR;have HX:=ab hx;have HBL0:=ab hbl0;have HT:=ab ht;have HS:=ab hS;have HTI:=ab (fun y hy=>rK hti y hy);have HWF:=ab (fun y hy=>zi hwf y hy);have IH:=ab IH0;clear hx hti hwf IH0 hR hbl0 ht hS hlen;go_enter Tryz.func20,Tryz.ntmps20
 go_wp2
 go_loopw [10] (fun q wr=>SnwRel B g ks w R q wr) (fun q _=>ks.length-(intOf q).toNat)
 case atStart=>exact⟨0,acc0,rfl,by omega,HBL0.out,Fr.refl _ _ _ _,HRR⟩
 case round =>
  obtain⟨i,acc,rfl,hi,hbl,hfr,HF⟩:=hrel;clear HRR HBL0;have hBr:B≤wr.heap.size:=Jv hB hfr.size;cases hd:ks.drop i with
  | nil =>
   have h2:ks.length≤i:=it;have HF':Hid (acc=R):=ab (by rw [←HF.out,hd];simp [Sn.tellL]);exact dN
  | cons y r =>
   obtain⟨h2,h3,hr⟩:=lC hd;have hym:=JH h3;have hty:=HTI.out y hym;have hwy:=HWF.out y hym;have hih:=IH.out y hym;obtain⟨yk,yt,yn,yh,yu,yf,yo,ys⟩:=y;rw [Sn.wf,Jy] at hwy;simp only [Sn.tiny] at hty;obtain⟨ty1,ty2,ty3,ty4,ty5,ty6⟩:=hty;have HF2:Hid (acc++((Sn.mk yk yt yn yh yu yf yo ys).tell++Sn.tellL (ks.drop (i+1)))=R):=ab (by rw [hr,←HF.out,hd,Fw]);have htl:acc.length+((Sn.mk yk yt yn yh yu yf yo ys).tell.length+(Sn.tellL (ks.drop (i+1))).length)≤10000000:=by
    have h:=Jp List.length HF2.out;rw [JA,JA] at h;omega
   have hkept:=hfr.keepS hB hgB HS.out;obtain⟨b,o,cc,rfl,hSb,hbB,hyv,hcc⟩:=(HX.out.keep hkept).at_ h3;have hrg:wr.rangeAt b (o+i*18) cc:=fun j v hj=>by rw [J4];exact hcc j v hj
   have hcl:=hyv.len;obtain⟨fc,oa,oc,ka,kc,hA⟩:=hyv.at_;obtain⟨W5,hW5,HW5,hb5,HBX⟩:=sM wr cc;have hz5:=hb5.size;have HF5:Hid (Fr B [g] [5] w W5):=ab (hfr.trans (Fr.of_below hb5 (Ju _)));have HBL5:=ab (hbl.below hb5);have HT5:=ab ((HT.out.fr hfr hB hgB htb).keep hb5);have HYV:=ab (hyv.later hb5);have HOV:=ab (hA.ov.keep (Kept.all hb5));have hB5:B≤W5.heap.size:=gN;have hne:wr.heap.size≠g:=by have:=hfr.size;omega
   obtain⟨q0,q1,q2,q3,q4,q16,q17,qr⟩:=hA.box HBX.out;have HONE:Hid (∀u∈cc.toArray.toList,u.oneCell'=true):=ab (fun u hu=>hyv.one u iY);have hkk:=wf_kind hwy.1;have HA:=ab hA;have HIH:=ab hih;clear hd hr h3 hyv hcc hW5 hA hym hih HF hkept hbl hfr hb5 hwy qr;rcases hkk with hk|⟨hk,hn0,hn9,hbs⟩|⟨hk,hn0,hn9⟩|⟨hk,ht64,hbs⟩
   ·subst hk
    have HTE:Hid (acc++quot three yt++Sn.tellL (ks.drop (i+1))=R):=ab (by rw [←HF2.out,sI,Jl rfl,J3]);rw [sI,Jl rfl] at htl;have HQ:=ab (tY B g yt three acc W5 HBL5.out ty2 gN hB5);unfold three at HQ;clear HF2;go_wp2_with (first
     | (first
      | (refine kV rfl 44 (.tmp 12) rfl b (o+(i)*18) rfl cc _ hrg kX rfl gY ?_)
      | (refine ll rfl 44 (.tmp 5) (.tmp 13) rfl (wr.heap.size) (cc.toArray) rfl rfl 44 _ (heap_alloc_new wr _) (ld) iH rfl (HONE.out) (W:=W5) (HW5.out) ?_))
     | (go_at_call 31;refine HQ.out.mono ?_))
    exact cu
   ·subst hk
    have HTE:Hid (acc++36::123::(dec yn++brT yh yu yf ys)++Sn.tellL (ks.drop (i+1))=R):=ab jl;rw [sI,Jo gR,Jo gR,show pK 1 yt yn=dec yn from rfl] at htl;simp only [Jr,JA] at htl;obtain⟨bf1,bf2⟩:=Br hbs;have HBR:=ab (fun(w':World) (hb':Below W5.heap.size W5 w')=>we B g 1 yt yn yh yu yf yo ys (dec yn) acc ty1 bf1 bf2 (fun e=>HIH.out e) S cc w' (HYV.out.later hb') HS.out (HBL5.out.below hb') (HT5.out.keep hb') htb (Jv hB5 hb'.size) gN);clear HF2 hbs bf1 bf2 HIH;go_upto_region 17 with(first
     | (refine kV rfl 44 (.tmp 12) rfl b (o+(i)*18) rfl cc _ hrg kX rfl gY ?_)
     | (refine ll rfl 44 (.tmp 5) (.tmp 13) rfl (wr.heap.size) (cc.toArray) rfl rfl 44 _ (heap_alloc_new wr _) (ld) iH rfl (HONE.out) (W:=W5) (HW5.out) ?_))
    refine mn 5 gT gT (fun A0 W0 L a w'=>RSI g wr.heap.size cc yn A0 W0 L a w') ?_;intro A0 HAA;have hsz:A0.tmps.size=65:=by rw [HAA.out];rfl
    have hnd:[51,52,53,54,55].Nodup:=gR;have hbd:∀d∈[51,52,53,54,55],d<A0.tmps.size:=by rw [hsz];decide
    have e0:A0.tmps[0]?=some (.pointer (some ⟨g,0,none⟩)):=by rw [HAA.out];rfl
    have e5:A0.tmps[5]?=some (.pointer (some ⟨wr.heap.size,0,none⟩)):=by rw [HAA.out];rfl
    have hM:=SFs_mono g wr.heap.size cc yn;have hbx:∀w',Below W5.heap.size W5 w'→w'.heap[wr.heap.size]?=some (.cells cc.toArray 44 (0,0)):=fun w' h=>(h.block _ (kT HBX.out)).trans HBX.out
    refine⟨?_,?_,?_⟩
    ·obtain⟨V,hV⟩:=nT A0 [51,52,53,54,55]
     exact⟨V,⟨hV⟩,BelI.start _ _ _⟩
    ·refine⟨?_,?_,?_,?_,?_,trivial⟩
     ·intro L a w' hL hd hI
      obtain⟨V,hf,hB⟩:=hI;simp [lm,Region.binds] at hd
      have e:=lU ((hf.out (t:=0) gR).trans e0);refine lR (lg rfl) (nY (.inl rfl)) ?_;rw [e];exact ey
     ·intro L a w' hL hd hI
      obtain⟨V,hf,hB⟩:=hI;simp [lm,Region.binds] at hd
      refine kV rfl 44 (.tmp 5) rfl wr.heap.size 0 (lU ((hf.out (t:=5) gR).trans e5)) cc _ (lc (ds:=[]) (by simpa using hbx w' hB.ext)) kX rfl gY ?_;exact dy
     ·intro L a w' hL hd hI
      obtain⟨V,hf,hB⟩:=hI;simp [lm,Region.binds] at hd
      have e:=lU ((hf.out (t:=5) gR).trans e5);refine lR (lg rfl) (v:=.pointer (some ⟨wr.heap.size,2,none⟩)) (w':=w') ig ?_;exact⟨_,hf.put hnd hbd 2 rfl _,hB.same hM 2 rfl⟩
     ·intro L a w' hL hd hI
      obtain⟨V,hf,hB⟩:=hI;simp [lm,Region.binds] at hd
      have q2':=lP hB.ext _ _ q2;refine lR (lg rfl) (qG rfl ((hf.ins hnd hbd 2 rfl).trans (Jp some (show V 2=.pointer (some ⟨wr.heap.size,2,none⟩) from hB.at_ 2 gW))) (u:=.int .i64 yn) kP) ?_;exact ez
     ·intro L a w' hL hd hI
      obtain⟨V,hf,hB⟩:=hI;simp [lm,Region.binds] at hd
      have e:=(lU ((hf.ins hnd hbd 3 rfl).trans (Jp some (show V 3=.int .i64 yn from hB.at_ 3 gW))));refine qS (lg rfl) (qV (vs:=#[.int .i64 yn]) rfl Tryz.func33 gT il) ((sd yn w' hn0 gN (HT5.out.keep hB.ext)).mono ?_);rintro e9 w9 ⟨rfl,hb9⟩;refine⟨_,rfl,?_⟩;exact⟨_,hf.put hnd hbd 4 rfl _,hB.step hM 4 hb9 rfl⟩
    ·intro L a w' hL hI
     obtain⟨V,hf,hB⟩:=hI;have hv0:V 0=.pointer (some ⟨g,0,none⟩):=hB.at_ 0 (hL 0 gR);have hv1:V 1=.agg cc.toArray:=hB.at_ 1 (hL 1 gR);have hv4:V 4=.string ⟨(dec yn).toArray⟩:=hB.at_ 4 (hL 4 gR);have ha:=hf.eq;have hA:=HAA.out;have HEX:=ab hB.ext;subst ha;subst hA;simp only [mW,hv0,hv1,hv4];have HC:=ab (HBR.out w' HEX.out);clear hf hB hM hbd hsz e0 e5 HAA hv0 hv1 hv4 hL hbx hnd;go_wp2_with (go_at_call 35;refine HC.out.mono ?_)
     first|rintro e w1 rfl hbl1 hfr1|rintro e w1 ⟨rfl,hbl1,hfr1⟩
     have HBL1:=ab hbl1;have HFR1:=ab ((HF5.out.trans (Fr.of_below HEX.out (Ju _))).trans hfr1);clear hbl1 hfr1;go_wp2
     go_roundw
     case rel=>exact⟨i+1,_,by go_num,by omega,HBL1.out,HFR1.out,HTE⟩
     case measure=>simp [intOf];omega
   ·subst hk
    have HTE:Hid (acc++36::123::(dec yn++124::(pb yo++[124,125]))++Sn.tellL (ks.drop (i+1))=R):=ab (by rw [←HF2.out,sI,Jo gR,Jl rfl,J3]);rw [sI,Jo gR,Jl rfl] at htl;simp only [Jr,JA,J0] at htl;obtain⟨J,hJ⟩:∃J,pb yo=J:=⟨_,rfl⟩;have HJ0:Hid (jt true yo=J):=ab (by rw [jt_join,hJ]);rw [hJ] at HTE htl;have HTY4:=ab ty4;clear HF2 HIH hJ ty4;go_wp2_with (first
     | (first
      | (refine kV rfl 44 (.tmp 12) rfl b (o+(i)*18) rfl cc _ hrg kX rfl gY ?_)
      | (refine ll rfl 44 (.tmp 5) (.tmp 13) rfl (wr.heap.size) (cc.toArray) rfl rfl 44 _ (heap_alloc_new wr _) (ld) iH rfl (HONE.out) (W:=W5) (HW5.out) ?_))
     | (go_at_call 33;refine(sd yn W5 hn0 gN HT5.out).mono ?_))
    first|rintro e w1 rfl hb1|rintro e w1 ⟨rfl,hb1⟩
    have hfr1:Fr B [g] [5] W5 w1:=Fr.of_below hb1 (Ju _);have hbl1:=HBL5.out.below hb1;have hsz1:B≤w1.heap.size:=by have:=hb1.size;omega
    have HX1:=ab ((hb1.block _ (kT HBX.out)).trans HBX.out);clear q0 q1 q2 q3 q4 q16 q17;go_wp2_with (go_at_call 32;refine(lB B g (acc) (36::123::(dec yn++[124])) _ hbl1 gP gP gN).mono ?_)
    first|rintro e w2 rfl hbl2 hfr2|rintro e w2 ⟨rfl,hbl2,hfr2⟩
    obtain⟨_,_,_,_,_,q16,_,_⟩:=HA.out.box (hfr2.box HX1.out hne gR);obtain⟨A2,hA2⟩:∃A2,acc++36::123::(dec yn++[124])=A2:=⟨_,rfl⟩;have hA2l:A2.length=acc.length+(dec yn).length+3:=by rw [←hA2];simp;omega
    have HA2:=ab hA2;rw [hA2] at hbl2;have HBL2:=ab hbl2;have HFR2:=ab (hfr1.trans hfr2);have HJ1:Hid (A2++jt (decide ((0:Nat)=0)) (yo.drop 0)=A2++J):=ab (by rw [JZ];exact Jp (A2++·) HJ0.out);clear hA2 hbl1 hbl2 hfr1 hfr2 HJ0 hb1;go_wp2
    obtain⟨wo,rfl⟩:∃wo:World,wo=wr:=⟨_,rfl⟩;go_loopw [34] (fun q wr2=>SoRel B g yo W5 (A2++J) q wr2) (fun q _=>yo.length-(intOf q).toNat)
    case atStart=>exact⟨0,A2,rfl,by omega,HBL2.out,HFR2.out,HJ1⟩
    case round =>
     obtain⟨j,acj,rfl,hj,hblj,hfrj,HFJ⟩:=hrel;clear HJ1 HBL2 HFR2;have hBj:B≤wr.heap.size:=Jv hB5 hfrj.size;have hacj:acj.length≤10000000:=by
      have h:=Jp List.length HFJ.out;rw [JA,JA] at h;omega
     have HBLJ:=ab hblj;have HFRJ:=ab hfrj;cases hd2:yo.drop j with
     | nil =>
      have h4:yo.length≤j:=by simpa using hd2
      have HE2:Hid (acj=A2++J):=ab (by rw [←HFJ.out,hd2];simp [jt]);clear hd2 HFJ hblj hfrj;go_wp2_with (go_at_call 32;refine(lB B g (acj) ([124,125]) _ HBLJ.out gP gP gN).mono ?_)
      first|rintro e w3 rfl hbl3 hfr3|rintro e w3 ⟨rfl,hbl3,hfr3⟩
      have HBL3:=ab hbl3;have HFR3:=ab ((HF5.out.trans HFRJ.out).trans hfr3);have HEQ3:Hid (acj++[124,125]++Sn.tellL (ks.drop (i+1))=R):=ab (by rw [HE2.out,←HTE.out,←HA2.out];simp);clear hbl3 hfr3;go_wp2
      exact⟨⟨i+1,_,by go_num,by omega,HBL3.out,HFR3.out,HEQ3⟩,by simp [intOf];omega⟩
     | cons s r2 =>
      obtain⟨h4,h5,hr2⟩:=lC hd2;have hsl:=HTY4.out s (JH h5);obtain⟨ob,oo,rfl,hoB,c0⟩:=(HOV.out.keep (hfrj.keepS hB5 hgB HS.out)).sl.str h5;have HF3:Hid (acj++((if decide (j=0)=true then [] else [44])++quot fiveS s++jt false r2)=A2++J):=ab (by rw [←HFJ.out,hd2,jt_snoc]);have HR3:=ab hr2;have e10:decide (j+1=0)=false:=gU;have E10:=ab e10;clear hd2 HFJ hblj hfrj hr2 h5 e10;by_cases hj0:j=0
      ·have gi:decide ((0:Int)<(j:Int))=false:=JT gN
       have gin:decide (0<j)=false:=JT gN;have HF4:Hid (acj++quot fiveS s++jt false r2=A2++J):=ab (by rw [←HF3.out,hj0];simp);have HQ:=ab (tY B g s fiveS acj wr HBLJ.out hsl gN hBj);unfold fiveS at HQ;clear HF3 hj0;go_wp2_with (go_at_call 31;refine HQ.out.mono ?_)
       first|rintro e w3 rfl hbl3 hfr3|rintro e w3 ⟨rfl,hbl3,hfr3⟩
       have HBL3:=ab hbl3;have HFR3:=ab (HFRJ.out.trans hfr3);have HEQ3:Hid (acj++quot fiveS s++jt (decide (j+1=0)) (yo.drop (j+1))=A2++J):=ab (by rw [E10.out,HR3.out];exact HF4.out);exact dx
      ·have gi:decide ((0:Int)<(j:Int))=true:=JR gN
       have gin:decide (0<j)=true:=JR gN;have HF4:Hid (acj++[44]++quot fiveS s++jt false r2=A2++J):=ab (by rw [←HF3.out,JT hj0];simp);clear HF3 hj0;go_wp2_with (go_at_call 34;refine(lv B g (acj) (44) _ HBLJ.out gP gN gN gN).mono ?_)
       first|rintro e w4 rfl hbl4 hfr4|rintro e w4 ⟨rfl,hbl4,hfr4⟩
       have hB4:B≤w4.heap.size:=Jv hBj hfr4.size;have HQ:=ab (tY B g s fiveS (acj++[44]) w4 (by simpa using hbl4) hsl gV hB4);unfold fiveS at HQ;have HFR4:=ab (HFRJ.out.trans hfr4);clear hbl4 hfr4;go_wp2_with (go_at_call 31;refine HQ.out.mono ?_)
       first|rintro e w3 rfl hbl3 hfr3|rintro e w3 ⟨rfl,hbl3,hfr3⟩
       have HBL3:=ab hbl3;have HFR3:=ab (HFR4.out.trans hfr3);have HEQ3:Hid (acj++[44]++quot fiveS s++jt (decide (j+1=0)) (yo.drop (j+1))=A2++J):=ab (by rw [E10.out,HR3.out];exact HF4.out);exact dx
   ·subst hk
    have HTE:Hid (acc++36::123::(yt++brT yh yu yf ys)++Sn.tellL (ks.drop (i+1))=R):=ab jl;rw [sI,Jo gR,Jo gR,show pK 3 yt yn=yt from rfl] at htl;simp only [Jr,JA] at htl;obtain⟨bf1,bf2⟩:=Br hbs;have HBR:=ab (we B g 3 yt yn yh yu yf yo ys yt acc ty1 bf1 bf2 (fun e=>HIH.out e) S cc W5 HYV.out HS.out HBL5.out HT5.out htb hB5 gN);clear HF2 hbs bf1 bf2 HIH;go_wp2_with (first
     | (first
      | (refine kV rfl 44 (.tmp 12) rfl b (o+(i)*18) rfl cc _ hrg kX rfl gY ?_)
      | (refine ll rfl 44 (.tmp 5) (.tmp 13) rfl (wr.heap.size) (cc.toArray) rfl rfl 44 _ (heap_alloc_new wr _) (ld) iH rfl (HONE.out) (W:=W5) (HW5.out) ?_))
     | (refine kV rfl 44 (.tmp 5) rfl wr.heap.size 0 rfl cc _ (lc (ds:=[]) jx) kX rfl gY ?_)
     | (go_at_call 35;refine HBR.out.mono ?_))
    exact cu
open Go.RowKit
def DpRel (ks:List Sn) (R:Nat) (w:World) (t q:Value) (wr:World):Prop :=
 ∃(k d:Nat),q=.int .i64 k∧t=.int .i64 d∧k≤ks.length∧d≤100000000∧Below w.heap.size w wr∧Hid (max d (Sn.deepL (ks.drop k))=R)
theorem wu:∀(N:Nat) (x:Sn),x.parts≤N→x.deep≤x.parts
 | 0,x,h=>by have:=Sn.parts_pos x;omega
 | N+1,.mk k t n hh u f o ks,h=>by
  have key:∀l:List Sn,Sn.partsL l≤N→Sn.deepL l≤Sn.partsL l:=by
   intro l;induction l with
   | nil=>intro _;simp [Sn.deepL]
   | cons y r ih =>
    intro hl;simp only [Sn.partsL] at hl;have h1:=wu N y gN;have h2:=ih gN;simp only [Sn.deepL,Sn.partsL];omega
  simp only [Sn.parts] at h;have:=key ks gN
  simp only [Sn.deep,Sn.parts];split<;>omega
theorem uK:∀l:List Sn,Sn.deepL l≤Sn.partsL l
 | []=>by simp [Sn.deepL]
 | x::r=>by have:=wu _ x (Ju _);have:=uK r;simp only [Sn.deepL,Sn.partsL];omega
theorem rq (S:Nat→Prop):∀(N:Nat) (ks:List Sn),Sn.partsL ks<N→Sn.partsL ks≤1000000→∀(a:Option Addr) (c:Nat) (w:World),SnSl w S a ks.length ks →
  Calls Tryz.prog 15 #[.slice a ks.length c] w fun e w'=>e=.returned (.int .i64 (Sn.deepL ks))∧Below w.heap.size w w'
 | 0,ks,h,_,_,_,_,_=>by omega
 | N+1,ks,h,hm,a,c,w,hx=>by
  have hlen:=Sn.len_parts ks;have hdl:=uK ks;have ih:=fun(y:Sn) (hy:y.parts≤Sn.partsL ks)=>rq S N y.kids jm jm
  have IH:=ab ih;have HX:=ab hx;obtain⟨R,hR⟩:∃R,Sn.deepL ks=R:=⟨_,rfl⟩;have HR0:Hid (max 0 (Sn.deepL (ks.drop 0))=R):=ab (by simpa using hR);have hR6:R≤1000000:=gN;rw [hR];clear hR hx ih hdl;go_enter Tryz.func15,Tryz.ntmps15
  go_wp2
  go_loopw [3,9] (fun t q wr=>DpRel ks R w t q wr) (fun _ q _=>ks.length-(intOf q).toNat)
  case atStart=>exact⟨0,0,rfl,rfl,by omega,by omega,Below.refl _ _,HR0⟩
  case round =>
   obtain⟨i,d,rfl,rfl,hi,hd9,hb,HF⟩:=hrel;clear HR0;have hB:=hb.size;cases hd:ks.drop i with
   | nil =>
    have h2:ks.length≤i:=it;have HE:Hid (d=R):=ab (by rw [←HF.out,hd];simp [Sn.deepL]);clear hd HF;go_wp2
    go_ret
    exact⟨nA (by have:=HE.out;omega),hb⟩
   | cons y r =>
    obtain⟨h2,h3,hr⟩:=lC hd;obtain⟨yk,yt,yn,yh,yu,yf,yo,ys⟩:=y;have hyp:=Sn.parts_mem (JH h3);obtain⟨b,o,cc,rfl,hS,hbB,hyv,hcc⟩:=(HX.out.later hb).at_ h3;have hrg:wr.rangeAt b (o+i*18) cc:=fun j v hj=>by rw [J4];exact hcc j v hj
    have hcl:=hyv.len;obtain⟨fc,oa,oc,ka,kc,hA⟩:=hyv.at_;have Hr:=ab hr;have HE:Hid (max d (max (Sn.deepL ys+(if yh then 1 else 0)) (Sn.deepL r))=R):=ab iE;obtain⟨W5,hW5,HW5,hb5,HBX⟩:=sM wr cc;have HIH:Hid (Calls Tryz.prog 15 #[.slice ka ys.length kc] W5 fun e w'=>e=.returned (.int .i64 (Sn.deepL ys))∧Below W5.heap.size W5 w'):=ab (IH.out _ hyp ka kc W5 (hA.kv.later hb5));obtain⟨_,_,_,k3,_,_,k17,_⟩:=hA.box HBX.out;have HA:=ab hA;have HONE:Hid (∀u∈cc.toArray.toList,u.oneCell'=true):=ab (fun u hu=>hyv.one u iY);have hle:max d (Sn.deepL ys+(if yh then 1 else 0))≤R:=by have:=HE.out;omega
    clear hd HF hr h3 hyv hcc hW5 hA;cases yh with
    | true =>
     simp only [if_true] at hle;go_wp2_with (first
      | (refine kV rfl 44 (.tmp 11) rfl b (o+i*18) rfl cc _ hrg kX rfl gY ?_)
      | (refine ll rfl 44 (.tmp 5) (.tmp 12) rfl (wr.heap.size) (cc.toArray) rfl rfl 44 _ (heap_alloc_new wr _) (ld) iH rfl (HONE.out) (W:=W5) (HW5.out) ?_)
      | (go_at_call 15;refine HIH.out.mono ?_;rintro e w1 ⟨rfl,hb1⟩;have hx1:=(hb1.block _ (kT HBX.out)).trans HBX.out;obtain⟨_,_,_,k31,_,_,_,_⟩:=HA.out.box hx1))
     go_roundw
     case rel=>exact⟨i+1,(max d (Sn.deepL ys+1)),by go_num,jn,by omega,by omega,(hb.trans (hb5.mono hB)).trans (hb1.mono (Jv hB hb5.size)),ab i8⟩
     case measure=>simp [intOf];omega
    | false =>
     simp only [J1,if_false,Nat.add_zero] at hle;go_wp2_with (first
      | (refine kV rfl 44 (.tmp 11) rfl b (o+i*18) rfl cc _ hrg kX rfl gY ?_)
      | (refine ll rfl 44 (.tmp 5) (.tmp 12) rfl (wr.heap.size) (cc.toArray) rfl rfl 44 _ (heap_alloc_new wr _) (ld) iH rfl (HONE.out) (W:=W5) (HW5.out) ?_)
      | (go_at_call 15;refine HIH.out.mono ?_;rintro e w1 ⟨rfl,hb1⟩;have hx1:=(hb1.block _ (kT HBX.out)).trans HBX.out;obtain⟨_,_,_,k31,_,_,_,_⟩:=HA.out.box hx1))
     go_roundw
     case rel=>exact⟨i+1,(max d (Sn.deepL ys)),by go_num,jn,by omega,by omega,(hb.trans (hb5.mono hB)).trans (hb1.mono (Jv hB hb5.size)),ab i8⟩
     case measure=>simp [intOf];omega
open Go.RowKit
def sR:List (Str × Str)→Int→Option Int
 | [],n=>some n
 | r::rs,n=>if n≤r.1.length∨n≤r.2.length then none else sR rs (n-1-r.1.length-r.2.length)
namespace Rx
mutual
def left:Rx→Int→Int
 | mk _ c _ rs _ _ _ ks,n=>if n≤c.length∨n≤rs.length∨n≤ks.length then -1 else
  (match sR rs (n-1-c.length) with
   | none=>-1
   | some m=>leftK ks m)
def leftK:List Rx→Int→Int
 | [],n=>n
 | x::r,n=>if n<0 then n else leftK r (left x n)
end
def finK (ks:List Rx):Option Int→Int
 | none=>-1
 | some m=>leftK ks m
def mem1:Rx→Prop
 | mk _ c _ rs _ _ _ ks=>c.length≤maxLen∧rs.length≤maxLen∧(∀r∈rs,r.1.length≤maxLen∧r.2.length≤maxLen)∧ks.length≤maxLen
mutual
def mem:Rx→Prop
 | mk k c ng rs lo hi lz ks=>mem1 (mk k c ng rs lo hi lz ks)∧memL ks
def memL:List Rx→Prop
 | []=>True
 | x::r=>mem x∧memL r
end
end Rx
theorem Eo:∀{ks:List Rx} {x:Rx},Rx.memL ks→x∈ks→x.mem
 | [],_,_,h=>by simp at h
 | y::r,x,hs,h=>by
  simp only [Rx.memL] at hs;rcases JC.1 h with rfl|h
  ·exact hs.1
  ·exact Eo hs.2 h
theorem zz:∀(rs:List (Str × Str)) (n m:Int),sR rs n=some m→m≤n∧(-1000≤n→n≤1000→-1000≤m)
 | [],n,m,h=>by simp only [sR] at h;injection h with h;subst h;omega
 | r::rs,n,m,h=>by
  simp only [sR] at h;split at h
  ·cases h
  ·rename_i hc
   have:=zz rs _ m h
   refine⟨by omega,fun a b=>?_⟩;by_cases hn:-1000≤n-1-r.1.length-r.2.length
   ·exact this.2 hn gN
   ·exfalso;omega
theorem zB:∀(N:Nat) (x:Rx) (n:Int),x.parts≤N→-1000≤n→n≤1000→-1000≤x.left n∧x.left n≤1000
 | 0,x,_,h,_,_=>by have:=Rx.parts_pos x;omega
 | N+1,.mk k c ng rs lo hi lz ks,n,h,h0,h1=>by
  simp only [Rx.parts] at h;have hk:∀(l:List Rx) (m:Int),Rx.partsL l≤N→-1000≤m→m≤1000→-1000≤Rx.leftK l m∧Rx.leftK l m≤1000:=by
   intro l;induction l with
   | nil=>intro m _ a b;simp only [Rx.leftK];exact⟨a,b⟩
   | cons x r ih =>
    intro m hm a b;simp only [Rx.partsL] at hm;simp only [Rx.leftK];split
    ·exact⟨a,b⟩
    ·have:=zB N x m gN a b
     exact ih _ gN this.1 this.2
  simp only [Rx.left];split
  ·omega
  ·rename_i hc
   split
   ·omega
   ·rename_i m hm
    have h2:=zz rs _ m hm;exact hk ks m gN (h2.2 gN gN) gN
def LrRel (rs:List (Str × Str)) (R:Option Int) (w:World) (s q:Value) (wr:World):Prop :=
 ∃(k:Nat) (m:Int),k≤rs.length∧q=.int .i64 k∧s=.int .i64 m∧-1000≤m∧m≤1000∧Below w.heap.size w wr∧Hid (sR (rs.drop k) m=R)
def LkRel (ks:List Rx) (R:Int) (w:World) (s q:Value) (wr:World):Prop :=
 ∃(k:Nat) (m:Int),k≤ks.length∧q=.int .i64 k∧s=.int .i64 m∧-1000≤m∧m≤1000∧Below w.heap.size w wr∧Hid (Rx.leftK (ks.drop k) m=R)
theorem BD (S:Nat→Prop):∀(N:Nat) (x:Rx),x.parts≤N→x.mem→∀(cc:List Value) (w:World) (n:Int),RxV w S cc x→-1000≤n→n≤1000 →
  Calls Tryz.prog 29 #[.agg cc.toArray,.int .i64 n] w fun e w'=>e=.returned (.int .i64 (x.left n))∧Below w.heap.size w w'
 | 0,x,h,_,_,_,_,_,_,_=>by have:=Rx.parts_pos x;omega
 | N+1,.mk k c ng rs lo hi lz ks,h,hmem,cc,w,n,hv,hn0,hn1=>by
  obtain⟨ra,rc,ka,kc,rfl,hrs,hx⟩:=hv.open_;simp only [Rx.parts] at h;obtain⟨⟨m1,m2,m3,m4⟩,hmemL⟩:=hmem;unfold maxLen at m1 m2 m3 m4;have ih:=fun(y:Rx) (hy:y∈ks)=>BD S N y jv (Eo hmemL hy)
  have ihb:=fun(y:Rx) (hy:y∈ks) (m:Int)=>zB N y m jv
  have IH:=ab ih;have IHB:=ab ihb;have M3:=ab m3;obtain⟨w0,hw0⟩:∃w0,w0=w.alloc (.cells #[.int .i64 k,.string ⟨c.toArray⟩,.bool ng,.slice ra rs.length rc,.int .i64 lo,.int .i64 hi,.bool lz,.slice ka ks.length kc] 38):=⟨_,rfl⟩;have hb0:Below w.heap.size w w0:=by rw [hw0];exact(Below.refl _ _).alloc (Ju _) _
  have HX:=ab (hx.later hb0);have HRS:=ab (hrs.keep (Kept.all hb0)).sl;have z3:w0.cell? ⟨w.heap.size,3,none⟩=some (.slice ra rs.length rc):=by rw [hw0];simp
  have z7:w0.cell? ⟨w.heap.size,7,none⟩=some (.slice ka ks.length kc):=by rw [hw0];simp
  have Z3:=ab z3;have Z7:=ab z7;clear hx hv hrs ih ihb hmemL z3 z7 m3;unfold rxc;by_cases hout:n≤c.length∨n≤rs.length∨n≤ks.length
  ·have HR:Hid ((Rx.mk k c ng rs lo hi lz ks).left n=-1):=ab (by simp only [Rx.left];rw [Jl hout])
   rw [HR.out];clear hw0;go_enter Tryz.func29,Tryz.ntmps29
   go_wp2
   all_goals first
    | (go_ret;exact⟨rfl,(Below.refl _ _).alloc (Ju _) _⟩)
    | (exfalso;omega)
  ·have h1:(c.length:Int)<n:=gN
   have h2:(rs.length:Int)<n:=gN;have h3:(ks.length:Int)<n:=gN;obtain⟨R,hR⟩:∃R,sR rs (n-1-c.length)=R:=⟨_,rfl⟩;have HR0:Hid (sR (rs.drop 0) (n-1-c.length)=R):=ab hR;have HE:Hid ((Rx.mk k c ng rs lo hi lz ks).left n=Rx.finK ks R):=ab (by simp only [Rx.left];rw [Jo hout,hR];cases R<;>rfl);rw [HE.out];have hR1:∀m,R=some m→-1000≤m∧m≤1000:=fun m hm=>by
    have:=zz rs _ m (hR.trans hm);omega
   have HR1:=ab hR1;clear hout hR hR1;go_enter Tryz.func29,Tryz.ntmps29
   go_wp2
   rw [←hw0];have HW0:=ab hw0;clear hw0;go_loopw [1,5] (fun s q wr=>LrRel rs R w0 s q wr) (fun _ q _=>rs.length-(intOf q).toNat)
   case atStart=>exact⟨0,n-1-c.length,by omega,rfl,rfl,by omega,by omega,Below.refl _ _,HR0⟩
   case round =>
    obtain⟨i,m,hi,rfl,rfl,hm0,hm1,hb,HF⟩:=hrel;clear HR0;have hB:=hb.size;have z3:wr.cell? ⟨w.heap.size,3,none⟩=some (.slice ra rs.length rc):=lP hb _ _ Z3.out;have hbb:=hb0.trans (hb.mono hb0.size);cases hd:rs.drop i with
    | nil =>
     have hge:rs.length≤i:=it;have hie:i=rs.length:=gN;have HE2:Hid (R=some m):=ab iE;have HX1:=ab (HX.out.later hb);have HK0:Hid (Rx.leftK (ks.drop 0) m=Rx.leftK ks m):=ab rfl;obtain⟨T,hT⟩:∃T,Rx.leftK ks m=T:=⟨_,rfl⟩;rw [hT] at HK0;have HFK:Hid (Rx.finK ks R=T):=ab (by rw [HE2.out];exact hT);have Z7r:=ab (lP hb _ _ Z7.out);clear hd HF hT;subst hie;clear hge hi;obtain⟨wo,rfl⟩:∃wo:World,wo=wr:=⟨_,rfl⟩;go_wp2
     go_loopw [1,6] (fun s q wk=>LkRel ks T wo s q wk) (fun _ q _=>ks.length-(intOf q).toNat)
     case atStart=>exact⟨0,m,by omega,rfl,rfl,hm0,hm1,Below.refl _ _,HK0⟩
     case round =>
      obtain⟨j,m',hj,rfl,rfl,hk0,hk1,hbk,HG⟩:=hrel;clear HK0;have hBk:=hbk.size;have z7:wr.cell? ⟨w.heap.size,7,none⟩=some (.slice ka ks.length kc):=lP hbk _ _ Z7r.out;have hbbk:=hbb.trans (hbk.mono hbb.size);cases hd:ks.drop j with
      | nil =>
       have hge2:ks.length≤j:=it;have HT:Hid (m'=T):=ab (by rw [←HG.out,hd];rfl);clear hd HG;go_wp2
       go_ret
       exact⟨nA (by rw [HFK.out];exact HT.out),hbbk⟩
      | cons y r =>
       obtain⟨g2,g3,hr⟩:=lC hd;have hym:=JH g3;obtain⟨yk,yc,yn,yr,yl,yh,yz,ys⟩:=y;obtain⟨b,o,ya,yrc,yka,ykc,rfl,hS,hbB,_,_,hyv,c0,c1,c2,c3,c4,c5,c6,c7⟩:=(HX1.out.later hbk).cells g3;have Hr:=ab hr;have HG2:Hid (Rx.leftK (.mk yk yc yn yr yl yh yz ys::r) m'=T):=ab (by rw [←HG.out,hd]);have HYV:=ab hyv;unfold rxc at HYV;clear hd HG hr g3 hyv;by_cases hneg:m'<0
       ·have HT:Hid (m'=T):=ab (by rw [←HG2.out];simp only [Rx.leftK];rw [Jl hneg])
        go_wp2
        go_ret
        exact⟨nA (by rw [HFK.out];exact HT.out),hbbk⟩
       ·have HT:Hid (Rx.leftK r ((Rx.mk yk yc yn yr yl yh yz ys).left m')=T):=ab (by rw [←HG2.out];simp only [Rx.leftK];rw [Jo hneg])
        have hpos:0≤m':=by omega
        obtain⟨b1,b2⟩:=IHB.out _ hym m' hk0 hk1;clear hneg;go_wp2_with (go_at_call 29;refine(IH.out _ hym _ _ m' HYV.out hk0 hk1).mono ?_)
        first|rintro e w2 rfl hb2|rintro e w2 ⟨rfl,hb2⟩
        go_wp2
        go_roundw
        case rel=>exact⟨j+1,_,by omega,by go_num,rfl,b1,b2,hbk.trans (hb2.mono hBk),ab (by rw [Hr.out];exact HT.out)⟩
        case measure=>simp [intOf];omega
    | cons r0 r =>
     obtain⟨g2,g3,hr⟩:=lC hd;obtain⟨b,o,rfl,hbB,c0,c1⟩:=(HRS.out.keep (hb.mono (Ju _))).row g3;obtain⟨l1,l2⟩:=M3.out r0 (JH g3);obtain⟨f,t⟩:=r0;replace l1:f.length≤2 ^ 63-1:=l1;replace l2:t.length≤2 ^ 63-1:=l2;replace c0:wr.cell? ⟨b,o+i*2,none⟩=some (.string ⟨f.toArray⟩):=c0;replace c1:wr.cell? ⟨b,o+i*2+1,none⟩=some (.string ⟨t.toArray⟩):=c1;have Hr:=ab hr;have HF2:Hid (sR ((f,t)::r) m=R):=ab kO;clear hd HF hr g3;by_cases hc:m≤f.length∨m≤t.length
     ·have HRN:Hid (R=none):=ab (by rw [←HF2.out];simp only [sR];rw [Jl hc])
      go_wp2
      all_goals first
       | (go_ret;exact⟨nA (by rw [HRN.out];rfl),hbb⟩)
       | (exfalso;omega)
     ·have HRN:Hid (sR r (m-1-f.length-t.length)=R):=ab (by rw [←HF2.out];simp only [sR];rw [Jo hc])
      have hcf:(f.length:Int)<m:=gN;have hct:(t.length:Int)<m:=gN;have x3:∀x:ExtOf wr,x.val.cell? ⟨w.heap.size,3,none⟩=some (.slice (some ⟨b,o,none⟩) rs.length rc):=ExtOf.cell z3;have x0:∀x:ExtOf wr,x.val.cell? ⟨b,o+i*2,none⟩=some (.string ⟨f.toArray⟩):=ExtOf.cell c0;have x1:∀x:ExtOf wr,x.val.cell? ⟨b,o+i*2+1,none⟩=some (.string ⟨t.toArray⟩):=ExtOf.cell c1;clear hc;go_wp2
      refine kZ gT gT ?_;repeat (go_big_quiet_step ((fail)))
      refine wpQuiet_nil ?_;rintro _ ⟨xq,rfl⟩;go_wp2
      go_roundw
      case rel=>exact⟨i+1,m-1-f.length-t.length,by omega,by go_num,by go_num,by omega,by omega,hb.trans (xq.ext.mono hB),ab (by rw [Hr.out];exact HRN.out)⟩
      case measure=>simp [intOf];omega
open Go.ChangeShapes Go.WideShapes Go.RowKit
section
variable {H:Type} {enc:TypeId × Value→H} {P:Program} {w:World} {spare:Nat→Bool} {held:Bool}
theorem vP {C:Nat}:∀{css:List (List Value)},(∀c∈css,c.length=C)→∀{j:Nat} {u:Value},css.flatten[j]?=some u→∃i k c,css[i]?=some c∧k<C∧j=i*C+k∧c[k]?=some u
 | [],_,j,u,h=>by simp at h
 | c::css,hC,j,u,h=>by
  have hc:=hC c (JE ..);rw [List.flatten_cons] at h;by_cases hj:j<c.length
  ·rw [JD hj] at h
   exact⟨0,j,c,rfl,by omega,by omega,h⟩
  ·rw [JB gN] at h
   obtain⟨i,k,c',h1,h2,h3,h4⟩:=vP (fun x hx=>hC x (JF _ hx)) h;exact⟨i+1,k,c',by simpa using h1,h2,by rw [Nat.succ_mul];omega,h4⟩
theorem wR {C:Nat}:∀{css:List (List Value)},(∀c∈css,c.length=C)→css.flatten.length=css.length*C
 | [],_=>by simp
 | c::css,hC=>by
  rw [List.flatten_cons,JA,wR (fun x hx=>hC x (JF _ hx)),hC c (JE ..),Jr,Nat.succ_mul];omega
theorem qK {t e:TypeId} {C fuel:Nat} {cs:List Value} {x:DataW H × List MemPlace} (ht:P.underlying t=some (.slice e)) (hC:P.cellsOf e=C) (hC0:0<C)
  (h:DataW.trod enc P w 0 spare held fuel t cs=some x) (Q:List Value→Prop)
  (hQ:∀n c y,n<fuel→c.length=C→DataW.trod enc P w 0 spare held n e c=some y→Q c) :
  ∃(a:Option Addr) (len cap:Nat) (css:List (List Value)),cs=[.slice a len cap]∧len≤maxLen∧css.length=len∧(∀c∈css,Q c∧c.length=C)∧Sl w w.heap.size a C len css.flatten:=by
 rcases DataW.trod_slice ht h with⟨rfl,_⟩|⟨a,len,cap,elems,rest,n,hf,rfl,_,_,hl,hm,hlen,hel,_,_⟩
 ·exact⟨none,0,0,[],rfl,by simp [maxLen],rfl,by simp,Sl.none_ _ _ _ _⟩
 ·have each:∀i,i<len→∃c,c.length=C∧Q c∧∀j,j<C→w.cell? ((a.add (i*C)).add j)=c[j]?:=by
   intro i hi;have h1:=hel i hi;have hlt:i<elems.length:=gN;rw [Jn hlt,Option.bind_eq_some_iff] at h1;obtain⟨c,hc,hy⟩:=h1;obtain⟨_,h2,h3⟩:=World.cells?_some hc;rw [hC] at h2 h3;exact⟨c,h2,hQ n c _ gN h2 hy,h3⟩
  have all:∃css:List (List Value),css.length=len∧∀i c,css[i]?=some c→c.length=C∧Q c∧∀j,j<C→w.cell? ((a.add (i*C)).add j)=c[j]?:=by
   have:∀m,m≤len→∃css:List (List Value),css.length=m∧∀i c,css[i]?=some c→c.length=C∧Q c∧∀j,j<C→w.cell? ((a.add (i*C)).add j)=c[j]?:=by
    intro m;induction m with
    | zero=>intro _;exact⟨[],rfl,by simp⟩
    | succ m ih =>
     intro hm;obtain⟨css,h1,h2⟩:=ih gN;obtain⟨c,hc⟩:=each m gN;refine⟨css++[c],by simp [h1],fun i d hd=>?_⟩;by_cases hi:i<css.length
     ·rw [JD hi] at hd;exact h2 i d hd
     ·rw [JB gN] at hd
      have hi0:i-css.length=0:=by
       rcases Nat.eq_zero_or_pos (i-css.length) with h0|h0
       ·exact h0
       ·rw [List.getElem?_eq_none gV] at hd;cases hd
      rw [hi0] at hd;simp at hd;subst hd
      rw [show i=m by omega];exact hc
   exact this len (Ju _)
  obtain⟨css,h1,h2⟩:=all;have h3:∀c∈css,Q c∧c.length=C:=fun c hc=>by
   obtain⟨i,hi⟩:=List.getElem?_of_mem hc;exact⟨(h2 i c hi).2.1,(h2 i c hi).1⟩
  refine⟨some a,len,cap,css,rfl,by omega,h1,h3,by rw [wR (fun c hc=>(h3 c hc).2),h1],fun hn=>?_⟩;have h0:w.cell? a≠none:=by
   obtain⟨c,hc⟩:∃c,css[0]?=some c:=⟨_,Jn gN⟩;obtain⟨hc1,_,hc2⟩:=h2 0 c hc;have:=hc2 0 hC0
   rw [show (a.add (0*C)).add 0=a by simp [Addr.add],Jn gN] at this;rw [this];simp
  obtain⟨b,off,spot⟩:=a;have hspot:spot=none:=by
   cases spot with
   | none=>rfl
   | some s=>exfalso;apply h0;unfold World.cell?;split<;>simp
  subst hspot;have hb:b<w.heap.size:=by
   rcases Nat.lt_or_ge b w.heap.size with h4|h4
   ·exact h4
   ·exfalso;apply h0;simp [World.cell?,Array.getElem?_eq_none h4]
  refine⟨b,off,rfl,hb,fun j u hu=>?_⟩;obtain⟨i,k,c,g1,g2,rfl,g4⟩:=vP (fun c hc=>(h3 c hc).2) hu;have:=(h2 i c g1).2.2 k g2
  rw [g4] at this;rw [←this];congr 1;unfold Addr.add;(repeat' split)<;>simp_all<;>omega
theorem yw {X:Type} (f:X→List Value) (K:X→Prop):∀{css:List (List Value)},(∀c∈css,∃x,c=f x∧K x)→∃xs:List X,css=xs.map f∧∀x∈xs,K x
 | [],_=>⟨[],rfl,by simp⟩
 | c::css,h=>by
  obtain⟨x,rfl,hx⟩:=h c (JE ..);obtain⟨xs,rfl,hxs⟩:=yw f K (fun d hd=>h d (JF _ hd));exact⟨x::xs,rfl,fun y hy=>by
   rcases JC.1 hy with rfl|hy
   ·exact hx
   ·exact hxs y hy⟩
theorem wJ {X:Type} (f:X→List Value) (K:X→Prop) {t e:TypeId} {C fuel:Nat} {cs:List Value} {x:DataW H × List MemPlace} (ht:P.underlying t=some (.slice e)) (hC:P.cellsOf e=C) (hC0:0<C)
  (h:DataW.trod enc P w 0 spare held fuel t cs=some x)
  (hQ:∀n c y,n<fuel→c.length=C→DataW.trod enc P w 0 spare held n e c=some y→∃x,c=f x∧K x) :
  ∃(a:Option Addr) (cap:Nat) (xs:List X),cs=[.slice a xs.length cap]∧xs.length≤maxLen∧(∀x∈xs,K x)∧Sl w w.heap.size a C xs.length (xs.flatMap f):=by
 obtain⟨a,len,cap,css,h1,h2,h3,h4,h5⟩:=qK ht hC hC0 h (fun c=>∃x,c=f x∧K x) hQ;obtain⟨xs,rfl,hx⟩:=yw f K (fun c hc=>(h4 c hc).1);rw [List.length_map] at h3;subst h3;exact⟨a,cap,xs,h1,h2,hx,by rw [List.flatMap_def];exact h5⟩
end
section
variable {H:Type} {enc:TypeId × Value→H} {w:World} {base:Nat} {spare:Nat→Bool} {held:Bool}
theorem xx {P:Program} {t e:TypeId} (ht:P.underlying t=some (.slice e)) {r:Reach} {b0:Nat} {v:Value} (hval:Value.okWide P w r b0 t v):v.cells.toList=[v]:=by
 obtain⟨a,len,cap,rfl⟩:=okWide_slice ht hval;rfl
end
open Go.ChangeShapes Go.WideShapes Go.RowKit
theorem Je:Tryz.prog.underlying 38=some (.struct (Tryz.prog.fieldsOf 38)):=by kernel_rfl
theorem EP:Tryz.prog.underlying 93=some (.struct (Tryz.prog.fieldsOf 93)):=by kernel_rfl
theorem rx_fs : Tryz.prog.fieldsOf 38 = #[{ name := "Kind", type := 3, offset := 0, embedded := false, tag := "", pkgPath := "", byteOffset := 0 }, { name := "Char", type := 9, offset := 1, embedded := false, tag := "", pkgPath := "", byteOffset := 8 }, { name := "Not", type := 4, offset := 2, embedded := false, tag := "", pkgPath := "", byteOffset := 24 }, { name := "Rows", type := 35, offset := 3, embedded := false, tag := "", pkgPath := "", byteOffset := 32 }, { name := "Min", type := 3, offset := 4, embedded := false, tag := "", pkgPath := "", byteOffset := 56 }, { name := "Max", type := 3, offset := 5, embedded := false, tag := "", pkgPath := "", byteOffset := 64 }, { name := "Lazy", type := 4, offset := 6, embedded := false, tag := "", pkgPath := "", byteOffset := 72 }, { name := "Kids", type := 36, offset := 7, embedded := false, tag := "", pkgPath := "", byteOffset := 80 }] := by kernel_rfl
theorem row_fs : Tryz.prog.fieldsOf 93 = #[{ name := "From", type := 9, offset := 0, embedded := false, tag := "", pkgPath := "", byteOffset := 0 }, { name := "To", type := 9, offset := 1, embedded := false, tag := "", pkgPath := "", byteOffset := 16 }] := by kernel_rfl
theorem wh:Tryz.prog.cellsOf 3=1:=by kernel_rfl
theorem oV:Tryz.prog.cellsOf 9=1:=by kernel_rfl
theorem up:Tryz.prog.cellsOf 4=1:=by kernel_rfl
theorem FN:Tryz.prog.cellsOf 35=1:=by kernel_rfl
theorem Iw:Tryz.prog.cellsOf 36=1:=by kernel_rfl
theorem Gc:Tryz.prog.cellsOf 93=2:=by kernel_rfl
theorem Em:Tryz.prog.cellsOf 38=8:=by kernel_rfl
theorem Ah {w:World}:∀{css:List (List Value)},(∀c∈css,∃x:Rx,RxV w Any c x∧x.mem)→∃xs:List Rx,RxVs w Any css xs∧Rx.memL xs
 | [],_=>⟨[],.nil,by simp [Rx.memL]⟩
 | c::css,h=>by
  obtain⟨x,hx,hm⟩:=h c (JE ..);obtain⟨xs,hxs,hms⟩:=Ah (fun d hd=>h d (JF _ hd));exact⟨x::xs,.cons hx hxs,by simp only [Rx.memL];exact⟨hm,hms⟩⟩
theorem Sl.slAny {w:World} {a:Option Addr} {sz n:Nat} {cs:List Value} (h:Sl w w.heap.size a sz n cs):SlS w Any a sz n cs :=
 (h.slS (Ju _)).mono fun _ _ _=>trivial
section
variable {H:Type} {enc:TypeId × Value→H} {w:World} {spare:Nat→Bool} {held:Bool}
theorem open_row {n:Nat} {c:List Value} {y:DataW H × List MemPlace} (hc:c.length=2) (hy:DataW.trod enc Tryz.prog w 0 spare held n 93 c=some y) :
  ∃r:Str × Str,c=[.string ⟨(r.1).toArray⟩,.string ⟨(r.2).toArray⟩]∧r.1.length≤maxLen∧r.2.length≤maxLen:=by
 obtain⟨ys,m,_,_,_,hl,hfs⟩:=DataW.trod_struct EP hy;match c,hc with
 | [c0,c1],_ =>
  rw [row_fs] at hfs hl;have hys:ys.length=2:=hl;have f0 := hfs 0 ({ name := "From", type := 9, offset := 0, embedded := false, tag := "", pkgPath := "", byteOffset := 0 }) rfl
  have f1 := hfs 1 ({ name := "To", type := 9, offset := 1, embedded := false, tag := "", pkgPath := "", byteOffset := 16 }) rfl
  simp only [oV] at f0 f1;rw [Jn gN] at f0 f1;obtain⟨s0,e0,_,h0⟩:=DataW.trod_string Tryz.underlying9 f0;obtain⟨s1,e1,_,h1⟩:=DataW.trod_string Tryz.underlying9 f1;simp only [List.drop,List.take] at e0 e1;injection e0 with e0;injection e1 with e1
  subst e0 e1;exact⟨⟨s0.data.toList,s1.data.toList⟩,by simp,by simpa using h0,by simpa using h1⟩
theorem rx_cells:∀(fuel:Nat) (c:List Value) (y:DataW H × List MemPlace),c.length=8→DataW.trod enc Tryz.prog w 0 spare held fuel 38 c=some y→∃x:Rx,RxV w Any c x∧x.mem:=by
 intro fuel;induction fuel using Nat.strongRecOn with
 | ind fuel ih =>
  intro c y hc hy;obtain⟨ys,m,hm,_,_,hl,hfs⟩:=DataW.trod_struct Je hy;match c,hc with
  | [c0,c1,c2,c3,c4,c5,c6,c7],_ =>
   rw [rx_fs] at hfs hl;have hys:ys.length=8:=hl;have f0 := hfs 0 ({ name := "Kind", type := 3, offset := 0, embedded := false, tag := "", pkgPath := "", byteOffset := 0 }) rfl
   have f1 := hfs 1 ({ name := "Char", type := 9, offset := 1, embedded := false, tag := "", pkgPath := "", byteOffset := 8 }) rfl
   have f2 := hfs 2 ({ name := "Not", type := 4, offset := 2, embedded := false, tag := "", pkgPath := "", byteOffset := 24 }) rfl
   have f3 := hfs 3 ({ name := "Rows", type := 35, offset := 3, embedded := false, tag := "", pkgPath := "", byteOffset := 32 }) rfl
   have f4 := hfs 4 ({ name := "Min", type := 3, offset := 4, embedded := false, tag := "", pkgPath := "", byteOffset := 56 }) rfl
   have f5 := hfs 5 ({ name := "Max", type := 3, offset := 5, embedded := false, tag := "", pkgPath := "", byteOffset := 64 }) rfl
   have f6 := hfs 6 ({ name := "Lazy", type := 4, offset := 6, embedded := false, tag := "", pkgPath := "", byteOffset := 72 }) rfl
   have f7 := hfs 7 ({ name := "Kids", type := 36, offset := 7, embedded := false, tag := "", pkgPath := "", byteOffset := 80 }) rfl
   simp only [oV,wh,up,FN,Iw] at f0 f1 f2 f3 f4 f5 f6 f7;rw [Jn gN] at f0 f1 f2 f3 f4 f5 f6 f7;obtain⟨n0,e0,_⟩:=DataW.trod_int Tryz.underlying3 f0;obtain⟨s1,e1,_,h1⟩:=DataW.trod_string Tryz.underlying9 f1;obtain⟨b2,e2,_⟩:=DataW.trod_bool Tryz.underlying4 f2;obtain⟨a3,cap3,rs,e3,h3,hr3,sl3⟩:=wJ (fun r:Str × Str=>[.string ⟨(r.1).toArray⟩,.string ⟨(r.2).toArray⟩]) (fun r=>r.1.length≤maxLen∧r.2.length≤maxLen) Tryz.underlying35 (C:=2) Gc gR f3 (fun n c y _ hc hy=>open_row hc hy);obtain⟨n4,e4,_⟩:=DataW.trod_int Tryz.underlying3 f4;obtain⟨n5,e5,_⟩:=DataW.trod_int Tryz.underlying3 f5;obtain⟨b6,e6,_⟩:=DataW.trod_bool Tryz.underlying4 f6;obtain⟨a7,len7,cap7,css,e7,h7,hcl,hq,sl7⟩:=qK Tryz.underlying36 (C:=8) Em gR f7 (fun c=>∃x:Rx,RxV w Any c x∧x.mem) (fun n c y hn hc hy=>ih n gN c y hc hy);obtain⟨ks,hks,hmL⟩:=Ah (fun c hc=>(hq c hc).1);have hlk:len7=ks.length:=by rw [←hks.length,hcl]
   subst hlk;simp only [List.drop,List.take] at e0 e1 e2 e3 e4 e5 e6 e7;injection e0 with e0;injection e1 with e1;injection e2 with e2;injection e3 with e3;injection e4 with e4;injection e5 with e5;injection e6 with e6;injection e7 with e7
   subst e0 e1 e2 e3 e4 e5 e6 e7;refine⟨.mk n0 s1.data.toList b2 rs n4 n5 b6 ks,?_,?_⟩
   ·have hv:=RxV.mk (k:=n0) (c:=s1.data.toList) (ng:=b2) (rs:=rs) (lo:=n4) (hi:=n5) (lz:=b6) (ks:=ks) (rc:=cap3) (kc:=cap7) (ra:=a3) (ka:=a7) sl3.slAny sl7.slAny hks
    unfold rxc at hv;rw [←ba_of] at hv;exact hv
   ·simp only [Rx.mem,Rx.mem1]
    exact⟨⟨by simpa using h1,h3,hr3,h7⟩,hmL⟩
end
end Go.Proofs.YtdcnncgpomcaaaaGreatDoor
