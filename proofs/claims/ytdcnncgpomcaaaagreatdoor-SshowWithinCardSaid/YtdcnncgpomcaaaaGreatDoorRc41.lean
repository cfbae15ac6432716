/- What a snippet is told as, and how that is read: plain laws. -/
import Derived.Test.YtdcnncgpomcaaaaGreatDoorRc0c
import Derived.Test.YtdcnncgpomcaaaaGreatDoorRc35
import Derived.Test.YtdcnncgpomcaaaaGreatDoorRc36
set_option maxRecDepth 100000
set_option maxHeartbeats 4000000
namespace Go.Proofs.YtdcnncgpomcaaaaGreatDoor
namespace Sn
end Sn
theorem Gh {l:List Sn} (ha:adjS false l=true) (hw:Sn.wfL l=true) (hs:Sn.shortL l=true):nn (Sn.tellL l)=l:=by
 have h:=Ek hw hs false [] [] [];rw [J5,me,sv l [] [] ha hw] at h;rw [oz,h];simp [lO]
open Go.RowKit
theorem yy (W:World) (n:Nat) (z:Int) (hz:z=n):(convert 52 9 (.slice (some ⟨W.heap.size,0,none⟩) 1 1)).run Tryz.prog (W.alloc (.cells #[.int .u8 (48+z % 10)] 5))=.ok (.string ⟨([UInt8.ofNat (48+n % 10)]).toArray⟩) (W.alloc (.cells #[.int .u8 (48+z % 10)] 5)):=by
 subst hz;refine oN (B:=W.heap.size) (n:=1) Tryz.underlying52 Tryz.underlying5 Tryz.underlying9 ?_;refine⟨rfl,.inr ⟨W.heap.size,1,_,rfl,Ju _,heap_alloc_new W _,by decide,by decide,rfl,?_⟩⟩;simp [mt]
 omega
def DgRel (R:Str) (W0:World) (q p:Value) (wr:World):Prop:=∃(m:Nat) (s:Str),m≤10000∧s.length+m≤20000∧q=.int .i64 m∧p=.string ⟨s.toArray⟩∧Below W0.heap.size W0 wr∧Hid ((if m<10 then [] else Lib.decDigits (m / 10))++s=R)
theorem vD (m:Nat):(if m<10 then [] else Lib.decDigits (m / 10))++[UInt8.ofNat (48+m % 10)]=Lib.decDigits m:=by
 rw [Lib.decDigits.eq_1 m];by_cases h:m<10
 ·rw [Jl h,dif_pos h,Nat.mod_eq_of_lt h];rfl
 ·rw [Jo h,dif_neg h]
theorem xM (n:Nat) (w:World) (hn:n≤10000) :
  Calls Tryz.prog 17 #[.int .i64 n] w fun e w'=>e=.returned (.string ⟨(Lib.decDigits n).toArray⟩)∧Below w.heap.size w w':=by
 generalize hR:Lib.decDigits n=R
 have HR:=ab hR;clear hR;have hc:=yy w n n rfl;go_enter Tryz.func17,Tryz.ntmps17
 go_wp2
 go_loopw [0,3] (fun q p wr=>DgRel R w q p wr) (fun q _ _=>(intOf q).toNat)
 case atStart=>exact⟨n,[UInt8.ofNat (48+n % 10)],by omega,by simp;omega,rfl,by simp,(Below.refl _ _).alloc (Ju _) _,ab (by rw [←HR.out];exact vD n)⟩
 case round =>
  obtain⟨m,s,hm,hs,rfl,rfl,hb,HF⟩:=hrel;have hc2:=yy wr (m / 10) ((m:Int) / 10) gN;have hB:=hb.size;by_cases h9:m<10
  ·have HE:Hid (R=s):=ab (by rw [←HF.out,Jl h9];rfl)
   have g9:decide ((10:Int)≤m)=false:=by rw [JJ];omega
   go_wp2
   go_ret
   exact⟨ue HE.out.symm,hb⟩
  ·have HE:Hid (Lib.decDigits (m / 10)++s=R):=ab (by rw [←HF.out,Jo h9])
   go_wp2
   go_roundw
   case rel=>exact⟨m / 10,UInt8.ofNat (48+m / 10 % 10)::s,by omega,by simp;omega,by go_num,by simp,hb.alloc hB _,ab (by rw [←HE.out,←vD (m / 10)];simp)⟩
   case measure=>simp [intOf];omega
open Go.RowKit
def low (x n:Int):Int:=(x % 18446744073709551616) % n
theorem GZ (x:Int) {n:Int} (h:1≤n):0≤low x n∧low x n<n:=⟨Int.emod_nonneg _ gN,Int.emod_lt_of_pos _ gN⟩
theorem low_eq (x n:Int) (h1:1≤n) (h2:n≤1000000):wrap64 ((IntKind.u64.wrap x).tmod n)=low x n:=by
 have hu:IntKind.u64.wrap x=x % 18446744073709551616:=by simp [IntKind.wrap,IntKind.signed,IntKind.bits]
 have hnn:0≤x % 18446744073709551616:=gN;rw [hu,Int.tmod_eq_emod_of_nonneg hnn];have:=GZ x h1
 unfold low at *;unfold wrap64;omega
theorem Gs (x n:Int) (w:World) (h1:1≤n) (h2:n≤1000000) :
  Calls Tryz.prog 16 #[.int .i64 x,.int .i64 n] w fun e w'=>e=.returned (.int .i64 (low x n))∧w=w':=by
 have HE:=ab (low_eq x n h1 h2);go_enter Tryz.func16,Tryz.ntmps16
 go_wp2
 go_ret
 exact⟨nA HE.out,rfl⟩
open Go.RowKit
theorem dig4 {k:Nat} (h:k≤9999):(Lib.decDigits k).length≤4:=by
 rw [Lib.decDigits_length];exact(rX gN).2
theorem ve {W:World} {cc:List Value} {x:Sn} {t:TypeId} {b:Nat} (h:SnV W (fun _=>True) cc x) (hb:W.heap[b]?=some (.cells cc.toArray t (0,0))):SnSl W (fun _=>True) (some ⟨b,0,none⟩) 1 [x]:=SnSl.one h hb trivial
open Go.RowKit
theorem BK {l:List Sn} (hm:nM l=true) (hs:Sn.shortL l=true) (hl:(Sn.tellL l).length≤8192):pz (Sn.tellL l)=.ok l:=by
 unfold nM at hm;simp only [Jy,Jj] at hm;exact yZ (Gh hm.1.1 hm.1.2 hs) hl hm.2
open Go.RowKit
def vaS:Str:=[118,97,95,114]
def inS (v:Bool) (k:Nat) (xs:List Sn):Sn:=if v=true then(varS vaS).give xs else(no k).give xs
def zP (v:Bool) (k:Nat):Str:=if v=true then [36,123,118,97,95,114,58] else 36::123::(Lib.decDigits k++[58])
theorem Dr (v:Bool) (k:Nat) (xs:List Sn):Sn.tellL [inS v k xs]=zP v k++Sn.tellL xs++[125]:=by
 cases v with
 | true=>simp [inS,zP,Sn.tellL,Sn.tell,varS,Sn.give,pK,vaS]
 | false=>simp [inS,zP,Sn.tellL,Sn.tell,no,Sn.give,pK,dec]
theorem IF {v:Bool} {k:Nat} {xs:List Sn} (hk:k≤9999) (hm:nM xs=true) (hd:Sn.deepL xs<32):nM [inS v k xs]=true:=by
 unfold nM at hm ⊢;simp only [Jy,Jj] at hm;have hx:Hd (if v=true then varS vaS else no k):=by
  cases v with
  | true=>exact .inr ⟨vaS,by decide,rfl⟩
  | false=>exact .inl ⟨k,hk,rfl⟩
 have he:inS v k xs=(if v=true then varS vaS else no k).give xs:=by cases v<;>rfl
 obtain⟨a,b,_,d⟩:=hx.give hm.1.1 hm.1.2;rw [he];simp only [Jy,Jj,adjS,Sn.wfL,Sn.deepL,a,d];simp [b];omega
theorem Ak (v:Bool) (k:Nat) (xs:List Sn):Sn.shortL [inS v k xs]=Sn.shortL xs:=by
 cases v<;>simp [inS,Sn.shortL,Sn.short,varS,no,Sn.give]
theorem Ej {v:Bool} {k:Nat} {xs:List Sn} (ht:Sn.tinyL xs) (hl:xs.length≤1000000):Sn.tinyL [inS v k xs]:=by
 cases v with
 | true=>exact⟨⟨sZ,by decide,by simp,fun _ h=>by simp at h,hl,ht⟩,trivial⟩
 | false=>exact⟨⟨sZ,by simp,by simp,fun _ h=>by simp at h,hl,ht⟩,trivial⟩
theorem Fz (a:Option Addr) (c:Nat) (xs:List Sn) (n:Int) (v:Bool) (w:World) (ht:Tab w) (hx:SnSl w Any a xs.length xs) (hm:Sn.memL xs) (hl:xs.length≤maxLen) (hneg:Sn.leftL xs 100<0):Calls Tryz.prog 5 #[.slice a xs.length c,.int .i64 n,.bool v] w fun e w'=>e=.returned (.bool true)∧Below w.heap.size w w':=by
 obtain⟨L,hL⟩:∃L,Sn.leftL xs 100=L:=⟨_,rfl⟩;have HLB:=ab (mU (Sn.partsL xs+1) xs gN hm hl Any a c w 100 hx gR gR);rw [hL] at HLB;have HAW:=ab nc;have HT:=ab ht;have HX:=ab hx;unfold maxLen at hl;have hge:decide (L<0)=true:=JR gN;clear hneg hL hm ht hx;go_enter Tryz.func5,Tryz.ntmps5
 go_wp2_with (go_at_call 8;refine HLB.out.mono ?_)
 exact bF
theorem E6 (a:Option Addr) (c:Nat) (xs:List Sn) (n:Int) (v:Bool) (w:World) (ht:Tab w) (hx:SnSl w Any a xs.length xs) (hm:Sn.memL xs) (hl:xs.length≤maxLen) (hneg:¬Sn.leftL xs 100<0) (hmay:nM xs=false):Calls Tryz.prog 5 #[.slice a xs.length c,.int .i64 n,.bool v] w fun e w'=>e=.returned (.bool true)∧Below w.heap.size w w':=by
 obtain⟨L,hL⟩:∃L,Sn.leftL xs 100=L:=⟨_,rfl⟩;have HLB:=ab (mU (Sn.partsL xs+1) xs gN hm hl Any a c w 100 hx gR gR);rw [hL] at HLB;have HAW:=ab nc;have HT:=ab ht;have HX:=ab hx;unfold maxLen at hl;have hge:decide (L<0)=false:=JT gN;have h1:=qW xs 100 kI;have hw:Sn.wtL xs≤100:=gN;have hp:=nu xs;have hn:=Sn.len_parts xs;have hsm:=nt xs gN;have HM:=ab (fun w' hb=>pS Any xs hsm gN a c w' (HX.out.later hb:SnSl w' Any a xs.length xs));rw [hmay] at HM;clear hneg hL hm ht hx h1 hw hp hn hsm hmay;go_enter Tryz.func5,Tryz.ntmps5
 go_wp2_with (go_at_call 8;refine HLB.out.mono ?_)
 first|rintro e w1 rfl hb1|rintro e w1 ⟨rfl,hb1⟩
 go_wp2_with (go_at_call 11;refine(HM.out _ hb1).mono ?_)
 first|rintro e w2 rfl hb2|rintro e w2 ⟨rfl,hb2⟩
 have hbw2:=bel2 hb1 hb2;go_wp2_with (go_at_call 9;refine(HAW.out _ (HT.out.keep hbw2)).mono ?_;rintro e w9 ⟨rfl,hb9⟩)
 go_ret
 exact⟨rfl,bel2 hbw2 hb9⟩
theorem AV (a:Option Addr) (c:Nat) (xs:List Sn) (n:Int) (v:Bool) (w:World) (ht:Tab w) (hx:SnSl w Any a xs.length xs) (hm:Sn.memL xs) (hl:xs.length≤maxLen) (hneg:¬Sn.leftL xs 100<0) (hmay:nM xs=true) (hsh:Sn.shortL xs=false):Calls Tryz.prog 5 #[.slice a xs.length c,.int .i64 n,.bool v] w fun e w'=>e=.returned (.bool true)∧Below w.heap.size w w':=by
 obtain⟨L,hL⟩:∃L,Sn.leftL xs 100=L:=⟨_,rfl⟩;have HLB:=ab (mU (Sn.partsL xs+1) xs gN hm hl Any a c w 100 hx gR gR);rw [hL] at HLB;have HAW:=ab nc;have HT:=ab ht;have HX:=ab hx;unfold maxLen at hl;have hge:decide (L<0)=false:=JT gN;have h1:=qW xs 100 kI;have hw:Sn.wtL xs≤100:=gN;have hp:=nu xs;have hn:=Sn.len_parts xs;have hsm:=nt xs gN;have HM:=ab (fun w' hb=>pS Any xs hsm gN a c w' (HX.out.later hb:SnSl w' Any a xs.length xs));rw [hmay] at HM;have hwf:=pN hmay;have htl:=nJ xs hwf;have hti:=nS xs hwf gN;have hkl:xs.length≤1000000:=gN;have HSH:=ab (fun(w':World) (hb:Below w.heap.size w w')=>py Any (Sn.partsL xs+1) xs gN hti hkl hwf a c w' (hx.later hb) (ht.keep hb));rw [hsh] at HSH;clear hneg hL hm ht hx h1 hw hp hn hsm hmay hwf htl hti hsh;go_enter Tryz.func5,Tryz.ntmps5
 go_wp2_with (go_at_call 8;refine HLB.out.mono ?_)
 first|rintro e w1 rfl hb1|rintro e w1 ⟨rfl,hb1⟩
 go_wp2_with (go_at_call 11;refine(HM.out _ hb1).mono ?_)
 first|rintro e w2 rfl hb2|rintro e w2 ⟨rfl,hb2⟩
 have hbw2:=bel2 hb1 hb2;go_wp2_with (go_at_call 12;refine(HSH.out _ hbw2).mono ?_)
 exact gI
theorem CW (a:Option Addr) (c:Nat) (xs:List Sn) (n:Int) (v:Bool) (w:World) (ht:Tab w) (hx:SnSl w Any a xs.length xs) (hm:Sn.memL xs) (hl:xs.length≤maxLen) (hneg:¬Sn.leftL xs 100<0) (hmay:nM xs=true) (hsh:Sn.shortL xs=true) (h32:32≤Sn.deepL xs):Calls Tryz.prog 5 #[.slice a xs.length c,.int .i64 n,.bool v] w fun e w'=>e=.returned (.bool true)∧Below w.heap.size w w':=by
 obtain⟨L,hL⟩:∃L,Sn.leftL xs 100=L:=⟨_,rfl⟩;have HLB:=ab (mU (Sn.partsL xs+1) xs gN hm hl Any a c w 100 hx gR gR);rw [hL] at HLB;have HAW:=ab nc;have HT:=ab ht;have HX:=ab hx;unfold maxLen at hl;have hge:decide (L<0)=false:=JT gN;have h1:=qW xs 100 kI;have hw:Sn.wtL xs≤100:=gN;have hp:=nu xs;have hn:=Sn.len_parts xs;have hsm:=nt xs gN;have HM:=ab (fun w' hb=>pS Any xs hsm gN a c w' (HX.out.later hb:SnSl w' Any a xs.length xs));rw [hmay] at HM;have hwf:=pN hmay;have htl:=nJ xs hwf;have hti:=nS xs hwf gN;have hkl:xs.length≤1000000:=gN;have HSH:=ab (fun(w':World) (hb:Below w.heap.size w w')=>py Any (Sn.partsL xs+1) xs gN hti hkl hwf a c w' (hx.later hb) (ht.keep hb));rw [hsh] at HSH;have HD:=ab (fun(w':World) (hb:Below w.heap.size w w')=>rq Any (Sn.partsL xs+1) xs gN gN a c w' (hx.later hb));obtain⟨dd,hdd⟩:∃dd,Sn.deepL xs=dd:=⟨_,rfl⟩;rw [hdd] at HD h32;have dg:decide ((32:Int)≤(dd:Int))=true:=JR gN;clear hneg hL hm ht hx h1 hw hp hn hsm hmay hwf htl hti hsh hdd h32;go_enter Tryz.func5,Tryz.ntmps5
 go_wp2_with (go_at_call 8;refine HLB.out.mono ?_)
 first|rintro e w1 rfl hb1|rintro e w1 ⟨rfl,hb1⟩
 go_wp2_with (go_at_call 11;refine(HM.out _ hb1).mono ?_)
 first|rintro e w2 rfl hb2|rintro e w2 ⟨rfl,hb2⟩
 have hbw2:=bel2 hb1 hb2;go_wp2_with (go_at_call 12;refine(HSH.out _ hbw2).mono ?_)
 first|rintro e w3 rfl hb3|rintro e w3 ⟨rfl,hb3⟩
 have hbw3:=bel2 hbw2 hb3;go_wp2_with (go_at_call 15;refine(HD.out _ hbw3).mono ?_)
 exact bU
theorem BE (a:Option Addr) (c:Nat) (xs:List Sn) (n:Int) (w:World) (ht:Tab w) (hx:SnSl w Any a xs.length xs) (hm:Sn.memL xs) (hl:xs.length≤maxLen) (hneg:¬Sn.leftL xs 100<0) (hmay:nM xs=true) (hsh:Sn.shortL xs=true) (hd:Sn.deepL xs<32) :
  Calls Tryz.prog 5 #[.slice a xs.length c,.int .i64 n,.bool false] w fun e w'=>e=.returned (.bool true)∧Below w.heap.size w w':=by
 obtain⟨L,hL⟩:∃L,Sn.leftL xs 100=L:=⟨_,rfl⟩;have HLB:=ab (mU (Sn.partsL xs+1) xs gN hm hl Any a c w 100 hx gR gR);rw [hL] at HLB;have HAW:=ab nc;have HT:=ab ht;have HX:=ab hx;unfold maxLen at hl;have hge:decide (L<0)=false:=JT gN;have h1:=qW xs 100 kI;have hw:Sn.wtL xs≤100:=gN;have hp:=nu xs;have hn:=Sn.len_parts xs;have hsm:=nt xs gN;have HM:=ab (fun w' hb=>pS Any xs hsm gN a c w' (HX.out.later hb:SnSl w' Any a xs.length xs));rw [hmay] at HM;have hwf:=pN hmay;have htl:=nJ xs hwf;have hti:=nS xs hwf gN;have hkl:xs.length≤1000000:=gN;have HSH:=ab (fun(w':World) (hb:Below w.heap.size w w')=>py Any (Sn.partsL xs+1) xs gN hti hkl hwf a c w' (hx.later hb) (ht.keep hb));rw [hsh] at HSH;have HD:=ab (fun(w':World) (hb:Below w.heap.size w w')=>rq Any (Sn.partsL xs+1) xs gN gN a c w' (hx.later hb));have dg:decide ((32:Int)≤(Sn.deepL xs:Int))=false:=JT gN;have hlow:=GZ n (n:=10000) gN;obtain⟨k,hk⟩:∃k:Nat,low n 10000=k:=⟨(low n 10000).toNat,by omega⟩;have hk9:k≤9999:=gN;have HLO:=ab (fun w=>hk▸Gs n 10000 w gN gN);have hdl:=dig4 hk9;have hS:=fun(w':World) (hb:Below w.heap.size w w')=>mH (fun b=>b<w'.heap.size) xs hti hkl hmay gN a c w' (fun _ h=>h) (ht.keep hb) ((hx.later hb).mono (fun _ _ h=>h))
 have hmi:=IF (v:=false) hk9 hmay gN;have hti2:=Ej (v:=false) (k:=k) hti hkl;have hts:=Dr false k xs;have hhl:(zP false k).length≤10:=by unfold zP;split<;>simp;omega
 have htl2:(Sn.tellL [inS false k xs]).length≤6000:=by rw [hts];simp;omega
 have hrd:=BK hmi (by rw [Ak];exact hsh) gN;have hS2:=fun(a:Option Addr) (c:Nat) (w':World) (hb:Below w.heap.size w w') (hx:SnSl w' Any a 1 [inS false k xs])=>mH (fun b=>b<w'.heap.size) [inS false k xs] hti2 gU hmi gN a c w' (fun _ h=>h) (ht.keep hb) (hx.mono (fun _ _ h=>h))
 have HSM:=ab (nsame (pF _ hti2) gU);rw [hts] at hrd hS2;obtain⟨T,hT⟩:∃T,Sn.tellL xs=T:=⟨_,rfl⟩;rw [hT] at hS hrd hS2 htl;have hTl:T.length≤6000:=gN;have HS:=ab hS;have HS2:=ab hS2;have HRD:=ab (uH hrd gV);obtain⟨dd,hdd⟩:∃dd,Sn.deepL xs=dd:=⟨_,rfl⟩;rw [hdd] at HD dg;clear h1 hw hp hn hsm hmay hwf htl hti hsh hlow hk hS hmi hti2 hts htl2 hrd hS2 hT hneg hL hm ht hx hdd hd;unfold zP at HS2 HRD;go_enter Tryz.func5,Tryz.ntmps5
 go_wp2_with (go_at_call 8;refine HLB.out.mono ?_)
 first|rintro e w1 rfl hb1|rintro e w1 ⟨rfl,hb1⟩
 go_wp2_with (go_at_call 11;refine(HM.out _ hb1).mono ?_)
 first|rintro e w2 rfl hb2|rintro e w2 ⟨rfl,hb2⟩
 have hbw2:=bel2 hb1 hb2;go_wp2_with (go_at_call 12;refine(HSH.out _ hbw2).mono ?_)
 first|rintro e w3 rfl hb3|rintro e w3 ⟨rfl,hb3⟩
 have hbw3:=bel2 hbw2 hb3;go_wp2_with (go_at_call 15;refine(HD.out _ hbw3).mono ?_)
 first|rintro e w4 rfl hb4|rintro e w4 ⟨rfl,hb4⟩
 have hbw4:=bel2 hbw3 hb4;clear hb1 hb2 hb3 hb4 hbw2 hbw3;go_wp2_with (go_at_call 10;refine(HS.out _ hbw4).mono ?_)
 first|rintro e w5 rfl hb5|rintro e w5 ⟨rfl,hb5⟩
 have hbw5:=bel2 hbw4 hb5;clear hb5 hbw4;go_wp2_with (go_at_call 16;refine(HLO.out _).mono ?_)
 rintro e wl ⟨rfl,rfl⟩;go_upto_region 5 with fail
 obtain⟨W6,hW6⟩:∃W6,W6=w5.alloc (.cells #[.int .i64 1,.string ⟨[].toArray⟩,.int .i64 (k:Int),.bool true,.bool false,.int .i64 0,.string ⟨#[]⟩,.bool false,.slice none 0 0,.int .i64 0,.int .i64 0,.bool false,.slice none 0 0,.slice none 0 0,.bool false,.bool false,.slice none 0 0,.slice a xs.length c] 44):=⟨_,rfl⟩;rw [←hW6];have hb6:Below w5.heap.size w5 W6:=by rw [hW6];exact(Below.refl _ _).alloc (Ju _) _
 have hx6:W6.heap[w5.heap.size]?=some (.cells #[.int .i64 1,.string ⟨[].toArray⟩,.int .i64 (k:Int),.bool true,.bool false,.int .i64 0,.string ⟨#[]⟩,.bool false,.slice none 0 0,.int .i64 0,.int .i64 0,.bool false,.slice none 0 0,.slice none 0 0,.bool false,.bool false,.slice none 0 0,.slice a xs.length c] 44 (0,0)):=by rw [hW6];exact heap_alloc_new _ _
 have c62:W6.cell? ⟨w5.heap.size,2,none⟩=some (.int .i64 (k:Int)):=by rw [Jw hx6];rfl
 have HX6:=ab hx6;have HB6:=ab (bel2 hbw5 hb6);have hz5:w.heap.size≤w5.heap.size:=hbw5.size;clear hW6 hx6 hb6 hbw5;go_wp2_with (go_at_call 17;refine(xM k _ gN).mono ?_)
 rintro e w7 ⟨rfl,hb7⟩;have HX7:=ab ((hb7.block _ (kT HX6.out)).trans HX6.out);have HB7:=ab (bel2 HB6.out hb7);clear hb7 c62
 (have HXV:=HX7;have HBV:=HB7)
 go_wp2_with (go_at_call 13;refine(HRD.out _ _ gU).mono ?_)
 rintro e w8 ⟨a8,c8,rfl,hb8,hs8⟩;have HX8:=ab ((hb8.block _ (kT HXV.out)).trans HXV.out);have hbw8:=bel2 HBV.out hb8;have hb9:Below w8.heap.size w8 (w8.alloc (.cells #[.int .i64 1,.string ⟨[].toArray⟩,.int .i64 (k:Int),.bool true,.bool false,.int .i64 0,.string ⟨#[]⟩,.bool false,.slice none 0 0,.int .i64 0,.int .i64 0,.bool false,.slice none 0 0,.slice none 0 0,.bool false,.bool false,.slice none 0 0,.slice a xs.length c] 44)):=(Below.refl _ _).alloc (Ju _) _;have hbw9:=bel2 hbw8 hb9;have hwant:SnSl (w8.alloc (.cells #[.int .i64 1,.string ⟨[].toArray⟩,.int .i64 (k:Int),.bool true,.bool false,.int .i64 0,.string ⟨#[]⟩,.bool false,.slice none 0 0,.int .i64 0,.int .i64 0,.bool false,.slice none 0 0,.slice none 0 0,.bool false,.bool false,.slice none 0 0,.slice a xs.length c] 44)) Any (some ⟨w8.heap.size,0,none⟩) 1 [inS false k xs]:=ve (cc:=[.int .i64 1,.string ⟨[].toArray⟩,.int .i64 (k:Int),.bool true,.bool false,.int .i64 0,.string ⟨#[]⟩,.bool false,.slice none 0 0,.int .i64 0,.int .i64 0,.bool false,.slice none 0 0,.slice none 0 0,.bool false,.bool false,.slice none 0 0,.slice a xs.length c]) (hx_v (os:=[]) (ks:=xs) (oa:=none) (oc:=0) (ka:=a) (kc:=c) (SlS.none_ _ _ _ _) (HX.out.later hbw9)) (heap_alloc_new w8 _);have HC9:=ab (HS2.out (some ⟨w8.heap.size,0,none⟩) 1 _ hbw9 hwant);have HS8:=ab (hs8.later hb9);have HB9:=ab hbw9;have HX9:=ab ((hb9.block _ (kT HX8.out)).trans HX8.out);clear hb8 hs8 hbw8 hb9 hbw9 hwant;go_wp2_with (first|(refine kV rfl 44 (.tmp 9) rfl (w5.heap.size) 0 rfl ([.int .i64 1,.string ⟨[].toArray⟩,.int .i64 (k:Int),.bool true,.bool false,.int .i64 0,.string ⟨#[]⟩,.bool false,.slice none 0 0,.int .i64 0,.int .i64 0,.bool false,.slice none 0 0,.slice none 0 0,.bool false,.bool false,.slice none 0 0,.slice a xs.length c]) _ (lc (ds:=[]) (HX8.out)) kX rfl iD ?_)|(go_at_call 10;refine HC9.out.mono ?_))
 first|rintro e w10 rfl hb10'|rintro e w10 ⟨rfl,hb10'⟩
 have hb10:Below (w8.alloc (.cells #[.int .i64 1,.string ⟨[].toArray⟩,.int .i64 (k:Int),.bool true,.bool false,.int .i64 0,.string ⟨#[]⟩,.bool false,.slice none 0 0,.int .i64 0,.int .i64 0,.bool false,.slice none 0 0,.slice none 0 0,.bool false,.bool false,.slice none 0 0,.slice a xs.length c] 44)).heap.size (w8.alloc (.cells #[.int .i64 1,.string ⟨[].toArray⟩,.int .i64 (k:Int),.bool true,.bool false,.int .i64 0,.string ⟨#[]⟩,.bool false,.slice none 0 0,.int .i64 0,.int .i64 0,.bool false,.slice none 0 0,.slice none 0 0,.bool false,.bool false,.slice none 0 0,.slice a xs.length c] 44)) w10:=by simpa using hb10'
 clear hb10';have HX10:=ab ((hb10.block _ (kT HX9.out)).trans HX9.out);have hbw10:=bel2 HB9.out hb10;have hb11:Below w10.heap.size w10 (w10.alloc (.cells #[.int .i64 1,.string ⟨[].toArray⟩,.int .i64 (k:Int),.bool true,.bool false,.int .i64 0,.string ⟨#[]⟩,.bool false,.slice none 0 0,.int .i64 0,.int .i64 0,.bool false,.slice none 0 0,.slice none 0 0,.bool false,.bool false,.slice none 0 0,.slice a xs.length c] 44)):=(Below.refl _ _).alloc (Ju _) _;have hbw11:=bel2 hbw10 hb11;have hwant2:SnSl (w10.alloc (.cells #[.int .i64 1,.string ⟨[].toArray⟩,.int .i64 (k:Int),.bool true,.bool false,.int .i64 0,.string ⟨#[]⟩,.bool false,.slice none 0 0,.int .i64 0,.int .i64 0,.bool false,.slice none 0 0,.slice none 0 0,.bool false,.bool false,.slice none 0 0,.slice a xs.length c] 44)) Any (some ⟨w10.heap.size,0,none⟩) 1 [inS false k xs]:=ve (cc:=[.int .i64 1,.string ⟨[].toArray⟩,.int .i64 (k:Int),.bool true,.bool false,.int .i64 0,.string ⟨#[]⟩,.bool false,.slice none 0 0,.int .i64 0,.int .i64 0,.bool false,.slice none 0 0,.slice none 0 0,.bool false,.bool false,.slice none 0 0,.slice a xs.length c]) (hx_v (os:=[]) (ks:=xs) (oa:=none) (oc:=0) (ka:=a) (kc:=c) (SlS.none_ _ _ _ _) (HX.out.later hbw11)) (heap_alloc_new w10 _);have HSa:=ab (HSM.out _ _ a8 (some ⟨w10.heap.size,0,none⟩) c8 1 _ ((HS8.out.later hb10).later hb11) hwant2);have HB11:=ab hbw11;clear hb10 hb11 hbw10 hbw11 hwant2;go_wp2_with (first|(refine mQ kQ 44 (.tmp 9) rfl (w5.heap.size) 0 rfl [.int .i64 1,.string ⟨[].toArray⟩,.int .i64 (k:Int),.bool true,.bool false,.int .i64 0,.string ⟨#[]⟩,.bool false,.slice none 0 0,.int .i64 0,.int .i64 0,.bool false,.slice none 0 0,.slice none 0 0,.bool false,.bool false,.slice none 0 0,.slice a xs.length c] _ (lc (ds:=[]) (HX10.out)) kX rfl iD ?_)|(go_at_call 14;refine HSa.out.mono ?_))
 first|rintro e w12 rfl hb12'|rintro e w12 ⟨rfl,hb12'⟩
 have hb12:Below (w10.alloc (.cells #[.int .i64 1,.string ⟨[].toArray⟩,.int .i64 (k:Int),.bool true,.bool false,.int .i64 0,.string ⟨#[]⟩,.bool false,.slice none 0 0,.int .i64 0,.int .i64 0,.bool false,.slice none 0 0,.slice none 0 0,.bool false,.bool false,.slice none 0 0,.slice a xs.length c] 44)).heap.size (w10.alloc (.cells #[.int .i64 1,.string ⟨[].toArray⟩,.int .i64 (k:Int),.bool true,.bool false,.int .i64 0,.string ⟨#[]⟩,.bool false,.slice none 0 0,.int .i64 0,.int .i64 0,.bool false,.slice none 0 0,.slice none 0 0,.bool false,.bool false,.slice none 0 0,.slice a xs.length c] 44)) w12:=by simpa using hb12'
 exact cU
theorem B3 (a:Option Addr) (c:Nat) (xs:List Sn) (n:Int) (w:World) (ht:Tab w) (hx:SnSl w Any a xs.length xs) (hm:Sn.memL xs) (hl:xs.length≤maxLen) (hneg:¬Sn.leftL xs 100<0) (hmay:nM xs=true) (hsh:Sn.shortL xs=true) (hd:Sn.deepL xs<32) :
  Calls Tryz.prog 5 #[.slice a xs.length c,.int .i64 n,.bool true] w fun e w'=>e=.returned (.bool true)∧Below w.heap.size w w':=by
 obtain⟨L,hL⟩:∃L,Sn.leftL xs 100=L:=⟨_,rfl⟩;have HLB:=ab (mU (Sn.partsL xs+1) xs gN hm hl Any a c w 100 hx gR gR);rw [hL] at HLB;have HAW:=ab nc;have HT:=ab ht;have HX:=ab hx;unfold maxLen at hl;have hge:decide (L<0)=false:=JT gN;have h1:=qW xs 100 kI;have hw:Sn.wtL xs≤100:=gN;have hp:=nu xs;have hn:=Sn.len_parts xs;have hsm:=nt xs gN;have HM:=ab (fun w' hb=>pS Any xs hsm gN a c w' (HX.out.later hb:SnSl w' Any a xs.length xs));rw [hmay] at HM;have hwf:=pN hmay;have htl:=nJ xs hwf;have hti:=nS xs hwf gN;have hkl:xs.length≤1000000:=gN;have HSH:=ab (fun(w':World) (hb:Below w.heap.size w w')=>py Any (Sn.partsL xs+1) xs gN hti hkl hwf a c w' (hx.later hb) (ht.keep hb));rw [hsh] at HSH;have HD:=ab (fun(w':World) (hb:Below w.heap.size w w')=>rq Any (Sn.partsL xs+1) xs gN gN a c w' (hx.later hb));have dg:decide ((32:Int)≤(Sn.deepL xs:Int))=false:=JT gN;have hlow:=GZ n (n:=10000) gN;obtain⟨k,hk⟩:∃k:Nat,low n 10000=k:=⟨(low n 10000).toNat,by omega⟩;have hk9:k≤9999:=gN;have HLO:=ab (fun w=>hk▸Gs n 10000 w gN gN);have hdl:=dig4 hk9;have hS:=fun(w':World) (hb:Below w.heap.size w w')=>mH (fun b=>b<w'.heap.size) xs hti hkl hmay gN a c w' (fun _ h=>h) (ht.keep hb) ((hx.later hb).mono (fun _ _ h=>h))
 have hmi:=IF (v:=true) hk9 hmay gN;have hti2:=Ej (v:=true) (k:=k) hti hkl;have hts:=Dr true k xs;have hhl:(zP true k).length≤10:=by unfold zP;split<;>simp;omega
 have htl2:(Sn.tellL [inS true k xs]).length≤6000:=by rw [hts];simp;omega
 have hrd:=BK hmi (by rw [Ak];exact hsh) gN;have hS2:=fun(a:Option Addr) (c:Nat) (w':World) (hb:Below w.heap.size w w') (hx:SnSl w' Any a 1 [inS true k xs])=>mH (fun b=>b<w'.heap.size) [inS true k xs] hti2 gU hmi gN a c w' (fun _ h=>h) (ht.keep hb) (hx.mono (fun _ _ h=>h))
 have HSM:=ab (nsame (pF _ hti2) gU);rw [hts] at hrd hS2;obtain⟨T,hT⟩:∃T,Sn.tellL xs=T:=⟨_,rfl⟩;rw [hT] at hS hrd hS2 htl;have hTl:T.length≤6000:=gN;have HS:=ab hS;have HS2:=ab hS2;have HRD:=ab (uH hrd gV);obtain⟨dd,hdd⟩:∃dd,Sn.deepL xs=dd:=⟨_,rfl⟩;rw [hdd] at HD dg;clear h1 hw hp hn hsm hmay hwf htl hti hsh hlow hk hS hmi hti2 hts htl2 hrd hS2 hT hneg hL hm ht hx hdd hd;unfold zP at HS2 HRD;go_enter Tryz.func5,Tryz.ntmps5
 go_wp2_with (go_at_call 8;refine HLB.out.mono ?_)
 first|rintro e w1 rfl hb1|rintro e w1 ⟨rfl,hb1⟩
 go_wp2_with (go_at_call 11;refine(HM.out _ hb1).mono ?_)
 first|rintro e w2 rfl hb2|rintro e w2 ⟨rfl,hb2⟩
 have hbw2:=bel2 hb1 hb2;go_wp2_with (go_at_call 12;refine(HSH.out _ hbw2).mono ?_)
 first|rintro e w3 rfl hb3|rintro e w3 ⟨rfl,hb3⟩
 have hbw3:=bel2 hbw2 hb3;go_wp2_with (go_at_call 15;refine(HD.out _ hbw3).mono ?_)
 first|rintro e w4 rfl hb4|rintro e w4 ⟨rfl,hb4⟩
 have hbw4:=bel2 hbw3 hb4;clear hb1 hb2 hb3 hb4 hbw2 hbw3;go_wp2_with (go_at_call 10;refine(HS.out _ hbw4).mono ?_)
 first|rintro e w5 rfl hb5|rintro e w5 ⟨rfl,hb5⟩
 have hbw5:=bel2 hbw4 hb5;clear hb5 hbw4;go_wp2_with (go_at_call 16;refine(HLO.out _).mono ?_)
 rintro e wl ⟨rfl,rfl⟩;go_upto_region 5 with fail
 obtain⟨W6,hW6⟩:∃W6,W6=w5.alloc (.cells #[.int .i64 1,.string ⟨[].toArray⟩,.int .i64 (k:Int),.bool true,.bool false,.int .i64 0,.string ⟨#[]⟩,.bool false,.slice none 0 0,.int .i64 0,.int .i64 0,.bool false,.slice none 0 0,.slice none 0 0,.bool false,.bool false,.slice none 0 0,.slice a xs.length c] 44):=⟨_,rfl⟩;rw [←hW6];have hb6:Below w5.heap.size w5 W6:=by rw [hW6];exact(Below.refl _ _).alloc (Ju _) _
 have hx6:W6.heap[w5.heap.size]?=some (.cells #[.int .i64 1,.string ⟨[].toArray⟩,.int .i64 (k:Int),.bool true,.bool false,.int .i64 0,.string ⟨#[]⟩,.bool false,.slice none 0 0,.int .i64 0,.int .i64 0,.bool false,.slice none 0 0,.slice none 0 0,.bool false,.bool false,.slice none 0 0,.slice a xs.length c] 44 (0,0)):=by rw [hW6];exact heap_alloc_new _ _
 have c62:W6.cell? ⟨w5.heap.size,2,none⟩=some (.int .i64 (k:Int)):=by rw [Jw hx6];rfl
 have HX6:=ab hx6;have HB6:=ab (bel2 hbw5 hb6);have hz5:w.heap.size≤w5.heap.size:=hbw5.size;clear hW6 hx6 hb6 hbw5;go_wp2_with (go_at_call 17;refine(xM k _ gN).mono ?_)
 rintro e w7 ⟨rfl,hb7⟩;have HX7:=ab ((hb7.block _ (kT HX6.out)).trans HX6.out);have HB7:=ab (bel2 HB6.out hb7);clear hb7 c62;have HON:Hid (∀u∈(#[.int .i64 3,.string ⟨([118,97,95,114]).toArray⟩,.int .i64 0,.bool true,.bool false,.int .i64 0,.string ⟨#[]⟩,.bool false,.slice none 0 0,.int .i64 0,.int .i64 0,.bool false,.slice none 0 0,.slice none 0 0,.bool false,.bool false,.slice none 0 0,.slice a xs.length c]:Array Value).toList,u.oneCell'=true):=ab ii;obtain⟨WV,hWV⟩:∃WV,WV=w7.setRow w5.heap.size #[.int .i64 3,.string ⟨([118,97,95,114]).toArray⟩,.int .i64 0,.bool true,.bool false,.int .i64 0,.string ⟨#[]⟩,.bool false,.slice none 0 0,.int .i64 0,.int .i64 0,.bool false,.slice none 0 0,.slice none 0 0,.bool false,.bool false,.slice none 0 0,.slice a xs.length c]:=⟨_,rfl⟩;have HXV:Hid (WV.heap[w5.heap.size]?=some (.cells #[.int .i64 3,.string ⟨([118,97,95,114]).toArray⟩,.int .i64 0,.bool true,.bool false,.int .i64 0,.string ⟨#[]⟩,.bool false,.slice none 0 0,.int .i64 0,.int .i64 0,.bool false,.slice none 0 0,.slice none 0 0,.bool false,.bool false,.slice none 0 0,.slice a xs.length c] 44 (0,0))):=ab (by rw [hWV];exact mF (cs:=#[.int .i64 3,.string ⟨([118,97,95,114]).toArray⟩,.int .i64 0,.bool true,.bool false,.int .i64 0,.string ⟨#[]⟩,.bool false,.slice none 0 0,.int .i64 0,.int .i64 0,.bool false,.slice none 0 0,.slice none 0 0,.bool false,.bool false,.slice none 0 0,.slice a xs.length c]) HX7.out);have HBV:Hid (Below w.heap.size w WV):=ab (by rw [hWV];exact uw HB7.out hz5 _);have HWV:=ab hWV.symm;clear hWV;go_upto_region 8 with(first|(refine ll rfl 44 (.tmp 9) (.tmp 50) rfl (w5.heap.size) (#[.int .i64 3,.string ⟨([118,97,95,114]).toArray⟩,.int .i64 0,.bool true,.bool false,.int .i64 0,.string ⟨#[]⟩,.bool false,.slice none 0 0,.int .i64 0,.int .i64 0,.bool false,.slice none 0 0,.slice none 0 0,.bool false,.bool false,.slice none 0 0,.slice a xs.length c]) rfl rfl 44 _ (HX7.out) (ld) rfl rfl (HON.out) (W:=WV) (HWV.out) ?_))
 go_wp2_with (go_at_call 13;refine(HRD.out _ _ gU).mono ?_)
 rintro e w8 ⟨a8,c8,rfl,hb8,hs8⟩;have HX8:=ab ((hb8.block _ (kT HXV.out)).trans HXV.out);have hbw8:=bel2 HBV.out hb8;have hb9:Below w8.heap.size w8 (w8.alloc (.cells #[.int .i64 3,.string ⟨([118,97,95,114]).toArray⟩,.int .i64 0,.bool true,.bool false,.int .i64 0,.string ⟨#[]⟩,.bool false,.slice none 0 0,.int .i64 0,.int .i64 0,.bool false,.slice none 0 0,.slice none 0 0,.bool false,.bool false,.slice none 0 0,.slice a xs.length c] 44)):=(Below.refl _ _).alloc (Ju _) _;have hbw9:=bel2 hbw8 hb9;have hwant:SnSl (w8.alloc (.cells #[.int .i64 3,.string ⟨([118,97,95,114]).toArray⟩,.int .i64 0,.bool true,.bool false,.int .i64 0,.string ⟨#[]⟩,.bool false,.slice none 0 0,.int .i64 0,.int .i64 0,.bool false,.slice none 0 0,.slice none 0 0,.bool false,.bool false,.slice none 0 0,.slice a xs.length c] 44)) Any (some ⟨w8.heap.size,0,none⟩) 1 [inS true k xs]:=ve (cc:=[.int .i64 3,.string ⟨([118,97,95,114]).toArray⟩,.int .i64 0,.bool true,.bool false,.int .i64 0,.string ⟨#[]⟩,.bool false,.slice none 0 0,.int .i64 0,.int .i64 0,.bool false,.slice none 0 0,.slice none 0 0,.bool false,.bool false,.slice none 0 0,.slice a xs.length c]) (hx_v (os:=[]) (ks:=xs) (oa:=none) (oc:=0) (ka:=a) (kc:=c) (SlS.none_ _ _ _ _) (HX.out.later hbw9)) (heap_alloc_new w8 _);have HC9:=ab (HS2.out (some ⟨w8.heap.size,0,none⟩) 1 _ hbw9 hwant);have HS8:=ab (hs8.later hb9);have HB9:=ab hbw9;have HX9:=ab ((hb9.block _ (kT HX8.out)).trans HX8.out);clear hb8 hs8 hbw8 hb9 hbw9 hwant;go_wp2_with (first|(refine kV rfl 44 (.tmp 9) rfl (w5.heap.size) 0 rfl ([.int .i64 3,.string ⟨([118,97,95,114]).toArray⟩,.int .i64 0,.bool true,.bool false,.int .i64 0,.string ⟨#[]⟩,.bool false,.slice none 0 0,.int .i64 0,.int .i64 0,.bool false,.slice none 0 0,.slice none 0 0,.bool false,.bool false,.slice none 0 0,.slice a xs.length c]) _ (lc (ds:=[]) (HX8.out)) kX rfl iD ?_)|(go_at_call 10;refine HC9.out.mono ?_))
 first|rintro e w10 rfl hb10'|rintro e w10 ⟨rfl,hb10'⟩
 have hb10:Below (w8.alloc (.cells #[.int .i64 3,.string ⟨([118,97,95,114]).toArray⟩,.int .i64 0,.bool true,.bool false,.int .i64 0,.string ⟨#[]⟩,.bool false,.slice none 0 0,.int .i64 0,.int .i64 0,.bool false,.slice none 0 0,.slice none 0 0,.bool false,.bool false,.slice none 0 0,.slice a xs.length c] 44)).heap.size (w8.alloc (.cells #[.int .i64 3,.string ⟨([118,97,95,114]).toArray⟩,.int .i64 0,.bool true,.bool false,.int .i64 0,.string ⟨#[]⟩,.bool false,.slice none 0 0,.int .i64 0,.int .i64 0,.bool false,.slice none 0 0,.slice none 0 0,.bool false,.bool false,.slice none 0 0,.slice a xs.length c] 44)) w10:=by simpa using hb10'
 clear hb10';have HX10:=ab ((hb10.block _ (kT HX9.out)).trans HX9.out);have hbw10:=bel2 HB9.out hb10;have hb11:Below w10.heap.size w10 (w10.alloc (.cells #[.int .i64 3,.string ⟨([118,97,95,114]).toArray⟩,.int .i64 0,.bool true,.bool false,.int .i64 0,.string ⟨#[]⟩,.bool false,.slice none 0 0,.int .i64 0,.int .i64 0,.bool false,.slice none 0 0,.slice none 0 0,.bool false,.bool false,.slice none 0 0,.slice a xs.length c] 44)):=(Below.refl _ _).alloc (Ju _) _;have hbw11:=bel2 hbw10 hb11;have hwant2:SnSl (w10.alloc (.cells #[.int .i64 3,.string ⟨([118,97,95,114]).toArray⟩,.int .i64 0,.bool true,.bool false,.int .i64 0,.string ⟨#[]⟩,.bool false,.slice none 0 0,.int .i64 0,.int .i64 0,.bool false,.slice none 0 0,.slice none 0 0,.bool false,.bool false,.slice none 0 0,.slice a xs.length c] 44)) Any (some ⟨w10.heap.size,0,none⟩) 1 [inS true k xs]:=ve (cc:=[.int .i64 3,.string ⟨([118,97,95,114]).toArray⟩,.int .i64 0,.bool true,.bool false,.int .i64 0,.string ⟨#[]⟩,.bool false,.slice none 0 0,.int .i64 0,.int .i64 0,.bool false,.slice none 0 0,.slice none 0 0,.bool false,.bool false,.slice none 0 0,.slice a xs.length c]) (hx_v (os:=[]) (ks:=xs) (oa:=none) (oc:=0) (ka:=a) (kc:=c) (SlS.none_ _ _ _ _) (HX.out.later hbw11)) (heap_alloc_new w10 _);have HSa:=ab (HSM.out _ _ a8 (some ⟨w10.heap.size,0,none⟩) c8 1 _ ((HS8.out.later hb10).later hb11) hwant2);have HB11:=ab hbw11;clear hb10 hb11 hbw10 hbw11 hwant2;go_wp2_with (first|(refine mQ kQ 44 (.tmp 9) rfl (w5.heap.size) 0 rfl [.int .i64 3,.string ⟨([118,97,95,114]).toArray⟩,.int .i64 0,.bool true,.bool false,.int .i64 0,.string ⟨#[]⟩,.bool false,.slice none 0 0,.int .i64 0,.int .i64 0,.bool false,.slice none 0 0,.slice none 0 0,.bool false,.bool false,.slice none 0 0,.slice a xs.length c] _ (lc (ds:=[]) (HX10.out)) kX rfl iD ?_)|(go_at_call 14;refine HSa.out.mono ?_))
 first|rintro e w12 rfl hb12'|rintro e w12 ⟨rfl,hb12'⟩
 have hb12:Below (w10.alloc (.cells #[.int .i64 3,.string ⟨([118,97,95,114]).toArray⟩,.int .i64 0,.bool true,.bool false,.int .i64 0,.string ⟨#[]⟩,.bool false,.slice none 0 0,.int .i64 0,.int .i64 0,.bool false,.slice none 0 0,.slice none 0 0,.bool false,.bool false,.slice none 0 0,.slice a xs.length c] 44)).heap.size (w10.alloc (.cells #[.int .i64 3,.string ⟨([118,97,95,114]).toArray⟩,.int .i64 0,.bool true,.bool false,.int .i64 0,.string ⟨#[]⟩,.bool false,.slice none 0 0,.int .i64 0,.int .i64 0,.bool false,.slice none 0 0,.slice none 0 0,.bool false,.bool false,.slice none 0 0,.slice a xs.length c] 44)) w12:=by simpa using hb12'
 exact cU
theorem uO (a:Option Addr) (c:Nat) (xs:List Sn) (n:Int) (v:Bool) (w:World) (ht:Tab w) (hx:SnSl w Any a xs.length xs) (hm:Sn.memL xs) (hl:xs.length≤maxLen) :
  Calls Tryz.prog 5 #[.slice a xs.length c,.int .i64 n,.bool v] w fun e w'=>e=.returned (.bool true)∧Below w.heap.size w w':=by
 by_cases hneg:Sn.leftL xs 100<0
 ·exact Fz a c xs n v w ht hx hm hl hneg
 cases hmay:nM xs with
 | false=>exact E6 a c xs n v w ht hx hm hl hneg hmay
 | true =>
  cases hsh:Sn.shortL xs with
  | false=>exact AV a c xs n v w ht hx hm hl hneg hmay hsh
  | true =>
   by_cases hd:32≤Sn.deepL xs
   ·exact CW a c xs n v w ht hx hm hl hneg hmay hsh hd
   ·cases v with
    | true=>exact B3 a c xs n w ht hx hm hl hneg hmay hsh gN
    | false=>exact BE a c xs n w ht hx hm hl hneg hmay hsh gN
end Go.Proofs.YtdcnncgpomcaaaaGreatDoor
