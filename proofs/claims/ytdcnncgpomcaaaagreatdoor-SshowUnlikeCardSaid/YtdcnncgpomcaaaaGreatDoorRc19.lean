/- walk of sread: part -/
import Derived.Test.YtdcnncgpomcaaaaGreatDoorRc18
set_option maxRecDepth 100000
set_option maxHeartbeats 4000000
namespace Go.Proofs.YtdcnncgpomcaaaaGreatDoor
open Go.RowKit Go.Maps Go.MapKept
open Go.ChangeMaps (setBlock)
theorem all_one {cs:Array Value} (h:∀u∈cs.toList,u.oneCell'=true):cs.all (·.oneCell')=true:=Array.all_eq_true_iff_forall_mem.2 (fun v hv=>h v (by simpa using hv))
theorem Ho {cc:List Value} (h:∀u∈cc,u.oneCell'=true) (k:Int) (b:Bool):∀u∈(cc++[Value.int .i64 k,Value.bool b]).toArray.toList,u.oneCell'=true:=fun u hu=>by
 rw [List.toList_toArray,JX] at hu;rcases hu with hu|hu
 ·exact h u hu
 ·simp at hu;rcases hu with rfl|rfl<;>rfl
theorem ld:(Tryz.prog.info? 44).map (·.size)=some 18:=by kernel_rfl
theorem oK:(Tryz.prog.info? 105).map (·.size)=some 20:=by kernel_rfl
theorem kX:Tryz.prog.underlying 44=some (.struct (Tryz.prog.fieldsOf 44)):=by kernel_rfl
theorem wH:Tryz.prog.underlying 105=some (.struct (Tryz.prog.fieldsOf 105)):=by kernel_rfl
abbrev n0L:List Value:=[.int .i64 0,.string ⟨#[]⟩,.int .i64 0,.bool false,.bool false,.int .i64 0,.string ⟨#[]⟩,.bool false,.slice none 0 0,.int .i64 0,.int .i64 0,.bool false,.slice none 0 0,.slice none 0 0,.bool false,.bool false,.slice none 0 0,.slice none 0 0]
abbrev fnd0 (k:Int) (b:Bool):Array Value:=#[.int .i64 0,.string ⟨#[]⟩,.int .i64 0,.bool false,.bool false,.int .i64 0,.string ⟨#[]⟩,.bool false,.slice none 0 0,.int .i64 0,.int .i64 0,.bool false,.slice none 0 0,.slice none 0 0,.bool false,.bool false,.slice none 0 0,.slice none 0 0,.int .i64 k,.bool b]
section
variable (p0:Int) (p1:Str) (p2:Int) (p3 p4:Bool) (p5:Int) (p6:Str) (p7:Bool) (p8:Option Addr) (p9 p10:Nat) (p11 p12:Int) (p13:Bool) (p14:Option Addr) (p15 p16:Nat) (p17:Option Addr) (p18 p19:Nat) (p20 p21:Bool) (p22:Option Addr) (p23 p24:Nat) (p25:Option Addr) (p26 p27:Nat)
abbrev snL:List Value:=[.int .i64 p0,.string ⟨p1.toArray⟩,.int .i64 p2,.bool p3,.bool p4,.int .i64 p5,.string ⟨p6.toArray⟩,.bool p7,.slice p8 p9 p10,.int .i64 p11,.int .i64 p12,.bool p13,.slice p14 p15 p16,.slice p17 p18 p19,.bool p20,.bool p21,.slice p22 p23 p24,.slice p25 p26 p27]
abbrev snA:Array Value:=#[.int .i64 p0,.string ⟨p1.toArray⟩,.int .i64 p2,.bool p3,.bool p4,.int .i64 p5,.string ⟨p6.toArray⟩,.bool p7,.slice p8 p9 p10,.int .i64 p11,.int .i64 p12,.bool p13,.slice p14 p15 p16,.slice p17 p18 p19,.bool p20,.bool p21,.slice p22 p23 p24,.slice p25 p26 p27]
abbrev snF (k:Int) (b:Bool):Array Value:=#[.int .i64 p0,.string ⟨p1.toArray⟩,.int .i64 p2,.bool p3,.bool p4,.int .i64 p5,.string ⟨p6.toArray⟩,.bool p7,.slice p8 p9 p10,.int .i64 p11,.int .i64 p12,.bool p13,.slice p14 p15 p16,.slice p17 p18 p19,.bool p20,.bool p21,.slice p22 p23 p24,.slice p25 p26 p27,.int .i64 k,.bool b]
end
theorem BX (w:World) (S:Nat→Prop):SnV w S [.int .i64 0,.string ⟨#[]⟩,.int .i64 0,.bool false,.bool false,.int .i64 0,.string ⟨#[]⟩,.bool false,.slice none 0 0,.int .i64 0,.int .i64 0,.bool false,.slice none 0 0,.slice none 0 0,.bool false,.bool false,.slice none 0 0,.slice none 0 0] (pM []):=zL w S []
def OutX (S:Nat→Prop) (g m:Nat) (s:Str) (R:Option (Sn × Str)) (st:Bool) (i:Nat) (w:World) (e:Ending) (w':World):Prop:=Gr2 g m w w' ∧
 ∃(S':Nat→Prop) (j:Nat) (cc:List Value) (x:Sn) (ok:Bool),e=.returned (.tuple #[.agg cc.toArray,.bool ok])∧Rs S' w' g m s j∧(∀b,S b→S' b)∧(∀b,S' b→S b∨w.heap.size≤b)∧SnV w' S' cc x ∧
  match R with
  | some (y,r)=>ok=true∧x=y∧s.drop j=r
  | none=>ok=false∧(st=true→j=i)
def Gf (g m:Nat) (s:Str) (N:Nat):Prop:=∀(S:Nat→Prop) (w:World) (i:Nat) (r:Str),Rs S w g m s i→s.drop i=36::r→s.length-i≤N →
 Calls Tryz.prog 59 #[.pointer (some ⟨g,0,none⟩)] w fun e w'=>OutX S g m s (l7 r) false i w e w'
def PartC (g m:Nat) (s:Str) (N:Nat):Prop:=∀(S:Nat→Prop) (w:World) (i:Nat) (c:UInt8) (r:Str),Rs S w g m s i→s.drop i=c::r→s.length-i≤N →
 Calls Tryz.prog 40 #[.pointer (some ⟨g,0,none⟩)] w fun e w'=>OutX S g m s (dolM l7 c r) true i w e w'
theorem EZ (w:World):(zeroValue 105).run Tryz.prog w=.ok (.agg (fnd0 0 false)) w:=by kernel_rfl
theorem wj:Tryz.prog.underlying 62=some (.map 3 105):=Tryz.underlying62
theorem Gr2.setRow {g m:Nat} {w0 w:World} (h:Gr2 g m w0 w) {b:Nat} (hb:w0.heap.size≤b) (cs:Array Value):Gr2 g m w0 (w.setRow b cs) :=
 ⟨h.os,h.tape,h.output,by rw [vC];exact h.size,fun k hk h1 h2=>(nj cs gN).trans (h.block k hk h1 h2)⟩
theorem Rs.setRow {S:Nat→Prop} {w:World} {g m:Nat} {s:Str} {i:Nat} (h:Rs S w g m s i) {b:Nat} (hb:¬S b∧b≠g∧b≠m) (cs:Array Value):Rs S (w.setRow b cs) g m s i :=
 h.moved ⟨(nj cs (Ne.symm hb.2.1)).trans h.pl.1,h.pl.2⟩ (by rw [vC];exact Ju _) fun k hk _=>nj cs (by
  rcases hk with hk|hk
  ·rintro rfl;exact hb.1 hk
  ·rintro rfl;exact hb.2.2 hk)
theorem SnV.setRow {S:Nat→Prop} {w:World} {c:List Value} {x:Sn} (h:SnV w S c x) {b:Nat} (hb:¬S b) (cs:Array Value):SnV (w.setRow b cs) S c x :=
 h.keep ⟨by rw [vC];exact Ju _,fun k hk _=>nj cs (by rintro rfl;exact hb hk)⟩
theorem Rs.put {S:Nat→Prop} {w:World} {g m:Nat} {s:Str} {i:Nat} (h:Rs S w g m s i) {es':Array MapEntry} {clock':Nat} (hent:∀e∈es'.toList,∃k:Nat,k≤s.length∧e.key=.int .i64 (k:Int)∧FndV w S s k e.val):Rs S (setBlock w m (.map es' clock')) g m s i:=by
 obtain⟨es,clock,h1,h2⟩:=h.mp;have hK:Kept S w (setBlock w m (.map es' clock')):=⟨by rw [nH];exact Ju _,fun b hb _=>nr _ (by rintro rfl;exact h.nm hb)⟩;exact⟨⟨(nr _ (Ne.symm (Nat.ne_of_lt h.gm))).trans h.pl.1,h.pl.2⟩,h.gm,⟨es',clock',zm h1,fun e he=>by
  obtain⟨k,a,b,c⟩:=hent e he;exact⟨k,a,b,c.keep hK⟩⟩,h.ng,h.nm,fun b hb=>by rw [nH];exact h.lt b hb⟩
theorem Gr2.put {g m:Nat} {w0 w:World} (h:Gr2 g m w0 w) (o:Obj):Gr2 g m w0 (setBlock w m o) :=
 ⟨h.os,h.tape,h.output,by rw [nH];exact h.size,fun k hk h1 h2=>(nr o h2).trans (h.block k hk h1 h2)⟩
theorem app18 {cc:List Value} (h:cc.length=18) (u v:Value):(cc++[u,v]).toArray[18]?=some u∧(cc++[u,v]).toArray[19]?=some v:=by
 constructor<;>simp [h]
structure In12 (b5 b0:Nat) (FB CC:Array Value) (ok:Bool) (WD:World) (L:Nat→Bool) (V:Nat→Value) (w':World):Prop where
 hf:w'.heap[b5]?=some (.cells FB 105 (0,0))
 q0:L 4=false→w'=WD
 q1:L 4=true→w'=WD.setRow b0 CC
 v0:L 0=true→V 0=.pointer (some ⟨b5,0,none⟩)
 v1:L 1=true→V 1=.agg CC
 v2:L 2=true→V 2=.pointer (some ⟨b5,19,none⟩)
 v3:L 3=true→V 3=.bool ok
theorem Bf {g m:Nat} {s:Str} {N:Nat} (hs:s.length≤100000) (HW:Gf g m s N):PartC g m s N:=by
 intro S w i c r h hd hN;have HRS:=ab h;have hgB:=h.pl.lt;have hi:=h.pl.2.1;have hmg:=h.gm;have HWW:=ab HW;have hbx:(w.alloc s0).heap[w.heap.size]?=some s0:=heap_alloc_new w _;have hb0:Below w.heap.size w (w.alloc s0):=(Below.refl _ _).alloc (Ju _) _;have HRS0:=ab (h.later hb0);have HBX:=ab hbx;by_cases h36:c.toNat=36
 ·have HSEE:Hid (Calls Tryz.prog 39 #[.pointer (some ⟨g,0,none⟩),.string ⟨([36]).toArray⟩] (w.alloc s0) fun e w'=>e=.returned (.bool true)∧Below (w.alloc s0).heap.size (w.alloc s0) w'):=ab ((CQ (p:=[36]) _ HRS0.out.pl gU).mono fun _ _ ⟨h1,h2⟩=>⟨by rw [h1,hd,pre1];simp [h36],h2⟩)
  have HE:Hid (dolM l7 c r=l7 r):=ab (by unfold dolM;rw [Jl h36]);have hc36:c=36:=Jk.1 h36;obtain⟨h2,_,hr⟩:=lG hd;have HD:Hid (s.drop i=36::r∧s.drop (i+1)=r):=ab ⟨by rw [←hc36];exact hd,hr⟩;clear h HW hbx hd h36 hr hc36;go_enter Tryz.func40,Tryz.ntmps40
  go_wp2_with (go_at_call 39;refine HSEE.out.mono ?_)
  rintro e w1 ⟨rfl,hb1⟩;have hz1:=hb1.size;simp only [JO] at hz1;have hbw1:Below w.heap.size w w1:=hb0.trans (hb1.mono gU);have HBX1:=ab ((hb1.block _ (kT HBX.out)).trans HBX.out);have HRS1:=ab (HRS0.out.later hb1);obtain⟨es,clock,hmp,hent⟩:=HRS1.out.mp;have c1:=HRS1.out.pl.c1;have c2:=HRS1.out.pl.c2;have hkeys:∀x∈es.toList,∃l,keyOf Tryz.prog 3 x.key=some l:=fun x hx=>by
   obtain⟨k,a,b,_⟩:=hent x hx;exact eR
  clear hb1 HSEE HBX HRS0 hb0;rcases mp_look CO wj (EZ w1) hmp hkeys (yV (k:=i) gN) with⟨hlk,_⟩|⟨e0,he0,hek,hlk⟩
  ·have HLK:=ab hlk
   have HMP:=ab hmp;have HENT:=ab hent;have HKEYS:=ab hkeys;clear hlk hmp hent hkeys;obtain⟨W4,hW4⟩:∃W4,W4=w1.alloc (.cells (fnd0 0 false) 105):=⟨_,rfl⟩;have HW4:Hid ((w1.alloc (.cells (fnd0 0 false) 105)).setRow w1.heap.size (fnd0 0 false)=W4):=ab (by rw [hW4];exact World.setRow_alloc_new _ _ _ _);have hb4:Below w1.heap.size w1 W4:=by rw [hW4];exact(Below.refl _ _).alloc (Ju _) _
   have HF4:Hid (W4.heap[w1.heap.size]?=some (.cells (fnd0 0 false) 105 (0,0))):=ab (by rw [hW4];exact heap_alloc_new _ _);have hz4:W4.heap.size=w1.heap.size+1:=by rw [hW4];simp
   have HRS4:=ab (HRS1.out.later hb4);have HBX4:=ab ((hb4.block _ (kT HBX1.out)).trans HBX1.out);have HG4:Hid (Gr2 g m w W4):=ab (Gr2.below (hbw1.trans (hb4.mono hbw1.size)));have HO0:Hid (∀u∈(fnd0 0 false).toList,u.oneCell'=true):=ab (Ho (BX w S).one 0 false);have HOI:Hid (∀u∈(fnd0 (i:Int) false).toList,u.oneCell'=true):=ab (Ho (BX w S).one (i:Int) false);have HWH:=ab (HWW.out S W4 i r HRS4.out HD.out.1 hN);clear hW4 hb4 hbw1;go_wp2_with (first
    | (at_lookup;refine BN rfl 62 (.tmp 24) (.tmp 25) rfl rfl rfl HLK.out ?_)
    | (refine ll rfl 105 (.tmp 5) (.tmp 27) rfl (w1.heap.size) ((fnd0 0 false)) rfl rfl 105 _ (heap_alloc_new w1 _) (oK) rfl rfl (HO0.out) (W:=W4) (HW4.out) ?_)
    | (go_at_call 59;refine HWH.out.mono ?_))
   rintro e w2 ⟨hg2,S2,j2,cc,x,ok,rfl,hrs2,hT1,hT2,hxv,hm⟩;have hz2:=hg2.size;have hxv0:=hxv;obtain⟨p0,p1,p2,p3,p4,p5,p6,p7,p8,p9,p10,p11,p12,p13,p14,p15,p16,p17,p18,p19,p20,p21,p22,p23,p24,p25,p26,p27,rfl,hq⟩:=hxv.box;clear hq;have hbA:Below w2.heap.size w2 (w2.alloc (.cells (snA p0 p1 p2 p3 p4 p5 p6 p7 p8 p9 p10 p11 p12 p13 p14 p15 p16 p17 p18 p19 p20 p21 p22 p23 p24 p25 p26 p27) 44)):=(Below.refl _ _).alloc (Ju _) _;obtain⟨W3,hW3⟩:∃W3,W3=w2.alloc (.cells (snA p0 p1 p2 p3 p4 p5 p6 p7 p8 p9 p10 p11 p12 p13 p14 p15 p16 p17 p18 p19 p20 p21 p22 p23 p24 p25 p26 p27) 44):=⟨_,rfl⟩;have HW3:Hid ((w2.alloc s0).setRow w2.heap.size (snA p0 p1 p2 p3 p4 p5 p6 p7 p8 p9 p10 p11 p12 p13 p14 p15 p16 p17 p18 p19 p20 p21 p22 p23 p24 p25 p26 p27)=W3):=ab jw;have hb3:Below w2.heap.size w2 W3:=by rw [hW3];exact hbA
   have HF3:Hid (W3.heap[w1.heap.size]?=some (.cells (fnd0 0 false) 105 (0,0))):=ab ((hb3.block _ gN).trans ((hg2.block _ gN gN gN).trans HF4.out));have HBX3:Hid (W3.heap[w.heap.size]?=some s0):=ab ((hb3.block _ gN).trans ((hg2.block _ gN gN gN).trans HBX4.out));have HT3:Hid (W3.heap[w2.heap.size]?=some (.cells (snA p0 p1 p2 p3 p4 p5 p6 p7 p8 p9 p10 p11 p12 p13 p14 p15 p16 p17 p18 p19 p20 p21 p22 p23 p24 p25 p26 p27) 44 (0,0))):=ab (by rw [hW3];exact heap_alloc_new _ _);have HRS3:=ab (hrs2.later hb3);have HXV3:=ab (hxv0.later hb3);have HG3:Hid (Gr2 g m w W3):=ab (HG4.out.trans (hg2.trans (Gr2.below hb3)));have HONE:Hid (∀u∈(snA p0 p1 p2 p3 p4 p5 p6 p7 p8 p9 p10 p11 p12 p13 p14 p15 p16 p17 p18 p19 p20 p21 p22 p23 p24 p25 p26 p27).toList,u.oneCell'=true):=ab (fun u hu=>hxv0.one u hu);have hnS:∀b,w.heap.size≤b→b<w2.heap.size→b<W4.heap.size→¬S2 b:=fun b h1 _ h3 e=>by
    exact dX
   have hz3:W3.heap.size=w2.heap.size+1:=by rw [hW3];simp
   have HM:=ab hm;have hS1:∀b,S b→S2 b:=hT1;have hS2:∀b,S2 b→S b∨w.heap.size≤b:=fun b hb=>(hT2 b hb).imp id (fun h=>by omega)
   have hnb:¬S2 w.heap.size∧w.heap.size≠g∧w.heap.size≠m:=⟨hnS _ (Ju _) gN gN,by omega,by omega⟩;have hn5:¬S2 w1.heap.size∧w1.heap.size≠g∧w1.heap.size≠m:=⟨hnS _ gN gN gN,by omega,by omega⟩;have hb5g:w1.heap.size≠g:=gN;obtain⟨WN,hWN⟩:∃WN,WN=W3.setRow w1.heap.size (fnd0 (i:Int) false):=⟨_,rfl⟩;have HWN:Hid (W3.setRow w1.heap.size (fnd0 (i:Int) false)=WN):=ab hWN.symm;have HRN:=ab (hWN▸HRS3.out.setRow hn5 (fnd0 (i:Int) false));have HGN:=ab (hWN▸HG3.out.setRow (b:=w1.heap.size) gN (fnd0 (i:Int) false));have HBN:Hid (WN.heap[w.heap.size]?=some s0):=ab (by rw [hWN];exact(nj _ gN).trans HBX3.out);have HFN:Hid (WN.heap[w1.heap.size]?=some (.cells (fnd0 (i:Int) false) 105 (0,0))):=ab (by rw [hWN];exact mF HF3.out);have HTN:Hid (WN.heap[w2.heap.size]?=some (.cells (snA p0 p1 p2 p3 p4 p5 p6 p7 p8 p9 p10 p11 p12 p13 p14 p15 p16 p17 p18 p19 p20 p21 p22 p23 p24 p25 p26 p27) 44 (0,0))):=ab (by rw [hWN];exact(nj _ gN).trans HT3.out);have HXP:Hid (SnV WN S2 (snL p0 p1 p2 p3 p4 p5 p6 p7 p8 p9 p10 p11 p12 p13 p14 p15 p16 p17 p18 p19 p20 p21 p22 p23 p24 p25 p26 p27) x):=ab (by rw [hWN];exact HXV3.out.setRow hn5.1 _);clear hm hxv hxv0 hrs2 hT1 hT2 hbA hW3 hb3 hWN hg2 HF4 HBX4 HG4 HWH HLK HMP HENT HKEYS HRS4 HW4;cases hp:l7 r with
   | none =>
    have hok:ok=false:=by have h:=HM.out;rw [hp] at h;exact h.1
    subst hok;have HP:=ab hp;have HXN:=ab (BX WN S2);have hel:i≤s.length:=hi;have hcl:n0L.length=18:=rfl;clear HM hp HXP;go_upto_region 10 with(first
     | (refine ll rfl 44 (.tmp 7) (.tmp 34) rfl (w2.heap.size) ((snA p0 p1 p2 p3 p4 p5 p6 p7 p8 p9 p10 p11 p12 p13 p14 p15 p16 p17 p18 p19 p20 p21 p22 p23 p24 p25 p26 p27)) rfl rfl 44 _ (heap_alloc_new w2 _) (ld) rfl rfl (HONE.out) (W:=W3) (HW3.out) ?_)
     | (refine ll rfl 105 (.tmp 5) (.tmp 37) rfl (w1.heap.size) ((fnd0 (i:Int) false)) rfl rfl 105 _ (HF3.out) (oK) rfl rfl (HOI.out) (W:=WN) (HWN.out) ?_))
    have HRD:=ab (HRN.out.later ((Below.refl _ _).drew));have HFD:Hid ((WN).drew.heap[w1.heap.size]?=some (.cells (fnd0 (i:Int) false) 105 (0,0))):=HFN;have HBD:Hid ((WN).drew.heap[w.heap.size]?=some s0):=HBN;have HXD:=ab (HXN.out.later ((Below.refl _ _).drew));have HGD:=ab (HGN.out.trans (Gr2.below ((Below.refl _ _).drew)));obtain⟨es2,clock2,hmp2,hent2⟩:=HRD.out.mp;have hkeys2:∀x∈es2.toList,∃l,keyOf Tryz.prog 3 x.key=some l:=fun x hx=>by
     obtain⟨k,a,b,_⟩:=hent2 x hx;exact eR
    have q2:=HRD.out.pl.c2;refine wp_region_still_tail 6 gT gT ?_;simp only [List.take_succ_cons,List.take_zero,List.drop_succ_cons,JZ];change wpStill _ _ (WN).drew _ _ _
    still_step
    still_step
    still_step
    still_step
    still_step
    refine yH rfl 105 (.tmp 5) rfl w1.heap.size 0 rfl ((fnd0 (i:Int) false)).toList _ (lc (ds:=[]) (by rw [J5];exact HFD.out)) wH rfl (by rw [oK];rfl) ?_;refine wpStill_nil ?_;change wpList _ _ _ _ _ (WN).drew
    refine AC (WN).drew rfl (.tmp 49) (.tmp 50) (.tmp 51) 62 rfl 3 105 CO wj m es2 clock2 rfl hmp2 hkeys2 (.int .i64 (i:Int)) (.agg (fnd0 (i:Int) false)) _ rfl rfl (yV gN) ?_;intro es3 clock3 hes3;obtain⟨W9,hW9⟩:∃W9,W9=setBlock (WN).drew m (.map es3 clock3):=⟨_,rfl⟩;have HRS5:Hid (Rs S2 W9 g m s _):=ab (by
     rw [hW9];refine HRD.out.put fun e he=>?_
     rcases hes3 e he with h|⟨h1,h2⟩
     ·exact hent2 e h
     ·refine⟨i,by omega,h1,n0L,pM [],i,false,by rw [h2];rfl,HXD.out,hel,?_⟩
      rw [HD.out.2];exact(by rw [HP.out];exact⟨rfl,rfl⟩))
    have HG5:Hid (Gr2 g m w W9):=ab (by rw [hW9];exact HGD.out.put _);have HF5:Hid (W9.heap[w1.heap.size]?=some (.cells ((n0L)++[Value.int .i64 (i:Int),Value.bool false]).toArray 105 (0,0))):=ab jS;have HBX5:Hid (W9.heap[w.heap.size]?=some s0):=ab jT;have HXV5:Hid (SnV W9 S2 (n0L) (pM [])):=ab iO;rw [←hW9];have hz9:(WN).heap.size≤W9.heap.size:=by rw [hW9,nH];exact Ju _
    clear hW9 hes3 hent2 hkeys2 hmp2 q2 HRD HFD HBD HXD HGD HRN HFN HBN HXN HGN;have k18:(W9).cell? ⟨w1.heap.size,18,none⟩=some (.int .i64 (i:Int)):=kU HF5.out 18 (app18 hcl _ _).1;have pc1:=HRS5.out.pl.c1;have f1:=HRS5.out.pl.free 1;go_upto_region 12 with(fail)
    obtain⟨W6,hW6⟩:∃W6,W6=(W9).setCell ⟨g,1,none⟩ (.int .i64 (i:Int)):=⟨_,rfl⟩;have HRS6:Hid (Rs (S2) W6 g m s i):=ab iW;have HG6:Hid (Gr2 g m w W6):=ab (HG5.out.trans (Gr2.grown (hW6▸lp (lF _ _) 1 _)));have HF6:Hid (W6.heap[w1.heap.size]?=some (.cells ((n0L)++[Value.int .i64 (i:Int),Value.bool false]).toArray 105 (0,0))):=ab je;have HBX6:Hid (W6.heap[w.heap.size]?=some s0):=ab iU;have HXV6:Hid (SnV W6 (S2) (n0L) (pM [])):=ab iM;rw [←hW6];clear hW6 k18 pc1 f1 HRS5 HG5 HF5 HBX5 HXV5;obtain⟨FB,hFB⟩:∃FB:Array Value,FB=((n0L)++[Value.int .i64 (i:Int),Value.bool false]).toArray:=⟨_,rfl⟩;have HFB:=ab hFB;have HFC:Hid (FB[19]?=some (.bool false)):=ab ku;have HCC:Hid (∀u∈(n0L).toArray.toList,u.oneCell'=true):=ab (fun u hu=>HXV6.out.one u iY);clear hFB;refine pJ gT gT (fun A0 W0 L a w'=>∃V:Nat→Value,a=mW [58,59,60,61] 0 V A0∧In12 (w1.heap.size) w.heap.size FB (n0L).toArray false W0.drew L V w') ?_ ?_
    ·exact bT
    refine⟨?_,?_,?_,?_,?_,?_⟩
    ·exact bi
    ·intro L a w' hL hd hI
     obtain⟨V,rfl,⟨hf,q0,q1,v0,v1,v2,v3⟩⟩:=hI;simp [lm,Region.binds] at hd
     simp only [mW];have h0:=v0 hd;refine kV rfl 44 (.tmp 58) rfl (w1.heap.size) 0 (Eq.trans jb h0) (n0L) _ (lc kG) kX rfl gY ?_;go_wp2
     exact⟨upd V 1 (.agg (n0L).toArray),(by simp [upd];exact h0.symm),⟨hf,(fun h=>q0 gQ),(fun h=>q1 gQ),(fun h=>v0 gQ),(fun _=>rfl),(fun h=>v2 gQ),(fun h=>v3 gQ)⟩⟩
    ·exact bh
    ·intro L a w' hL hd hI
     obtain⟨V,rfl,⟨hf,q0,q1,v0,v1,v2,v3⟩⟩:=hI;simp [lm,Region.binds] at hd
     simp only [mW];have h2:=v2 hd;have k19:=kU hf 19 HFC.out;go_wp2
     exact⟨upd V 3 (.bool false),(by simp [upd];exact h2.symm),⟨hf,(fun h=>q0 gQ),(fun h=>q1 gQ),(fun h=>v0 gQ),(fun h=>v1 gQ),(fun h=>v2 gQ),(fun _=>rfl)⟩⟩
    ·intro L a w' hL hd hI
     obtain⟨V,rfl,⟨hf,q0,q1,v0,v1,v2,v3⟩⟩:=hI;simp [lm,Region.binds] at hd
     simp only [mW];have h1:=v1 hd.1;have h0:=v0 hd.2.1;obtain rfl:=q0 hL;refine ll rfl 44 (.tmp 2) (.tmp 59) rfl w.heap.size (n0L).toArray jb (Eq.trans jb h1) 44 #[.int .i64 0,.string ⟨#[]⟩,.int .i64 0,.bool false,.bool false,.int .i64 0,.string ⟨#[]⟩,.bool false,.slice none 0 0,.int .i64 0,.int .i64 0,.bool false,.slice none 0 0,.slice none 0 0,.bool false,.bool false,.slice none 0 0,.slice none 0 0] (w:=W6.drew) HBX6.out ld iH rfl HCC.out rfl ?_;exact bH
    ·intro L a w' hd hI
     obtain⟨V,rfl,⟨hf,q0,q1,v0,v1,v2,v3⟩⟩:=hI;simp [lm,Region.binds] at hd
     simp only [mW];have h3:=v3 gW;obtain rfl:=q1 gW;have HB7:=ab (mF (w:=W6.drew) (cs:=(n0L).toArray) HBX6.out);go_wp2
     refine JM (nv Tryz.results40 kX ld HB7.out iH rfl (by first|rfl|exact h3)) rfl ?_;have HR7:=((HRS6.out.later ((Below.refl _ _).drew)).setRow hnb (n0L).toArray);rw [HE.out];exact⟨((HG6.out.trans (Gr2.below ((Below.refl _ _).drew))).setRow (Ju _) _),S2,i,n0L,pM [],false,rfl,HR7,hS1,hS2,(HXV6.out.later ((Below.refl _ _).drew)).setRow hnb.1 _,(by rw [HP.out];exact⟨rfl,fun _=>rfl⟩)⟩
   | some y =>
    obtain⟨yx,yr⟩:=y;obtain⟨hok,hx,hdj⟩:ok=true∧x=yx∧s.drop j2=yr:=by have h:=HM.out;rw [hp] at h;exact h
    subst hok;subst hx;have HP:=ab hp;have HDJ:=ab hdj;have hel:j2≤s.length:=HRN.out.pl.2.1;have hcl:(snL p0 p1 p2 p3 p4 p5 p6 p7 p8 p9 p10 p11 p12 p13 p14 p15 p16 p17 p18 p19 p20 p21 p22 p23 p24 p25 p26 p27).length=18:=rfl;have HRM0:=ab (HRN.out.later ((Below.refl _ _).drew));have pc2:=HRM0.out.pl.c1;have HON:Hid (∀u∈(snF p0 p1 p2 p3 p4 p5 p6 p7 p8 p9 p10 p11 p12 p13 p14 p15 p16 p17 p18 p19 p20 p21 p22 p23 p24 p25 p26 p27 (j2:Int) true).toList,u.oneCell'=true):=ab (Ho (cc:=(snL p0 p1 p2 p3 p4 p5 p6 p7 p8 p9 p10 p11 p12 p13 p14 p15 p16 p17 p18 p19 p20 p21 p22 p23 p24 p25 p26 p27)) (fun u hu=>HONE.out u hu) (j2:Int) true);obtain⟨WM,hWM⟩:∃WM,WM=WN.drew.setRow w1.heap.size (snF p0 p1 p2 p3 p4 p5 p6 p7 p8 p9 p10 p11 p12 p13 p14 p15 p16 p17 p18 p19 p20 p21 p22 p23 p24 p25 p26 p27 (j2:Int) true):=⟨_,rfl⟩;have HWM:Hid (WN.drew.setRow w1.heap.size (snF p0 p1 p2 p3 p4 p5 p6 p7 p8 p9 p10 p11 p12 p13 p14 p15 p16 p17 p18 p19 p20 p21 p22 p23 p24 p25 p26 p27 (j2:Int) true)=WM):=ab hWM.symm;have HFD0:Hid (WN.drew.heap[w1.heap.size]?=some (.cells (fnd0 (i:Int) false) 105 (0,0))):=HFN;have HTD0:Hid (WN.drew.heap[w2.heap.size]?=some (.cells (snA p0 p1 p2 p3 p4 p5 p6 p7 p8 p9 p10 p11 p12 p13 p14 p15 p16 p17 p18 p19 p20 p21 p22 p23 p24 p25 p26 p27) 44 (0,0))):=HTN;have HRM:Hid (Rs S2 WM g m s j2):=ab (by rw [hWM];exact HRM0.out.setRow hn5 _);have HGM:Hid (Gr2 g m w WM):=ab (by rw [hWM];exact(HGN.out.trans (Gr2.below ((Below.refl _ _).drew))).setRow gN _);have HBM:Hid (WM.heap[w.heap.size]?=some s0):=ab (by rw [hWM];exact(nj _ gN).trans HBN.out);have HFM:Hid (WM.heap[w1.heap.size]?=some (.cells (snF p0 p1 p2 p3 p4 p5 p6 p7 p8 p9 p10 p11 p12 p13 p14 p15 p16 p17 p18 p19 p20 p21 p22 p23 p24 p25 p26 p27 (j2:Int) true) 105 (0,0))):=ab (by rw [hWM];exact mF HFD0.out);have HXM:Hid (SnV WM S2 (snL p0 p1 p2 p3 p4 p5 p6 p7 p8 p9 p10 p11 p12 p13 p14 p15 p16 p17 p18 p19 p20 p21 p22 p23 p24 p25 p26 p27) x):=ab (by rw [hWM];exact(HXP.out.later ((Below.refl _ _).drew)).setRow hn5.1 _);clear HM hp hdj hWM HRN HGN HBN HFN HXP HTN;go_upto_region 9 with(first
     | (refine ll rfl 44 (.tmp 7) (.tmp 34) rfl (w2.heap.size) ((snA p0 p1 p2 p3 p4 p5 p6 p7 p8 p9 p10 p11 p12 p13 p14 p15 p16 p17 p18 p19 p20 p21 p22 p23 p24 p25 p26 p27)) rfl rfl 44 _ (heap_alloc_new w2 _) (ld) rfl rfl (HONE.out) (W:=W3) (HW3.out) ?_)
     | (refine ll rfl 105 (.tmp 5) (.tmp 37) rfl (w1.heap.size) ((fnd0 (i:Int) false)) rfl rfl 105 _ (HF3.out) (oK) rfl rfl (HOI.out) (W:=WN) (HWN.out) ?_))
    refine wp_region_still_tail 7 gT gT ?_;simp only [List.take_succ_cons,List.take_zero,List.drop_succ_cons,JZ];change wpStill _ _ WN.drew _ _ _
    refine yH rfl 44 (.tmp 7) rfl w2.heap.size 0 rfl (snL p0 p1 p2 p3 p4 p5 p6 p7 p8 p9 p10 p11 p12 p13 p14 p15 p16 p17 p18 p19 p20 p21 p22 p23 p24 p25 p26 p27) _ (lc (ds:=[]) HTD0.out) kX rfl iD ?_;still_step
    still_step
    still_step
    still_step
    still_step
    still_step
    refine wpStill_nil ?_;change wpList _ _ _ _ _ WN.drew
    go_wp2_with (refine ll rfl 105 (.tmp 5) (.tmp 45) rfl (w1.heap.size) ((snF p0 p1 p2 p3 p4 p5 p6 p7 p8 p9 p10 p11 p12 p13 p14 p15 p16 p17 p18 p19 p20 p21 p22 p23 p24 p25 p26 p27 (j2:Int) true)) rfl rfl 105 _ (HFD0.out) (oK) rfl rfl (HON.out) (W:=WM) (HWM.out) ?_)
    have HRN:=HRM;have HGN:=HGM;have HBN:=HBM;have HFN:=HFM;have HXN:=HXM;clear HRM HGM HBM HFM HXM HRM0 pc2;have HRD:=ab (HRN.out.later ((Below.refl _ _).drew));have HFD:Hid ((WM).drew.heap[w1.heap.size]?=some (.cells (snF p0 p1 p2 p3 p4 p5 p6 p7 p8 p9 p10 p11 p12 p13 p14 p15 p16 p17 p18 p19 p20 p21 p22 p23 p24 p25 p26 p27 (j2:Int) true) 105 (0,0))):=HFN;have HBD:Hid ((WM).drew.heap[w.heap.size]?=some s0):=HBN;have HXD:=ab (HXN.out.later ((Below.refl _ _).drew));have HGD:=ab (HGN.out.trans (Gr2.below ((Below.refl _ _).drew)));obtain⟨es2,clock2,hmp2,hent2⟩:=HRD.out.mp;have hkeys2:∀x∈es2.toList,∃l,keyOf Tryz.prog 3 x.key=some l:=fun x hx=>by
     obtain⟨k,a,b,_⟩:=hent2 x hx;exact eR
    have q2:=HRD.out.pl.c2;refine wp_region_still_tail 6 gT gT ?_;simp only [List.take_succ_cons,List.take_zero,List.drop_succ_cons,JZ];change wpStill _ _ (WM).drew _ _ _
    still_step
    still_step
    still_step
    still_step
    still_step
    refine yH rfl 105 (.tmp 5) rfl w1.heap.size 0 rfl ((snF p0 p1 p2 p3 p4 p5 p6 p7 p8 p9 p10 p11 p12 p13 p14 p15 p16 p17 p18 p19 p20 p21 p22 p23 p24 p25 p26 p27 (j2:Int) true)).toList _ (lc (ds:=[]) (by rw [J5];exact HFD.out)) wH rfl (by rw [oK];rfl) ?_;refine wpStill_nil ?_;change wpList _ _ _ _ _ (WM).drew
    refine AC (WM).drew rfl (.tmp 49) (.tmp 50) (.tmp 51) 62 rfl 3 105 CO wj m es2 clock2 rfl hmp2 hkeys2 (.int .i64 (i:Int)) (.agg (snF p0 p1 p2 p3 p4 p5 p6 p7 p8 p9 p10 p11 p12 p13 p14 p15 p16 p17 p18 p19 p20 p21 p22 p23 p24 p25 p26 p27 (j2:Int) true)) _ rfl rfl (yV gN) ?_;intro es3 clock3 hes3;obtain⟨W9,hW9⟩:∃W9,W9=setBlock (WM).drew m (.map es3 clock3):=⟨_,rfl⟩;have HRS5:Hid (Rs S2 W9 g m s _):=ab (by
     rw [hW9];refine HRD.out.put fun e he=>?_
     rcases hes3 e he with h|⟨h1,h2⟩
     ·exact hent2 e h
     ·refine⟨i,by omega,h1,(snL p0 p1 p2 p3 p4 p5 p6 p7 p8 p9 p10 p11 p12 p13 p14 p15 p16 p17 p18 p19 p20 p21 p22 p23 p24 p25 p26 p27),x,j2,true,by rw [h2];rfl,HXD.out,hel,?_⟩
      rw [HD.out.2];exact(by rw [HP.out];exact⟨rfl,rfl,HDJ.out⟩))
    have HG5:Hid (Gr2 g m w W9):=ab (by rw [hW9];exact HGD.out.put _);have HF5:Hid (W9.heap[w1.heap.size]?=some (.cells (((snL p0 p1 p2 p3 p4 p5 p6 p7 p8 p9 p10 p11 p12 p13 p14 p15 p16 p17 p18 p19 p20 p21 p22 p23 p24 p25 p26 p27))++[Value.int .i64 (j2:Int),Value.bool true]).toArray 105 (0,0))):=ab jS;have HBX5:Hid (W9.heap[w.heap.size]?=some s0):=ab jT;have HXV5:Hid (SnV W9 S2 ((snL p0 p1 p2 p3 p4 p5 p6 p7 p8 p9 p10 p11 p12 p13 p14 p15 p16 p17 p18 p19 p20 p21 p22 p23 p24 p25 p26 p27)) (x)):=ab iO;rw [←hW9];have hz9:(WM).heap.size≤W9.heap.size:=by rw [hW9,nH];exact Ju _
    clear hW9 hes3 hent2 hkeys2 hmp2 q2 HRD HFD HBD HXD HGD HRN HFN HBN HXN HGN;have k18:(W9).cell? ⟨w1.heap.size,18,none⟩=some (.int .i64 (j2:Int)):=kU HF5.out 18 (app18 hcl _ _).1;have pc1:=HRS5.out.pl.c1;have f1:=HRS5.out.pl.free 1;go_upto_region 12 with(fail)
    obtain⟨W6,hW6⟩:∃W6,W6=(W9).setCell ⟨g,1,none⟩ (.int .i64 (j2:Int)):=⟨_,rfl⟩;have HRS6:Hid (Rs (S2) W6 g m s j2):=ab iW;have HG6:Hid (Gr2 g m w W6):=ab (HG5.out.trans (Gr2.grown (hW6▸lp (lF _ _) 1 _)));have HF6:Hid (W6.heap[w1.heap.size]?=some (.cells (((snL p0 p1 p2 p3 p4 p5 p6 p7 p8 p9 p10 p11 p12 p13 p14 p15 p16 p17 p18 p19 p20 p21 p22 p23 p24 p25 p26 p27))++[Value.int .i64 (j2:Int),Value.bool true]).toArray 105 (0,0))):=ab je;have HBX6:Hid (W6.heap[w.heap.size]?=some s0):=ab iU;have HXV6:Hid (SnV W6 (S2) ((snL p0 p1 p2 p3 p4 p5 p6 p7 p8 p9 p10 p11 p12 p13 p14 p15 p16 p17 p18 p19 p20 p21 p22 p23 p24 p25 p26 p27)) (x)):=ab iM;rw [←hW6];clear hW6 k18 pc1 f1 HRS5 HG5 HF5 HBX5 HXV5;obtain⟨FB,hFB⟩:∃FB:Array Value,FB=(((snL p0 p1 p2 p3 p4 p5 p6 p7 p8 p9 p10 p11 p12 p13 p14 p15 p16 p17 p18 p19 p20 p21 p22 p23 p24 p25 p26 p27))++[Value.int .i64 (j2:Int),Value.bool true]).toArray:=⟨_,rfl⟩;have HFB:=ab hFB;have HFC:Hid (FB[19]?=some (.bool true)):=ab ku;have HCC:Hid (∀u∈((snL p0 p1 p2 p3 p4 p5 p6 p7 p8 p9 p10 p11 p12 p13 p14 p15 p16 p17 p18 p19 p20 p21 p22 p23 p24 p25 p26 p27)).toArray.toList,u.oneCell'=true):=ab (fun u hu=>HXV6.out.one u iY);clear hFB;refine pJ gT gT (fun A0 W0 L a w'=>∃V:Nat→Value,a=mW [58,59,60,61] 0 V A0∧In12 (w1.heap.size) w.heap.size FB ((snL p0 p1 p2 p3 p4 p5 p6 p7 p8 p9 p10 p11 p12 p13 p14 p15 p16 p17 p18 p19 p20 p21 p22 p23 p24 p25 p26 p27)).toArray true W0.drew L V w') ?_ ?_
    ·exact bT
    refine⟨?_,?_,?_,?_,?_,?_⟩
    ·exact bi
    ·intro L a w' hL hd hI
     obtain⟨V,rfl,⟨hf,q0,q1,v0,v1,v2,v3⟩⟩:=hI;simp [lm,Region.binds] at hd
     simp only [mW];have h0:=v0 hd;refine kV rfl 44 (.tmp 58) rfl (w1.heap.size) 0 (Eq.trans jb h0) ((snL p0 p1 p2 p3 p4 p5 p6 p7 p8 p9 p10 p11 p12 p13 p14 p15 p16 p17 p18 p19 p20 p21 p22 p23 p24 p25 p26 p27)) _ (lc kG) kX rfl gY ?_;go_wp2
     exact⟨upd V 1 (.agg ((snL p0 p1 p2 p3 p4 p5 p6 p7 p8 p9 p10 p11 p12 p13 p14 p15 p16 p17 p18 p19 p20 p21 p22 p23 p24 p25 p26 p27)).toArray),(by simp [upd];exact h0.symm),⟨hf,(fun h=>q0 gQ),(fun h=>q1 gQ),(fun h=>v0 gQ),(fun _=>rfl),(fun h=>v2 gQ),(fun h=>v3 gQ)⟩⟩
    ·exact bh
    ·intro L a w' hL hd hI
     obtain⟨V,rfl,⟨hf,q0,q1,v0,v1,v2,v3⟩⟩:=hI;simp [lm,Region.binds] at hd
     simp only [mW];have h2:=v2 hd;have k19:=kU hf 19 HFC.out;go_wp2
     exact⟨upd V 3 (.bool true),(by simp [upd];exact h2.symm),⟨hf,(fun h=>q0 gQ),(fun h=>q1 gQ),(fun h=>v0 gQ),(fun h=>v1 gQ),(fun h=>v2 gQ),(fun _=>rfl)⟩⟩
    ·intro L a w' hL hd hI
     obtain⟨V,rfl,⟨hf,q0,q1,v0,v1,v2,v3⟩⟩:=hI;simp [lm,Region.binds] at hd
     simp only [mW];have h1:=v1 hd.1;have h0:=v0 hd.2.1;obtain rfl:=q0 hL;refine ll rfl 44 (.tmp 2) (.tmp 59) rfl w.heap.size ((snL p0 p1 p2 p3 p4 p5 p6 p7 p8 p9 p10 p11 p12 p13 p14 p15 p16 p17 p18 p19 p20 p21 p22 p23 p24 p25 p26 p27)).toArray jb (Eq.trans jb h1) 44 #[.int .i64 0,.string ⟨#[]⟩,.int .i64 0,.bool false,.bool false,.int .i64 0,.string ⟨#[]⟩,.bool false,.slice none 0 0,.int .i64 0,.int .i64 0,.bool false,.slice none 0 0,.slice none 0 0,.bool false,.bool false,.slice none 0 0,.slice none 0 0] (w:=W6.drew) HBX6.out ld iH rfl HCC.out rfl ?_;exact bH
    ·intro L a w' hd hI
     obtain⟨V,rfl,⟨hf,q0,q1,v0,v1,v2,v3⟩⟩:=hI;simp [lm,Region.binds] at hd
     simp only [mW];have h3:=v3 gW;obtain rfl:=q1 gW;have HB7:=ab (mF (w:=W6.drew) (cs:=((snL p0 p1 p2 p3 p4 p5 p6 p7 p8 p9 p10 p11 p12 p13 p14 p15 p16 p17 p18 p19 p20 p21 p22 p23 p24 p25 p26 p27)).toArray) HBX6.out);go_wp2
     refine JM (nv Tryz.results40 kX ld HB7.out iH rfl (by first|rfl|exact h3)) rfl ?_;have HR7:=((HRS6.out.later ((Below.refl _ _).drew)).setRow hnb ((snL p0 p1 p2 p3 p4 p5 p6 p7 p8 p9 p10 p11 p12 p13 p14 p15 p16 p17 p18 p19 p20 p21 p22 p23 p24 p25 p26 p27)).toArray);rw [HE.out];exact⟨((HG6.out.trans (Gr2.below ((Below.refl _ _).drew))).setRow (Ju _) _),S2,j2,(snL p0 p1 p2 p3 p4 p5 p6 p7 p8 p9 p10 p11 p12 p13 p14 p15 p16 p17 p18 p19 p20 p21 p22 p23 p24 p25 p26 p27),x,true,rfl,HR7,hS1,hS2,(HXV6.out.later ((Below.refl _ _).drew)).setRow hnb.1 _,(by rw [HP.out];exact⟨rfl,rfl,HDJ.out⟩)⟩
  ·obtain⟨k,hk1,hk2,hf⟩:=hent e0 he0
   have hki:i=k:=by rw [hk2] at hek;injection hek with _ h;omega
   subst hki;obtain⟨cc,x,e1,ok,hv,hxv,hel,hm⟩:=hf;rw [hv] at hlk;have HLK:=ab hlk;have hcl:=hxv.len;obtain⟨W5,hW5⟩:∃W5,W5=w1.alloc (.cells (cc++[Value.int .i64 (e1:Int),Value.bool ok]).toArray 105):=⟨_,rfl⟩;have HW5:Hid ((w1.alloc (.cells (fnd0 0 false) 105)).setRow w1.heap.size (cc++[Value.int .i64 (e1:Int),Value.bool ok]).toArray=W5):=ab jg;have hb5:Below w1.heap.size w1 W5:=by rw [hW5];exact(Below.refl _ _).alloc (Ju _) _
   have HF5:Hid (W5.heap[w1.heap.size]?=some (.cells (cc++[Value.int .i64 (e1:Int),Value.bool ok]).toArray 105 (0,0))):=ab (by rw [hW5];exact heap_alloc_new _ _);have HONE:Hid (∀u∈(cc++[Value.int .i64 (e1:Int),Value.bool ok]).toArray.toList,u.oneCell'=true):=ab (fun u hu=>by
    rw [List.toList_toArray,JX] at hu;rcases hu with hu|hu
    ·exact hxv.one u hu
    ·simp at hu;rcases hu with rfl|rfl<;>rfl)
   have hz5:W5.heap.size=w1.heap.size+1:=by rw [hW5];simp
   have HM:=ab hm;have HRS5:=ab (HRS1.out.later hb5);have HXV5:=ab (hxv.later hb5);have HBX5:=ab ((hb5.block _ (kT HBX1.out)).trans HBX1.out);have HG5:Hid (Gr2 g m w W5):=ab (Gr2.below (hbw1.trans (hb5.mono hbw1.size)));clear hlk hmp hent hkeys hm hxv hW5 he0 hek hk2 hv hb5 hbw1;have hb5g:w1.heap.size≠g:=gN;have hnb:¬S w.heap.size∧w.heap.size≠g∧w.heap.size≠m:=⟨fun e=>by have:=HRS.out.lt _ e;omega,by omega,by omega⟩;have hS1:∀b,S b→S b:=fun _ h=>h
   have hS2:∀b,S b→S b∨w.heap.size≤b:=fun _ h=>.inl h
   have HFIN:Hid (match l7 r with|some (y,r)=>ok=true∧x=y∧s.drop e1=r|none=>ok=false∧((true:Bool)=true→e1=i)):=ab (by
    have h:=HM.out;rw [HD.out.2] at h;cases hp:l7 r with
    | none=>rw [hp] at h;exact⟨h.1,fun _=>h.2⟩
    | some y=>rw [hp] at h;exact h)
   have k18:(W5).cell? ⟨w1.heap.size,18,none⟩=some (.int .i64 (e1:Int)):=kU HF5.out 18 (app18 hcl _ _).1;have pc1:=HRS5.out.pl.c1;have f1:=HRS5.out.pl.free 1;go_upto_region 12 with(first|(at_lookup;refine BN rfl 62 (.tmp 24) (.tmp 25) rfl rfl rfl HLK.out ?_)|(refine ll rfl 105 (.tmp 5) (.tmp 27) rfl (w1.heap.size) ((cc++[Value.int .i64 (e1:Int),Value.bool ok]).toArray) rfl rfl 105 _ (heap_alloc_new w1 _) (oK) iH rfl (HONE.out) (W:=W5) (HW5.out) ?_))
   obtain⟨W6,hW6⟩:∃W6,W6=(W5).setCell ⟨g,1,none⟩ (.int .i64 (e1:Int)):=⟨_,rfl⟩;have HRS6:Hid (Rs (S) W6 g m s e1):=ab iW;have HG6:Hid (Gr2 g m w W6):=ab (HG5.out.trans (Gr2.grown (hW6▸lp (lF _ _) 1 _)));have HF6:Hid (W6.heap[w1.heap.size]?=some (.cells ((cc)++[Value.int .i64 (e1:Int),Value.bool ok]).toArray 105 (0,0))):=ab je;have HBX6:Hid (W6.heap[w.heap.size]?=some s0):=ab iU;have HXV6:Hid (SnV W6 (S) (cc) (x)):=ab iM;rw [←hW6];clear hW6 k18 pc1 f1 HRS5 HG5 HF5 HBX5 HXV5;obtain⟨FB,hFB⟩:∃FB:Array Value,FB=((cc)++[Value.int .i64 (e1:Int),Value.bool ok]).toArray:=⟨_,rfl⟩;have HFB:=ab hFB;have HFC:Hid (FB[19]?=some (.bool ok)):=ab ku;have HCC:Hid (∀u∈(cc).toArray.toList,u.oneCell'=true):=ab (fun u hu=>HXV6.out.one u iY);clear hFB;refine pJ gT gT (fun A0 W0 L a w'=>∃V:Nat→Value,a=mW [58,59,60,61] 0 V A0∧In12 (w1.heap.size) w.heap.size FB (cc).toArray ok W0.drew L V w') ?_ ?_
   ·exact bT
   refine⟨?_,?_,?_,?_,?_,?_⟩
   ·exact bi
   ·intro L a w' hL hd hI
    obtain⟨V,rfl,⟨hf,q0,q1,v0,v1,v2,v3⟩⟩:=hI;simp [lm,Region.binds] at hd
    simp only [mW];have h0:=v0 hd;refine kV rfl 44 (.tmp 58) rfl (w1.heap.size) 0 (Eq.trans jb h0) (cc) _ (lc kG) kX rfl gY ?_;go_wp2
    exact⟨upd V 1 (.agg (cc).toArray),(by simp [upd];exact h0.symm),⟨hf,(fun h=>q0 gQ),(fun h=>q1 gQ),(fun h=>v0 gQ),(fun _=>rfl),(fun h=>v2 gQ),(fun h=>v3 gQ)⟩⟩
   ·exact bh
   ·intro L a w' hL hd hI
    obtain⟨V,rfl,⟨hf,q0,q1,v0,v1,v2,v3⟩⟩:=hI;simp [lm,Region.binds] at hd
    simp only [mW];have h2:=v2 hd;have k19:=kU hf 19 HFC.out;go_wp2
    exact⟨upd V 3 (.bool ok),(by simp [upd];exact h2.symm),⟨hf,(fun h=>q0 gQ),(fun h=>q1 gQ),(fun h=>v0 gQ),(fun h=>v1 gQ),(fun h=>v2 gQ),(fun _=>rfl)⟩⟩
   ·intro L a w' hL hd hI
    obtain⟨V,rfl,⟨hf,q0,q1,v0,v1,v2,v3⟩⟩:=hI;simp [lm,Region.binds] at hd
    simp only [mW];have h1:=v1 hd.1;have h0:=v0 hd.2.1;obtain rfl:=q0 hL;refine ll rfl 44 (.tmp 2) (.tmp 59) rfl w.heap.size (cc).toArray jb (Eq.trans jb h1) 44 #[.int .i64 0,.string ⟨#[]⟩,.int .i64 0,.bool false,.bool false,.int .i64 0,.string ⟨#[]⟩,.bool false,.slice none 0 0,.int .i64 0,.int .i64 0,.bool false,.slice none 0 0,.slice none 0 0,.bool false,.bool false,.slice none 0 0,.slice none 0 0] (w:=W6.drew) HBX6.out ld iH rfl HCC.out rfl ?_;exact bH
   ·intro L a w' hd hI
    obtain⟨V,rfl,⟨hf,q0,q1,v0,v1,v2,v3⟩⟩:=hI;simp [lm,Region.binds] at hd
    simp only [mW];have h3:=v3 gW;obtain rfl:=q1 gW;have HB7:=ab (mF (w:=W6.drew) (cs:=(cc).toArray) HBX6.out);go_wp2
    refine JM (nv Tryz.results40 kX ld HB7.out iH rfl (by first|rfl|exact h3)) rfl ?_;have HR7:=((HRS6.out.later ((Below.refl _ _).drew)).setRow hnb (cc).toArray);rw [HE.out];exact⟨((HG6.out.trans (Gr2.below ((Below.refl _ _).drew))).setRow (Ju _) _),S,e1,cc,x,ok,rfl,HR7,hS1,hS2,(HXV6.out.later ((Below.refl _ _).drew)).setRow hnb.1 _,(by have h:=HFIN.out;simpa using h)⟩
 ·have HSEE:Hid (Calls Tryz.prog 39 #[.pointer (some ⟨g,0,none⟩),.string ⟨([36]).toArray⟩] (w.alloc s0) fun e w'=>e=.returned (.bool false)∧Below (w.alloc s0).heap.size (w.alloc s0) w'):=ab ((CQ (p:=[36]) _ HRS0.out.pl gU).mono fun _ _ ⟨h1,h2⟩=>⟨by rw [h1,hd,pre1];simp [h36],h2⟩)
  have HE:Hid (dolM l7 c r=none):=ab (by unfold dolM;rw [Jo h36]);clear h HW hbx hd h36;go_enter Tryz.func40,Tryz.ntmps40
  go_wp2_with (go_at_call 39;refine HSEE.out.mono ?_)
  rintro e w1 ⟨rfl,hb1⟩;have hz1:=hb1.size;simp only [JO] at hz1;have hbw1:Below w.heap.size w w1:=hb0.trans (hb1.mono gU);have hbx1:=(hb1.block _ (kT HBX.out)).trans HBX.out;have HRS1:=ab (HRS0.out.later hb1);have HB1:=ab hbx1;have HB2:=ab (mF (cs:=#[.int .i64 0,.string ⟨#[]⟩,.int .i64 0,.bool false,.bool false,.int .i64 0,.string ⟨#[]⟩,.bool false,.slice none 0 0,.int .i64 0,.int .i64 0,.bool false,.slice none 0 0,.slice none 0 0,.bool false,.bool false,.slice none 0 0,.slice none 0 0]) hbx1);have HO2:=ab (fun k (hk:k≠w.heap.size)=>nj (w:=w1) #[.int .i64 0,.string ⟨#[]⟩,.int .i64 0,.bool false,.bool false,.int .i64 0,.string ⟨#[]⟩,.bool false,.slice none 0 0,.int .i64 0,.int .i64 0,.bool false,.slice none 0 0,.slice none 0 0,.bool false,.bool false,.slice none 0 0,.slice none 0 0] hk);clear hb1 hbx1 HSEE;go_wp2_with (refine wpList_store_row rfl 44 (.tmp 2) (.tmp 14) rfl (w.heap.size) _ rfl rfl 44 _ (HB1.out) ld rfl ((all_one (BX w S).one)) ?_)
  refine JM (nv Tryz.results40 kX ld HB2.out rfl rfl rfl) rfl ?_;have hnb:¬S w.heap.size∧w.heap.size≠g∧w.heap.size≠m:=⟨fun e=>by have:=HRS.out.lt _ e;omega,by omega,by omega⟩;rw [HE.out];exact⟨(Gr2.below hbw1).setRow (Ju _) _,S,i,_,_,false,rfl,HRS1.out.setRow hnb _,fun _ h=>h,fun _ h=>.inl h,BX _ S,rfl,fun _=>rfl⟩
theorem o5 {c:UInt8} {r s:Str} (h:s <:+ r):s <:+ c::r:=h.trans (J6 c r)
theorem te:∀(r:Str) (k n:Nat) {m:Nat} {s:Str},nf r k n=some (m,s)→s <:+ r
 | [],k,n,m,s,h=>by
  simp only [nf] at h;exact cr
 | c::r,k,n,m,s,h=>by
  simp only [nf] at h;split at h
  ·split at h
   ·cases h
   ·exact o5 (te r (k+1) _ h)
  ·exact cr
theorem It {r:Str} {x:Sn} {s:Str} (h:tS r=some (x,s)):s <:+ r:=by
 unfold tS at h;split at h
 ·injection h with h;injection h with _ h;subst h;exact List.dropWhile_suffix _
 ·cases h
theorem tw {r:Str} {x:Sn} {s:Str} (h:nD r=some (x,s)):s <:+ r:=by
 unfold nD at h;split at h
 ·rename_i heq
  injection h with h;injection h with _ h;subst h;exact te _ _ _ heq
 ·exact It h
theorem pp (one:Int):∀(r t:Str) {u s:Str},lH one r t=some (u,s)→s <:+ r
 | [],t,u,s,h=>by simp [lH] at h
 | [c],t,u,s,h=>by
  simp only [lH] at h;split at h
  ·simp at h;rw [←h.2];exact J7 _
  ·cases h
 | c::d::r,t,u,s,h=>by
  simp only [lH] at h;split at h
  ·simp at h;rw [←h.2];exact J7 _
  ·split at h
   ·exact o5 (o5 (pp one r _ h))
   ·exact o5 (pp one (d::r) _ h)
theorem C3 {r:Str} {n:Nat} {f:Fm} {s:Str} (h:mo r n=some (f,s)):s <:+ r:=by
 cases r with
 | nil=>cases h
 | cons c r =>
  simp only [mo] at h;split at h
  ·split at h
   ·cases h
   ·rename_i x r2 heq
    split at h
    ·cases h
    ·injection h with h;injection h with _ h;subst h
     have:=List.dropWhile_suffix (p:=mV) (l:=r)
     rw [heq] at this;exact o5 ((J6 _ _).trans this)
  ·split at h
   ·exact dn
   ·split at h
    ·split at h
     ·rename_i heq
      split at h
      ·rename_i heq2
       injection h with h;injection h with _ h;subst h
       exact o5 (((J6 _ _).trans (pp _ _ _ heq2)).trans ((J6 _ _).trans (pp _ _ _ heq)))
      ·cases h
     ·cases h
    ·split at h
     ·exact dn
     ·split at h
      ·rename_i heq
       injection h with h;injection h with _ h;subst h
       exact(J6 _ _).trans (pp _ _ _ heq)
      ·cases h
theorem I9 {r:Str} {f:Fm} {s:Str} (h:o6 r=some (f,s)):s <:+ r:=by
 unfold o6 at h;split at h
 ·rename_i p heq
  obtain⟨m,s'⟩:=p;injection h with h;injection h with _ h;subst h;exact te _ _ _ heq
 ·cases r with
  | nil=>cases h
  | cons c r =>
   simp only [Cq] at h;split at h
   ·split at h
    ·cases h
    ·rename_i p heq
     obtain⟨m,s'⟩:=p;have h1:=te _ _ _ heq;cases s' with
     | nil=>cases h
     | cons d r3 =>
      simp only [uf] at h;have h2:r3 <:+ r:=(J6 d r3).trans h1;split at h
      ·injection h with h;injection h with _ h;subst h;exact o5 h2
      ·split at h
       ·exact o5 ((C3 h).trans h2)
       ·cases h
   ·cases h
theorem rE:∀(k:Nat) (r tx:Str) (fs:List Fm) {gs:List Fm} {s:Str},pE k r tx fs=some (gs,s)→s <:+ r
 | 0,_,_,_,_,_,h=>by cases h
 | _+1,[],_,_,_,_,h=>by cases h
 | k+1,c::r,tx,fs,gs,s,h=>by
  simp only [pE] at h;split at h
  ·injection h with h;injection h with _ h;subst h;exact J7 _
  ·split at h
   ·split at h
    ·rename_i p hp
     obtain⟨f,s'⟩:=p;exact o5 ((rE k _ _ _ h).trans (I9 hp))
    ·exact o5 (rE k _ _ _ h)
   ·split at h
    ·exact o5 ((rE k _ _ _ h).trans (List.drop_suffix _ _))
    ·exact o5 (rE k _ _ _ h)
theorem tE:∀(r a:Str),(rxSp r a).2 <:+ r
 | [],a=>J7 _
 | [c],a=>by
  simp only [rxSp];split
  ·exact J7 _
  ·exact List.nil_suffix
 | c::d::r,a=>by
  simp only [rxSp];split
  ·exact J7 _
  ·split
   ·exact o5 (o5 (tE r _))
   ·exact o5 (tE (d::r) _)
theorem IK {x:Rx} {fs:List Fm} {r:Str} {f:Tf} {s:Str} (h:tC x fs r=some (f,s)):s <:+ r∧125∈r:=by
 unfold tC at h;have hd:=List.dropWhile_suffix (p:=mV) (l:=r);split at h
 ·cases h
 ·rename_i c r2 heq
  rw [heq] at hd;have hc:mV c=false:=by
   have:=List.head_dropWhile_not (p:=mV) (l:=r) (by rw [heq];simp)
   simpa [heq] using this
  have h125:c=125:=by
   unfold mV at hc;simp at hc
   exact Jk.1 hc
  subst h125;split at h
  ·cases h
  ·injection h with h;injection h with _ h;subst h
   exact⟨(J6 _ _).trans hd,hd.subset (JE ..)⟩
theorem II {r:Str} {f:Tf} {s:Str} (h:oq r=some (f,s)):s <:+ r∧125∈r:=by
 cases r with
 | nil=>cases h
 | cons c r =>
  simp only [oq] at h;have h1:=tE r [];split at h
  ·split at h
   ·cases h
   ·rename_i heq
    rw [heq] at h1;split at h
    ·cases h
    ·split at h
     ·cases h
     ·cases h
     ·rename_i heq2
      have h2:=rE _ _ _ _ heq2;obtain⟨h3,h4⟩:=IK h;have h5:=((J6 _ _).trans h2).trans ((J6 _ _).trans h1);exact⟨o5 (h3.trans h5),JF _ (h5.subset h4)⟩
  ·cases h
theorem o9 (th:Str) (c:UInt8) (r:Str):(nxtM th (c::r)).2 <:+ r:=by
 cases r with
 | nil=>exact J7 _
 | cons d r =>
  simp only [nxtM];split
  ·exact J6 _ _
  ·exact J7 _
theorem yG:∀(n:Nat) (r:Str) (o:List Str) (t:Str),r.length≤n→(optL r o t).2 <:+ r
 | _,[],o,t,_=>J7 _
 | 0,_::_,_,_,h=>by simp at h
 | n+1,c::r,o,t,h=>by
  simp only [Jr] at h;rw [nG];split
  ·exact J7 _
  ·split
   ·exact o5 (yG n r _ _ gN)
   ·have h1:=o9 fiveS c r
    exact o5 ((yG n _ _ _ ko).trans h1)
theorem GP {x:Sn} {r:Str} {y:Sn} {s:Str} (h:re x r=some (y,s)):s <:+ r∧125∈r:=by
 have h1:=yG _ r [] [] (Ju _);unfold re at h;split at h
 ·rename_i c d r2 heq
  rw [heq] at h1;split at h
  ·rename_i hcd
   injection h with h;injection h with _ h;subst h
   have hd:d=125:=Jk.1 hcd.2;subst hd;exact⟨(J6 _ _).trans ((J6 _ _).trans h1),h1.subset gU⟩
  ·cases h
 ·cases h
theorem vL {ps:Str→List Sn × Str} {x y:Sn} {r s:Str} (hps:∀t,t.length<r.length→(ps t).2 <:+ t) (h:lE ps x r=some (y,s)):s <:+ r:=by
 cases r with
 | nil=>cases h
 | cons c r =>
  simp only [lE] at h;split at h
  ·injection h with h;injection h with _ h;subst h;exact J6 _ _
  ·split at h
   ·have h1:=hps r gU
    split at h
    ·cases h
    ·rename_i heq
     rw [heq] at h1;injection h with h;injection h with _ h;subst h
     exact o5 ((J6 _ _).trans h1)
   ·split at h
    ·exact o5 (GP h).1
    ·split at h
     ·cases h
     ·rename_i heq
      injection h with h;injection h with _ h;subst h;exact(II heq).1
theorem wi:∀(N:Nat),(∀r x s,r.length≤N→l7 r=some (x,s)→s <:+ r)∧(∀ins out text r,r.length≤N→(lu ins out text r).2 <:+ r)
 | 0=>by
  refine⟨fun r x s h hp=>?_,fun ins out text r h=>?_⟩
  ·exact bK
  ·exact eO
 | N+1=>by
  obtain⟨ih1,ih2⟩:=wi N;have k1:∀r x s,r.length≤N+1→l7 r=some (x,s)→s <:+ r:=by
   intro r x s hr h;rw [oL] at h;cases r with
   | nil=>cases h
   | cons c r =>
    simp only [Jr] at hr;simp only [oO] at h;split at h
    ·split at h
     ·cases h
     ·rename_i heq
      have h1:=tw heq;exact o5 ((vL (fun t ht=>ih2 _ _ _ t ko) h).trans h1)
    ·exact tw h
  refine⟨k1,fun ins out text r hr=>?_⟩;have key:∀(n:Nat) (out:List Sn) (text r:Str),r.length≤n→n≤N+1→(lu ins out text r).2 <:+ r:=by
   intro n;induction n with
   | zero =>
    intro out text r h _;exact eO
   | succ n ih =>
    intro out text r h hn;cases r with
    | nil=>exact J7 _
    | cons c r =>
     simp only [Jr] at h;rw [l6];split
     ·exact J7 _
     ·split
      ·rename_i x r2 he
       have h1:r2 <:+ r:=by
        unfold dolM at he;split at he
        ·exact k1 r x r2 gN he
        ·cases he
       exact o5 ((ih _ _ r2 ko gN).trans h1)
      ·have h1:=o9 three c r
       exact o5 ((ih _ _ _ ko gN).trans h1)
  exact key r.length out text r (Ju _) hr
theorem BP {r:Str} {x:Sn} {s:Str} (h:l7 r=some (x,s)):s <:+ r:=(wi r.length).1 r x s (Ju _) h
theorem t8 (ins:Bool) (out:List Sn) (text r:Str):(lu ins out text r).2 <:+ r:=(wi r.length).2 ins out text r (Ju _)
theorem qz (out:List Sn) (t:Str):lO out t=out++lO [] t:=by unfold lO;split<;>simp
theorem nB (ins:Bool):∀(n:Nat) (out:List Sn) (text r:Str),r.length≤n→lu ins out text r=(out++(lu ins [] text r).1,(lu ins [] text r).2)
 | _,out,text,[],_=>by rw [me,me,qz]
 | 0,_,_,_::_,h=>by simp at h
 | n+1,out,text,c::r,h=>by
  simp only [Jr] at h;rw [l6,l6];split
  ·rw [qz]
  ·split
   ·rename_i x r2 he
    have h1:r2.length≤r.length:=by
     unfold dolM at he;split at he
     ·exact(BP he).length_le
     ·cases he
    rw [nB ins n (lO out text++[x]) [] r2 gN,nB ins n (lO [] text++[x]) [] r2 gN,qz out];simp
   ·have h1:=(o9 three c r).length_le
    exact nB ins n out _ _ gN
end Go.Proofs.YtdcnncgpomcaaaaGreatDoor
