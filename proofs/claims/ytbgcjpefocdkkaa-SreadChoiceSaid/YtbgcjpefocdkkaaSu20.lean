/- walk of sread: part -/
import Derived.Test.YtbgcjpefocdkkaaSu1
import Derived.Test.YtbgcjpefocdkkaaSu2
import Derived.Test.YtbgcjpefocdkkaaSu3
import Derived.Test.YtbgcjpefocdkkaaSu4
import Derived.Test.YtbgcjpefocdkkaaSu5
import Derived.Test.YtbgcjpefocdkkaaSu6
import Derived.Test.YtbgcjpefocdkkaaSu7
import Derived.Test.YtbgcjpefocdkkaaSu8
import Derived.Test.YtbgcjpefocdkkaaSu9
import Derived.Test.YtbgcjpefocdkkaaSu10
import Derived.Test.YtbgcjpefocdkkaaSu11
import Derived.Test.YtbgcjpefocdkkaaSu12
import Derived.Lib.ItoaMem
import Derived.Test.YtbgcjpefocdkkaaSu13
import Derived.Test.YtbgcjpefocdkkaaSu14
import Derived.Test.YtbgcjpefocdkkaaSu15
import Derived.Test.YtbgcjpefocdkkaaSu16
import Derived.Test.YtbgcjpefocdkkaaSu17
import Derived.Test.YtbgcjpefocdkkaaSu18
import Derived.Test.YtbgcjpefocdkkaaSu19
import Derived.StillTailTactics
set_option maxRecDepth 100000
namespace Go.Proofs.Ytbgcjpefocdkkaa
open Go.RowKit Go.Maps Go.MapKept
open Go.ChangeMaps (setBlock)
theorem all_one {cs:Array Value} (h:∀ u ∈ cs.toList,u.oneCell'=true):cs.all (·.oneCell')=true:=Array.all_eq_true_iff_forall_mem.2 (fun v hv=>h v (by simpa using hv))
theorem cc_one {cc:List Value} (h:∀ u ∈ cc,u.oneCell'=true) (k:Int) (b:Bool):∀ u ∈ (cc++[Value.int .i64 k,Value.bool b]).toArray.toList,u.oneCell'=true:=fun u hu=>by
 rw [List.toList_toArray,List.mem_append] at hu
 rcases hu with hu | hu
 ·exact h u hu
 ·simp at hu;rcases hu with rfl | rfl <;> rfl
theorem snip_size:(Try.prog.info? 36).map (·.size)=some 18:=by kernel_rfl
theorem found_size:(Try.prog.info? 76).map (·.size)=some 20:=by kernel_rfl
theorem snip_under:Try.prog.underlying 36=some (.struct (Try.prog.fieldsOf 36)):=by kernel_rfl
theorem found_under:Try.prog.underlying 76=some (.struct (Try.prog.fieldsOf 76)):=by kernel_rfl
theorem sn0_v (w:World) (S:Nat→Prop):SnV w S [.int .i64 0,.string ⟨#[]⟩,.int .i64 0,.bool false,.bool false,.int .i64 0,.string ⟨#[]⟩,.bool false,.slice none 0 0,.int .i64 0,.int .i64 0,.bool false,.slice none 0 0,.slice none 0 0,.bool false,.bool false,.slice none 0 0,.slice none 0 0] (textS []):=textS_v w S []
/-- A part, or none; st: does the place stay where there is none? -/
def OutX (S:Nat→Prop) (g m:Nat) (s:Str) (R:Option (Sn × Str)) (st:Bool) (i:Nat) (w:World) (e:Ending) (w':World):Prop:=Gr2 g m w w' ∧
 ∃ (S':Nat→Prop) (j:Nat) (cc:List Value) (x:Sn) (ok:Bool),e=.returned (.tuple #[.agg cc.toArray,.bool ok])∧Rs S' w' g m s j∧(∀ b,S b→S' b)∧(∀ b,S' b→S b∨w.heap.size≤b)∧SnV w' S' cc x ∧
  match R with
  | some (y,r)=>ok=true∧x=y∧s.drop j=r
  | none=>ok=false∧(st=true→j=i)
def WholeC (g m:Nat) (s:Str) (N:Nat):Prop:=∀ (S:Nat→Prop) (w:World) (i:Nat) (r:Str),Rs S w g m s i→s.drop i=36 :: r→s.length - i≤N →
 Calls Try.prog 34 #[.pointer (some ⟨g,0,none⟩)] w fun e w'=>OutX S g m s (partS r) false i w e w'
def PartC (g m:Nat) (s:Str) (N:Nat):Prop:=∀ (S:Nat→Prop) (w:World) (i:Nat) (c:UInt8) (r:Str),Rs S w g m s i→s.drop i=c :: r→s.length - i≤N →
 Calls Try.prog 26 #[.pointer (some ⟨g,0,none⟩)] w fun e w'=>OutX S g m s (dolM partS c r) true i w e w'
theorem found_zero (w:World):(zeroValue 76).run Try.prog w=.ok (.agg #[.int .i64 0,.string ⟨#[]⟩,.int .i64 0,.bool false,.bool false,.int .i64 0,.string ⟨#[]⟩,.bool false,.slice none 0 0,.int .i64 0,.int .i64 0,.bool false,.slice none 0 0,.slice none 0 0,.bool false,.bool false,.slice none 0 0,.slice none 0 0,.int .i64 0,.bool false]) w:=by kernel_rfl
theorem map_under:Try.prog.underlying 55=some (.map 3 76):=Try.underlying55
theorem Gr2.setRow {g m:Nat} {w0 w:World} (h:Gr2 g m w0 w) {b:Nat} (hb:w0.heap.size≤b) (cs:Array Value):Gr2 g m w0 (w.setRow b cs) :=
 ⟨h.os,h.tape,h.output,by rw [sr_size];exact h.size,fun k hk h1 h2=>(sr_other cs (by omega)).trans (h.block k hk h1 h2)⟩
theorem Rs.setRow {S:Nat→Prop} {w:World} {g m:Nat} {s:Str} {i:Nat} (h:Rs S w g m s i) {b:Nat} (hb:¬ S b∧b≠g∧b≠m) (cs:Array Value):Rs S (w.setRow b cs) g m s i :=
 h.moved ⟨(sr_other cs (Ne.symm hb.2.1)).trans h.pl.1,h.pl.2⟩ (by rw [sr_size];exact Nat.le_refl _) fun k hk _=>sr_other cs (by
  rcases hk with hk | hk
  ·rintro rfl;exact hb.1 hk
  ·rintro rfl;exact hb.2.2 hk)
theorem SnV.setRow {S:Nat→Prop} {w:World} {c:List Value} {x:Sn} (h:SnV w S c x) {b:Nat} (hb:¬ S b) (cs:Array Value):SnV (w.setRow b cs) S c x :=
 h.keep ⟨by rw [sr_size];exact Nat.le_refl _,fun k hk _=>sr_other cs (by rintro rfl;exact hb hk)⟩
theorem Rs.put {S:Nat→Prop} {w:World} {g m:Nat} {s:Str} {i:Nat} (h:Rs S w g m s i) {es':Array MapEntry} {clock':Nat} (hent:∀ e ∈ es'.toList,∃ k:Nat,k≤s.length∧e.key=.int .i64 (k:Int)∧FndV w S s k e.val):Rs S (setBlock w m (.map es' clock')) g m s i:=by
 obtain ⟨es,clock,h1,h2⟩:=h.mp
 have hK:Kept S w (setBlock w m (.map es' clock')):=⟨by rw [setBlock_size];exact Nat.le_refl _,fun b hb _=>setBlock_other _ (by rintro rfl;exact h.nm hb)⟩
 exact ⟨⟨(setBlock_other _ (Ne.symm (Nat.ne_of_lt h.gm))).trans h.pl.1,h.pl.2⟩,h.gm,⟨es',clock',setBlock_heap h1,fun e he=>by
  obtain ⟨k,a,b,c⟩:=hent e he
  exact ⟨k,a,b,c.keep hK⟩⟩,h.ng,h.nm,fun b hb=>by rw [setBlock_size];exact h.lt b hb⟩
theorem Gr2.put {g m:Nat} {w0 w:World} (h:Gr2 g m w0 w) (o:Obj):Gr2 g m w0 (setBlock w m o) :=
 ⟨h.os,h.tape,h.output,by rw [setBlock_size];exact h.size,fun k hk h1 h2=>(setBlock_other o h2).trans (h.block k hk h1 h2)⟩
theorem app18 {cc:List Value} (h:cc.length=18) (u v:Value):(cc++[u,v]).toArray[18]?=some u∧(cc++[u,v]).toArray[19]?=some v:=by
 constructor <;> simp [h]
/-- What is true of the region that hands a part on. -/
structure In12 (b5 b0:Nat) (FB CC:Array Value) (ok:Bool) (WD:World) (L:Nat→Bool) (V:Nat→Value) (w':World):Prop where
 hf:w'.heap[b5]?=some (.cells FB 76 (0,0))
 q0:L 4=false→w'=WD
 q1:L 4=true→w'=WD.setRow b0 CC
 v0:L 0=true→V 0=.pointer (some ⟨b5,0,none⟩)
 v1:L 1=true→V 1=.agg CC
 v2:L 2=true→V 2=.pointer (some ⟨b5,19,none⟩)
 v3:L 3=true→V 3=.bool ok
set_option maxHeartbeats 4000000 in
theorem part_step {g m:Nat} {s:Str} {N:Nat} (hs:s.length≤100000) (HW:WholeC g m s N):PartC g m s N:=by
 intro S w i c r h hd hN
 have HRS:=Lib.hid h
 have hgB:=h.pl.lt
 have hi:=h.pl.2.1
 have hmg:=h.gm
 have HWW:=Lib.hid HW
 have hbx:(w.alloc (.cells #[.int .i64 0,.string ⟨#[]⟩,.int .i64 0,.bool false,.bool false,.int .i64 0,.string ⟨#[]⟩,.bool false,.slice none 0 0,.int .i64 0,.int .i64 0,.bool false,.slice none 0 0,.slice none 0 0,.bool false,.bool false,.slice none 0 0,.slice none 0 0] 36)).heap[w.heap.size]?=some (.cells #[.int .i64 0,.string ⟨#[]⟩,.int .i64 0,.bool false,.bool false,.int .i64 0,.string ⟨#[]⟩,.bool false,.slice none 0 0,.int .i64 0,.int .i64 0,.bool false,.slice none 0 0,.slice none 0 0,.bool false,.bool false,.slice none 0 0,.slice none 0 0] 36 (0,0)):=heap_alloc_new w _
 have hb0:Below w.heap.size w (w.alloc (.cells #[.int .i64 0,.string ⟨#[]⟩,.int .i64 0,.bool false,.bool false,.int .i64 0,.string ⟨#[]⟩,.bool false,.slice none 0 0,.int .i64 0,.int .i64 0,.bool false,.slice none 0 0,.slice none 0 0,.bool false,.bool false,.slice none 0 0,.slice none 0 0] 36)):=(Below.refl _ _).alloc (Nat.le_refl _) _
 have HRS0:=Lib.hid (h.later hb0)
 have HBX:=Lib.hid hbx
 by_cases h36:c.toNat=36
 ·have HSEE:Hid (Calls Try.prog 25 #[.pointer (some ⟨g,0,none⟩),.string ⟨([36]).toArray⟩] (w.alloc (.cells #[.int .i64 0,.string ⟨#[]⟩,.int .i64 0,.bool false,.bool false,.int .i64 0,.string ⟨#[]⟩,.bool false,.slice none 0 0,.int .i64 0,.int .i64 0,.bool false,.slice none 0 0,.slice none 0 0,.bool false,.bool false,.slice none 0 0,.slice none 0 0] 36)) fun e w'=>e=.returned (.bool true)∧Below (w.alloc (.cells #[.int .i64 0,.string ⟨#[]⟩,.int .i64 0,.bool false,.bool false,.int .i64 0,.string ⟨#[]⟩,.bool false,.slice none 0 0,.int .i64 0,.int .i64 0,.bool false,.slice none 0 0,.slice none 0 0,.bool false,.bool false,.slice none 0 0,.slice none 0 0] 36)).heap.size (w.alloc (.cells #[.int .i64 0,.string ⟨#[]⟩,.int .i64 0,.bool false,.bool false,.int .i64 0,.string ⟨#[]⟩,.bool false,.slice none 0 0,.int .i64 0,.int .i64 0,.bool false,.slice none 0 0,.slice none 0 0,.bool false,.bool false,.slice none 0 0,.slice none 0 0] 36)) w'):=Lib.hid ((see_s (p:=[36]) _ HRS0.out.pl (by simp)).mono fun _ _ ⟨h1,h2⟩=>⟨by rw [h1,hd,pre1];simp [h36],h2⟩)
  have HE:Hid (dolM partS c r=partS r):=Lib.hid (by unfold dolM;rw [if_pos h36])
  have hc36:c=36:=UInt8.toNat_inj.1 h36
  obtain ⟨h2,_,hr⟩:=drop_cons hd
  have HD:Hid (s.drop i=36 :: r∧s.drop (i+1)=r):=Lib.hid ⟨by rw [← hc36];exact hd,hr⟩
  clear h HW hbx hd h36 hr hc36
  go_enter Try.func26,Try.ntmps26
  go_wp2_with (go_at_call 25;refine HSEE.out.mono ?_)
  rintro e w1 ⟨rfl,hb1⟩
  have hz1:=hb1.size
  simp only [World.size_alloc] at hz1
  have hbw1:Below w.heap.size w w1:=hb0.trans (hb1.mono (by simp))
  have HBX1:=Lib.hid ((hb1.block _ (heap_lt HBX.out)).trans HBX.out)
  have HRS1:=Lib.hid (HRS0.out.later hb1)
  obtain ⟨es,clock,hmp,hent⟩:=HRS1.out.mp
  have c1:=HRS1.out.pl.c1
  have c2:=HRS1.out.pl.c2
  have hkeys:∀ x ∈ es.toList,∃ l,keyOf Try.prog 3 x.key=some l:=fun x hx=>by
   obtain ⟨k,a,b,_⟩:=hent x hx
   exact ⟨_,by rw [b];exact int_lit (by omega)⟩
  clear hb1 HSEE HBX HRS0 hb0
  rcases mp_look int_key map_under (found_zero w1) hmp hkeys (int_lit (k:=i) (by omega)) with ⟨hlk,_⟩ | ⟨e0,he0,hek,hlk⟩
  ·have HLK:=Lib.hid hlk
   have HMP:=Lib.hid hmp
   have HENT:=Lib.hid hent
   have HKEYS:=Lib.hid hkeys
   clear hlk hmp hent hkeys
   obtain ⟨W4,hW4⟩:∃ W4,W4=w1.alloc (.cells #[.int .i64 0,.string ⟨#[]⟩,.int .i64 0,.bool false,.bool false,.int .i64 0,.string ⟨#[]⟩,.bool false,.slice none 0 0,.int .i64 0,.int .i64 0,.bool false,.slice none 0 0,.slice none 0 0,.bool false,.bool false,.slice none 0 0,.slice none 0 0,.int .i64 0,.bool false] 76):=⟨_,rfl⟩
   have HW4:Hid ((w1.alloc (.cells #[.int .i64 0,.string ⟨#[]⟩,.int .i64 0,.bool false,.bool false,.int .i64 0,.string ⟨#[]⟩,.bool false,.slice none 0 0,.int .i64 0,.int .i64 0,.bool false,.slice none 0 0,.slice none 0 0,.bool false,.bool false,.slice none 0 0,.slice none 0 0,.int .i64 0,.bool false] 76)).setRow w1.heap.size #[.int .i64 0,.string ⟨#[]⟩,.int .i64 0,.bool false,.bool false,.int .i64 0,.string ⟨#[]⟩,.bool false,.slice none 0 0,.int .i64 0,.int .i64 0,.bool false,.slice none 0 0,.slice none 0 0,.bool false,.bool false,.slice none 0 0,.slice none 0 0,.int .i64 0,.bool false]=W4):=Lib.hid (by rw [hW4];exact World.setRow_alloc_new _ _ _ _)
   have hb4:Below w1.heap.size w1 W4:=by rw [hW4];exact (Below.refl _ _).alloc (Nat.le_refl _) _
   have HF4:Hid (W4.heap[w1.heap.size]?=some (.cells #[.int .i64 0,.string ⟨#[]⟩,.int .i64 0,.bool false,.bool false,.int .i64 0,.string ⟨#[]⟩,.bool false,.slice none 0 0,.int .i64 0,.int .i64 0,.bool false,.slice none 0 0,.slice none 0 0,.bool false,.bool false,.slice none 0 0,.slice none 0 0,.int .i64 0,.bool false] 76 (0,0))):=Lib.hid (by rw [hW4];exact heap_alloc_new _ _)
   have hz4:W4.heap.size=w1.heap.size+1:=by rw [hW4];simp
   have HRS4:=Lib.hid (HRS1.out.later hb4)
   have HBX4:=Lib.hid ((hb4.block _ (heap_lt HBX1.out)).trans HBX1.out)
   have HG4:Hid (Gr2 g m w W4):=Lib.hid (Gr2.below (hbw1.trans (hb4.mono hbw1.size)))
   have HO0:Hid (∀ u ∈ (#[.int .i64 0,.string ⟨#[]⟩,.int .i64 0,.bool false,.bool false,.int .i64 0,.string ⟨#[]⟩,.bool false,.slice none 0 0,.int .i64 0,.int .i64 0,.bool false,.slice none 0 0,.slice none 0 0,.bool false,.bool false,.slice none 0 0,.slice none 0 0,.int .i64 0,.bool false]:Array Value).toList,u.oneCell'=true):=Lib.hid (cc_one (sn0_v w S).one 0 false)
   have HOI:Hid (∀ u ∈ (#[.int .i64 0,.string ⟨#[]⟩,.int .i64 0,.bool false,.bool false,.int .i64 0,.string ⟨#[]⟩,.bool false,.slice none 0 0,.int .i64 0,.int .i64 0,.bool false,.slice none 0 0,.slice none 0 0,.bool false,.bool false,.slice none 0 0,.slice none 0 0,.int .i64 (i:Int),.bool false]:Array Value).toList,u.oneCell'=true):=Lib.hid (cc_one (sn0_v w S).one (i:Int) false)
   have HWH:=Lib.hid (HWW.out S W4 i r HRS4.out HD.out.1 hN)
   clear hW4 hb4 hbw1
   go_wp2_with (first
    | (at_lookup;refine wpList_lk rfl 55 (.tmp 24) (.tmp 25) rfl rfl rfl HLK.out ?_)
    | (refine wpList_stW rfl 76 (.tmp 5) (.tmp 27) rfl (w1.heap.size) (#[.int .i64 0,.string ⟨#[]⟩,.int .i64 0,.bool false,.bool false,.int .i64 0,.string ⟨#[]⟩,.bool false,.slice none 0 0,.int .i64 0,.int .i64 0,.bool false,.slice none 0 0,.slice none 0 0,.bool false,.bool false,.slice none 0 0,.slice none 0 0,.int .i64 0,.bool false]) rfl rfl 76 (#[.int .i64 0,.string ⟨#[]⟩,.int .i64 0,.bool false,.bool false,.int .i64 0,.string ⟨#[]⟩,.bool false,.slice none 0 0,.int .i64 0,.int .i64 0,.bool false,.slice none 0 0,.slice none 0 0,.bool false,.bool false,.slice none 0 0,.slice none 0 0,.int .i64 0,.bool false]) (heap_alloc_new w1 _) (found_size) rfl rfl (HO0.out) (W:=W4) (HW4.out) ?_)
    | (go_at_call 34;refine HWH.out.mono ?_))
   rintro e w2 ⟨hg2,S2,j2,cc,x,ok,rfl,hrs2,hT1,hT2,hxv,hm⟩
   have hz2:=hg2.size
   have hxv0:=hxv
   obtain ⟨p0,p1,p2,p3,p4,p5,p6,p7,p8,p9,p10,p11,p12,p13,p14,p15,p16,p17,p18,p19,p20,p21,p22,p23,p24,p25,p26,p27,rfl,hq⟩:=hxv.box
   clear hq
   have hbA:Below w2.heap.size w2 (w2.alloc (.cells #[.int .i64 p0,.string ⟨(p1).toArray⟩,.int .i64 p2,.bool p3,.bool p4,.int .i64 p5,.string ⟨(p6).toArray⟩,.bool p7,.slice p8 p9 p10,.int .i64 p11,.int .i64 p12,.bool p13,.slice p14 p15 p16,.slice p17 p18 p19,.bool p20,.bool p21,.slice p22 p23 p24,.slice p25 p26 p27] 36)):=(Below.refl _ _).alloc (Nat.le_refl _) _
   obtain ⟨W3,hW3⟩:∃ W3,W3=w2.alloc (.cells #[.int .i64 p0,.string ⟨(p1).toArray⟩,.int .i64 p2,.bool p3,.bool p4,.int .i64 p5,.string ⟨(p6).toArray⟩,.bool p7,.slice p8 p9 p10,.int .i64 p11,.int .i64 p12,.bool p13,.slice p14 p15 p16,.slice p17 p18 p19,.bool p20,.bool p21,.slice p22 p23 p24,.slice p25 p26 p27] 36):=⟨_,rfl⟩
   have HW3:Hid ((w2.alloc (.cells #[.int .i64 0,.string ⟨#[]⟩,.int .i64 0,.bool false,.bool false,.int .i64 0,.string ⟨#[]⟩,.bool false,.slice none 0 0,.int .i64 0,.int .i64 0,.bool false,.slice none 0 0,.slice none 0 0,.bool false,.bool false,.slice none 0 0,.slice none 0 0] 36)).setRow w2.heap.size #[.int .i64 p0,.string ⟨(p1).toArray⟩,.int .i64 p2,.bool p3,.bool p4,.int .i64 p5,.string ⟨(p6).toArray⟩,.bool p7,.slice p8 p9 p10,.int .i64 p11,.int .i64 p12,.bool p13,.slice p14 p15 p16,.slice p17 p18 p19,.bool p20,.bool p21,.slice p22 p23 p24,.slice p25 p26 p27]=W3):=Lib.hid (by rw [hW3];exact World.setRow_alloc_new _ _ _ _)
   have hb3:Below w2.heap.size w2 W3:=by rw [hW3];exact hbA
   have HF3:Hid (W3.heap[w1.heap.size]?=some (.cells #[.int .i64 0,.string ⟨#[]⟩,.int .i64 0,.bool false,.bool false,.int .i64 0,.string ⟨#[]⟩,.bool false,.slice none 0 0,.int .i64 0,.int .i64 0,.bool false,.slice none 0 0,.slice none 0 0,.bool false,.bool false,.slice none 0 0,.slice none 0 0,.int .i64 0,.bool false] 76 (0,0))):=Lib.hid ((hb3.block _ (by omega)).trans ((hg2.block _ (by omega) (by omega) (by omega)).trans HF4.out))
   have HBX3:Hid (W3.heap[w.heap.size]?=some (.cells #[.int .i64 0,.string ⟨#[]⟩,.int .i64 0,.bool false,.bool false,.int .i64 0,.string ⟨#[]⟩,.bool false,.slice none 0 0,.int .i64 0,.int .i64 0,.bool false,.slice none 0 0,.slice none 0 0,.bool false,.bool false,.slice none 0 0,.slice none 0 0] 36 (0,0))):=Lib.hid ((hb3.block _ (by omega)).trans ((hg2.block _ (by omega) (by omega) (by omega)).trans HBX4.out))
   have HT3:Hid (W3.heap[w2.heap.size]?=some (.cells #[.int .i64 p0,.string ⟨(p1).toArray⟩,.int .i64 p2,.bool p3,.bool p4,.int .i64 p5,.string ⟨(p6).toArray⟩,.bool p7,.slice p8 p9 p10,.int .i64 p11,.int .i64 p12,.bool p13,.slice p14 p15 p16,.slice p17 p18 p19,.bool p20,.bool p21,.slice p22 p23 p24,.slice p25 p26 p27] 36 (0,0))):=Lib.hid (by rw [hW3];exact heap_alloc_new _ _)
   have HRS3:=Lib.hid (hrs2.later hb3)
   have HXV3:=Lib.hid (hxv0.later hb3)
   have HG3:Hid (Gr2 g m w W3):=Lib.hid (HG4.out.trans (hg2.trans (Gr2.below hb3)))
   have HONE:Hid (∀ u ∈ (#[.int .i64 p0,.string ⟨(p1).toArray⟩,.int .i64 p2,.bool p3,.bool p4,.int .i64 p5,.string ⟨(p6).toArray⟩,.bool p7,.slice p8 p9 p10,.int .i64 p11,.int .i64 p12,.bool p13,.slice p14 p15 p16,.slice p17 p18 p19,.bool p20,.bool p21,.slice p22 p23 p24,.slice p25 p26 p27]:Array Value).toList,u.oneCell'=true):=Lib.hid (fun u hu=>hxv0.one u hu)
   have hnS:∀ b,w.heap.size≤b→b < w2.heap.size→b < W4.heap.size→¬ S2 b:=fun b h1 _ h3 e=>by
    rcases hT2 b e with h | h
    ·have:=HRS.out.lt b h;omega
    ·omega
   have hz3:W3.heap.size=w2.heap.size+1:=by rw [hW3];simp
   have HM:=Lib.hid hm
   have hS1:∀ b,S b→S2 b:=hT1
   have hS2:∀ b,S2 b→S b∨w.heap.size≤b:=fun b hb=>(hT2 b hb).imp id (fun h=>by omega)
   have hnb:¬ S2 w.heap.size∧w.heap.size≠g∧w.heap.size≠m:=⟨hnS _ (Nat.le_refl _) (by omega) (by omega),by omega,by omega⟩
   have hn5:¬ S2 w1.heap.size∧w1.heap.size≠g∧w1.heap.size≠m:=⟨hnS _ (by omega) (by omega) (by omega),by omega,by omega⟩
   have hb5g:w1.heap.size≠g:=by omega
   obtain ⟨WN,hWN⟩:∃ WN,WN=W3.setRow w1.heap.size #[.int .i64 0,.string ⟨#[]⟩,.int .i64 0,.bool false,.bool false,.int .i64 0,.string ⟨#[]⟩,.bool false,.slice none 0 0,.int .i64 0,.int .i64 0,.bool false,.slice none 0 0,.slice none 0 0,.bool false,.bool false,.slice none 0 0,.slice none 0 0,.int .i64 (i:Int),.bool false]:=⟨_,rfl⟩
   have HWN:Hid (W3.setRow w1.heap.size #[.int .i64 0,.string ⟨#[]⟩,.int .i64 0,.bool false,.bool false,.int .i64 0,.string ⟨#[]⟩,.bool false,.slice none 0 0,.int .i64 0,.int .i64 0,.bool false,.slice none 0 0,.slice none 0 0,.bool false,.bool false,.slice none 0 0,.slice none 0 0,.int .i64 (i:Int),.bool false]=WN):=Lib.hid hWN.symm
   have HRN:=Lib.hid (hWN ▸ HRS3.out.setRow hn5 #[.int .i64 0,.string ⟨#[]⟩,.int .i64 0,.bool false,.bool false,.int .i64 0,.string ⟨#[]⟩,.bool false,.slice none 0 0,.int .i64 0,.int .i64 0,.bool false,.slice none 0 0,.slice none 0 0,.bool false,.bool false,.slice none 0 0,.slice none 0 0,.int .i64 (i:Int),.bool false])
   have HGN:=Lib.hid (hWN ▸ HG3.out.setRow (b:=w1.heap.size) (by omega) #[.int .i64 0,.string ⟨#[]⟩,.int .i64 0,.bool false,.bool false,.int .i64 0,.string ⟨#[]⟩,.bool false,.slice none 0 0,.int .i64 0,.int .i64 0,.bool false,.slice none 0 0,.slice none 0 0,.bool false,.bool false,.slice none 0 0,.slice none 0 0,.int .i64 (i:Int),.bool false])
   have HBN:Hid (WN.heap[w.heap.size]?=some (.cells #[.int .i64 0,.string ⟨#[]⟩,.int .i64 0,.bool false,.bool false,.int .i64 0,.string ⟨#[]⟩,.bool false,.slice none 0 0,.int .i64 0,.int .i64 0,.bool false,.slice none 0 0,.slice none 0 0,.bool false,.bool false,.slice none 0 0,.slice none 0 0] 36 (0,0))):=Lib.hid (by rw [hWN];exact (sr_other _ (by omega)).trans HBX3.out)
   have HFN:Hid (WN.heap[w1.heap.size]?=some (.cells #[.int .i64 0,.string ⟨#[]⟩,.int .i64 0,.bool false,.bool false,.int .i64 0,.string ⟨#[]⟩,.bool false,.slice none 0 0,.int .i64 0,.int .i64 0,.bool false,.slice none 0 0,.slice none 0 0,.bool false,.bool false,.slice none 0 0,.slice none 0 0,.int .i64 (i:Int),.bool false] 76 (0,0))):=Lib.hid (by rw [hWN];exact sr_heap HF3.out)
   have HTN:Hid (WN.heap[w2.heap.size]?=some (.cells #[.int .i64 p0,.string ⟨(p1).toArray⟩,.int .i64 p2,.bool p3,.bool p4,.int .i64 p5,.string ⟨(p6).toArray⟩,.bool p7,.slice p8 p9 p10,.int .i64 p11,.int .i64 p12,.bool p13,.slice p14 p15 p16,.slice p17 p18 p19,.bool p20,.bool p21,.slice p22 p23 p24,.slice p25 p26 p27] 36 (0,0))):=Lib.hid (by rw [hWN];exact (sr_other _ (by omega)).trans HT3.out)
   have HXP:Hid (SnV WN S2 [.int .i64 p0,.string ⟨(p1).toArray⟩,.int .i64 p2,.bool p3,.bool p4,.int .i64 p5,.string ⟨(p6).toArray⟩,.bool p7,.slice p8 p9 p10,.int .i64 p11,.int .i64 p12,.bool p13,.slice p14 p15 p16,.slice p17 p18 p19,.bool p20,.bool p21,.slice p22 p23 p24,.slice p25 p26 p27] x):=Lib.hid (by rw [hWN];exact HXV3.out.setRow hn5.1 _)
   clear hm hxv hxv0 hrs2 hT1 hT2 hbA hW3 hb3 hWN hg2 HF4 HBX4 HG4 HWH HLK HMP HENT HKEYS HRS4 HW4
   cases hp:partS r with
   | none =>
    have hok:ok=false:=by have h:=HM.out;rw [hp] at h;exact h.1
    subst hok
    have HP:=Lib.hid hp
    have HXN:=Lib.hid (sn0_v WN S2)
    have hel:i≤s.length:=hi
    have hcl:([.int .i64 0,.string ⟨#[]⟩,.int .i64 0,.bool false,.bool false,.int .i64 0,.string ⟨#[]⟩,.bool false,.slice none 0 0,.int .i64 0,.int .i64 0,.bool false,.slice none 0 0,.slice none 0 0,.bool false,.bool false,.slice none 0 0,.slice none 0 0]:List Value).length=18:=rfl
    clear HM hp HXP
    go_upto_region 10 with (first
     | (refine wpList_stW rfl 36 (.tmp 7) (.tmp 34) rfl (w2.heap.size) (#[.int .i64 p0,.string ⟨(p1).toArray⟩,.int .i64 p2,.bool p3,.bool p4,.int .i64 p5,.string ⟨(p6).toArray⟩,.bool p7,.slice p8 p9 p10,.int .i64 p11,.int .i64 p12,.bool p13,.slice p14 p15 p16,.slice p17 p18 p19,.bool p20,.bool p21,.slice p22 p23 p24,.slice p25 p26 p27]) rfl rfl 36 (#[.int .i64 0,.string ⟨#[]⟩,.int .i64 0,.bool false,.bool false,.int .i64 0,.string ⟨#[]⟩,.bool false,.slice none 0 0,.int .i64 0,.int .i64 0,.bool false,.slice none 0 0,.slice none 0 0,.bool false,.bool false,.slice none 0 0,.slice none 0 0]) (heap_alloc_new w2 _) (snip_size) rfl rfl (HONE.out) (W:=W3) (HW3.out) ?_)
     | (refine wpList_stW rfl 76 (.tmp 5) (.tmp 37) rfl (w1.heap.size) (#[.int .i64 0,.string ⟨#[]⟩,.int .i64 0,.bool false,.bool false,.int .i64 0,.string ⟨#[]⟩,.bool false,.slice none 0 0,.int .i64 0,.int .i64 0,.bool false,.slice none 0 0,.slice none 0 0,.bool false,.bool false,.slice none 0 0,.slice none 0 0,.int .i64 (i:Int),.bool false]) rfl rfl 76 (#[.int .i64 0,.string ⟨#[]⟩,.int .i64 0,.bool false,.bool false,.int .i64 0,.string ⟨#[]⟩,.bool false,.slice none 0 0,.int .i64 0,.int .i64 0,.bool false,.slice none 0 0,.slice none 0 0,.bool false,.bool false,.slice none 0 0,.slice none 0 0,.int .i64 0,.bool false]) (HF3.out) (found_size) rfl rfl (HOI.out) (W:=WN) (HWN.out) ?_))
    have HRD:=Lib.hid (HRN.out.later ((Below.refl _ _).drew))
    have HFD:Hid ((WN).drew.heap[w1.heap.size]?=some (.cells #[.int .i64 0,.string ⟨#[]⟩,.int .i64 0,.bool false,.bool false,.int .i64 0,.string ⟨#[]⟩,.bool false,.slice none 0 0,.int .i64 0,.int .i64 0,.bool false,.slice none 0 0,.slice none 0 0,.bool false,.bool false,.slice none 0 0,.slice none 0 0,.int .i64 (i:Int),.bool false] 76 (0,0))):=HFN
    have HBD:Hid ((WN).drew.heap[w.heap.size]?=some (.cells #[.int .i64 0,.string ⟨#[]⟩,.int .i64 0,.bool false,.bool false,.int .i64 0,.string ⟨#[]⟩,.bool false,.slice none 0 0,.int .i64 0,.int .i64 0,.bool false,.slice none 0 0,.slice none 0 0,.bool false,.bool false,.slice none 0 0,.slice none 0 0] 36 (0,0))):=HBN
    have HXD:=Lib.hid (HXN.out.later ((Below.refl _ _).drew))
    have HGD:=Lib.hid (HGN.out.trans (Gr2.below ((Below.refl _ _).drew)))
    obtain ⟨es2,clock2,hmp2,hent2⟩:=HRD.out.mp
    have hkeys2:∀ x ∈ es2.toList,∃ l,keyOf Try.prog 3 x.key=some l:=fun x hx=>by
     obtain ⟨k,a,b,_⟩:=hent2 x hx
     exact ⟨_,by rw [b];exact int_lit (by omega)⟩
    have q2:=HRD.out.pl.c2
    refine wp_region_still_tail 6 (by kernel_rfl) (by kernel_rfl) ?_
    simp only [List.take_succ_cons,List.take_zero,List.drop_succ_cons,List.drop_zero]
    change wpStill _ _ (WN).drew _ _ _
    still_step
    still_step
    still_step
    still_step
    still_step
    refine still_ld rfl 76 (.tmp 5) rfl w1.heap.size 0 rfl (#[.int .i64 0,.string ⟨#[]⟩,.int .i64 0,.bool false,.bool false,.int .i64 0,.string ⟨#[]⟩,.bool false,.slice none 0 0,.int .i64 0,.int .i64 0,.bool false,.slice none 0 0,.slice none 0 0,.bool false,.bool false,.slice none 0 0,.slice none 0 0,.int .i64 (i:Int),.bool false]).toList _ (range_blk (ds:=[]) (by rw [List.append_nil];exact HFD.out)) found_under rfl (by rw [found_size];rfl) ?_
    refine wpStill_nil ?_
    change wpList _ _ _ _ _ (WN).drew
    refine wpList_mp (WN).drew rfl (.tmp 49) (.tmp 50) (.tmp 51) 55 rfl 3 76 int_key map_under m es2 clock2 rfl hmp2 hkeys2 (.int .i64 (i:Int)) (.agg #[.int .i64 0,.string ⟨#[]⟩,.int .i64 0,.bool false,.bool false,.int .i64 0,.string ⟨#[]⟩,.bool false,.slice none 0 0,.int .i64 0,.int .i64 0,.bool false,.slice none 0 0,.slice none 0 0,.bool false,.bool false,.slice none 0 0,.slice none 0 0,.int .i64 (i:Int),.bool false]) _ rfl rfl (int_lit (by omega)) ?_
    intro es3 clock3 hes3
    obtain ⟨W9,hW9⟩:∃ W9,W9=setBlock (WN).drew m (.map es3 clock3):=⟨_,rfl⟩
    have HRS5:Hid (Rs S2 W9 g m s _):=Lib.hid (by
     rw [hW9]
     refine HRD.out.put fun e he=>?_
     rcases hes3 e he with h | ⟨h1,h2⟩
     ·exact hent2 e h
     ·refine ⟨i,by omega,h1,([.int .i64 0,.string ⟨#[]⟩,.int .i64 0,.bool false,.bool false,.int .i64 0,.string ⟨#[]⟩,.bool false,.slice none 0 0,.int .i64 0,.int .i64 0,.bool false,.slice none 0 0,.slice none 0 0,.bool false,.bool false,.slice none 0 0,.slice none 0 0]:List Value),textS [],i,false,by rw [h2];rfl,HXD.out,hel,?_⟩
      rw [HD.out.2];exact (by rw [HP.out];exact ⟨rfl,rfl⟩))
    have HG5:Hid (Gr2 g m w W9):=Lib.hid (by rw [hW9];exact HGD.out.put _)
    have HF5:Hid (W9.heap[w1.heap.size]?=some (.cells ((([.int .i64 0,.string ⟨#[]⟩,.int .i64 0,.bool false,.bool false,.int .i64 0,.string ⟨#[]⟩,.bool false,.slice none 0 0,.int .i64 0,.int .i64 0,.bool false,.slice none 0 0,.slice none 0 0,.bool false,.bool false,.slice none 0 0,.slice none 0 0]:List Value))++[Value.int .i64 (i:Int),Value.bool false]).toArray 76 (0,0))):=Lib.hid (by rw [hW9];exact (setBlock_other _ (by omega)).trans HFD.out)
    have HBX5:Hid (W9.heap[w.heap.size]?=some (.cells #[.int .i64 0,.string ⟨#[]⟩,.int .i64 0,.bool false,.bool false,.int .i64 0,.string ⟨#[]⟩,.bool false,.slice none 0 0,.int .i64 0,.int .i64 0,.bool false,.slice none 0 0,.slice none 0 0,.bool false,.bool false,.slice none 0 0,.slice none 0 0] 36 (0,0))):=Lib.hid (by rw [hW9];exact (setBlock_other _ (by omega)).trans HBD.out)
    have HXV5:Hid (SnV W9 S2 (([.int .i64 0,.string ⟨#[]⟩,.int .i64 0,.bool false,.bool false,.int .i64 0,.string ⟨#[]⟩,.bool false,.slice none 0 0,.int .i64 0,.int .i64 0,.bool false,.slice none 0 0,.slice none 0 0,.bool false,.bool false,.slice none 0 0,.slice none 0 0]:List Value)) (textS [])):=Lib.hid (by rw [hW9];exact HXD.out.keep ⟨by rw [setBlock_size];exact Nat.le_refl _,fun b hb _=>setBlock_other _ (by rintro rfl;exact HRD.out.nm hb)⟩)
    rw [← hW9]
    have hz9:(WN).heap.size≤W9.heap.size:=by rw [hW9,setBlock_size];exact Nat.le_refl _
    clear hW9 hes3 hent2 hkeys2 hmp2 q2 HRD HFD HBD HXD HGD HRN HFN HBN HXN HGN
    have k18:(W9).cell? ⟨w1.heap.size,18,none⟩=some (.int .i64 (i:Int)):=blk_cell HF5.out 18 (app18 hcl _ _).1
    have pc1:=HRS5.out.pl.c1
    have f1:=HRS5.out.pl.free 1
    go_upto_region 12 with (fail)
    obtain ⟨W6,hW6⟩:∃ W6,W6=(W9).setCell ⟨g,1,none⟩ (.int .i64 (i:Int)):=⟨_,rfl⟩
    have HRS6:Hid (Rs (S2) W6 g m s i):=Lib.hid (by rw [hW6];exact HRS5.out.place (HRS5.out.pl.set hel) (grown_set (grown_refl _ _) 1 _))
    have HG6:Hid (Gr2 g m w W6):=Lib.hid (HG5.out.trans (Gr2.grown (hW6 ▸ grown_set (grown_refl _ _) 1 _)))
    have HF6:Hid (W6.heap[w1.heap.size]?=some (.cells ((([.int .i64 0,.string ⟨#[]⟩,.int .i64 0,.bool false,.bool false,.int .i64 0,.string ⟨#[]⟩,.bool false,.slice none 0 0,.int .i64 0,.int .i64 0,.bool false,.slice none 0 0,.slice none 0 0,.bool false,.bool false,.slice none 0 0,.slice none 0 0]:List Value))++[Value.int .i64 (i:Int),Value.bool false]).toArray 76 (0,0))):=Lib.hid (by rw [hW6];exact (heap_setCell_other _ _ _ _ hb5g).trans HF5.out)
    have HBX6:Hid (W6.heap[w.heap.size]?=some (.cells #[.int .i64 0,.string ⟨#[]⟩,.int .i64 0,.bool false,.bool false,.int .i64 0,.string ⟨#[]⟩,.bool false,.slice none 0 0,.int .i64 0,.int .i64 0,.bool false,.slice none 0 0,.slice none 0 0,.bool false,.bool false,.slice none 0 0,.slice none 0 0] 36 (0,0))):=Lib.hid (by rw [hW6];exact (heap_setCell_other _ _ _ _ (by show w.heap.size≠g;omega)).trans HBX5.out)
    have HXV6:Hid (SnV W6 (S2) (([.int .i64 0,.string ⟨#[]⟩,.int .i64 0,.bool false,.bool false,.int .i64 0,.string ⟨#[]⟩,.bool false,.slice none 0 0,.int .i64 0,.int .i64 0,.bool false,.slice none 0 0,.slice none 0 0,.bool false,.bool false,.slice none 0 0,.slice none 0 0]:List Value)) (textS [])):=Lib.hid (by rw [hW6];exact HXV5.out.keep (Kept.setLow _ (fun b hb=>by rintro rfl;exact HRS5.out.ng hb)))
    rw [← hW6]
    clear hW6 k18 pc1 f1 HRS5 HG5 HF5 HBX5 HXV5
    obtain ⟨FB,hFB⟩:∃ FB:Array Value,FB=((([.int .i64 0,.string ⟨#[]⟩,.int .i64 0,.bool false,.bool false,.int .i64 0,.string ⟨#[]⟩,.bool false,.slice none 0 0,.int .i64 0,.int .i64 0,.bool false,.slice none 0 0,.slice none 0 0,.bool false,.bool false,.slice none 0 0,.slice none 0 0]:List Value))++[Value.int .i64 (i:Int),Value.bool false]).toArray:=⟨_,rfl⟩
    have HFB:=Lib.hid hFB
    have HFC:Hid (FB[19]?=some (.bool false)):=Lib.hid (by rw [hFB];exact (app18 hcl _ _).2)
    have HCC:Hid (∀ u ∈ (([.int .i64 0,.string ⟨#[]⟩,.int .i64 0,.bool false,.bool false,.int .i64 0,.string ⟨#[]⟩,.bool false,.slice none 0 0,.int .i64 0,.int .i64 0,.bool false,.slice none 0 0,.slice none 0 0,.bool false,.bool false,.slice none 0 0,.slice none 0 0]:List Value)).toArray.toList,u.oneCell'=true):=Lib.hid (fun u hu=>HXV6.out.one u (by simpa using hu))
    clear hFB
    refine wp_region_relyA (by kernel_rfl) (by kernel_rfl) (fun A0 W0 L a w'=>∃ V:Nat→Value,a=putsL [58,59,60,61] 0 V A0∧In12 (w1.heap.size) w.heap.size FB (([.int .i64 0,.string ⟨#[]⟩,.int .i64 0,.bool false,.bool false,.int .i64 0,.string ⟨#[]⟩,.bool false,.slice none 0 0,.int .i64 0,.int .i64 0,.bool false,.slice none 0 0,.slice none 0 0,.bool false,.bool false,.slice none 0 0,.slice none 0 0]:List Value)).toArray false W0.drew L V w') ?_ ?_
    ·obtain ⟨V,hV⟩:=putsL_own _ [58,59,60,61]
     exact ⟨V,hV,⟨(by rw [HFB.out];exact HF6.out),(fun _=>rfl),(fun h=>by cases h),(fun h=>by cases h),(fun h=>by cases h),(fun h=>by cases h),(fun h=>by cases h)⟩⟩
    refine ⟨?_,?_,?_,?_,?_,?_⟩
    ·skip
     intro L a w' hL hd hI
     obtain ⟨V,rfl,⟨hf,q0,q1,v0,v1,v2,v3⟩⟩:=hI
     simp [DepsOk,Region.binds] at hd
     simp only [putsL]
     go_wp2
     exact ⟨upd V 0 (.pointer (some ⟨w1.heap.size,0,none⟩)),(by simp [upd]),⟨hf,(fun h=>q0 (by simpa using h)),(fun h=>q1 (by simpa using h)),(fun _=>rfl),(fun h=>v1 (by simpa using h)),(fun h=>v2 (by simpa using h)),(fun h=>v3 (by simpa using h))⟩⟩
    ·skip
     intro L a w' hL hd hI
     obtain ⟨V,rfl,⟨hf,q0,q1,v0,v1,v2,v3⟩⟩:=hI
     simp [DepsOk,Region.binds] at hd
     simp only [putsL]
     have h0:=v0 hd
     refine wpList_ldW rfl 36 (.tmp 58) rfl (w1.heap.size) 0 (Eq.trans (by simp [Act.eval,Act.put]) h0) (([.int .i64 0,.string ⟨#[]⟩,.int .i64 0,.bool false,.bool false,.int .i64 0,.string ⟨#[]⟩,.bool false,.slice none 0 0,.int .i64 0,.int .i64 0,.bool false,.slice none 0 0,.slice none 0 0,.bool false,.bool false,.slice none 0 0,.slice none 0 0]:List Value)) _ (range_blk (by rw [HFB.out] at hf;exact hf)) snip_under rfl (by rw [snip_size,hcl]) ?_
     go_wp2
     exact ⟨upd V 1 (.agg (([.int .i64 0,.string ⟨#[]⟩,.int .i64 0,.bool false,.bool false,.int .i64 0,.string ⟨#[]⟩,.bool false,.slice none 0 0,.int .i64 0,.int .i64 0,.bool false,.slice none 0 0,.slice none 0 0,.bool false,.bool false,.slice none 0 0,.slice none 0 0]:List Value)).toArray),(by simp [upd];exact h0.symm),⟨hf,(fun h=>q0 (by simpa using h)),(fun h=>q1 (by simpa using h)),(fun h=>v0 (by simpa using h)),(fun _=>rfl),(fun h=>v2 (by simpa using h)),(fun h=>v3 (by simpa using h))⟩⟩
    ·skip
     intro L a w' hL hd hI
     obtain ⟨V,rfl,⟨hf,q0,q1,v0,v1,v2,v3⟩⟩:=hI
     simp [DepsOk,Region.binds] at hd
     simp only [putsL]
     go_wp2
     exact ⟨upd V 2 (.pointer (some ⟨w1.heap.size,19,none⟩)),(by simp [upd]),⟨hf,(fun h=>q0 (by simpa using h)),(fun h=>q1 (by simpa using h)),(fun h=>v0 (by simpa using h)),(fun h=>v1 (by simpa using h)),(fun _=>rfl),(fun h=>v3 (by simpa using h))⟩⟩
    ·skip
     intro L a w' hL hd hI
     obtain ⟨V,rfl,⟨hf,q0,q1,v0,v1,v2,v3⟩⟩:=hI
     simp [DepsOk,Region.binds] at hd
     simp only [putsL]
     have h2:=v2 hd
     have k19:=blk_cell hf 19 HFC.out
     go_wp2
     exact ⟨upd V 3 (.bool false),(by simp [upd];exact h2.symm),⟨hf,(fun h=>q0 (by simpa using h)),(fun h=>q1 (by simpa using h)),(fun h=>v0 (by simpa using h)),(fun h=>v1 (by simpa using h)),(fun h=>v2 (by simpa using h)),(fun _=>rfl)⟩⟩
    ·skip
     intro L a w' hL hd hI
     obtain ⟨V,rfl,⟨hf,q0,q1,v0,v1,v2,v3⟩⟩:=hI
     simp [DepsOk,Region.binds] at hd
     simp only [putsL]
     have h1:=v1 hd.1
     have h0:=v0 hd.2.1
     obtain rfl:=q0 hL
     refine wpList_stW rfl 36 (.tmp 2) (.tmp 59) rfl w.heap.size (([.int .i64 0,.string ⟨#[]⟩,.int .i64 0,.bool false,.bool false,.int .i64 0,.string ⟨#[]⟩,.bool false,.slice none 0 0,.int .i64 0,.int .i64 0,.bool false,.slice none 0 0,.slice none 0 0,.bool false,.bool false,.slice none 0 0,.slice none 0 0]:List Value)).toArray (by simp [Act.eval,Act.put]) (Eq.trans (by simp [Act.eval,Act.put]) h1) 36 #[.int .i64 0,.string ⟨#[]⟩,.int .i64 0,.bool false,.bool false,.int .i64 0,.string ⟨#[]⟩,.bool false,.slice none 0 0,.int .i64 0,.int .i64 0,.bool false,.slice none 0 0,.slice none 0 0,.bool false,.bool false,.slice none 0 0,.slice none 0 0] (w:=W6.drew) HBX6.out snip_size (by simp [hcl]) rfl HCC.out rfl ?_
     go_wp2
     exact ⟨V,(by first | rfl | exact ⟨h0.symm,h1.symm,rfl,rfl⟩),⟨(sr_other _ (by omega)).trans hf,(fun h=>by simp at h),(fun _=>rfl),(fun h=>v0 (by simpa using h)),(fun h=>v1 (by simpa using h)),(fun h=>v2 (by simpa using h)),(fun h=>v3 (by simpa using h))⟩⟩
    ·intro L a w' hd hI
     obtain ⟨V,rfl,⟨hf,q0,q1,v0,v1,v2,v3⟩⟩:=hI
     simp [DepsOk,Region.binds] at hd
     simp only [putsL]
     have h3:=v3 (by simp [hd])
     obtain rfl:=q1 (by simp [hd])
     have HB7:=Lib.hid (sr_heap (w:=W6.drew) (cs:=(([.int .i64 0,.string ⟨#[]⟩,.int .i64 0,.bool false,.bool false,.int .i64 0,.string ⟨#[]⟩,.bool false,.slice none 0 0,.int .i64 0,.int .i64 0,.bool false,.slice none 0 0,.slice none 0 0,.bool false,.bool false,.slice none 0 0,.slice none 0 0]:List Value)).toArray) HBX6.out)
     go_wp2
     refine bodyPost_ret (res_box Try.results26 snip_under snip_size HB7.out (by simp [hcl]) rfl (by first | rfl | exact h3)) rfl ?_
     have HR7:=((HRS6.out.later ((Below.refl _ _).drew)).setRow hnb (([.int .i64 0,.string ⟨#[]⟩,.int .i64 0,.bool false,.bool false,.int .i64 0,.string ⟨#[]⟩,.bool false,.slice none 0 0,.int .i64 0,.int .i64 0,.bool false,.slice none 0 0,.slice none 0 0,.bool false,.bool false,.slice none 0 0,.slice none 0 0]:List Value)).toArray)
     rw [HE.out]
     exact ⟨((HG6.out.trans (Gr2.below ((Below.refl _ _).drew))).setRow (Nat.le_refl _) _),S2,i,([.int .i64 0,.string ⟨#[]⟩,.int .i64 0,.bool false,.bool false,.int .i64 0,.string ⟨#[]⟩,.bool false,.slice none 0 0,.int .i64 0,.int .i64 0,.bool false,.slice none 0 0,.slice none 0 0,.bool false,.bool false,.slice none 0 0,.slice none 0 0]:List Value),textS [],false,rfl,HR7,hS1,hS2,(HXV6.out.later ((Below.refl _ _).drew)).setRow hnb.1 _,(by rw [HP.out];exact ⟨rfl,fun _=>rfl⟩)⟩
   | some y =>
    obtain ⟨yx,yr⟩:=y
    obtain ⟨hok,hx,hdj⟩:ok=true∧x=yx∧s.drop j2=yr:=by have h:=HM.out;rw [hp] at h;exact h
    subst hok
    subst hx
    have HP:=Lib.hid hp
    have HDJ:=Lib.hid hdj
    have hel:j2≤s.length:=HRN.out.pl.2.1
    have hcl:([.int .i64 p0,.string ⟨(p1).toArray⟩,.int .i64 p2,.bool p3,.bool p4,.int .i64 p5,.string ⟨(p6).toArray⟩,.bool p7,.slice p8 p9 p10,.int .i64 p11,.int .i64 p12,.bool p13,.slice p14 p15 p16,.slice p17 p18 p19,.bool p20,.bool p21,.slice p22 p23 p24,.slice p25 p26 p27]:List Value).length=18:=rfl
    have HRM0:=Lib.hid (HRN.out.later ((Below.refl _ _).drew))
    have pc2:=HRM0.out.pl.c1
    have HON:Hid (∀ u ∈ (#[.int .i64 p0,.string ⟨(p1).toArray⟩,.int .i64 p2,.bool p3,.bool p4,.int .i64 p5,.string ⟨(p6).toArray⟩,.bool p7,.slice p8 p9 p10,.int .i64 p11,.int .i64 p12,.bool p13,.slice p14 p15 p16,.slice p17 p18 p19,.bool p20,.bool p21,.slice p22 p23 p24,.slice p25 p26 p27,.int .i64 (j2:Int),.bool true]:Array Value).toList,u.oneCell'=true):=Lib.hid (cc_one (cc:=[.int .i64 p0,.string ⟨(p1).toArray⟩,.int .i64 p2,.bool p3,.bool p4,.int .i64 p5,.string ⟨(p6).toArray⟩,.bool p7,.slice p8 p9 p10,.int .i64 p11,.int .i64 p12,.bool p13,.slice p14 p15 p16,.slice p17 p18 p19,.bool p20,.bool p21,.slice p22 p23 p24,.slice p25 p26 p27]) (fun u hu=>HONE.out u hu) (j2:Int) true)
    obtain ⟨WM,hWM⟩:∃ WM,WM=WN.drew.setRow w1.heap.size #[.int .i64 p0,.string ⟨(p1).toArray⟩,.int .i64 p2,.bool p3,.bool p4,.int .i64 p5,.string ⟨(p6).toArray⟩,.bool p7,.slice p8 p9 p10,.int .i64 p11,.int .i64 p12,.bool p13,.slice p14 p15 p16,.slice p17 p18 p19,.bool p20,.bool p21,.slice p22 p23 p24,.slice p25 p26 p27,.int .i64 (j2:Int),.bool true]:=⟨_,rfl⟩
    have HWM:Hid (WN.drew.setRow w1.heap.size #[.int .i64 p0,.string ⟨(p1).toArray⟩,.int .i64 p2,.bool p3,.bool p4,.int .i64 p5,.string ⟨(p6).toArray⟩,.bool p7,.slice p8 p9 p10,.int .i64 p11,.int .i64 p12,.bool p13,.slice p14 p15 p16,.slice p17 p18 p19,.bool p20,.bool p21,.slice p22 p23 p24,.slice p25 p26 p27,.int .i64 (j2:Int),.bool true]=WM):=Lib.hid hWM.symm
    have HFD0:Hid (WN.drew.heap[w1.heap.size]?=some (.cells #[.int .i64 0,.string ⟨#[]⟩,.int .i64 0,.bool false,.bool false,.int .i64 0,.string ⟨#[]⟩,.bool false,.slice none 0 0,.int .i64 0,.int .i64 0,.bool false,.slice none 0 0,.slice none 0 0,.bool false,.bool false,.slice none 0 0,.slice none 0 0,.int .i64 (i:Int),.bool false] 76 (0,0))):=HFN
    have HTD0:Hid (WN.drew.heap[w2.heap.size]?=some (.cells #[.int .i64 p0,.string ⟨(p1).toArray⟩,.int .i64 p2,.bool p3,.bool p4,.int .i64 p5,.string ⟨(p6).toArray⟩,.bool p7,.slice p8 p9 p10,.int .i64 p11,.int .i64 p12,.bool p13,.slice p14 p15 p16,.slice p17 p18 p19,.bool p20,.bool p21,.slice p22 p23 p24,.slice p25 p26 p27] 36 (0,0))):=HTN
    have HRM:Hid (Rs S2 WM g m s j2):=Lib.hid (by rw [hWM];exact HRM0.out.setRow hn5 _)
    have HGM:Hid (Gr2 g m w WM):=Lib.hid (by rw [hWM];exact (HGN.out.trans (Gr2.below ((Below.refl _ _).drew))).setRow (by omega) _)
    have HBM:Hid (WM.heap[w.heap.size]?=some (.cells #[.int .i64 0,.string ⟨#[]⟩,.int .i64 0,.bool false,.bool false,.int .i64 0,.string ⟨#[]⟩,.bool false,.slice none 0 0,.int .i64 0,.int .i64 0,.bool false,.slice none 0 0,.slice none 0 0,.bool false,.bool false,.slice none 0 0,.slice none 0 0] 36 (0,0))):=Lib.hid (by rw [hWM];exact (sr_other _ (by omega)).trans HBN.out)
    have HFM:Hid (WM.heap[w1.heap.size]?=some (.cells #[.int .i64 p0,.string ⟨(p1).toArray⟩,.int .i64 p2,.bool p3,.bool p4,.int .i64 p5,.string ⟨(p6).toArray⟩,.bool p7,.slice p8 p9 p10,.int .i64 p11,.int .i64 p12,.bool p13,.slice p14 p15 p16,.slice p17 p18 p19,.bool p20,.bool p21,.slice p22 p23 p24,.slice p25 p26 p27,.int .i64 (j2:Int),.bool true] 76 (0,0))):=Lib.hid (by rw [hWM];exact sr_heap HFD0.out)
    have HXM:Hid (SnV WM S2 [.int .i64 p0,.string ⟨(p1).toArray⟩,.int .i64 p2,.bool p3,.bool p4,.int .i64 p5,.string ⟨(p6).toArray⟩,.bool p7,.slice p8 p9 p10,.int .i64 p11,.int .i64 p12,.bool p13,.slice p14 p15 p16,.slice p17 p18 p19,.bool p20,.bool p21,.slice p22 p23 p24,.slice p25 p26 p27] x):=Lib.hid (by rw [hWM];exact (HXP.out.later ((Below.refl _ _).drew)).setRow hn5.1 _)
    clear HM hp hdj hWM HRN HGN HBN HFN HXP HTN
    go_upto_region 9 with (first
     | (refine wpList_stW rfl 36 (.tmp 7) (.tmp 34) rfl (w2.heap.size) (#[.int .i64 p0,.string ⟨(p1).toArray⟩,.int .i64 p2,.bool p3,.bool p4,.int .i64 p5,.string ⟨(p6).toArray⟩,.bool p7,.slice p8 p9 p10,.int .i64 p11,.int .i64 p12,.bool p13,.slice p14 p15 p16,.slice p17 p18 p19,.bool p20,.bool p21,.slice p22 p23 p24,.slice p25 p26 p27]) rfl rfl 36 (#[.int .i64 0,.string ⟨#[]⟩,.int .i64 0,.bool false,.bool false,.int .i64 0,.string ⟨#[]⟩,.bool false,.slice none 0 0,.int .i64 0,.int .i64 0,.bool false,.slice none 0 0,.slice none 0 0,.bool false,.bool false,.slice none 0 0,.slice none 0 0]) (heap_alloc_new w2 _) (snip_size) rfl rfl (HONE.out) (W:=W3) (HW3.out) ?_)
     | (refine wpList_stW rfl 76 (.tmp 5) (.tmp 37) rfl (w1.heap.size) (#[.int .i64 0,.string ⟨#[]⟩,.int .i64 0,.bool false,.bool false,.int .i64 0,.string ⟨#[]⟩,.bool false,.slice none 0 0,.int .i64 0,.int .i64 0,.bool false,.slice none 0 0,.slice none 0 0,.bool false,.bool false,.slice none 0 0,.slice none 0 0,.int .i64 (i:Int),.bool false]) rfl rfl 76 (#[.int .i64 0,.string ⟨#[]⟩,.int .i64 0,.bool false,.bool false,.int .i64 0,.string ⟨#[]⟩,.bool false,.slice none 0 0,.int .i64 0,.int .i64 0,.bool false,.slice none 0 0,.slice none 0 0,.bool false,.bool false,.slice none 0 0,.slice none 0 0,.int .i64 0,.bool false]) (HF3.out) (found_size) rfl rfl (HOI.out) (W:=WN) (HWN.out) ?_))
    refine wp_region_still_tail 7 (by kernel_rfl) (by kernel_rfl) ?_
    simp only [List.take_succ_cons,List.take_zero,List.drop_succ_cons,List.drop_zero]
    change wpStill _ _ WN.drew _ _ _
    refine still_ld rfl 36 (.tmp 7) rfl w2.heap.size 0 rfl [.int .i64 p0,.string ⟨(p1).toArray⟩,.int .i64 p2,.bool p3,.bool p4,.int .i64 p5,.string ⟨(p6).toArray⟩,.bool p7,.slice p8 p9 p10,.int .i64 p11,.int .i64 p12,.bool p13,.slice p14 p15 p16,.slice p17 p18 p19,.bool p20,.bool p21,.slice p22 p23 p24,.slice p25 p26 p27] _ (range_blk (ds:=[]) HTD0.out) snip_under rfl (by rw [snip_size];rfl) ?_
    still_step
    still_step
    still_step
    still_step
    still_step
    still_step
    refine wpStill_nil ?_
    change wpList _ _ _ _ _ WN.drew
    go_wp2_with (refine wpList_stW rfl 76 (.tmp 5) (.tmp 45) rfl (w1.heap.size) (#[.int .i64 p0,.string ⟨(p1).toArray⟩,.int .i64 p2,.bool p3,.bool p4,.int .i64 p5,.string ⟨(p6).toArray⟩,.bool p7,.slice p8 p9 p10,.int .i64 p11,.int .i64 p12,.bool p13,.slice p14 p15 p16,.slice p17 p18 p19,.bool p20,.bool p21,.slice p22 p23 p24,.slice p25 p26 p27,.int .i64 (j2:Int),.bool true]) rfl rfl 76 (#[.int .i64 0,.string ⟨#[]⟩,.int .i64 0,.bool false,.bool false,.int .i64 0,.string ⟨#[]⟩,.bool false,.slice none 0 0,.int .i64 0,.int .i64 0,.bool false,.slice none 0 0,.slice none 0 0,.bool false,.bool false,.slice none 0 0,.slice none 0 0,.int .i64 (i:Int),.bool false]) (HFD0.out) (found_size) rfl rfl (HON.out) (W:=WM) (HWM.out) ?_)
    have HRN:=HRM
    have HGN:=HGM
    have HBN:=HBM
    have HFN:=HFM
    have HXN:=HXM
    clear HRM HGM HBM HFM HXM HRM0 pc2
    have HRD:=Lib.hid (HRN.out.later ((Below.refl _ _).drew))
    have HFD:Hid ((WM).drew.heap[w1.heap.size]?=some (.cells #[.int .i64 p0,.string ⟨(p1).toArray⟩,.int .i64 p2,.bool p3,.bool p4,.int .i64 p5,.string ⟨(p6).toArray⟩,.bool p7,.slice p8 p9 p10,.int .i64 p11,.int .i64 p12,.bool p13,.slice p14 p15 p16,.slice p17 p18 p19,.bool p20,.bool p21,.slice p22 p23 p24,.slice p25 p26 p27,.int .i64 (j2:Int),.bool true] 76 (0,0))):=HFN
    have HBD:Hid ((WM).drew.heap[w.heap.size]?=some (.cells #[.int .i64 0,.string ⟨#[]⟩,.int .i64 0,.bool false,.bool false,.int .i64 0,.string ⟨#[]⟩,.bool false,.slice none 0 0,.int .i64 0,.int .i64 0,.bool false,.slice none 0 0,.slice none 0 0,.bool false,.bool false,.slice none 0 0,.slice none 0 0] 36 (0,0))):=HBN
    have HXD:=Lib.hid (HXN.out.later ((Below.refl _ _).drew))
    have HGD:=Lib.hid (HGN.out.trans (Gr2.below ((Below.refl _ _).drew)))
    obtain ⟨es2,clock2,hmp2,hent2⟩:=HRD.out.mp
    have hkeys2:∀ x ∈ es2.toList,∃ l,keyOf Try.prog 3 x.key=some l:=fun x hx=>by
     obtain ⟨k,a,b,_⟩:=hent2 x hx
     exact ⟨_,by rw [b];exact int_lit (by omega)⟩
    have q2:=HRD.out.pl.c2
    refine wp_region_still_tail 6 (by kernel_rfl) (by kernel_rfl) ?_
    simp only [List.take_succ_cons,List.take_zero,List.drop_succ_cons,List.drop_zero]
    change wpStill _ _ (WM).drew _ _ _
    still_step
    still_step
    still_step
    still_step
    still_step
    refine still_ld rfl 76 (.tmp 5) rfl w1.heap.size 0 rfl (#[.int .i64 p0,.string ⟨(p1).toArray⟩,.int .i64 p2,.bool p3,.bool p4,.int .i64 p5,.string ⟨(p6).toArray⟩,.bool p7,.slice p8 p9 p10,.int .i64 p11,.int .i64 p12,.bool p13,.slice p14 p15 p16,.slice p17 p18 p19,.bool p20,.bool p21,.slice p22 p23 p24,.slice p25 p26 p27,.int .i64 (j2:Int),.bool true]).toList _ (range_blk (ds:=[]) (by rw [List.append_nil];exact HFD.out)) found_under rfl (by rw [found_size];rfl) ?_
    refine wpStill_nil ?_
    change wpList _ _ _ _ _ (WM).drew
    refine wpList_mp (WM).drew rfl (.tmp 49) (.tmp 50) (.tmp 51) 55 rfl 3 76 int_key map_under m es2 clock2 rfl hmp2 hkeys2 (.int .i64 (i:Int)) (.agg #[.int .i64 p0,.string ⟨(p1).toArray⟩,.int .i64 p2,.bool p3,.bool p4,.int .i64 p5,.string ⟨(p6).toArray⟩,.bool p7,.slice p8 p9 p10,.int .i64 p11,.int .i64 p12,.bool p13,.slice p14 p15 p16,.slice p17 p18 p19,.bool p20,.bool p21,.slice p22 p23 p24,.slice p25 p26 p27,.int .i64 (j2:Int),.bool true]) _ rfl rfl (int_lit (by omega)) ?_
    intro es3 clock3 hes3
    obtain ⟨W9,hW9⟩:∃ W9,W9=setBlock (WM).drew m (.map es3 clock3):=⟨_,rfl⟩
    have HRS5:Hid (Rs S2 W9 g m s _):=Lib.hid (by
     rw [hW9]
     refine HRD.out.put fun e he=>?_
     rcases hes3 e he with h | ⟨h1,h2⟩
     ·exact hent2 e h
     ·refine ⟨i,by omega,h1,([.int .i64 p0,.string ⟨(p1).toArray⟩,.int .i64 p2,.bool p3,.bool p4,.int .i64 p5,.string ⟨(p6).toArray⟩,.bool p7,.slice p8 p9 p10,.int .i64 p11,.int .i64 p12,.bool p13,.slice p14 p15 p16,.slice p17 p18 p19,.bool p20,.bool p21,.slice p22 p23 p24,.slice p25 p26 p27]:List Value),x,j2,true,by rw [h2];rfl,HXD.out,hel,?_⟩
      rw [HD.out.2];exact (by rw [HP.out];exact ⟨rfl,rfl,HDJ.out⟩))
    have HG5:Hid (Gr2 g m w W9):=Lib.hid (by rw [hW9];exact HGD.out.put _)
    have HF5:Hid (W9.heap[w1.heap.size]?=some (.cells ((([.int .i64 p0,.string ⟨(p1).toArray⟩,.int .i64 p2,.bool p3,.bool p4,.int .i64 p5,.string ⟨(p6).toArray⟩,.bool p7,.slice p8 p9 p10,.int .i64 p11,.int .i64 p12,.bool p13,.slice p14 p15 p16,.slice p17 p18 p19,.bool p20,.bool p21,.slice p22 p23 p24,.slice p25 p26 p27]:List Value))++[Value.int .i64 (j2:Int),Value.bool true]).toArray 76 (0,0))):=Lib.hid (by rw [hW9];exact (setBlock_other _ (by omega)).trans HFD.out)
    have HBX5:Hid (W9.heap[w.heap.size]?=some (.cells #[.int .i64 0,.string ⟨#[]⟩,.int .i64 0,.bool false,.bool false,.int .i64 0,.string ⟨#[]⟩,.bool false,.slice none 0 0,.int .i64 0,.int .i64 0,.bool false,.slice none 0 0,.slice none 0 0,.bool false,.bool false,.slice none 0 0,.slice none 0 0] 36 (0,0))):=Lib.hid (by rw [hW9];exact (setBlock_other _ (by omega)).trans HBD.out)
    have HXV5:Hid (SnV W9 S2 (([.int .i64 p0,.string ⟨(p1).toArray⟩,.int .i64 p2,.bool p3,.bool p4,.int .i64 p5,.string ⟨(p6).toArray⟩,.bool p7,.slice p8 p9 p10,.int .i64 p11,.int .i64 p12,.bool p13,.slice p14 p15 p16,.slice p17 p18 p19,.bool p20,.bool p21,.slice p22 p23 p24,.slice p25 p26 p27]:List Value)) (x)):=Lib.hid (by rw [hW9];exact HXD.out.keep ⟨by rw [setBlock_size];exact Nat.le_refl _,fun b hb _=>setBlock_other _ (by rintro rfl;exact HRD.out.nm hb)⟩)
    rw [← hW9]
    have hz9:(WM).heap.size≤W9.heap.size:=by rw [hW9,setBlock_size];exact Nat.le_refl _
    clear hW9 hes3 hent2 hkeys2 hmp2 q2 HRD HFD HBD HXD HGD HRN HFN HBN HXN HGN
    have k18:(W9).cell? ⟨w1.heap.size,18,none⟩=some (.int .i64 (j2:Int)):=blk_cell HF5.out 18 (app18 hcl _ _).1
    have pc1:=HRS5.out.pl.c1
    have f1:=HRS5.out.pl.free 1
    go_upto_region 12 with (fail)
    obtain ⟨W6,hW6⟩:∃ W6,W6=(W9).setCell ⟨g,1,none⟩ (.int .i64 (j2:Int)):=⟨_,rfl⟩
    have HRS6:Hid (Rs (S2) W6 g m s j2):=Lib.hid (by rw [hW6];exact HRS5.out.place (HRS5.out.pl.set hel) (grown_set (grown_refl _ _) 1 _))
    have HG6:Hid (Gr2 g m w W6):=Lib.hid (HG5.out.trans (Gr2.grown (hW6 ▸ grown_set (grown_refl _ _) 1 _)))
    have HF6:Hid (W6.heap[w1.heap.size]?=some (.cells ((([.int .i64 p0,.string ⟨(p1).toArray⟩,.int .i64 p2,.bool p3,.bool p4,.int .i64 p5,.string ⟨(p6).toArray⟩,.bool p7,.slice p8 p9 p10,.int .i64 p11,.int .i64 p12,.bool p13,.slice p14 p15 p16,.slice p17 p18 p19,.bool p20,.bool p21,.slice p22 p23 p24,.slice p25 p26 p27]:List Value))++[Value.int .i64 (j2:Int),Value.bool true]).toArray 76 (0,0))):=Lib.hid (by rw [hW6];exact (heap_setCell_other _ _ _ _ hb5g).trans HF5.out)
    have HBX6:Hid (W6.heap[w.heap.size]?=some (.cells #[.int .i64 0,.string ⟨#[]⟩,.int .i64 0,.bool false,.bool false,.int .i64 0,.string ⟨#[]⟩,.bool false,.slice none 0 0,.int .i64 0,.int .i64 0,.bool false,.slice none 0 0,.slice none 0 0,.bool false,.bool false,.slice none 0 0,.slice none 0 0] 36 (0,0))):=Lib.hid (by rw [hW6];exact (heap_setCell_other _ _ _ _ (by show w.heap.size≠g;omega)).trans HBX5.out)
    have HXV6:Hid (SnV W6 (S2) (([.int .i64 p0,.string ⟨(p1).toArray⟩,.int .i64 p2,.bool p3,.bool p4,.int .i64 p5,.string ⟨(p6).toArray⟩,.bool p7,.slice p8 p9 p10,.int .i64 p11,.int .i64 p12,.bool p13,.slice p14 p15 p16,.slice p17 p18 p19,.bool p20,.bool p21,.slice p22 p23 p24,.slice p25 p26 p27]:List Value)) (x)):=Lib.hid (by rw [hW6];exact HXV5.out.keep (Kept.setLow _ (fun b hb=>by rintro rfl;exact HRS5.out.ng hb)))
    rw [← hW6]
    clear hW6 k18 pc1 f1 HRS5 HG5 HF5 HBX5 HXV5
    obtain ⟨FB,hFB⟩:∃ FB:Array Value,FB=((([.int .i64 p0,.string ⟨(p1).toArray⟩,.int .i64 p2,.bool p3,.bool p4,.int .i64 p5,.string ⟨(p6).toArray⟩,.bool p7,.slice p8 p9 p10,.int .i64 p11,.int .i64 p12,.bool p13,.slice p14 p15 p16,.slice p17 p18 p19,.bool p20,.bool p21,.slice p22 p23 p24,.slice p25 p26 p27]:List Value))++[Value.int .i64 (j2:Int),Value.bool true]).toArray:=⟨_,rfl⟩
    have HFB:=Lib.hid hFB
    have HFC:Hid (FB[19]?=some (.bool true)):=Lib.hid (by rw [hFB];exact (app18 hcl _ _).2)
    have HCC:Hid (∀ u ∈ (([.int .i64 p0,.string ⟨(p1).toArray⟩,.int .i64 p2,.bool p3,.bool p4,.int .i64 p5,.string ⟨(p6).toArray⟩,.bool p7,.slice p8 p9 p10,.int .i64 p11,.int .i64 p12,.bool p13,.slice p14 p15 p16,.slice p17 p18 p19,.bool p20,.bool p21,.slice p22 p23 p24,.slice p25 p26 p27]:List Value)).toArray.toList,u.oneCell'=true):=Lib.hid (fun u hu=>HXV6.out.one u (by simpa using hu))
    clear hFB
    refine wp_region_relyA (by kernel_rfl) (by kernel_rfl) (fun A0 W0 L a w'=>∃ V:Nat→Value,a=putsL [58,59,60,61] 0 V A0∧In12 (w1.heap.size) w.heap.size FB (([.int .i64 p0,.string ⟨(p1).toArray⟩,.int .i64 p2,.bool p3,.bool p4,.int .i64 p5,.string ⟨(p6).toArray⟩,.bool p7,.slice p8 p9 p10,.int .i64 p11,.int .i64 p12,.bool p13,.slice p14 p15 p16,.slice p17 p18 p19,.bool p20,.bool p21,.slice p22 p23 p24,.slice p25 p26 p27]:List Value)).toArray true W0.drew L V w') ?_ ?_
    ·obtain ⟨V,hV⟩:=putsL_own _ [58,59,60,61]
     exact ⟨V,hV,⟨(by rw [HFB.out];exact HF6.out),(fun _=>rfl),(fun h=>by cases h),(fun h=>by cases h),(fun h=>by cases h),(fun h=>by cases h),(fun h=>by cases h)⟩⟩
    refine ⟨?_,?_,?_,?_,?_,?_⟩
    ·skip
     intro L a w' hL hd hI
     obtain ⟨V,rfl,⟨hf,q0,q1,v0,v1,v2,v3⟩⟩:=hI
     simp [DepsOk,Region.binds] at hd
     simp only [putsL]
     go_wp2
     exact ⟨upd V 0 (.pointer (some ⟨w1.heap.size,0,none⟩)),(by simp [upd]),⟨hf,(fun h=>q0 (by simpa using h)),(fun h=>q1 (by simpa using h)),(fun _=>rfl),(fun h=>v1 (by simpa using h)),(fun h=>v2 (by simpa using h)),(fun h=>v3 (by simpa using h))⟩⟩
    ·skip
     intro L a w' hL hd hI
     obtain ⟨V,rfl,⟨hf,q0,q1,v0,v1,v2,v3⟩⟩:=hI
     simp [DepsOk,Region.binds] at hd
     simp only [putsL]
     have h0:=v0 hd
     refine wpList_ldW rfl 36 (.tmp 58) rfl (w1.heap.size) 0 (Eq.trans (by simp [Act.eval,Act.put]) h0) (([.int .i64 p0,.string ⟨(p1).toArray⟩,.int .i64 p2,.bool p3,.bool p4,.int .i64 p5,.string ⟨(p6).toArray⟩,.bool p7,.slice p8 p9 p10,.int .i64 p11,.int .i64 p12,.bool p13,.slice p14 p15 p16,.slice p17 p18 p19,.bool p20,.bool p21,.slice p22 p23 p24,.slice p25 p26 p27]:List Value)) _ (range_blk (by rw [HFB.out] at hf;exact hf)) snip_under rfl (by rw [snip_size,hcl]) ?_
     go_wp2
     exact ⟨upd V 1 (.agg (([.int .i64 p0,.string ⟨(p1).toArray⟩,.int .i64 p2,.bool p3,.bool p4,.int .i64 p5,.string ⟨(p6).toArray⟩,.bool p7,.slice p8 p9 p10,.int .i64 p11,.int .i64 p12,.bool p13,.slice p14 p15 p16,.slice p17 p18 p19,.bool p20,.bool p21,.slice p22 p23 p24,.slice p25 p26 p27]:List Value)).toArray),(by simp [upd];exact h0.symm),⟨hf,(fun h=>q0 (by simpa using h)),(fun h=>q1 (by simpa using h)),(fun h=>v0 (by simpa using h)),(fun _=>rfl),(fun h=>v2 (by simpa using h)),(fun h=>v3 (by simpa using h))⟩⟩
    ·skip
     intro L a w' hL hd hI
     obtain ⟨V,rfl,⟨hf,q0,q1,v0,v1,v2,v3⟩⟩:=hI
     simp [DepsOk,Region.binds] at hd
     simp only [putsL]
     go_wp2
     exact ⟨upd V 2 (.pointer (some ⟨w1.heap.size,19,none⟩)),(by simp [upd]),⟨hf,(fun h=>q0 (by simpa using h)),(fun h=>q1 (by simpa using h)),(fun h=>v0 (by simpa using h)),(fun h=>v1 (by simpa using h)),(fun _=>rfl),(fun h=>v3 (by simpa using h))⟩⟩
    ·skip
     intro L a w' hL hd hI
     obtain ⟨V,rfl,⟨hf,q0,q1,v0,v1,v2,v3⟩⟩:=hI
     simp [DepsOk,Region.binds] at hd
     simp only [putsL]
     have h2:=v2 hd
     have k19:=blk_cell hf 19 HFC.out
     go_wp2
     exact ⟨upd V 3 (.bool true),(by simp [upd];exact h2.symm),⟨hf,(fun h=>q0 (by simpa using h)),(fun h=>q1 (by simpa using h)),(fun h=>v0 (by simpa using h)),(fun h=>v1 (by simpa using h)),(fun h=>v2 (by simpa using h)),(fun _=>rfl)⟩⟩
    ·skip
     intro L a w' hL hd hI
     obtain ⟨V,rfl,⟨hf,q0,q1,v0,v1,v2,v3⟩⟩:=hI
     simp [DepsOk,Region.binds] at hd
     simp only [putsL]
     have h1:=v1 hd.1
     have h0:=v0 hd.2.1
     obtain rfl:=q0 hL
     refine wpList_stW rfl 36 (.tmp 2) (.tmp 59) rfl w.heap.size (([.int .i64 p0,.string ⟨(p1).toArray⟩,.int .i64 p2,.bool p3,.bool p4,.int .i64 p5,.string ⟨(p6).toArray⟩,.bool p7,.slice p8 p9 p10,.int .i64 p11,.int .i64 p12,.bool p13,.slice p14 p15 p16,.slice p17 p18 p19,.bool p20,.bool p21,.slice p22 p23 p24,.slice p25 p26 p27]:List Value)).toArray (by simp [Act.eval,Act.put]) (Eq.trans (by simp [Act.eval,Act.put]) h1) 36 #[.int .i64 0,.string ⟨#[]⟩,.int .i64 0,.bool false,.bool false,.int .i64 0,.string ⟨#[]⟩,.bool false,.slice none 0 0,.int .i64 0,.int .i64 0,.bool false,.slice none 0 0,.slice none 0 0,.bool false,.bool false,.slice none 0 0,.slice none 0 0] (w:=W6.drew) HBX6.out snip_size (by simp [hcl]) rfl HCC.out rfl ?_
     go_wp2
     exact ⟨V,(by first | rfl | exact ⟨h0.symm,h1.symm,rfl,rfl⟩),⟨(sr_other _ (by omega)).trans hf,(fun h=>by simp at h),(fun _=>rfl),(fun h=>v0 (by simpa using h)),(fun h=>v1 (by simpa using h)),(fun h=>v2 (by simpa using h)),(fun h=>v3 (by simpa using h))⟩⟩
    ·intro L a w' hd hI
     obtain ⟨V,rfl,⟨hf,q0,q1,v0,v1,v2,v3⟩⟩:=hI
     simp [DepsOk,Region.binds] at hd
     simp only [putsL]
     have h3:=v3 (by simp [hd])
     obtain rfl:=q1 (by simp [hd])
     have HB7:=Lib.hid (sr_heap (w:=W6.drew) (cs:=(([.int .i64 p0,.string ⟨(p1).toArray⟩,.int .i64 p2,.bool p3,.bool p4,.int .i64 p5,.string ⟨(p6).toArray⟩,.bool p7,.slice p8 p9 p10,.int .i64 p11,.int .i64 p12,.bool p13,.slice p14 p15 p16,.slice p17 p18 p19,.bool p20,.bool p21,.slice p22 p23 p24,.slice p25 p26 p27]:List Value)).toArray) HBX6.out)
     go_wp2
     refine bodyPost_ret (res_box Try.results26 snip_under snip_size HB7.out (by simp [hcl]) rfl (by first | rfl | exact h3)) rfl ?_
     have HR7:=((HRS6.out.later ((Below.refl _ _).drew)).setRow hnb (([.int .i64 p0,.string ⟨(p1).toArray⟩,.int .i64 p2,.bool p3,.bool p4,.int .i64 p5,.string ⟨(p6).toArray⟩,.bool p7,.slice p8 p9 p10,.int .i64 p11,.int .i64 p12,.bool p13,.slice p14 p15 p16,.slice p17 p18 p19,.bool p20,.bool p21,.slice p22 p23 p24,.slice p25 p26 p27]:List Value)).toArray)
     rw [HE.out]
     exact ⟨((HG6.out.trans (Gr2.below ((Below.refl _ _).drew))).setRow (Nat.le_refl _) _),S2,j2,([.int .i64 p0,.string ⟨(p1).toArray⟩,.int .i64 p2,.bool p3,.bool p4,.int .i64 p5,.string ⟨(p6).toArray⟩,.bool p7,.slice p8 p9 p10,.int .i64 p11,.int .i64 p12,.bool p13,.slice p14 p15 p16,.slice p17 p18 p19,.bool p20,.bool p21,.slice p22 p23 p24,.slice p25 p26 p27]:List Value),x,true,rfl,HR7,hS1,hS2,(HXV6.out.later ((Below.refl _ _).drew)).setRow hnb.1 _,(by rw [HP.out];exact ⟨rfl,rfl,HDJ.out⟩)⟩
  ·obtain ⟨k,hk1,hk2,hf⟩:=hent e0 he0
   have hki:i=k:=by rw [hk2] at hek;injection hek with _ h;omega
   subst hki
   obtain ⟨cc,x,e1,ok,hv,hxv,hel,hm⟩:=hf
   rw [hv] at hlk
   have HLK:=Lib.hid hlk
   have hcl:=hxv.len
   obtain ⟨W5,hW5⟩:∃ W5,W5=w1.alloc (.cells (cc++[Value.int .i64 (e1:Int),Value.bool ok]).toArray 76):=⟨_,rfl⟩
   have HW5:Hid ((w1.alloc (.cells #[.int .i64 0,.string ⟨#[]⟩,.int .i64 0,.bool false,.bool false,.int .i64 0,.string ⟨#[]⟩,.bool false,.slice none 0 0,.int .i64 0,.int .i64 0,.bool false,.slice none 0 0,.slice none 0 0,.bool false,.bool false,.slice none 0 0,.slice none 0 0,.int .i64 0,.bool false] 76)).setRow w1.heap.size (cc++[Value.int .i64 (e1:Int),Value.bool ok]).toArray=W5):=Lib.hid (by rw [hW5];exact World.setRow_alloc_new _ _ _ _)
   have hb5:Below w1.heap.size w1 W5:=by rw [hW5];exact (Below.refl _ _).alloc (Nat.le_refl _) _
   have HF5:Hid (W5.heap[w1.heap.size]?=some (.cells (cc++[Value.int .i64 (e1:Int),Value.bool ok]).toArray 76 (0,0))):=Lib.hid (by rw [hW5];exact heap_alloc_new _ _)
   have HONE:Hid (∀ u ∈ (cc++[Value.int .i64 (e1:Int),Value.bool ok]).toArray.toList,u.oneCell'=true):=Lib.hid (fun u hu=>by
    rw [List.toList_toArray,List.mem_append] at hu
    rcases hu with hu | hu
    ·exact hxv.one u hu
    ·simp at hu;rcases hu with rfl | rfl <;> rfl)
   have hz5:W5.heap.size=w1.heap.size+1:=by rw [hW5];simp
   have HM:=Lib.hid hm
   have HRS5:=Lib.hid (HRS1.out.later hb5)
   have HXV5:=Lib.hid (hxv.later hb5)
   have HBX5:=Lib.hid ((hb5.block _ (heap_lt HBX1.out)).trans HBX1.out)
   have HG5:Hid (Gr2 g m w W5):=Lib.hid (Gr2.below (hbw1.trans (hb5.mono hbw1.size)))
   clear hlk hmp hent hkeys hm hxv hW5 he0 hek hk2 hv hb5 hbw1
   have hb5g:w1.heap.size≠g:=by omega
   have hnb:¬ S w.heap.size∧w.heap.size≠g∧w.heap.size≠m:=⟨fun e=>by have:=HRS.out.lt _ e;omega,by omega,by omega⟩
   have hS1:∀ b,S b→S b:=fun _ h=>h
   have hS2:∀ b,S b→S b∨w.heap.size≤b:=fun _ h=>.inl h
   have HFIN:Hid (match partS r with | some (y,r)=>ok=true∧x=y∧s.drop e1=r | none=>ok=false∧((true:Bool)=true→e1=i)):=Lib.hid (by
    have h:=HM.out
    rw [HD.out.2] at h
    cases hp:partS r with
    | none=>rw [hp] at h;exact ⟨h.1,fun _=>h.2⟩
    | some y=>rw [hp] at h;exact h)
   have k18:(W5).cell? ⟨w1.heap.size,18,none⟩=some (.int .i64 (e1:Int)):=blk_cell HF5.out 18 (app18 hcl _ _).1
   have pc1:=HRS5.out.pl.c1
   have f1:=HRS5.out.pl.free 1
   go_upto_region 12 with (first | (at_lookup;refine wpList_lk rfl 55 (.tmp 24) (.tmp 25) rfl rfl rfl HLK.out ?_) | (refine wpList_stW rfl 76 (.tmp 5) (.tmp 27) rfl (w1.heap.size) ((cc++[Value.int .i64 (e1:Int),Value.bool ok]).toArray) rfl rfl 76 (#[.int .i64 0,.string ⟨#[]⟩,.int .i64 0,.bool false,.bool false,.int .i64 0,.string ⟨#[]⟩,.bool false,.slice none 0 0,.int .i64 0,.int .i64 0,.bool false,.slice none 0 0,.slice none 0 0,.bool false,.bool false,.slice none 0 0,.slice none 0 0,.int .i64 0,.bool false]) (heap_alloc_new w1 _) (found_size) (by simp [hcl]) rfl (HONE.out) (W:=W5) (HW5.out) ?_))
   obtain ⟨W6,hW6⟩:∃ W6,W6=(W5).setCell ⟨g,1,none⟩ (.int .i64 (e1:Int)):=⟨_,rfl⟩
   have HRS6:Hid (Rs (S) W6 g m s e1):=Lib.hid (by rw [hW6];exact HRS5.out.place (HRS5.out.pl.set hel) (grown_set (grown_refl _ _) 1 _))
   have HG6:Hid (Gr2 g m w W6):=Lib.hid (HG5.out.trans (Gr2.grown (hW6 ▸ grown_set (grown_refl _ _) 1 _)))
   have HF6:Hid (W6.heap[w1.heap.size]?=some (.cells ((cc)++[Value.int .i64 (e1:Int),Value.bool ok]).toArray 76 (0,0))):=Lib.hid (by rw [hW6];exact (heap_setCell_other _ _ _ _ hb5g).trans HF5.out)
   have HBX6:Hid (W6.heap[w.heap.size]?=some (.cells #[.int .i64 0,.string ⟨#[]⟩,.int .i64 0,.bool false,.bool false,.int .i64 0,.string ⟨#[]⟩,.bool false,.slice none 0 0,.int .i64 0,.int .i64 0,.bool false,.slice none 0 0,.slice none 0 0,.bool false,.bool false,.slice none 0 0,.slice none 0 0] 36 (0,0))):=Lib.hid (by rw [hW6];exact (heap_setCell_other _ _ _ _ (by show w.heap.size≠g;omega)).trans HBX5.out)
   have HXV6:Hid (SnV W6 (S) (cc) (x)):=Lib.hid (by rw [hW6];exact HXV5.out.keep (Kept.setLow _ (fun b hb=>by rintro rfl;exact HRS5.out.ng hb)))
   rw [← hW6]
   clear hW6 k18 pc1 f1 HRS5 HG5 HF5 HBX5 HXV5
   obtain ⟨FB,hFB⟩:∃ FB:Array Value,FB=((cc)++[Value.int .i64 (e1:Int),Value.bool ok]).toArray:=⟨_,rfl⟩
   have HFB:=Lib.hid hFB
   have HFC:Hid (FB[19]?=some (.bool ok)):=Lib.hid (by rw [hFB];exact (app18 hcl _ _).2)
   have HCC:Hid (∀ u ∈ (cc).toArray.toList,u.oneCell'=true):=Lib.hid (fun u hu=>HXV6.out.one u (by simpa using hu))
   clear hFB
   refine wp_region_relyA (by kernel_rfl) (by kernel_rfl) (fun A0 W0 L a w'=>∃ V:Nat→Value,a=putsL [58,59,60,61] 0 V A0∧In12 (w1.heap.size) w.heap.size FB (cc).toArray ok W0.drew L V w') ?_ ?_
   ·obtain ⟨V,hV⟩:=putsL_own _ [58,59,60,61]
    exact ⟨V,hV,⟨(by rw [HFB.out];exact HF6.out),(fun _=>rfl),(fun h=>by cases h),(fun h=>by cases h),(fun h=>by cases h),(fun h=>by cases h),(fun h=>by cases h)⟩⟩
   refine ⟨?_,?_,?_,?_,?_,?_⟩
   ·skip
    intro L a w' hL hd hI
    obtain ⟨V,rfl,⟨hf,q0,q1,v0,v1,v2,v3⟩⟩:=hI
    simp [DepsOk,Region.binds] at hd
    simp only [putsL]
    go_wp2
    exact ⟨upd V 0 (.pointer (some ⟨w1.heap.size,0,none⟩)),(by simp [upd]),⟨hf,(fun h=>q0 (by simpa using h)),(fun h=>q1 (by simpa using h)),(fun _=>rfl),(fun h=>v1 (by simpa using h)),(fun h=>v2 (by simpa using h)),(fun h=>v3 (by simpa using h))⟩⟩
   ·skip
    intro L a w' hL hd hI
    obtain ⟨V,rfl,⟨hf,q0,q1,v0,v1,v2,v3⟩⟩:=hI
    simp [DepsOk,Region.binds] at hd
    simp only [putsL]
    have h0:=v0 hd
    refine wpList_ldW rfl 36 (.tmp 58) rfl (w1.heap.size) 0 (Eq.trans (by simp [Act.eval,Act.put]) h0) (cc) _ (range_blk (by rw [HFB.out] at hf;exact hf)) snip_under rfl (by rw [snip_size,hcl]) ?_
    go_wp2
    exact ⟨upd V 1 (.agg (cc).toArray),(by simp [upd];exact h0.symm),⟨hf,(fun h=>q0 (by simpa using h)),(fun h=>q1 (by simpa using h)),(fun h=>v0 (by simpa using h)),(fun _=>rfl),(fun h=>v2 (by simpa using h)),(fun h=>v3 (by simpa using h))⟩⟩
   ·skip
    intro L a w' hL hd hI
    obtain ⟨V,rfl,⟨hf,q0,q1,v0,v1,v2,v3⟩⟩:=hI
    simp [DepsOk,Region.binds] at hd
    simp only [putsL]
    go_wp2
    exact ⟨upd V 2 (.pointer (some ⟨w1.heap.size,19,none⟩)),(by simp [upd]),⟨hf,(fun h=>q0 (by simpa using h)),(fun h=>q1 (by simpa using h)),(fun h=>v0 (by simpa using h)),(fun h=>v1 (by simpa using h)),(fun _=>rfl),(fun h=>v3 (by simpa using h))⟩⟩
   ·skip
    intro L a w' hL hd hI
    obtain ⟨V,rfl,⟨hf,q0,q1,v0,v1,v2,v3⟩⟩:=hI
    simp [DepsOk,Region.binds] at hd
    simp only [putsL]
    have h2:=v2 hd
    have k19:=blk_cell hf 19 HFC.out
    go_wp2
    exact ⟨upd V 3 (.bool ok),(by simp [upd];exact h2.symm),⟨hf,(fun h=>q0 (by simpa using h)),(fun h=>q1 (by simpa using h)),(fun h=>v0 (by simpa using h)),(fun h=>v1 (by simpa using h)),(fun h=>v2 (by simpa using h)),(fun _=>rfl)⟩⟩
   ·skip
    intro L a w' hL hd hI
    obtain ⟨V,rfl,⟨hf,q0,q1,v0,v1,v2,v3⟩⟩:=hI
    simp [DepsOk,Region.binds] at hd
    simp only [putsL]
    have h1:=v1 hd.1
    have h0:=v0 hd.2.1
    obtain rfl:=q0 hL
    refine wpList_stW rfl 36 (.tmp 2) (.tmp 59) rfl w.heap.size (cc).toArray (by simp [Act.eval,Act.put]) (Eq.trans (by simp [Act.eval,Act.put]) h1) 36 #[.int .i64 0,.string ⟨#[]⟩,.int .i64 0,.bool false,.bool false,.int .i64 0,.string ⟨#[]⟩,.bool false,.slice none 0 0,.int .i64 0,.int .i64 0,.bool false,.slice none 0 0,.slice none 0 0,.bool false,.bool false,.slice none 0 0,.slice none 0 0] (w:=W6.drew) HBX6.out snip_size (by simp [hcl]) rfl HCC.out rfl ?_
    go_wp2
    exact ⟨V,(by first | rfl | exact ⟨h0.symm,h1.symm,rfl,rfl⟩),⟨(sr_other _ (by omega)).trans hf,(fun h=>by simp at h),(fun _=>rfl),(fun h=>v0 (by simpa using h)),(fun h=>v1 (by simpa using h)),(fun h=>v2 (by simpa using h)),(fun h=>v3 (by simpa using h))⟩⟩
   ·intro L a w' hd hI
    obtain ⟨V,rfl,⟨hf,q0,q1,v0,v1,v2,v3⟩⟩:=hI
    simp [DepsOk,Region.binds] at hd
    simp only [putsL]
    have h3:=v3 (by simp [hd])
    obtain rfl:=q1 (by simp [hd])
    have HB7:=Lib.hid (sr_heap (w:=W6.drew) (cs:=(cc).toArray) HBX6.out)
    go_wp2
    refine bodyPost_ret (res_box Try.results26 snip_under snip_size HB7.out (by simp [hcl]) rfl (by first | rfl | exact h3)) rfl ?_
    have HR7:=((HRS6.out.later ((Below.refl _ _).drew)).setRow hnb (cc).toArray)
    rw [HE.out]
    exact ⟨((HG6.out.trans (Gr2.below ((Below.refl _ _).drew))).setRow (Nat.le_refl _) _),S,e1,cc,x,ok,rfl,HR7,hS1,hS2,(HXV6.out.later ((Below.refl _ _).drew)).setRow hnb.1 _,(by have h:=HFIN.out;simpa using h)⟩
 ·have HSEE:Hid (Calls Try.prog 25 #[.pointer (some ⟨g,0,none⟩),.string ⟨([36]).toArray⟩] (w.alloc (.cells #[.int .i64 0,.string ⟨#[]⟩,.int .i64 0,.bool false,.bool false,.int .i64 0,.string ⟨#[]⟩,.bool false,.slice none 0 0,.int .i64 0,.int .i64 0,.bool false,.slice none 0 0,.slice none 0 0,.bool false,.bool false,.slice none 0 0,.slice none 0 0] 36)) fun e w'=>e=.returned (.bool false)∧Below (w.alloc (.cells #[.int .i64 0,.string ⟨#[]⟩,.int .i64 0,.bool false,.bool false,.int .i64 0,.string ⟨#[]⟩,.bool false,.slice none 0 0,.int .i64 0,.int .i64 0,.bool false,.slice none 0 0,.slice none 0 0,.bool false,.bool false,.slice none 0 0,.slice none 0 0] 36)).heap.size (w.alloc (.cells #[.int .i64 0,.string ⟨#[]⟩,.int .i64 0,.bool false,.bool false,.int .i64 0,.string ⟨#[]⟩,.bool false,.slice none 0 0,.int .i64 0,.int .i64 0,.bool false,.slice none 0 0,.slice none 0 0,.bool false,.bool false,.slice none 0 0,.slice none 0 0] 36)) w'):=Lib.hid ((see_s (p:=[36]) _ HRS0.out.pl (by simp)).mono fun _ _ ⟨h1,h2⟩=>⟨by rw [h1,hd,pre1];simp [h36],h2⟩)
  have HE:Hid (dolM partS c r=none):=Lib.hid (by unfold dolM;rw [if_neg h36])
  clear h HW hbx hd h36
  go_enter Try.func26,Try.ntmps26
  go_wp2_with (go_at_call 25;refine HSEE.out.mono ?_)
  rintro e w1 ⟨rfl,hb1⟩
  have hz1:=hb1.size
  simp only [World.size_alloc] at hz1
  have hbw1:Below w.heap.size w w1:=hb0.trans (hb1.mono (by simp))
  have hbx1:=(hb1.block _ (heap_lt HBX.out)).trans HBX.out
  have HRS1:=Lib.hid (HRS0.out.later hb1)
  have HB1:=Lib.hid hbx1
  have HB2:=Lib.hid (sr_heap (cs:=#[.int .i64 0,.string ⟨#[]⟩,.int .i64 0,.bool false,.bool false,.int .i64 0,.string ⟨#[]⟩,.bool false,.slice none 0 0,.int .i64 0,.int .i64 0,.bool false,.slice none 0 0,.slice none 0 0,.bool false,.bool false,.slice none 0 0,.slice none 0 0]) hbx1)
  have HO2:=Lib.hid (fun k (hk:k≠w.heap.size)=>sr_other (w:=w1) #[.int .i64 0,.string ⟨#[]⟩,.int .i64 0,.bool false,.bool false,.int .i64 0,.string ⟨#[]⟩,.bool false,.slice none 0 0,.int .i64 0,.int .i64 0,.bool false,.slice none 0 0,.slice none 0 0,.bool false,.bool false,.slice none 0 0,.slice none 0 0] hk)
  clear hb1 hbx1 HSEE
  go_wp2_with (refine wpList_store_row rfl 36 (.tmp 2) (.tmp 14) rfl (w.heap.size) _ rfl rfl 36 _ (HB1.out) snip_size rfl ((all_one (sn0_v w S).one)) ?_)
  refine bodyPost_ret (res_box Try.results26 snip_under snip_size HB2.out rfl rfl rfl) rfl ?_
  have hnb:¬ S w.heap.size∧w.heap.size≠g∧w.heap.size≠m:=⟨fun e=>by have:=HRS.out.lt _ e;omega,by omega,by omega⟩
  rw [HE.out]
  exact ⟨(Gr2.below hbw1).setRow (Nat.le_refl _) _,S,i,_,_,false,rfl,HRS1.out.setRow hnb _,fun _ h=>h,fun _ h=>.inl h,sn0_v _ S,rfl,fun _=>rfl⟩
end Go.Proofs.Ytbgcjpefocdkkaa
