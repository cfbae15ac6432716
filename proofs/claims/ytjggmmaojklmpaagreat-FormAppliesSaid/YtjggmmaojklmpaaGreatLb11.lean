/- walks of rxread: quantified -/
import Derived.Test.YtjggmmaojklmpaaGreatLb10
set_option maxRecDepth 100000
set_option maxHeartbeats 4000000
namespace Go.Proofs.YtjggmmaojklmpaaGreat
open Go.RowKit
def rxv0:Value:=.agg #[.int .i64 0,.string ⟨#[]⟩,.bool false,.slice none 0 0,.int .i64 0,.int .i64 0,.bool false,.slice none 0 0]
def RdE (w:World) (g d:Nat):Prop:=∃r,Rd w g r d
def nI (g d B:Nat) (w:World) (res:Res) (e:Ending) (w':World):Prop:=w.grownBy w' (some g)∧match res with
 | .error q=>e=.returned (.tuple #[rxv0,.int .i64 q])∧RdE w' g d
 | .ok (x,r)=>∃cc:List Value,e=.returned (.tuple #[.agg cc.toArray,.int .i64 0])∧RxV w' (fun b=>B≤b) cc x∧Rd w' g r d
theorem Kept.grown {S:Nat→Prop} {g:Nat} {w w':World} (h:w.grownBy w' (some g)) (hS:∀b,S b→b≠g):Kept S w w' :=
 ⟨h.size,fun b hb hlt=>h.block b hlt (by first|exact hS b hb|exact fun e=>hS b hb (by injection e)|exact fun e=>hS b hb (by injection e with e;exact e.symm))⟩
theorem jQ {w0 w1:World} {g b:Nat} {o:Obj} (h:w0.heap[b]?=some o) (hg:w0.grownBy w1 (some g)) (hne:b≠g):w1.heap[b]?=some o :=
 (hg.block b (jO h) (by first|exact hne|exact fun e=>hne (by injection e)|exact fun e=>hne (by injection e with e;exact e.symm))).trans h
theorem RdT.setHi {T:TypeId} {x:List Value} {w:World} {g:Nat} {r:List Str} (h:RdT T x w g r) {a:Addr} (ha:g<a.block) (u:Value):RdT T x (w.setCell a u) g r:=by
 obtain⟨A,c,l,i,h1,h2,h3⟩:=h;exact⟨A,c,l,i,(heap_setCell_other w a g u (Nat.ne_of_lt ha)).trans h1,h2.keep (Kept.setLow u fun b hb=>by omega),h3⟩
theorem RdT.grownHi {T:TypeId} {x:List Value} {w w':World} {g:Nat} {r:List Str} (h:RdT T x w g r) {row:Option Nat} (hg:w.grownBy w' row) (hr:∀k,row=some k→g<k):RdT T x w' g r:=by
 have hb:∀b,b≤g→b<w.heap.size→w'.heap[b]?=w.heap[b]?:=fun b hb hlt=>hg.block b hlt (by
  first
  | (intro e;have:=hr b e;omega)
  | (intro e;have:=hr b e.symm;omega))
 obtain⟨A,c,l,i,h1,h2,h3⟩:=h;exact⟨A,c,l,i,(hb g (Cp _) (jO h1)).trans h1,h2.keep ⟨hg.size,fun b h hlt=>hb b (Nat.le_of_lt h) hlt⟩,h3⟩
theorem jN {w w':World} (hb:Below w.heap.size w w') (row:Option Nat):w.grownBy w' row:=⟨hb.os,hb.tape,hb.output,hb.size,fun k hk _=>hb.block k hk⟩
theorem RdE.setHi {w:World} {g d:Nat} (h:RdE w g d) {a:Addr} (ha:g<a.block) (u:Value):RdE (w.setCell a u) g d:=by
 obtain⟨r,h⟩:=h;exact⟨r,h.setHi ha u⟩
theorem alloc4 (w:World) (a b c d:Array Value) (t:TypeId) {w0:World} (h:w0=(((w.alloc (.cells a t)).alloc (.cells b t)).alloc (.cells c t)).alloc (.cells d t)) :
  Below w.heap.size w w0∧w0.heap.size=w.heap.size+4∧w0.heap[w.heap.size]?=some (.cells a t (0,0))∧w0.heap[w.heap.size+1]?=some (.cells b t (0,0))∧w0.heap[w.heap.size+2]?=some (.cells c t (0,0))∧w0.heap[w.heap.size+3]?=some (.cells d t (0,0)):=by
 subst h;refine⟨((((Below.refl _ _).alloc (Cp _) _).alloc gF _).alloc gC _).alloc gC _,by simp,?_,?_,?_,?_⟩
 ·rw [Below.heap_alloc _ _ _ gC,Below.heap_alloc _ _ _ gC,Below.heap_alloc _ _ _ gF];exact heap_alloc_new w _
 ·rw [Below.heap_alloc _ _ _ gC,Below.heap_alloc _ _ _ gF]
  have:=heap_alloc_new (w.alloc (.cells a t)) (.cells b t);simpa using this
 ·rw [Below.heap_alloc _ _ _ gF]
  have:=heap_alloc_new ((w.alloc (.cells a t)).alloc (.cells b t)) (.cells c t);simpa using this
 ·have:=heap_alloc_new (((w.alloc (.cells a t)).alloc (.cells b t)).alloc (.cells c t)) (.cells d t);simpa using this
theorem RxSl.one {w:World} {S:Nat→Prop} {b:Nat} {cc:List Value} {x:Rx} {t:TypeId} (h:RxV w S cc x) (hb:w.heap[b]?=some (.cells cc.toArray t (0,0))) (hS:S b):RxSl w S (some ⟨b,0,none⟩) 1 [x]:=by
 refine⟨[cc],⟨by simp [h.len],fun _=>⟨b,0,rfl,hS,jO hb,fun j u hu=>?_⟩⟩,.cons h .nil⟩;rw [Cv hb];simpa using hu
def boxO (k:Int) (c:Str) (ng:Bool) (ra:Option Addr) (rn rc:Nat) (lo hi:Int) (lz:Bool) (ka:Option Addr) (kn kc:Nat):Obj:=.cells (rxc k c ng ra rn rc lo hi lz ka kn kc).toArray 25 (0,0)
theorem jW {w w':World} {row:Option Nat} {a:Addr} (h:w.grownBy w' row) (ha:w.heap.size≤a.block) (u:Value):w.grownBy (w'.setCell a u) row :=
 ⟨h.os,h.tape,h.output,by simp [World.setCell];exact h.size,fun k hk hne=>(heap_setCell_other w' a k u gu).trans (h.block k hk hne)⟩
theorem qV {w:World} {b:Nat} {a0 a1 a2 a3 a4 a5 a6 a7:Value} {t:TypeId} (h:w.heap[b]?=some (.cells #[a0,a1,a2,a3,a4,a5,a6,a7] t (0,0))) (u:Value):(w.setCell ⟨b,5,none⟩ u).heap[b]?=some (.cells #[a0,a1,a2,a3,a4,u,a6,a7] t (0,0)):=by
 rw [heap_setCell_same w _ _ _ _ _ h];rfl
theorem xT {w:World} {b:Nat} {a0 a1 a2 a3 a4 a5 a6 a7:Value} {t:TypeId} (h:w.heap[b]?=some (.cells #[a0,a1,a2,a3,a4,a5,a6,a7] t (0,0))) (u:Value):(w.setCell ⟨b,4,none⟩ u).heap[b]?=some (.cells #[a0,a1,a2,a3,u,a5,a6,a7] t (0,0)):=by
 rw [heap_setCell_same w _ _ _ _ _ h];rfl
theorem kg {w:World} {b:Nat} {o:Obj} (h:w.heap[b]?=some o) {a:Addr} (ha:a.block≠b) (u:Value):(w.setCell a u).heap[b]?=some o:=(heap_setCell_other w a b u (fun e=>ha e.symm)).trans h
theorem sq {g d B:Nat} {r:List Str} {cc:List Value} {x:Rx} (w:World) (h:Rd w g r d) (hx:RxV w (fun b=>B≤b) cc x) (hB:B≤w.heap.size) (hgB:g<B) :
  Calls Tryz.prog 114 #[.pointer (some ⟨g,0,none⟩),.agg cc.toArray] w fun e w'=>nI g d B w (me x r) e w':=by
 obtain⟨R,hR⟩:∃R,me x r=R:=⟨_,rfl⟩;rw [hR];obtain⟨k,c,ng,rs,lo,hi,lz,ks⟩:=x;obtain⟨ra,rc,ka,kc,rfl,hrs,hks⟩:=hx.open_;obtain⟨w0,hw0⟩:∃w0,w0=(((w.alloc (.cells (rxc k c ng ra rs.length rc lo hi lz ka ks.length kc).toArray 25)).alloc (.cells #[.int .i64 0,.string ⟨#[]⟩,.bool false,.slice none 0 0,.int .i64 0,.int .i64 0,.bool false,.slice none 0 0] 25)).alloc (.cells (rxc k c ng ra rs.length rc lo hi lz ka ks.length kc).toArray 25)).alloc (.cells #[.int .i64 7,.string ⟨#[]⟩,.bool false,.slice none 0 0,.int .i64 0,.int .i64 0,.bool false,.slice (some ⟨w.heap.size+1+1,0,none⟩) 1 1] 25):=⟨_,rfl⟩;obtain⟨hb0,hz0,hbx0,hby0,hbs0,hbr0⟩:=alloc4 w _ _ _ _ _ hw0;have hxs:RxV w0 (fun b=>B≤b∧b≠w.heap.size+1∧b≠w.heap.size+3) (rxc k c ng ra rs.length rc lo hi lz ka ks.length kc) (.mk k c ng rs lo hi lz ks) :=
  (hx.mono (S':=fun b=>B≤b∧b≠w.heap.size+1∧b≠w.heap.size+3) fun b hb hlt=>⟨hb,by omega,by omega⟩).later hb0
 have HXS:=ab hxs;have HKS:=ab (RxSl.one hxs hbs0 ⟨by omega,by omega,by omega⟩);have HRD:=ab (h.later hb0);unfold rxc at hw0 hbx0;rw [hw0] at HRD;have HW0:=ab hw0;have HBX0:=ab hbx0;have HBY0:=ab hby0;have HBR0:=ab hbr0;have hgg:w.grownBy w0 (some g):=jN hb0 _;clear hw0 hbx0 hby0 hbs0 hbr0 hxs hx hrs hks h;have hgr:g<w.heap.size:=gu;unfold rxc;cases r with
 | nil =>
  have HR:=ab hR;clear hR;go_enter Tryz.func114,Tryz.ntmps114
  go_wp2_with (go_at_call 46;refine(kH _ HRD.out).mono ?_)
  rintro e w1 ⟨rfl,hst⟩;rw [←HW0.out] at hst;have hgw1:=jM hgg (hst.grown (some g));have hbl1:=hst.below w0.heap.size;have hby1:=(hbl1.block _ (jO HBY0.out)).trans HBY0.out;have hbr1:=(hbl1.block _ (jO HBR0.out)).trans HBR0.out;have hrd1:=hst.rd (HW0.out▸HRD.out:Rd w0 g _ d);have HKS1:=ab (HKS.out.later hbl1);clear hst;try rw [kO]
  have hbx1:=(hbl1.block _ (jO HBX0.out)).trans HBX0.out;obtain⟨f0,f1,f2,f3,f4,f5,f6,f7,f8⟩:=jR (c:=[]) hby1;obtain⟨e0,e1,e2,e3,e4,e5,e6,e7,e8⟩:=jR hbx1;have HRD1:=ab hrd1;clear hby1 hbr1 hbx1 hrd1;unfold hdS;exact bh
 | cons p r1 =>
  by_cases h42:p=[42]
  ·subst h42
   have HR:Hid (Except.ok (qN (.mk k c ng rs lo hi lz ks) 0 (-1) r1)=R):=ab hR;clear hR;go_enter Tryz.func114,Tryz.ntmps114
   go_wp2_with (go_at_call 46;refine(kH _ HRD.out).mono ?_)
   rintro e w1 ⟨rfl,hst⟩;rw [←HW0.out] at hst;have hgw1:=jM hgg (hst.grown (some g));have hbl1:=hst.below w0.heap.size;have hby1:=(hbl1.block _ (jO HBY0.out)).trans HBY0.out;have hbr1:=(hbl1.block _ (jO HBR0.out)).trans HBR0.out;have hrd1:=hst.rd (HW0.out▸HRD.out:Rd w0 g _ d);have HKS1:=ab (HKS.out.later hbl1);clear hst;try rw [kO]
   obtain⟨i,hi9,c1,hf,hr2⟩:=hrd1.step;obtain⟨e0,e1,e2,e3,e4,e5,e6,e7,e8⟩:=jR (c:=[]) hbr1;have e85:=e8 5 gu;clear e8;have HRD2:=ab (RdT.setHi (hr2) gz _:Rd ((w1.setCell ⟨g,1,none⟩ (.int .i64 ((i:Int)+1))).setCell ⟨w.heap.size+3,5,none⟩ (.int .i64 (-1))) g r1 d);have hgw2:w.grownBy ((w1.setCell ⟨g,1,none⟩ (.int .i64 ((i:Int)+1))).setCell ⟨w.heap.size+3,5,none⟩ (.int .i64 (-1))) (some g):=jW (j9 hgw1 _ _) gz _;have hby2:((w1.setCell ⟨g,1,none⟩ (.int .i64 ((i:Int)+1))).setCell ⟨w.heap.size+3,5,none⟩ (.int .i64 (-1))).heap[w.heap.size+1]?=some (boxO 0 [] false none 0 0 0 0 false none 0 0):=kg (kg hby1 gz _) gz _;have hbr2:((w1.setCell ⟨g,1,none⟩ (.int .i64 ((i:Int)+1))).setCell ⟨w.heap.size+3,5,none⟩ (.int .i64 (-1))).heap[w.heap.size+3]?=some (boxO 7 [] false none 0 0 0 (-1) false (some ⟨w.heap.size+1+1,0,none⟩) 1 1):=qV (kg hbr1 gz _) _;have hks2:RxSl ((w1.setCell ⟨g,1,none⟩ (.int .i64 ((i:Int)+1))).setCell ⟨w.heap.size+3,5,none⟩ (.int .i64 (-1))) (fun b=>B≤b∧b≠w.heap.size+1∧b≠w.heap.size+3) (some ⟨w.heap.size+2,0,none⟩) 1 [.mk k c ng rs lo hi lz ks]:=(HKS1.out.keep (Kept.setLow _ (fun b hb=>by have:B≤b∧b≠w.heap.size+1∧b≠w.heap.size+3:=hb;first|omega|(simp;done)|(simp;omega)))).keep (Kept.setLow _ (fun b hb=>by have:B≤b∧b≠w.heap.size+1∧b≠w.heap.size+3:=hb;first|omega|(simp;done)|(simp;omega)));have HKS2:=ab hks2;have HBY2:=ab hby2;have HBR2:=ab hbr2;clear hby2 hbr2 hks2;cases ht:kG [63] r1 with
   | none =>
    have HT:=ab ht;have HRR:Hid (.ok (repR 0 (-1) false (.mk k c ng rs lo hi lz ks),r1)=R):=ab ic;clear ht;go_wp2_with (go_at_call 143;refine(kj _ HRD2.out HT.out gF).mono ?_)
    rintro e w3 ⟨rfl,hrd3,hq3⟩;have hgw3:=jM hgw2 hq3;have hby3:=jQ HBY2.out hq3 gu;have hbr3:=jQ HBR2.out hq3 gu;have hks3:=HKS2.out.keep (Kept.grown hq3 fun b hb=>by have:B≤b∧b≠w.heap.size+1∧b≠w.heap.size+3:=hb;omega);have HKS3:=ab hks3;have HRD3:=ab hrd3;have HR:=HRR;obtain⟨f0,f1,f2,f3,f4,f5,f6,f7,f8⟩:=jR (c:=[]) hby3;obtain⟨e0,e1,e2,e3,e4,e5,e6,e7,e8⟩:=jR (c:=[]) hbr3;clear hby3 hbr3 hks3 hrd3 hq3;go_wp2
    refine CJ (v:=.tuple #[.agg #[.int .i64 7,.string ⟨[].toArray⟩,.bool false,.slice none ([]:List Row).length 0,.int .i64 0,.int .i64 (-1),.bool false,.slice (some ⟨w.heap.size+1+1,0,none⟩) [Rx.mk k c ng rs lo hi lz ks].length 1],.int .i64 0]) gL rfl ?_;refine⟨?_,?_⟩
    ·exact bG
    rw [←HR.out];refine⟨rxc 7 [] false none ([]:List Row).length 0 0 (-1) false (some ⟨w.heap.size+1+1,0,none⟩) [Rx.mk k c ng rs lo hi lz ks].length 1,rfl,RxV.mono (S:=fun b=>B≤b∧b≠w.heap.size+1∧b≠w.heap.size+3) (fun b hb _=>hb.1) ?_,?_⟩
    ·exact aX
    ·exact bF
   | some r9 =>
    have HT:=ab ht;have HRR:Hid (.ok (repR 0 (-1) true (.mk k c ng rs lo hi lz ks),r9)=R):=ab ic;clear ht;go_wp2_with (go_at_call 143;refine(kI _ HRD2.out HT.out).mono ?_)
    rintro e w3 ⟨rfl,hrd3,hq3⟩;have hgw3:=jM hgw2 hq3;have hby3:=jQ HBY2.out hq3 gu;have hbr3:=jQ HBR2.out hq3 gu;have hks3:=HKS2.out.keep (Kept.grown hq3 fun b hb=>by have:B≤b∧b≠w.heap.size+1∧b≠w.heap.size+3:=hb;omega);have HKS3:=ab hks3;have HRD3:=ab hrd3;have HR:=HRR;obtain⟨f0,f1,f2,f3,f4,f5,f6,f7,f8⟩:=jR (c:=[]) hby3;obtain⟨e0,e1,e2,e3,e4,e5,e6,e7,e8⟩:=jR (c:=[]) hbr3;clear hby3 hbr3 hks3 hrd3 hq3;go_wp2
    refine CJ (v:=.tuple #[.agg #[.int .i64 7,.string ⟨[].toArray⟩,.bool false,.slice none ([]:List Row).length 0,.int .i64 0,.int .i64 (-1),.bool true,.slice (some ⟨w.heap.size+1+1,0,none⟩) [Rx.mk k c ng rs lo hi lz ks].length 1],.int .i64 0]) gL rfl ?_;refine⟨?_,?_⟩
    ·exact bG
    rw [←HR.out];refine⟨rxc 7 [] false none ([]:List Row).length 0 0 (-1) true (some ⟨w.heap.size+1+1,0,none⟩) [Rx.mk k c ng rs lo hi lz ks].length 1,rfl,RxV.mono (S:=fun b=>B≤b∧b≠w.heap.size+1∧b≠w.heap.size+3) (fun b hb _=>hb.1) ?_,?_⟩
    ·exact aX
    ·exact bF
  by_cases h43:p=[43]
  ·subst h43
   have HR:Hid (Except.ok (qN (.mk k c ng rs lo hi lz ks) 1 (-1) r1)=R):=ab hR;clear hR;go_enter Tryz.func114,Tryz.ntmps114
   go_wp2_with (go_at_call 46;refine(kH _ HRD.out).mono ?_)
   rintro e w1 ⟨rfl,hst⟩;rw [←HW0.out] at hst;have hgw1:=jM hgg (hst.grown (some g));have hbl1:=hst.below w0.heap.size;have hby1:=(hbl1.block _ (jO HBY0.out)).trans HBY0.out;have hbr1:=(hbl1.block _ (jO HBR0.out)).trans HBR0.out;have hrd1:=hst.rd (HW0.out▸HRD.out:Rd w0 g _ d);have HKS1:=ab (HKS.out.later hbl1);clear hst;try rw [kO]
   obtain⟨i,hi9,c1,hf,hr2⟩:=hrd1.step;obtain⟨e0,e1,e2,e3,e4,e5,e6,e7,e8⟩:=jR (c:=[]) hbr1;have e84:=e8 4 gu;have e85:=e8 5 gu;clear e8;have HRD2:=ab (RdT.setHi (RdT.setHi (hr2) gz _) gz _:Rd (((w1.setCell ⟨g,1,none⟩ (.int .i64 ((i:Int)+1))).setCell ⟨w.heap.size+3,4,none⟩ (.int .i64 1)).setCell ⟨w.heap.size+3,5,none⟩ (.int .i64 (-1))) g r1 d);have hgw2:w.grownBy (((w1.setCell ⟨g,1,none⟩ (.int .i64 ((i:Int)+1))).setCell ⟨w.heap.size+3,4,none⟩ (.int .i64 1)).setCell ⟨w.heap.size+3,5,none⟩ (.int .i64 (-1))) (some g):=jW (jW (j9 hgw1 _ _) gz _) gz _;have hby2:(((w1.setCell ⟨g,1,none⟩ (.int .i64 ((i:Int)+1))).setCell ⟨w.heap.size+3,4,none⟩ (.int .i64 1)).setCell ⟨w.heap.size+3,5,none⟩ (.int .i64 (-1))).heap[w.heap.size+1]?=some (boxO 0 [] false none 0 0 0 0 false none 0 0):=kg (kg (kg hby1 gz _) gz _) gz _;have hbr2:(((w1.setCell ⟨g,1,none⟩ (.int .i64 ((i:Int)+1))).setCell ⟨w.heap.size+3,4,none⟩ (.int .i64 1)).setCell ⟨w.heap.size+3,5,none⟩ (.int .i64 (-1))).heap[w.heap.size+3]?=some (boxO 7 [] false none 0 0 1 (-1) false (some ⟨w.heap.size+1+1,0,none⟩) 1 1):=qV (xT (kg hbr1 gz _) _) _;have hks2:RxSl (((w1.setCell ⟨g,1,none⟩ (.int .i64 ((i:Int)+1))).setCell ⟨w.heap.size+3,4,none⟩ (.int .i64 1)).setCell ⟨w.heap.size+3,5,none⟩ (.int .i64 (-1))) (fun b=>B≤b∧b≠w.heap.size+1∧b≠w.heap.size+3) (some ⟨w.heap.size+2,0,none⟩) 1 [.mk k c ng rs lo hi lz ks]:=((HKS1.out.keep (Kept.setLow _ (fun b hb=>by have:B≤b∧b≠w.heap.size+1∧b≠w.heap.size+3:=hb;first|omega|(simp;done)|(simp;omega)))).keep (Kept.setLow _ (fun b hb=>by have:B≤b∧b≠w.heap.size+1∧b≠w.heap.size+3:=hb;first|omega|(simp;done)|(simp;omega)))).keep (Kept.setLow _ (fun b hb=>by have:B≤b∧b≠w.heap.size+1∧b≠w.heap.size+3:=hb;first|omega|(simp;done)|(simp;omega)));have HKS2:=ab hks2;have HBY2:=ab hby2;have HBR2:=ab hbr2;clear hby2 hbr2 hks2;cases ht:kG [63] r1 with
   | none =>
    have HT:=ab ht;have HRR:Hid (.ok (repR 1 (-1) false (.mk k c ng rs lo hi lz ks),r1)=R):=ab ic;clear ht;go_wp2_with (go_at_call 143;refine(kj _ HRD2.out HT.out gF).mono ?_)
    rintro e w3 ⟨rfl,hrd3,hq3⟩;have hgw3:=jM hgw2 hq3;have hby3:=jQ HBY2.out hq3 gu;have hbr3:=jQ HBR2.out hq3 gu;have hks3:=HKS2.out.keep (Kept.grown hq3 fun b hb=>by have:B≤b∧b≠w.heap.size+1∧b≠w.heap.size+3:=hb;omega);have HKS3:=ab hks3;have HRD3:=ab hrd3;have HR:=HRR;obtain⟨f0,f1,f2,f3,f4,f5,f6,f7,f8⟩:=jR (c:=[]) hby3;obtain⟨e0,e1,e2,e3,e4,e5,e6,e7,e8⟩:=jR (c:=[]) hbr3;clear hby3 hbr3 hks3 hrd3 hq3;go_wp2
    refine CJ (v:=.tuple #[.agg #[.int .i64 7,.string ⟨[].toArray⟩,.bool false,.slice none ([]:List Row).length 0,.int .i64 1,.int .i64 (-1),.bool false,.slice (some ⟨w.heap.size+1+1,0,none⟩) [Rx.mk k c ng rs lo hi lz ks].length 1],.int .i64 0]) gL rfl ?_;refine⟨?_,?_⟩
    ·exact bG
    rw [←HR.out];refine⟨rxc 7 [] false none ([]:List Row).length 0 1 (-1) false (some ⟨w.heap.size+1+1,0,none⟩) [Rx.mk k c ng rs lo hi lz ks].length 1,rfl,RxV.mono (S:=fun b=>B≤b∧b≠w.heap.size+1∧b≠w.heap.size+3) (fun b hb _=>hb.1) ?_,?_⟩
    ·exact aX
    ·exact bF
   | some r9 =>
    have HT:=ab ht;have HRR:Hid (.ok (repR 1 (-1) true (.mk k c ng rs lo hi lz ks),r9)=R):=ab ic;clear ht;go_wp2_with (go_at_call 143;refine(kI _ HRD2.out HT.out).mono ?_)
    rintro e w3 ⟨rfl,hrd3,hq3⟩;have hgw3:=jM hgw2 hq3;have hby3:=jQ HBY2.out hq3 gu;have hbr3:=jQ HBR2.out hq3 gu;have hks3:=HKS2.out.keep (Kept.grown hq3 fun b hb=>by have:B≤b∧b≠w.heap.size+1∧b≠w.heap.size+3:=hb;omega);have HKS3:=ab hks3;have HRD3:=ab hrd3;have HR:=HRR;obtain⟨f0,f1,f2,f3,f4,f5,f6,f7,f8⟩:=jR (c:=[]) hby3;obtain⟨e0,e1,e2,e3,e4,e5,e6,e7,e8⟩:=jR (c:=[]) hbr3;clear hby3 hbr3 hks3 hrd3 hq3;go_wp2
    refine CJ (v:=.tuple #[.agg #[.int .i64 7,.string ⟨[].toArray⟩,.bool false,.slice none ([]:List Row).length 0,.int .i64 1,.int .i64 (-1),.bool true,.slice (some ⟨w.heap.size+1+1,0,none⟩) [Rx.mk k c ng rs lo hi lz ks].length 1],.int .i64 0]) gL rfl ?_;refine⟨?_,?_⟩
    ·exact bG
    rw [←HR.out];refine⟨rxc 7 [] false none ([]:List Row).length 0 1 (-1) true (some ⟨w.heap.size+1+1,0,none⟩) [Rx.mk k c ng rs lo hi lz ks].length 1,rfl,RxV.mono (S:=fun b=>B≤b∧b≠w.heap.size+1∧b≠w.heap.size+3) (fun b hb _=>hb.1) ?_,?_⟩
    ·exact aX
    ·exact bF
  by_cases h63:p=[63]
  ·subst h63
   have HR:Hid (Except.ok (qN (.mk k c ng rs lo hi lz ks) 0 1 r1)=R):=ab hR;clear hR;go_enter Tryz.func114,Tryz.ntmps114
   go_wp2_with (go_at_call 46;refine(kH _ HRD.out).mono ?_)
   rintro e w1 ⟨rfl,hst⟩;rw [←HW0.out] at hst;have hgw1:=jM hgg (hst.grown (some g));have hbl1:=hst.below w0.heap.size;have hby1:=(hbl1.block _ (jO HBY0.out)).trans HBY0.out;have hbr1:=(hbl1.block _ (jO HBR0.out)).trans HBR0.out;have hrd1:=hst.rd (HW0.out▸HRD.out:Rd w0 g _ d);have HKS1:=ab (HKS.out.later hbl1);clear hst;try rw [kO]
   obtain⟨i,hi9,c1,hf,hr2⟩:=hrd1.step;obtain⟨e0,e1,e2,e3,e4,e5,e6,e7,e8⟩:=jR (c:=[]) hbr1;have e85:=e8 5 gu;clear e8;have HRD2:=ab (RdT.setHi (hr2) gz _:Rd ((w1.setCell ⟨g,1,none⟩ (.int .i64 ((i:Int)+1))).setCell ⟨w.heap.size+3,5,none⟩ (.int .i64 1)) g r1 d);have hgw2:w.grownBy ((w1.setCell ⟨g,1,none⟩ (.int .i64 ((i:Int)+1))).setCell ⟨w.heap.size+3,5,none⟩ (.int .i64 1)) (some g):=jW (j9 hgw1 _ _) gz _;have hby2:((w1.setCell ⟨g,1,none⟩ (.int .i64 ((i:Int)+1))).setCell ⟨w.heap.size+3,5,none⟩ (.int .i64 1)).heap[w.heap.size+1]?=some (boxO 0 [] false none 0 0 0 0 false none 0 0):=kg (kg hby1 gz _) gz _;have hbr2:((w1.setCell ⟨g,1,none⟩ (.int .i64 ((i:Int)+1))).setCell ⟨w.heap.size+3,5,none⟩ (.int .i64 1)).heap[w.heap.size+3]?=some (boxO 7 [] false none 0 0 0 1 false (some ⟨w.heap.size+1+1,0,none⟩) 1 1):=qV (kg hbr1 gz _) _;have hks2:RxSl ((w1.setCell ⟨g,1,none⟩ (.int .i64 ((i:Int)+1))).setCell ⟨w.heap.size+3,5,none⟩ (.int .i64 1)) (fun b=>B≤b∧b≠w.heap.size+1∧b≠w.heap.size+3) (some ⟨w.heap.size+2,0,none⟩) 1 [.mk k c ng rs lo hi lz ks]:=(HKS1.out.keep (Kept.setLow _ (fun b hb=>by have:B≤b∧b≠w.heap.size+1∧b≠w.heap.size+3:=hb;first|omega|(simp;done)|(simp;omega)))).keep (Kept.setLow _ (fun b hb=>by have:B≤b∧b≠w.heap.size+1∧b≠w.heap.size+3:=hb;first|omega|(simp;done)|(simp;omega)));have HKS2:=ab hks2;have HBY2:=ab hby2;have HBR2:=ab hbr2;clear hby2 hbr2 hks2;cases ht:kG [63] r1 with
   | none =>
    have HT:=ab ht;have HRR:Hid (.ok (repR 0 1 false (.mk k c ng rs lo hi lz ks),r1)=R):=ab ic;clear ht;go_wp2_with (go_at_call 143;refine(kj _ HRD2.out HT.out gF).mono ?_)
    rintro e w3 ⟨rfl,hrd3,hq3⟩;have hgw3:=jM hgw2 hq3;have hby3:=jQ HBY2.out hq3 gu;have hbr3:=jQ HBR2.out hq3 gu;have hks3:=HKS2.out.keep (Kept.grown hq3 fun b hb=>by have:B≤b∧b≠w.heap.size+1∧b≠w.heap.size+3:=hb;omega);have HKS3:=ab hks3;have HRD3:=ab hrd3;have HR:=HRR;obtain⟨f0,f1,f2,f3,f4,f5,f6,f7,f8⟩:=jR (c:=[]) hby3;obtain⟨e0,e1,e2,e3,e4,e5,e6,e7,e8⟩:=jR (c:=[]) hbr3;clear hby3 hbr3 hks3 hrd3 hq3;go_wp2
    refine CJ (v:=.tuple #[.agg #[.int .i64 7,.string ⟨[].toArray⟩,.bool false,.slice none ([]:List Row).length 0,.int .i64 0,.int .i64 1,.bool false,.slice (some ⟨w.heap.size+1+1,0,none⟩) [Rx.mk k c ng rs lo hi lz ks].length 1],.int .i64 0]) gL rfl ?_;refine⟨?_,?_⟩
    ·exact bG
    rw [←HR.out];refine⟨rxc 7 [] false none ([]:List Row).length 0 0 1 false (some ⟨w.heap.size+1+1,0,none⟩) [Rx.mk k c ng rs lo hi lz ks].length 1,rfl,RxV.mono (S:=fun b=>B≤b∧b≠w.heap.size+1∧b≠w.heap.size+3) (fun b hb _=>hb.1) ?_,?_⟩
    ·exact aX
    ·exact bF
   | some r9 =>
    have HT:=ab ht;have HRR:Hid (.ok (repR 0 1 true (.mk k c ng rs lo hi lz ks),r9)=R):=ab ic;clear ht;go_wp2_with (go_at_call 143;refine(kI _ HRD2.out HT.out).mono ?_)
    rintro e w3 ⟨rfl,hrd3,hq3⟩;have hgw3:=jM hgw2 hq3;have hby3:=jQ HBY2.out hq3 gu;have hbr3:=jQ HBR2.out hq3 gu;have hks3:=HKS2.out.keep (Kept.grown hq3 fun b hb=>by have:B≤b∧b≠w.heap.size+1∧b≠w.heap.size+3:=hb;omega);have HKS3:=ab hks3;have HRD3:=ab hrd3;have HR:=HRR;obtain⟨f0,f1,f2,f3,f4,f5,f6,f7,f8⟩:=jR (c:=[]) hby3;obtain⟨e0,e1,e2,e3,e4,e5,e6,e7,e8⟩:=jR (c:=[]) hbr3;clear hby3 hbr3 hks3 hrd3 hq3;go_wp2
    refine CJ (v:=.tuple #[.agg #[.int .i64 7,.string ⟨[].toArray⟩,.bool false,.slice none ([]:List Row).length 0,.int .i64 0,.int .i64 1,.bool true,.slice (some ⟨w.heap.size+1+1,0,none⟩) [Rx.mk k c ng rs lo hi lz ks].length 1],.int .i64 0]) gL rfl ?_;refine⟨?_,?_⟩
    ·exact bG
    rw [←HR.out];refine⟨rxc 7 [] false none ([]:List Row).length 0 0 1 true (some ⟨w.heap.size+1+1,0,none⟩) [Rx.mk k c ng rs lo hi lz ks].length 1,rfl,RxV.mono (S:=fun b=>B≤b∧b≠w.heap.size+1∧b≠w.heap.size+3) (fun b hb _=>hb.1) ?_,?_⟩
    ·exact aX
    ·exact bF
  by_cases h123:p=[123]
  ·subst h123
   cases hbd:nV r1 with
   | none =>
    have HR:Hid (Except.error 10=R):=ab (by rw [←hR];simp [me,hbd]);clear hR;go_enter Tryz.func114,Tryz.ntmps114
    go_wp2_with (go_at_call 46;refine(kH _ HRD.out).mono ?_)
    rintro e w1 ⟨rfl,hst⟩;rw [←HW0.out] at hst;have hgw1:=jM hgg (hst.grown (some g));have hbl1:=hst.below w0.heap.size;have hby1:=(hbl1.block _ (jO HBY0.out)).trans HBY0.out;have hbr1:=(hbl1.block _ (jO HBR0.out)).trans HBR0.out;have hrd1:=hst.rd (HW0.out▸HRD.out:Rd w0 g _ d);have HKS1:=ab (HKS.out.later hbl1);clear hst;try rw [kO]
    obtain⟨i,hi9,c1,hf,hr2⟩:=hrd1.step;obtain⟨e0,e1,e2,e3,e4,e5,e6,e7,e8⟩:=jR (c:=[]) hbr1;have HRD2:=ab hr2;have HBD:=ab hbd;have hgw2:=j9 hgw1 1 (.int .i64 ((i:Int)+1));clear hrd1 hr2 hbd;go_wp2_with (go_at_call 142;refine(sZ _ HRD2.out).mono ?_)
    rintro e w3 hq;have hq3:=hq.1;have hq4:=hq.2;rw [HBD.out] at hq4;obtain⟨⟨v1,v2,rfl⟩,r9,hrd9⟩:=hq4;have HRD9:=ab hrd9;clear hrd9;have hgw3:=jM hgw2 hq3;have hby3:=jQ (kg hby1 (a:=⟨g,1,none⟩) iC _) hq3 gu;have hbr3:=jQ (kg hbr1 (a:=⟨g,1,none⟩) iC _) hq3 gu;clear hq hq3 hbr1 hby1 e0 e1 e2 e3 e4 e5 e6 e7 e8;obtain⟨f0,f1,f2,f3,f4,f5,f6,f7,f8⟩:=jR (c:=[]) hby3;obtain⟨e0,e1,e2,e3,e4,e5,e6,e7,e8⟩:=jR (c:=[]) hbr3;clear hby3 hbr3;go_wp2
    refine CJ (v:=.tuple #[.agg #[.int .i64 0,.string ⟨[].toArray⟩,.bool false,.slice none 0 0,.int .i64 0,.int .i64 0,.bool false,.slice none 0 0],.int .i64 10]) gL rfl ?_;refine⟨?_,?_⟩
    ·iterate 10 (refine jW ?_ gz _)
     exact hgw3
    ·rw [←HR.out]
     refine⟨rfl,?_⟩;iterate 10 (refine RdE.setHi ?_ gz _)
     exact⟨_,HRD9.out⟩
   | some y =>
    obtain⟨lo2,hi2,r5⟩:=y;have HR:Hid (Except.ok (qN (.mk k c ng rs lo hi lz ks) lo2 hi2 r5)=R):=ab (by rw [←hR];simp [me,hbd]);clear hR;go_enter Tryz.func114,Tryz.ntmps114
    go_wp2_with (go_at_call 46;refine(kH _ HRD.out).mono ?_)
    rintro e w1 ⟨rfl,hst⟩;rw [←HW0.out] at hst;have hgw1:=jM hgg (hst.grown (some g));have hbl1:=hst.below w0.heap.size;have hby1:=(hbl1.block _ (jO HBY0.out)).trans HBY0.out;have hbr1:=(hbl1.block _ (jO HBR0.out)).trans HBR0.out;have hrd1:=hst.rd (HW0.out▸HRD.out:Rd w0 g _ d);have HKS1:=ab (HKS.out.later hbl1);clear hst;try rw [kO]
    obtain⟨i,hi9,c1,hf,hr2⟩:=hrd1.step;obtain⟨e0,e1,e2,e3,e4,e5,e6,e7,e8⟩:=jR (c:=[]) hbr1;have HRD2:=ab hr2;have HBD:=ab hbd;have hgw2:=j9 hgw1 1 (.int .i64 ((i:Int)+1));clear hrd1 hr2 hbd;go_wp2_with (go_at_call 142;refine(sZ _ HRD2.out).mono ?_)
    rintro e w3 hq;have hq3:=hq.1;have hq4:=hq.2;rw [HBD.out] at hq4;obtain⟨rfl,hrd3⟩:=hq4;have hgw3:=jM hgw2 hq3;have hby3:=jQ (kg hby1 (a:=⟨g,1,none⟩) iC _) hq3 gu;have hbr3:=jQ (kg hbr1 (a:=⟨g,1,none⟩) iC _) hq3 gu;have hks3:=(HKS1.out.keep (Kept.setLow (a:=⟨g,1,none⟩) (.int .i64 ((i:Int)+1)) (fun b hb=>by have:B≤b∧b≠w.heap.size+1∧b≠w.heap.size+3:=hb;first|omega|(simp;done)|(simp;omega)))).keep (Kept.grown hq3 fun b hb=>by have:B≤b∧b≠w.heap.size+1∧b≠w.heap.size+3:=hb;omega);have HKS3:=ab hks3;have HRD3:=ab hrd3;clear hq hq3 hbr1 hby1 e0 e1 e2 e3 e4 e5 e6 e7 e8 hks3 hrd3 HRD2 hgw2;obtain⟨e0,e1,e2,e3,e4,e5,e6,e7,e8⟩:=jR (c:=[]) hbr3;have e84:=e8 4 gu;have e85:=e8 5 gu;clear e8;have HRD2:=ab (RdT.setHi (RdT.setHi HRD3.out gz _) gz _:Rd ((w3.setCell ⟨w.heap.size+3,4,none⟩ (.int .i64 lo2)).setCell ⟨w.heap.size+3,5,none⟩ (.int .i64 hi2)) g r5 d);have hgw2:w.grownBy ((w3.setCell ⟨w.heap.size+3,4,none⟩ (.int .i64 lo2)).setCell ⟨w.heap.size+3,5,none⟩ (.int .i64 hi2)) (some g):=jW (jW hgw3 gz _) gz _;have hby2:((w3.setCell ⟨w.heap.size+3,4,none⟩ (.int .i64 lo2)).setCell ⟨w.heap.size+3,5,none⟩ (.int .i64 hi2)).heap[w.heap.size+1]?=some (boxO 0 [] false none 0 0 0 0 false none 0 0):=kg (kg hby3 gz _) gz _;have hbr2:((w3.setCell ⟨w.heap.size+3,4,none⟩ (.int .i64 lo2)).setCell ⟨w.heap.size+3,5,none⟩ (.int .i64 hi2)).heap[w.heap.size+3]?=some (boxO 7 [] false none 0 0 lo2 hi2 false (some ⟨w.heap.size+1+1,0,none⟩) 1 1):=qV (xT hbr3 _) _;have hks2:RxSl ((w3.setCell ⟨w.heap.size+3,4,none⟩ (.int .i64 lo2)).setCell ⟨w.heap.size+3,5,none⟩ (.int .i64 hi2)) (fun b=>B≤b∧b≠w.heap.size+1∧b≠w.heap.size+3) (some ⟨w.heap.size+2,0,none⟩) 1 [.mk k c ng rs lo hi lz ks]:=(HKS3.out.keep (Kept.setLow _ (fun b hb=>by have:B≤b∧b≠w.heap.size+1∧b≠w.heap.size+3:=hb;first|omega|(simp;done)|(simp;omega)))).keep (Kept.setLow _ (fun b hb=>by have:B≤b∧b≠w.heap.size+1∧b≠w.heap.size+3:=hb;first|omega|(simp;done)|(simp;omega)));have HKS2:=ab hks2;have HBY2:=ab hby2;have HBR2:=ab hbr2;clear hby2 hbr2 hks2;cases ht:kG [63] r5 with
    | none =>
     have HT:=ab ht;have HRR:Hid (.ok (repR lo2 hi2 false (.mk k c ng rs lo hi lz ks),r5)=R):=ab ic;clear ht;go_wp2_with (go_at_call 143;refine(kj _ HRD2.out HT.out gF).mono ?_)
     rintro e w3 ⟨rfl,hrd3,hq3⟩;have hgw3:=jM hgw2 hq3;have hby3:=jQ HBY2.out hq3 gu;have hbr3:=jQ HBR2.out hq3 gu;have hks3:=HKS2.out.keep (Kept.grown hq3 fun b hb=>by have:B≤b∧b≠w.heap.size+1∧b≠w.heap.size+3:=hb;omega);have HKS3:=ab hks3;have HRD3:=ab hrd3;have HR:=HRR;obtain⟨f0,f1,f2,f3,f4,f5,f6,f7,f8⟩:=jR (c:=[]) hby3;obtain⟨e0,e1,e2,e3,e4,e5,e6,e7,e8⟩:=jR (c:=[]) hbr3;clear hby3 hbr3 hks3 hrd3 hq3;go_wp2
     refine CJ (v:=.tuple #[.agg #[.int .i64 7,.string ⟨[].toArray⟩,.bool false,.slice none ([]:List Row).length 0,.int .i64 lo2,.int .i64 hi2,.bool false,.slice (some ⟨w.heap.size+1+1,0,none⟩) [Rx.mk k c ng rs lo hi lz ks].length 1],.int .i64 0]) gL rfl ?_;refine⟨?_,?_⟩
     ·exact bG
     rw [←HR.out];refine⟨rxc 7 [] false none ([]:List Row).length 0 lo2 hi2 false (some ⟨w.heap.size+1+1,0,none⟩) [Rx.mk k c ng rs lo hi lz ks].length 1,rfl,RxV.mono (S:=fun b=>B≤b∧b≠w.heap.size+1∧b≠w.heap.size+3) (fun b hb _=>hb.1) ?_,?_⟩
     ·exact aX
     ·exact bF
    | some r9 =>
     have HT:=ab ht;have HRR:Hid (.ok (repR lo2 hi2 true (.mk k c ng rs lo hi lz ks),r9)=R):=ab ic;clear ht;go_wp2_with (go_at_call 143;refine(kI _ HRD2.out HT.out).mono ?_)
     rintro e w3 ⟨rfl,hrd3,hq3⟩;have hgw3:=jM hgw2 hq3;have hby3:=jQ HBY2.out hq3 gu;have hbr3:=jQ HBR2.out hq3 gu;have hks3:=HKS2.out.keep (Kept.grown hq3 fun b hb=>by have:B≤b∧b≠w.heap.size+1∧b≠w.heap.size+3:=hb;omega);have HKS3:=ab hks3;have HRD3:=ab hrd3;have HR:=HRR;obtain⟨f0,f1,f2,f3,f4,f5,f6,f7,f8⟩:=jR (c:=[]) hby3;obtain⟨e0,e1,e2,e3,e4,e5,e6,e7,e8⟩:=jR (c:=[]) hbr3;clear hby3 hbr3 hks3 hrd3 hq3;go_wp2
     refine CJ (v:=.tuple #[.agg #[.int .i64 7,.string ⟨[].toArray⟩,.bool false,.slice none ([]:List Row).length 0,.int .i64 lo2,.int .i64 hi2,.bool true,.slice (some ⟨w.heap.size+1+1,0,none⟩) [Rx.mk k c ng rs lo hi lz ks].length 1],.int .i64 0]) gL rfl ?_;refine⟨?_,?_⟩
     ·exact bG
     rw [←HR.out];refine⟨rxc 7 [] false none ([]:List Row).length 0 lo2 hi2 true (some ⟨w.heap.size+1+1,0,none⟩) [Rx.mk k c ng rs lo hi lz ks].length 1,rfl,RxV.mono (S:=fun b=>B≤b∧b≠w.heap.size+1∧b≠w.heap.size+3) (fun b hb _=>hb.1) ?_,?_⟩
     ·exact aX
     ·exact bF
  have g42:(p==[42])=false:=CM.2 h42;have g43:(p==[43])=false:=CM.2 h43;have g63:(p==[63])=false:=CM.2 h63;have g123:(p==[123])=false:=CM.2 h123;have HR:Hid (Except.ok ((.mk k c ng rs lo hi lz ks),p::r1)=R):=ab (by rw [←hR];simp [me,h42,h43,h63,h123]);clear hR h42 h43 h63 h123;go_enter Tryz.func114,Tryz.ntmps114
  go_wp2_with (go_at_call 46;refine(kH _ HRD.out).mono ?_)
  rintro e w1 ⟨rfl,hst⟩;rw [←HW0.out] at hst;have hgw1:=jM hgg (hst.grown (some g));have hbl1:=hst.below w0.heap.size;have hby1:=(hbl1.block _ (jO HBY0.out)).trans HBY0.out;have hbr1:=(hbl1.block _ (jO HBR0.out)).trans HBR0.out;have hrd1:=hst.rd (HW0.out▸HRD.out:Rd w0 g _ d);have HKS1:=ab (HKS.out.later hbl1);clear hst;try rw [kO]
  have hbx1:=(hbl1.block _ (jO HBX0.out)).trans HBX0.out;obtain⟨f0,f1,f2,f3,f4,f5,f6,f7,f8⟩:=jR (c:=[]) hby1;obtain⟨e0,e1,e2,e3,e4,e5,e6,e7,e8⟩:=jR hbx1;have HRD1:=ab hrd1;clear hby1 hbr1 hbx1 hrd1;exact bh
end Go.Proofs.YtjggmmaojklmpaaGreat
