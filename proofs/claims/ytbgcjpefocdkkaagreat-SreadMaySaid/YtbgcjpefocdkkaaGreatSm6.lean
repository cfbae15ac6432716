/- walks of rxread: quantified -/
import Derived.Test.YtbgcjpefocdkkaaGreatSm1
import Derived.Test.YtbgcjpefocdkkaaGreatSm2
import Derived.Test.YtbgcjpefocdkkaaGreatSm3
import Derived.Test.YtbgcjpefocdkkaaGreatSm4
import Derived.Test.YtbgcjpefocdkkaaGreatSm5
set_option maxRecDepth 100000
namespace Go.Proofs.YtbgcjpefocdkkaaGreat
open Go.RowKit
def rxv0:Value:=.agg #[.int .i64 0,.string ⟨#[]⟩,.bool false,.slice none 0 0,.int .i64 0,.int .i64 0,.bool false,.slice none 0 0]
def RdE (w:World) (g d:Nat):Prop:=∃r,Rd w g r d
def ResPost (g d B:Nat) (w:World) (res:Res) (e:Ending) (w':World):Prop:=w.grownBy w' (some g)∧match res with
 | .error q=>e=.returned (.tuple #[rxv0,.int .i64 q])∧RdE w' g d
 | .ok (x,r)=>∃cc:List Value,e=.returned (.tuple #[.agg cc.toArray,.int .i64 0])∧RxV w' (fun b=>B≤b) cc x∧Rd w' g r d
theorem Kept.grown {S:Nat→Prop} {g:Nat} {w w':World} (h:w.grownBy w' (some g)) (hS:∀b,S b→b≠g):Kept S w w' :=
 ⟨h.size,fun b hb hlt=>h.block b hlt (by first|exact hS b hb|exact fun e=>hS b hb (by injection e)|exact fun e=>hS b hb (by injection e with e;exact e.symm))⟩
theorem box_grown {w0 w1:World} {g b:Nat} {o:Obj} (h:w0.heap[b]?=some o) (hg:w0.grownBy w1 (some g)) (hne:b≠g):w1.heap[b]?=some o :=
 (hg.block b (heap_lt h) (by first|exact hne|exact fun e=>hne (by injection e)|exact fun e=>hne (by injection e with e;exact e.symm))).trans h
theorem RdT.setHi {T:TypeId} {x:List Value} {w:World} {g:Nat} {r:List Str} (h:RdT T x w g r) {a:Addr} (ha:g<a.block) (u:Value):RdT T x (w.setCell a u) g r:=by
 obtain⟨A,c,l,i,h1,h2,h3⟩:=h;exact⟨A,c,l,i,(heap_setCell_other w a g u (Nat.ne_of_lt ha)).trans h1,h2.keep (Kept.setLow u fun b hb=>by omega),h3⟩
theorem RdT.grownHi {T:TypeId} {x:List Value} {w w':World} {g:Nat} {r:List Str} (h:RdT T x w g r) {row:Option Nat} (hg:w.grownBy w' row) (hr:∀k,row=some k→g<k):RdT T x w' g r:=by
 have hb:∀b,b≤g→b<w.heap.size→w'.heap[b]?=w.heap[b]?:=fun b hb hlt=>hg.block b hlt (by
  first
  | (intro e;have:=hr b e;omega)
  | (intro e;have:=hr b e.symm;omega))
 obtain⟨A,c,l,i,h1,h2,h3⟩:=h;exact⟨A,c,l,i,(hb g (Nat.le_refl _) (heap_lt h1)).trans h1,h2.keep ⟨hg.size,fun b h hlt=>hb b (Nat.le_of_lt h) hlt⟩,h3⟩
theorem grown_of_below {w w':World} (hb:Below w.heap.size w w') (row:Option Nat):w.grownBy w' row:=⟨hb.os,hb.tape,hb.output,hb.size,fun k hk _=>hb.block k hk⟩
theorem RdE.setHi {w:World} {g d:Nat} (h:RdE w g d) {a:Addr} (ha:g<a.block) (u:Value):RdE (w.setCell a u) g d:=by
 obtain⟨r,h⟩:=h;exact⟨r,h.setHi ha u⟩
theorem alloc4 (w:World) (a b c d:Array Value) (t:TypeId) {w0:World} (h:w0=(((w.alloc (.cells a t)).alloc (.cells b t)).alloc (.cells c t)).alloc (.cells d t)) :
  Below w.heap.size w w0∧w0.heap.size=w.heap.size+4∧w0.heap[w.heap.size]?=some (.cells a t (0,0))∧w0.heap[w.heap.size+1]?=some (.cells b t (0,0))∧w0.heap[w.heap.size+2]?=some (.cells c t (0,0))∧w0.heap[w.heap.size+3]?=some (.cells d t (0,0)):=by
 subst h;refine⟨((((Below.refl _ _).alloc (Nat.le_refl _) _).alloc (by simp) _).alloc (by first|(simp;done)|(simp;omega)) _).alloc (by first|(simp;done)|(simp;omega)) _,by simp,?_,?_,?_,?_⟩
 ·rw [Below.heap_alloc _ _ _ (by first|(simp;done)|(simp;omega)),Below.heap_alloc _ _ _ (by first|(simp;done)|(simp;omega)),Below.heap_alloc _ _ _ (by simp)];exact heap_alloc_new w _
 ·rw [Below.heap_alloc _ _ _ (by first|(simp;done)|(simp;omega)),Below.heap_alloc _ _ _ (by simp)]
  have:=heap_alloc_new (w.alloc (.cells a t)) (.cells b t);simpa using this
 ·rw [Below.heap_alloc _ _ _ (by simp)]
  have:=heap_alloc_new ((w.alloc (.cells a t)).alloc (.cells b t)) (.cells c t);simpa using this
 ·have:=heap_alloc_new (((w.alloc (.cells a t)).alloc (.cells b t)).alloc (.cells c t)) (.cells d t);simpa using this
theorem RxSl.one {w:World} {S:Nat→Prop} {b:Nat} {cc:List Value} {x:Rx} {t:TypeId} (h:RxV w S cc x) (hb:w.heap[b]?=some (.cells cc.toArray t (0,0))) (hS:S b):RxSl w S (some ⟨b,0,none⟩) 1 [x]:=by
 refine⟨[cc],⟨by simp [h.len],fun _=>⟨b,0,rfl,hS,heap_lt hb,fun j u hu=>?_⟩⟩,.cons h .nil⟩;rw [Lib.cell_of_heap hb];simpa using hu
def boxO (k:Int) (c:Str) (ng:Bool) (ra:Option Addr) (rn rc:Nat) (lo hi:Int) (lz:Bool) (ka:Option Addr) (kn kc:Nat):Obj:=.cells (rxc k c ng ra rn rc lo hi lz ka kn kc).toArray 34 (0,0)
theorem grown_setNew {w w':World} {row:Option Nat} {a:Addr} (h:w.grownBy w' row) (ha:w.heap.size≤a.block) (u:Value):w.grownBy (w'.setCell a u) row :=
 ⟨h.os,h.tape,h.output,by simp [World.setCell];exact h.size,fun k hk hne=>(heap_setCell_other w' a k u (by omega)).trans (h.block k hk hne)⟩
theorem box_set5 {w:World} {b:Nat} {a0 a1 a2 a3 a4 a5 a6 a7:Value} {t:TypeId} (h:w.heap[b]?=some (.cells #[a0,a1,a2,a3,a4,a5,a6,a7] t (0,0))) (u:Value):(w.setCell ⟨b,5,none⟩ u).heap[b]?=some (.cells #[a0,a1,a2,a3,a4,u,a6,a7] t (0,0)):=by
 rw [heap_setCell_same w _ _ _ _ _ h];rfl
theorem box_set4 {w:World} {b:Nat} {a0 a1 a2 a3 a4 a5 a6 a7:Value} {t:TypeId} (h:w.heap[b]?=some (.cells #[a0,a1,a2,a3,a4,a5,a6,a7] t (0,0))) (u:Value):(w.setCell ⟨b,4,none⟩ u).heap[b]?=some (.cells #[a0,a1,a2,a3,u,a5,a6,a7] t (0,0)):=by
 rw [heap_setCell_same w _ _ _ _ _ h];rfl
theorem box_other {w:World} {b:Nat} {o:Obj} (h:w.heap[b]?=some o) {a:Addr} (ha:a.block≠b) (u:Value):(w.setCell a u).heap[b]?=some o:=(heap_setCell_other w a b u (fun e=>ha e.symm)).trans h
set_option maxHeartbeats 1000000 in
theorem quantified_any {g d B:Nat} {r:List Str} {cc:List Value} {x:Rx} (w:World) (h:Rd w g r d) (hx:RxV w (fun b=>B≤b) cc x) (hB:B≤w.heap.size) (hgB:g<B) :
  Calls Tryz.prog 122 #[.pointer (some ⟨g,0,none⟩),.agg cc.toArray] w fun e w'=>ResPost g d B w (quantM x r) e w':=by
 obtain⟨R,hR⟩:∃R,quantM x r=R:=⟨_,rfl⟩;rw [hR];obtain⟨k,c,ng,rs,lo,hi,lz,ks⟩:=x;obtain⟨ra,rc,ka,kc,rfl,hrs,hks⟩:=hx.open_;obtain⟨w0,hw0⟩:∃w0,w0=(((w.alloc (.cells (rxc k c ng ra rs.length rc lo hi lz ka ks.length kc).toArray 34)).alloc (.cells #[.int .i64 0,.string ⟨#[]⟩,.bool false,.slice none 0 0,.int .i64 0,.int .i64 0,.bool false,.slice none 0 0] 34)).alloc (.cells (rxc k c ng ra rs.length rc lo hi lz ka ks.length kc).toArray 34)).alloc (.cells #[.int .i64 7,.string ⟨#[]⟩,.bool false,.slice none 0 0,.int .i64 0,.int .i64 0,.bool false,.slice (some ⟨w.heap.size+1+1,0,none⟩) 1 1] 34):=⟨_,rfl⟩;obtain⟨hb0,hz0,hbx0,hby0,hbs0,hbr0⟩:=alloc4 w _ _ _ _ _ hw0;have hxs:RxV w0 (fun b=>B≤b∧b≠w.heap.size+1∧b≠w.heap.size+3) (rxc k c ng ra rs.length rc lo hi lz ka ks.length kc) (.mk k c ng rs lo hi lz ks) :=
  (hx.mono (S':=fun b=>B≤b∧b≠w.heap.size+1∧b≠w.heap.size+3) fun b hb hlt=>⟨hb,by omega,by omega⟩).later hb0
 have HXS:=Lib.hid hxs;have HKS:=Lib.hid (RxSl.one hxs hbs0 ⟨by omega,by omega,by omega⟩);have HRD:=Lib.hid (h.later hb0);unfold rxc at hw0 hbx0;rw [hw0] at HRD;have HW0:=Lib.hid hw0;have HBX0:=Lib.hid hbx0;have HBY0:=Lib.hid hby0;have HBR0:=Lib.hid hbr0;have hgg:w.grownBy w0 (some g):=grown_of_below hb0 _;clear hw0 hbx0 hby0 hbs0 hbr0 hxs hx hrs hks h;have hgr:g<w.heap.size:=by omega
 unfold rxc;cases r with
 | nil =>
  have HR:=Lib.hid hR;clear hR;go_enter Tryz.func122,Tryz.ntmps122
  go_wp2_with (go_at_call 90;refine(see_any _ HRD.out).mono ?_)
  rintro e w1 ⟨rfl,hst⟩;rw [←HW0.out] at hst;have hgw1:=grown_trans hgg (hst.grown (some g));have hbl1:=hst.below w0.heap.size;have hby1:=(hbl1.block _ (heap_lt HBY0.out)).trans HBY0.out;have hbr1:=(hbl1.block _ (heap_lt HBR0.out)).trans HBR0.out;have hrd1:=hst.rd (HW0.out▸HRD.out:Rd w0 g _ d);have HKS1:=Lib.hid (HKS.out.later hbl1);clear hst;try rw [hdS_cons]
  have hbx1:=(hbl1.block _ (heap_lt HBX0.out)).trans HBX0.out;obtain⟨f0,f1,f2,f3,f4,f5,f6,f7,f8⟩:=bx_cells (c:=[]) hby1;obtain⟨e0,e1,e2,e3,e4,e5,e6,e7,e8⟩:=bx_cells hbx1;have HRD1:=Lib.hid hrd1;clear hby1 hbr1 hbx1 hrd1;unfold hdS;go_wp2
  have hxs1:=HXS.out.later hbl1;refine bodyPost_ret (v:=.tuple #[.agg #[.int .i64 k,.string ⟨(c).toArray⟩,.bool ng,.slice ra rs.length rc,.int .i64 lo,.int .i64 hi,.bool lz,.slice ka ks.length kc],.int .i64 0]) (by simp [results,Tryz.results122,go_sem,f0,f1,f2,f3,f4,f5,f6,f7]) rfl ?_;refine⟨?_,?_⟩
  ·iterate 8 (refine grown_setNew ?_ (by first|omega|(simp;done)|(simp;omega)) _)
   exact hgw1
  rw [←HR.out];refine⟨rxc k c ng ra rs.length rc lo hi lz ka ks.length kc,rfl,RxV.mono (S:=fun b=>B≤b∧b≠w.heap.size+1∧b≠w.heap.size+3) (fun b hb _=>hb.1) ?_,?_⟩
  ·iterate 8 (refine RxV.keep (Kept.setLow _ (fun b hb=>by have:B≤b∧b≠w.heap.size+1∧b≠w.heap.size+3:=hb;first|omega|(simp;done)|(simp;omega))) ?_)
   exact hxs1
  ·iterate 8 (refine RdT.setHi ?_ (by first|omega|(simp;done)|(simp;omega)) _)
   exact HRD1.out
 | cons p r1 =>
  by_cases h42:p=[42]
  ·subst h42
   have HR:Hid (Except.ok (lazyM (.mk k c ng rs lo hi lz ks) 0 (-1) r1)=R):=Lib.hid hR;clear hR;go_enter Tryz.func122,Tryz.ntmps122
   go_wp2_with (go_at_call 90;refine(see_any _ HRD.out).mono ?_)
   rintro e w1 ⟨rfl,hst⟩;rw [←HW0.out] at hst;have hgw1:=grown_trans hgg (hst.grown (some g));have hbl1:=hst.below w0.heap.size;have hby1:=(hbl1.block _ (heap_lt HBY0.out)).trans HBY0.out;have hbr1:=(hbl1.block _ (heap_lt HBR0.out)).trans HBR0.out;have hrd1:=hst.rd (HW0.out▸HRD.out:Rd w0 g _ d);have HKS1:=Lib.hid (HKS.out.later hbl1);clear hst;try rw [hdS_cons]
   obtain⟨i,hi9,c1,hf,hr2⟩:=hrd1.step;obtain⟨e0,e1,e2,e3,e4,e5,e6,e7,e8⟩:=bx_cells (c:=[]) hbr1;have e85:=e8 5 (by omega);clear e8;have HRD2:=Lib.hid (RdT.setHi (hr2) (by first|omega|(simp;done)|(simp;omega)) _:Rd ((w1.setCell ⟨g,1,none⟩ (.int .i64 ((i:Int)+1))).setCell ⟨w.heap.size+3,5,none⟩ (.int .i64 (-1))) g r1 d);have hgw2:w.grownBy ((w1.setCell ⟨g,1,none⟩ (.int .i64 ((i:Int)+1))).setCell ⟨w.heap.size+3,5,none⟩ (.int .i64 (-1))) (some g):=grown_setNew (grown_set hgw1 _ _) (by first|omega|(simp;done)|(simp;omega)) _;have hby2:((w1.setCell ⟨g,1,none⟩ (.int .i64 ((i:Int)+1))).setCell ⟨w.heap.size+3,5,none⟩ (.int .i64 (-1))).heap[w.heap.size+1]?=some (boxO 0 [] false none 0 0 0 0 false none 0 0):=box_other (box_other hby1 (by first|omega|(simp;done)|(simp;omega)) _) (by first|omega|(simp;done)|(simp;omega)) _;have hbr2:((w1.setCell ⟨g,1,none⟩ (.int .i64 ((i:Int)+1))).setCell ⟨w.heap.size+3,5,none⟩ (.int .i64 (-1))).heap[w.heap.size+3]?=some (boxO 7 [] false none 0 0 0 (-1) false (some ⟨w.heap.size+1+1,0,none⟩) 1 1):=box_set5 (box_other hbr1 (by first|omega|(simp;done)|(simp;omega)) _) _;have hks2:RxSl ((w1.setCell ⟨g,1,none⟩ (.int .i64 ((i:Int)+1))).setCell ⟨w.heap.size+3,5,none⟩ (.int .i64 (-1))) (fun b=>B≤b∧b≠w.heap.size+1∧b≠w.heap.size+3) (some ⟨w.heap.size+2,0,none⟩) 1 [.mk k c ng rs lo hi lz ks]:=(HKS1.out.keep (Kept.setLow _ (fun b hb=>by have:B≤b∧b≠w.heap.size+1∧b≠w.heap.size+3:=hb;first|omega|(simp;done)|(simp;omega)))).keep (Kept.setLow _ (fun b hb=>by have:B≤b∧b≠w.heap.size+1∧b≠w.heap.size+3:=hb;first|omega|(simp;done)|(simp;omega)));have HKS2:=Lib.hid hks2;have HBY2:=Lib.hid hby2;have HBR2:=Lib.hid hbr2;clear hby2 hbr2 hks2;cases ht:takeM [63] r1 with
   | none =>
    have HT:=Lib.hid ht;have HRR:Hid (.ok (repR 0 (-1) false (.mk k c ng rs lo hi lz ks),r1)=R):=Lib.hid (by rw [←HR.out];simp only [lazyM,ht]);clear ht;go_wp2_with (go_at_call 134;refine(take_none _ HRD2.out HT.out (by simp)).mono ?_)
    rintro e w3 ⟨rfl,hrd3,hq3⟩;have hgw3:=grown_trans hgw2 hq3;have hby3:=box_grown HBY2.out hq3 (by omega);have hbr3:=box_grown HBR2.out hq3 (by omega);have hks3:=HKS2.out.keep (Kept.grown hq3 fun b hb=>by have:B≤b∧b≠w.heap.size+1∧b≠w.heap.size+3:=hb;omega);have HKS3:=Lib.hid hks3;have HRD3:=Lib.hid hrd3;have HR:=HRR;obtain⟨f0,f1,f2,f3,f4,f5,f6,f7,f8⟩:=bx_cells (c:=[]) hby3;obtain⟨e0,e1,e2,e3,e4,e5,e6,e7,e8⟩:=bx_cells (c:=[]) hbr3;clear hby3 hbr3 hks3 hrd3 hq3;go_wp2
    refine bodyPost_ret (v:=.tuple #[.agg #[.int .i64 7,.string ⟨([]).toArray⟩,.bool false,.slice none ([]:List Row).length 0,.int .i64 0,.int .i64 (-1),.bool false,.slice (some ⟨w.heap.size+1+1,0,none⟩) [Rx.mk k c ng rs lo hi lz ks].length 1],.int .i64 0]) (by simp [results,Tryz.results122,go_sem,f0,f1,f2,f3,f4,f5,f6,f7]) rfl ?_;refine⟨?_,?_⟩
    ·iterate 9 (refine grown_setNew ?_ (by first|omega|(simp;done)|(simp;omega)) _)
     exact hgw3
    rw [←HR.out];refine⟨rxc 7 [] false none ([]:List Row).length 0 0 (-1) false (some ⟨w.heap.size+1+1,0,none⟩) [Rx.mk k c ng rs lo hi lz ks].length 1,rfl,RxV.mono (S:=fun b=>B≤b∧b≠w.heap.size+1∧b≠w.heap.size+3) (fun b hb _=>hb.1) ?_,?_⟩
    ·iterate 9 (refine RxV.keep (Kept.setLow _ (fun b hb=>by have:B≤b∧b≠w.heap.size+1∧b≠w.heap.size+3:=hb;first|omega|(simp;done)|(simp;omega))) ?_)
     exact(RxV.close (SlS.none_ _ _ _ _) HKS3.out)
    ·iterate 9 (refine RdT.setHi ?_ (by first|omega|(simp;done)|(simp;omega)) _)
     exact HRD3.out
   | some r9 =>
    have HT:=Lib.hid ht;have HRR:Hid (.ok (repR 0 (-1) true (.mk k c ng rs lo hi lz ks),r9)=R):=Lib.hid (by rw [←HR.out];simp only [lazyM,ht]);clear ht;go_wp2_with (go_at_call 134;refine(take_some _ HRD2.out HT.out).mono ?_)
    rintro e w3 ⟨rfl,hrd3,hq3⟩;have hgw3:=grown_trans hgw2 hq3;have hby3:=box_grown HBY2.out hq3 (by omega);have hbr3:=box_grown HBR2.out hq3 (by omega);have hks3:=HKS2.out.keep (Kept.grown hq3 fun b hb=>by have:B≤b∧b≠w.heap.size+1∧b≠w.heap.size+3:=hb;omega);have HKS3:=Lib.hid hks3;have HRD3:=Lib.hid hrd3;have HR:=HRR;obtain⟨f0,f1,f2,f3,f4,f5,f6,f7,f8⟩:=bx_cells (c:=[]) hby3;obtain⟨e0,e1,e2,e3,e4,e5,e6,e7,e8⟩:=bx_cells (c:=[]) hbr3;clear hby3 hbr3 hks3 hrd3 hq3;go_wp2
    refine bodyPost_ret (v:=.tuple #[.agg #[.int .i64 7,.string ⟨([]).toArray⟩,.bool false,.slice none ([]:List Row).length 0,.int .i64 0,.int .i64 (-1),.bool true,.slice (some ⟨w.heap.size+1+1,0,none⟩) [Rx.mk k c ng rs lo hi lz ks].length 1],.int .i64 0]) (by simp [results,Tryz.results122,go_sem,f0,f1,f2,f3,f4,f5,f6,f7]) rfl ?_;refine⟨?_,?_⟩
    ·iterate 9 (refine grown_setNew ?_ (by first|omega|(simp;done)|(simp;omega)) _)
     exact hgw3
    rw [←HR.out];refine⟨rxc 7 [] false none ([]:List Row).length 0 0 (-1) true (some ⟨w.heap.size+1+1,0,none⟩) [Rx.mk k c ng rs lo hi lz ks].length 1,rfl,RxV.mono (S:=fun b=>B≤b∧b≠w.heap.size+1∧b≠w.heap.size+3) (fun b hb _=>hb.1) ?_,?_⟩
    ·iterate 9 (refine RxV.keep (Kept.setLow _ (fun b hb=>by have:B≤b∧b≠w.heap.size+1∧b≠w.heap.size+3:=hb;first|omega|(simp;done)|(simp;omega))) ?_)
     exact(RxV.close (SlS.none_ _ _ _ _) HKS3.out)
    ·iterate 9 (refine RdT.setHi ?_ (by first|omega|(simp;done)|(simp;omega)) _)
     exact HRD3.out
  by_cases h43:p=[43]
  ·subst h43
   have HR:Hid (Except.ok (lazyM (.mk k c ng rs lo hi lz ks) 1 (-1) r1)=R):=Lib.hid hR;clear hR;go_enter Tryz.func122,Tryz.ntmps122
   go_wp2_with (go_at_call 90;refine(see_any _ HRD.out).mono ?_)
   rintro e w1 ⟨rfl,hst⟩;rw [←HW0.out] at hst;have hgw1:=grown_trans hgg (hst.grown (some g));have hbl1:=hst.below w0.heap.size;have hby1:=(hbl1.block _ (heap_lt HBY0.out)).trans HBY0.out;have hbr1:=(hbl1.block _ (heap_lt HBR0.out)).trans HBR0.out;have hrd1:=hst.rd (HW0.out▸HRD.out:Rd w0 g _ d);have HKS1:=Lib.hid (HKS.out.later hbl1);clear hst;try rw [hdS_cons]
   obtain⟨i,hi9,c1,hf,hr2⟩:=hrd1.step;obtain⟨e0,e1,e2,e3,e4,e5,e6,e7,e8⟩:=bx_cells (c:=[]) hbr1;have e84:=e8 4 (by omega);have e85:=e8 5 (by omega);clear e8;have HRD2:=Lib.hid (RdT.setHi (RdT.setHi (hr2) (by first|omega|(simp;done)|(simp;omega)) _) (by first|omega|(simp;done)|(simp;omega)) _:Rd (((w1.setCell ⟨g,1,none⟩ (.int .i64 ((i:Int)+1))).setCell ⟨w.heap.size+3,4,none⟩ (.int .i64 1)).setCell ⟨w.heap.size+3,5,none⟩ (.int .i64 (-1))) g r1 d);have hgw2:w.grownBy (((w1.setCell ⟨g,1,none⟩ (.int .i64 ((i:Int)+1))).setCell ⟨w.heap.size+3,4,none⟩ (.int .i64 1)).setCell ⟨w.heap.size+3,5,none⟩ (.int .i64 (-1))) (some g):=grown_setNew (grown_setNew (grown_set hgw1 _ _) (by first|omega|(simp;done)|(simp;omega)) _) (by first|omega|(simp;done)|(simp;omega)) _;have hby2:(((w1.setCell ⟨g,1,none⟩ (.int .i64 ((i:Int)+1))).setCell ⟨w.heap.size+3,4,none⟩ (.int .i64 1)).setCell ⟨w.heap.size+3,5,none⟩ (.int .i64 (-1))).heap[w.heap.size+1]?=some (boxO 0 [] false none 0 0 0 0 false none 0 0):=box_other (box_other (box_other hby1 (by first|omega|(simp;done)|(simp;omega)) _) (by first|omega|(simp;done)|(simp;omega)) _) (by first|omega|(simp;done)|(simp;omega)) _;have hbr2:(((w1.setCell ⟨g,1,none⟩ (.int .i64 ((i:Int)+1))).setCell ⟨w.heap.size+3,4,none⟩ (.int .i64 1)).setCell ⟨w.heap.size+3,5,none⟩ (.int .i64 (-1))).heap[w.heap.size+3]?=some (boxO 7 [] false none 0 0 1 (-1) false (some ⟨w.heap.size+1+1,0,none⟩) 1 1):=box_set5 (box_set4 (box_other hbr1 (by first|omega|(simp;done)|(simp;omega)) _) _) _;have hks2:RxSl (((w1.setCell ⟨g,1,none⟩ (.int .i64 ((i:Int)+1))).setCell ⟨w.heap.size+3,4,none⟩ (.int .i64 1)).setCell ⟨w.heap.size+3,5,none⟩ (.int .i64 (-1))) (fun b=>B≤b∧b≠w.heap.size+1∧b≠w.heap.size+3) (some ⟨w.heap.size+2,0,none⟩) 1 [.mk k c ng rs lo hi lz ks]:=((HKS1.out.keep (Kept.setLow _ (fun b hb=>by have:B≤b∧b≠w.heap.size+1∧b≠w.heap.size+3:=hb;first|omega|(simp;done)|(simp;omega)))).keep (Kept.setLow _ (fun b hb=>by have:B≤b∧b≠w.heap.size+1∧b≠w.heap.size+3:=hb;first|omega|(simp;done)|(simp;omega)))).keep (Kept.setLow _ (fun b hb=>by have:B≤b∧b≠w.heap.size+1∧b≠w.heap.size+3:=hb;first|omega|(simp;done)|(simp;omega)));have HKS2:=Lib.hid hks2;have HBY2:=Lib.hid hby2;have HBR2:=Lib.hid hbr2;clear hby2 hbr2 hks2;cases ht:takeM [63] r1 with
   | none =>
    have HT:=Lib.hid ht;have HRR:Hid (.ok (repR 1 (-1) false (.mk k c ng rs lo hi lz ks),r1)=R):=Lib.hid (by rw [←HR.out];simp only [lazyM,ht]);clear ht;go_wp2_with (go_at_call 134;refine(take_none _ HRD2.out HT.out (by simp)).mono ?_)
    rintro e w3 ⟨rfl,hrd3,hq3⟩;have hgw3:=grown_trans hgw2 hq3;have hby3:=box_grown HBY2.out hq3 (by omega);have hbr3:=box_grown HBR2.out hq3 (by omega);have hks3:=HKS2.out.keep (Kept.grown hq3 fun b hb=>by have:B≤b∧b≠w.heap.size+1∧b≠w.heap.size+3:=hb;omega);have HKS3:=Lib.hid hks3;have HRD3:=Lib.hid hrd3;have HR:=HRR;obtain⟨f0,f1,f2,f3,f4,f5,f6,f7,f8⟩:=bx_cells (c:=[]) hby3;obtain⟨e0,e1,e2,e3,e4,e5,e6,e7,e8⟩:=bx_cells (c:=[]) hbr3;clear hby3 hbr3 hks3 hrd3 hq3;go_wp2
    refine bodyPost_ret (v:=.tuple #[.agg #[.int .i64 7,.string ⟨([]).toArray⟩,.bool false,.slice none ([]:List Row).length 0,.int .i64 1,.int .i64 (-1),.bool false,.slice (some ⟨w.heap.size+1+1,0,none⟩) [Rx.mk k c ng rs lo hi lz ks].length 1],.int .i64 0]) (by simp [results,Tryz.results122,go_sem,f0,f1,f2,f3,f4,f5,f6,f7]) rfl ?_;refine⟨?_,?_⟩
    ·iterate 9 (refine grown_setNew ?_ (by first|omega|(simp;done)|(simp;omega)) _)
     exact hgw3
    rw [←HR.out];refine⟨rxc 7 [] false none ([]:List Row).length 0 1 (-1) false (some ⟨w.heap.size+1+1,0,none⟩) [Rx.mk k c ng rs lo hi lz ks].length 1,rfl,RxV.mono (S:=fun b=>B≤b∧b≠w.heap.size+1∧b≠w.heap.size+3) (fun b hb _=>hb.1) ?_,?_⟩
    ·iterate 9 (refine RxV.keep (Kept.setLow _ (fun b hb=>by have:B≤b∧b≠w.heap.size+1∧b≠w.heap.size+3:=hb;first|omega|(simp;done)|(simp;omega))) ?_)
     exact(RxV.close (SlS.none_ _ _ _ _) HKS3.out)
    ·iterate 9 (refine RdT.setHi ?_ (by first|omega|(simp;done)|(simp;omega)) _)
     exact HRD3.out
   | some r9 =>
    have HT:=Lib.hid ht;have HRR:Hid (.ok (repR 1 (-1) true (.mk k c ng rs lo hi lz ks),r9)=R):=Lib.hid (by rw [←HR.out];simp only [lazyM,ht]);clear ht;go_wp2_with (go_at_call 134;refine(take_some _ HRD2.out HT.out).mono ?_)
    rintro e w3 ⟨rfl,hrd3,hq3⟩;have hgw3:=grown_trans hgw2 hq3;have hby3:=box_grown HBY2.out hq3 (by omega);have hbr3:=box_grown HBR2.out hq3 (by omega);have hks3:=HKS2.out.keep (Kept.grown hq3 fun b hb=>by have:B≤b∧b≠w.heap.size+1∧b≠w.heap.size+3:=hb;omega);have HKS3:=Lib.hid hks3;have HRD3:=Lib.hid hrd3;have HR:=HRR;obtain⟨f0,f1,f2,f3,f4,f5,f6,f7,f8⟩:=bx_cells (c:=[]) hby3;obtain⟨e0,e1,e2,e3,e4,e5,e6,e7,e8⟩:=bx_cells (c:=[]) hbr3;clear hby3 hbr3 hks3 hrd3 hq3;go_wp2
    refine bodyPost_ret (v:=.tuple #[.agg #[.int .i64 7,.string ⟨([]).toArray⟩,.bool false,.slice none ([]:List Row).length 0,.int .i64 1,.int .i64 (-1),.bool true,.slice (some ⟨w.heap.size+1+1,0,none⟩) [Rx.mk k c ng rs lo hi lz ks].length 1],.int .i64 0]) (by simp [results,Tryz.results122,go_sem,f0,f1,f2,f3,f4,f5,f6,f7]) rfl ?_;refine⟨?_,?_⟩
    ·iterate 9 (refine grown_setNew ?_ (by first|omega|(simp;done)|(simp;omega)) _)
     exact hgw3
    rw [←HR.out];refine⟨rxc 7 [] false none ([]:List Row).length 0 1 (-1) true (some ⟨w.heap.size+1+1,0,none⟩) [Rx.mk k c ng rs lo hi lz ks].length 1,rfl,RxV.mono (S:=fun b=>B≤b∧b≠w.heap.size+1∧b≠w.heap.size+3) (fun b hb _=>hb.1) ?_,?_⟩
    ·iterate 9 (refine RxV.keep (Kept.setLow _ (fun b hb=>by have:B≤b∧b≠w.heap.size+1∧b≠w.heap.size+3:=hb;first|omega|(simp;done)|(simp;omega))) ?_)
     exact(RxV.close (SlS.none_ _ _ _ _) HKS3.out)
    ·iterate 9 (refine RdT.setHi ?_ (by first|omega|(simp;done)|(simp;omega)) _)
     exact HRD3.out
  by_cases h63:p=[63]
  ·subst h63
   have HR:Hid (Except.ok (lazyM (.mk k c ng rs lo hi lz ks) 0 1 r1)=R):=Lib.hid hR;clear hR;go_enter Tryz.func122,Tryz.ntmps122
   go_wp2_with (go_at_call 90;refine(see_any _ HRD.out).mono ?_)
   rintro e w1 ⟨rfl,hst⟩;rw [←HW0.out] at hst;have hgw1:=grown_trans hgg (hst.grown (some g));have hbl1:=hst.below w0.heap.size;have hby1:=(hbl1.block _ (heap_lt HBY0.out)).trans HBY0.out;have hbr1:=(hbl1.block _ (heap_lt HBR0.out)).trans HBR0.out;have hrd1:=hst.rd (HW0.out▸HRD.out:Rd w0 g _ d);have HKS1:=Lib.hid (HKS.out.later hbl1);clear hst;try rw [hdS_cons]
   obtain⟨i,hi9,c1,hf,hr2⟩:=hrd1.step;obtain⟨e0,e1,e2,e3,e4,e5,e6,e7,e8⟩:=bx_cells (c:=[]) hbr1;have e85:=e8 5 (by omega);clear e8;have HRD2:=Lib.hid (RdT.setHi (hr2) (by first|omega|(simp;done)|(simp;omega)) _:Rd ((w1.setCell ⟨g,1,none⟩ (.int .i64 ((i:Int)+1))).setCell ⟨w.heap.size+3,5,none⟩ (.int .i64 1)) g r1 d);have hgw2:w.grownBy ((w1.setCell ⟨g,1,none⟩ (.int .i64 ((i:Int)+1))).setCell ⟨w.heap.size+3,5,none⟩ (.int .i64 1)) (some g):=grown_setNew (grown_set hgw1 _ _) (by first|omega|(simp;done)|(simp;omega)) _;have hby2:((w1.setCell ⟨g,1,none⟩ (.int .i64 ((i:Int)+1))).setCell ⟨w.heap.size+3,5,none⟩ (.int .i64 1)).heap[w.heap.size+1]?=some (boxO 0 [] false none 0 0 0 0 false none 0 0):=box_other (box_other hby1 (by first|omega|(simp;done)|(simp;omega)) _) (by first|omega|(simp;done)|(simp;omega)) _;have hbr2:((w1.setCell ⟨g,1,none⟩ (.int .i64 ((i:Int)+1))).setCell ⟨w.heap.size+3,5,none⟩ (.int .i64 1)).heap[w.heap.size+3]?=some (boxO 7 [] false none 0 0 0 1 false (some ⟨w.heap.size+1+1,0,none⟩) 1 1):=box_set5 (box_other hbr1 (by first|omega|(simp;done)|(simp;omega)) _) _;have hks2:RxSl ((w1.setCell ⟨g,1,none⟩ (.int .i64 ((i:Int)+1))).setCell ⟨w.heap.size+3,5,none⟩ (.int .i64 1)) (fun b=>B≤b∧b≠w.heap.size+1∧b≠w.heap.size+3) (some ⟨w.heap.size+2,0,none⟩) 1 [.mk k c ng rs lo hi lz ks]:=(HKS1.out.keep (Kept.setLow _ (fun b hb=>by have:B≤b∧b≠w.heap.size+1∧b≠w.heap.size+3:=hb;first|omega|(simp;done)|(simp;omega)))).keep (Kept.setLow _ (fun b hb=>by have:B≤b∧b≠w.heap.size+1∧b≠w.heap.size+3:=hb;first|omega|(simp;done)|(simp;omega)));have HKS2:=Lib.hid hks2;have HBY2:=Lib.hid hby2;have HBR2:=Lib.hid hbr2;clear hby2 hbr2 hks2;cases ht:takeM [63] r1 with
   | none =>
    have HT:=Lib.hid ht;have HRR:Hid (.ok (repR 0 1 false (.mk k c ng rs lo hi lz ks),r1)=R):=Lib.hid (by rw [←HR.out];simp only [lazyM,ht]);clear ht;go_wp2_with (go_at_call 134;refine(take_none _ HRD2.out HT.out (by simp)).mono ?_)
    rintro e w3 ⟨rfl,hrd3,hq3⟩;have hgw3:=grown_trans hgw2 hq3;have hby3:=box_grown HBY2.out hq3 (by omega);have hbr3:=box_grown HBR2.out hq3 (by omega);have hks3:=HKS2.out.keep (Kept.grown hq3 fun b hb=>by have:B≤b∧b≠w.heap.size+1∧b≠w.heap.size+3:=hb;omega);have HKS3:=Lib.hid hks3;have HRD3:=Lib.hid hrd3;have HR:=HRR;obtain⟨f0,f1,f2,f3,f4,f5,f6,f7,f8⟩:=bx_cells (c:=[]) hby3;obtain⟨e0,e1,e2,e3,e4,e5,e6,e7,e8⟩:=bx_cells (c:=[]) hbr3;clear hby3 hbr3 hks3 hrd3 hq3;go_wp2
    refine bodyPost_ret (v:=.tuple #[.agg #[.int .i64 7,.string ⟨([]).toArray⟩,.bool false,.slice none ([]:List Row).length 0,.int .i64 0,.int .i64 1,.bool false,.slice (some ⟨w.heap.size+1+1,0,none⟩) [Rx.mk k c ng rs lo hi lz ks].length 1],.int .i64 0]) (by simp [results,Tryz.results122,go_sem,f0,f1,f2,f3,f4,f5,f6,f7]) rfl ?_;refine⟨?_,?_⟩
    ·iterate 9 (refine grown_setNew ?_ (by first|omega|(simp;done)|(simp;omega)) _)
     exact hgw3
    rw [←HR.out];refine⟨rxc 7 [] false none ([]:List Row).length 0 0 1 false (some ⟨w.heap.size+1+1,0,none⟩) [Rx.mk k c ng rs lo hi lz ks].length 1,rfl,RxV.mono (S:=fun b=>B≤b∧b≠w.heap.size+1∧b≠w.heap.size+3) (fun b hb _=>hb.1) ?_,?_⟩
    ·iterate 9 (refine RxV.keep (Kept.setLow _ (fun b hb=>by have:B≤b∧b≠w.heap.size+1∧b≠w.heap.size+3:=hb;first|omega|(simp;done)|(simp;omega))) ?_)
     exact(RxV.close (SlS.none_ _ _ _ _) HKS3.out)
    ·iterate 9 (refine RdT.setHi ?_ (by first|omega|(simp;done)|(simp;omega)) _)
     exact HRD3.out
   | some r9 =>
    have HT:=Lib.hid ht;have HRR:Hid (.ok (repR 0 1 true (.mk k c ng rs lo hi lz ks),r9)=R):=Lib.hid (by rw [←HR.out];simp only [lazyM,ht]);clear ht;go_wp2_with (go_at_call 134;refine(take_some _ HRD2.out HT.out).mono ?_)
    rintro e w3 ⟨rfl,hrd3,hq3⟩;have hgw3:=grown_trans hgw2 hq3;have hby3:=box_grown HBY2.out hq3 (by omega);have hbr3:=box_grown HBR2.out hq3 (by omega);have hks3:=HKS2.out.keep (Kept.grown hq3 fun b hb=>by have:B≤b∧b≠w.heap.size+1∧b≠w.heap.size+3:=hb;omega);have HKS3:=Lib.hid hks3;have HRD3:=Lib.hid hrd3;have HR:=HRR;obtain⟨f0,f1,f2,f3,f4,f5,f6,f7,f8⟩:=bx_cells (c:=[]) hby3;obtain⟨e0,e1,e2,e3,e4,e5,e6,e7,e8⟩:=bx_cells (c:=[]) hbr3;clear hby3 hbr3 hks3 hrd3 hq3;go_wp2
    refine bodyPost_ret (v:=.tuple #[.agg #[.int .i64 7,.string ⟨([]).toArray⟩,.bool false,.slice none ([]:List Row).length 0,.int .i64 0,.int .i64 1,.bool true,.slice (some ⟨w.heap.size+1+1,0,none⟩) [Rx.mk k c ng rs lo hi lz ks].length 1],.int .i64 0]) (by simp [results,Tryz.results122,go_sem,f0,f1,f2,f3,f4,f5,f6,f7]) rfl ?_;refine⟨?_,?_⟩
    ·iterate 9 (refine grown_setNew ?_ (by first|omega|(simp;done)|(simp;omega)) _)
     exact hgw3
    rw [←HR.out];refine⟨rxc 7 [] false none ([]:List Row).length 0 0 1 true (some ⟨w.heap.size+1+1,0,none⟩) [Rx.mk k c ng rs lo hi lz ks].length 1,rfl,RxV.mono (S:=fun b=>B≤b∧b≠w.heap.size+1∧b≠w.heap.size+3) (fun b hb _=>hb.1) ?_,?_⟩
    ·iterate 9 (refine RxV.keep (Kept.setLow _ (fun b hb=>by have:B≤b∧b≠w.heap.size+1∧b≠w.heap.size+3:=hb;first|omega|(simp;done)|(simp;omega))) ?_)
     exact(RxV.close (SlS.none_ _ _ _ _) HKS3.out)
    ·iterate 9 (refine RdT.setHi ?_ (by first|omega|(simp;done)|(simp;omega)) _)
     exact HRD3.out
  by_cases h123:p=[123]
  ·subst h123
   cases hbd:boundsM r1 with
   | none =>
    have HR:Hid (Except.error 10=R):=Lib.hid (by rw [←hR];simp [quantM,hbd]);clear hR;go_enter Tryz.func122,Tryz.ntmps122
    go_wp2_with (go_at_call 90;refine(see_any _ HRD.out).mono ?_)
    rintro e w1 ⟨rfl,hst⟩;rw [←HW0.out] at hst;have hgw1:=grown_trans hgg (hst.grown (some g));have hbl1:=hst.below w0.heap.size;have hby1:=(hbl1.block _ (heap_lt HBY0.out)).trans HBY0.out;have hbr1:=(hbl1.block _ (heap_lt HBR0.out)).trans HBR0.out;have hrd1:=hst.rd (HW0.out▸HRD.out:Rd w0 g _ d);have HKS1:=Lib.hid (HKS.out.later hbl1);clear hst;try rw [hdS_cons]
    obtain⟨i,hi9,c1,hf,hr2⟩:=hrd1.step;obtain⟨e0,e1,e2,e3,e4,e5,e6,e7,e8⟩:=bx_cells (c:=[]) hbr1;have HRD2:=Lib.hid hr2;have HBD:=Lib.hid hbd;have hgw2:=grown_set hgw1 1 (.int .i64 ((i:Int)+1));clear hrd1 hr2 hbd;go_wp2_with (go_at_call 133;refine(bounds_any _ HRD2.out).mono ?_)
    rintro e w3 hq;have hq3:=hq.1;have hq4:=hq.2;rw [HBD.out] at hq4;obtain⟨⟨v1,v2,rfl⟩,r9,hrd9⟩:=hq4;have HRD9:=Lib.hid hrd9;clear hrd9;have hgw3:=grown_trans hgw2 hq3;have hby3:=box_grown (box_other hby1 (a:=⟨g,1,none⟩) (by first|omega|(simp;omega)) _) hq3 (by omega);have hbr3:=box_grown (box_other hbr1 (a:=⟨g,1,none⟩) (by first|omega|(simp;omega)) _) hq3 (by omega);clear hq hq3 hbr1 hby1 e0 e1 e2 e3 e4 e5 e6 e7 e8;obtain⟨f0,f1,f2,f3,f4,f5,f6,f7,f8⟩:=bx_cells (c:=[]) hby3;obtain⟨e0,e1,e2,e3,e4,e5,e6,e7,e8⟩:=bx_cells (c:=[]) hbr3;clear hby3 hbr3;go_wp2
    refine bodyPost_ret (v:=.tuple #[.agg #[.int .i64 0,.string ⟨([]).toArray⟩,.bool false,.slice none 0 0,.int .i64 0,.int .i64 0,.bool false,.slice none 0 0],.int .i64 10]) (by simp [results,Tryz.results122,go_sem,f0,f1,f2,f3,f4,f5,f6,f7]) rfl ?_;refine⟨?_,?_⟩
    ·iterate 10 (refine grown_setNew ?_ (by first|omega|(simp;done)|(simp;omega)) _)
     exact hgw3
    ·rw [←HR.out]
     refine⟨rfl,?_⟩;iterate 10 (refine RdE.setHi ?_ (by first|omega|(simp;done)|(simp;omega)) _)
     exact⟨_,HRD9.out⟩
   | some y =>
    obtain⟨lo2,hi2,r5⟩:=y;have HR:Hid (Except.ok (lazyM (.mk k c ng rs lo hi lz ks) lo2 hi2 r5)=R):=Lib.hid (by rw [←hR];simp [quantM,hbd]);clear hR;go_enter Tryz.func122,Tryz.ntmps122
    go_wp2_with (go_at_call 90;refine(see_any _ HRD.out).mono ?_)
    rintro e w1 ⟨rfl,hst⟩;rw [←HW0.out] at hst;have hgw1:=grown_trans hgg (hst.grown (some g));have hbl1:=hst.below w0.heap.size;have hby1:=(hbl1.block _ (heap_lt HBY0.out)).trans HBY0.out;have hbr1:=(hbl1.block _ (heap_lt HBR0.out)).trans HBR0.out;have hrd1:=hst.rd (HW0.out▸HRD.out:Rd w0 g _ d);have HKS1:=Lib.hid (HKS.out.later hbl1);clear hst;try rw [hdS_cons]
    obtain⟨i,hi9,c1,hf,hr2⟩:=hrd1.step;obtain⟨e0,e1,e2,e3,e4,e5,e6,e7,e8⟩:=bx_cells (c:=[]) hbr1;have HRD2:=Lib.hid hr2;have HBD:=Lib.hid hbd;have hgw2:=grown_set hgw1 1 (.int .i64 ((i:Int)+1));clear hrd1 hr2 hbd;go_wp2_with (go_at_call 133;refine(bounds_any _ HRD2.out).mono ?_)
    rintro e w3 hq;have hq3:=hq.1;have hq4:=hq.2;rw [HBD.out] at hq4;obtain⟨rfl,hrd3⟩:=hq4;have hgw3:=grown_trans hgw2 hq3;have hby3:=box_grown (box_other hby1 (a:=⟨g,1,none⟩) (by first|omega|(simp;omega)) _) hq3 (by omega);have hbr3:=box_grown (box_other hbr1 (a:=⟨g,1,none⟩) (by first|omega|(simp;omega)) _) hq3 (by omega);have hks3:=(HKS1.out.keep (Kept.setLow (a:=⟨g,1,none⟩) (.int .i64 ((i:Int)+1)) (fun b hb=>by have:B≤b∧b≠w.heap.size+1∧b≠w.heap.size+3:=hb;first|omega|(simp;done)|(simp;omega)))).keep (Kept.grown hq3 fun b hb=>by have:B≤b∧b≠w.heap.size+1∧b≠w.heap.size+3:=hb;omega);have HKS3:=Lib.hid hks3;have HRD3:=Lib.hid hrd3;clear hq hq3 hbr1 hby1 e0 e1 e2 e3 e4 e5 e6 e7 e8 hks3 hrd3 HRD2 hgw2;obtain⟨e0,e1,e2,e3,e4,e5,e6,e7,e8⟩:=bx_cells (c:=[]) hbr3;have e84:=e8 4 (by omega);have e85:=e8 5 (by omega);clear e8;have HRD2:=Lib.hid (RdT.setHi (RdT.setHi HRD3.out (by first|omega|(simp;done)|(simp;omega)) _) (by first|omega|(simp;done)|(simp;omega)) _:Rd ((w3.setCell ⟨w.heap.size+3,4,none⟩ (.int .i64 lo2)).setCell ⟨w.heap.size+3,5,none⟩ (.int .i64 hi2)) g r5 d);have hgw2:w.grownBy ((w3.setCell ⟨w.heap.size+3,4,none⟩ (.int .i64 lo2)).setCell ⟨w.heap.size+3,5,none⟩ (.int .i64 hi2)) (some g):=grown_setNew (grown_setNew hgw3 (by first|omega|(simp;done)|(simp;omega)) _) (by first|omega|(simp;done)|(simp;omega)) _;have hby2:((w3.setCell ⟨w.heap.size+3,4,none⟩ (.int .i64 lo2)).setCell ⟨w.heap.size+3,5,none⟩ (.int .i64 hi2)).heap[w.heap.size+1]?=some (boxO 0 [] false none 0 0 0 0 false none 0 0):=box_other (box_other hby3 (by first|omega|(simp;done)|(simp;omega)) _) (by first|omega|(simp;done)|(simp;omega)) _;have hbr2:((w3.setCell ⟨w.heap.size+3,4,none⟩ (.int .i64 lo2)).setCell ⟨w.heap.size+3,5,none⟩ (.int .i64 hi2)).heap[w.heap.size+3]?=some (boxO 7 [] false none 0 0 lo2 hi2 false (some ⟨w.heap.size+1+1,0,none⟩) 1 1):=box_set5 (box_set4 hbr3 _) _;have hks2:RxSl ((w3.setCell ⟨w.heap.size+3,4,none⟩ (.int .i64 lo2)).setCell ⟨w.heap.size+3,5,none⟩ (.int .i64 hi2)) (fun b=>B≤b∧b≠w.heap.size+1∧b≠w.heap.size+3) (some ⟨w.heap.size+2,0,none⟩) 1 [.mk k c ng rs lo hi lz ks]:=(HKS3.out.keep (Kept.setLow _ (fun b hb=>by have:B≤b∧b≠w.heap.size+1∧b≠w.heap.size+3:=hb;first|omega|(simp;done)|(simp;omega)))).keep (Kept.setLow _ (fun b hb=>by have:B≤b∧b≠w.heap.size+1∧b≠w.heap.size+3:=hb;first|omega|(simp;done)|(simp;omega)));have HKS2:=Lib.hid hks2;have HBY2:=Lib.hid hby2;have HBR2:=Lib.hid hbr2;clear hby2 hbr2 hks2;cases ht:takeM [63] r5 with
    | none =>
     have HT:=Lib.hid ht;have HRR:Hid (.ok (repR lo2 hi2 false (.mk k c ng rs lo hi lz ks),r5)=R):=Lib.hid (by rw [←HR.out];simp only [lazyM,ht]);clear ht;go_wp2_with (go_at_call 134;refine(take_none _ HRD2.out HT.out (by simp)).mono ?_)
     rintro e w3 ⟨rfl,hrd3,hq3⟩;have hgw3:=grown_trans hgw2 hq3;have hby3:=box_grown HBY2.out hq3 (by omega);have hbr3:=box_grown HBR2.out hq3 (by omega);have hks3:=HKS2.out.keep (Kept.grown hq3 fun b hb=>by have:B≤b∧b≠w.heap.size+1∧b≠w.heap.size+3:=hb;omega);have HKS3:=Lib.hid hks3;have HRD3:=Lib.hid hrd3;have HR:=HRR;obtain⟨f0,f1,f2,f3,f4,f5,f6,f7,f8⟩:=bx_cells (c:=[]) hby3;obtain⟨e0,e1,e2,e3,e4,e5,e6,e7,e8⟩:=bx_cells (c:=[]) hbr3;clear hby3 hbr3 hks3 hrd3 hq3;go_wp2
     refine bodyPost_ret (v:=.tuple #[.agg #[.int .i64 7,.string ⟨([]).toArray⟩,.bool false,.slice none ([]:List Row).length 0,.int .i64 lo2,.int .i64 hi2,.bool false,.slice (some ⟨w.heap.size+1+1,0,none⟩) [Rx.mk k c ng rs lo hi lz ks].length 1],.int .i64 0]) (by simp [results,Tryz.results122,go_sem,f0,f1,f2,f3,f4,f5,f6,f7]) rfl ?_;refine⟨?_,?_⟩
     ·iterate 9 (refine grown_setNew ?_ (by first|omega|(simp;done)|(simp;omega)) _)
      exact hgw3
     rw [←HR.out];refine⟨rxc 7 [] false none ([]:List Row).length 0 lo2 hi2 false (some ⟨w.heap.size+1+1,0,none⟩) [Rx.mk k c ng rs lo hi lz ks].length 1,rfl,RxV.mono (S:=fun b=>B≤b∧b≠w.heap.size+1∧b≠w.heap.size+3) (fun b hb _=>hb.1) ?_,?_⟩
     ·iterate 9 (refine RxV.keep (Kept.setLow _ (fun b hb=>by have:B≤b∧b≠w.heap.size+1∧b≠w.heap.size+3:=hb;first|omega|(simp;done)|(simp;omega))) ?_)
      exact(RxV.close (SlS.none_ _ _ _ _) HKS3.out)
     ·iterate 9 (refine RdT.setHi ?_ (by first|omega|(simp;done)|(simp;omega)) _)
      exact HRD3.out
    | some r9 =>
     have HT:=Lib.hid ht;have HRR:Hid (.ok (repR lo2 hi2 true (.mk k c ng rs lo hi lz ks),r9)=R):=Lib.hid (by rw [←HR.out];simp only [lazyM,ht]);clear ht;go_wp2_with (go_at_call 134;refine(take_some _ HRD2.out HT.out).mono ?_)
     rintro e w3 ⟨rfl,hrd3,hq3⟩;have hgw3:=grown_trans hgw2 hq3;have hby3:=box_grown HBY2.out hq3 (by omega);have hbr3:=box_grown HBR2.out hq3 (by omega);have hks3:=HKS2.out.keep (Kept.grown hq3 fun b hb=>by have:B≤b∧b≠w.heap.size+1∧b≠w.heap.size+3:=hb;omega);have HKS3:=Lib.hid hks3;have HRD3:=Lib.hid hrd3;have HR:=HRR;obtain⟨f0,f1,f2,f3,f4,f5,f6,f7,f8⟩:=bx_cells (c:=[]) hby3;obtain⟨e0,e1,e2,e3,e4,e5,e6,e7,e8⟩:=bx_cells (c:=[]) hbr3;clear hby3 hbr3 hks3 hrd3 hq3;go_wp2
     refine bodyPost_ret (v:=.tuple #[.agg #[.int .i64 7,.string ⟨([]).toArray⟩,.bool false,.slice none ([]:List Row).length 0,.int .i64 lo2,.int .i64 hi2,.bool true,.slice (some ⟨w.heap.size+1+1,0,none⟩) [Rx.mk k c ng rs lo hi lz ks].length 1],.int .i64 0]) (by simp [results,Tryz.results122,go_sem,f0,f1,f2,f3,f4,f5,f6,f7]) rfl ?_;refine⟨?_,?_⟩
     ·iterate 9 (refine grown_setNew ?_ (by first|omega|(simp;done)|(simp;omega)) _)
      exact hgw3
     rw [←HR.out];refine⟨rxc 7 [] false none ([]:List Row).length 0 lo2 hi2 true (some ⟨w.heap.size+1+1,0,none⟩) [Rx.mk k c ng rs lo hi lz ks].length 1,rfl,RxV.mono (S:=fun b=>B≤b∧b≠w.heap.size+1∧b≠w.heap.size+3) (fun b hb _=>hb.1) ?_,?_⟩
     ·iterate 9 (refine RxV.keep (Kept.setLow _ (fun b hb=>by have:B≤b∧b≠w.heap.size+1∧b≠w.heap.size+3:=hb;first|omega|(simp;done)|(simp;omega))) ?_)
      exact(RxV.close (SlS.none_ _ _ _ _) HKS3.out)
     ·iterate 9 (refine RdT.setHi ?_ (by first|omega|(simp;done)|(simp;omega)) _)
      exact HRD3.out
  have g42:(p==[42])=false:=beq_eq_false_iff_ne.2 h42;have g43:(p==[43])=false:=beq_eq_false_iff_ne.2 h43;have g63:(p==[63])=false:=beq_eq_false_iff_ne.2 h63;have g123:(p==[123])=false:=beq_eq_false_iff_ne.2 h123;have HR:Hid (Except.ok ((.mk k c ng rs lo hi lz ks),p::r1)=R):=Lib.hid (by rw [←hR];simp [quantM,h42,h43,h63,h123]);clear hR h42 h43 h63 h123;go_enter Tryz.func122,Tryz.ntmps122
  go_wp2_with (go_at_call 90;refine(see_any _ HRD.out).mono ?_)
  rintro e w1 ⟨rfl,hst⟩;rw [←HW0.out] at hst;have hgw1:=grown_trans hgg (hst.grown (some g));have hbl1:=hst.below w0.heap.size;have hby1:=(hbl1.block _ (heap_lt HBY0.out)).trans HBY0.out;have hbr1:=(hbl1.block _ (heap_lt HBR0.out)).trans HBR0.out;have hrd1:=hst.rd (HW0.out▸HRD.out:Rd w0 g _ d);have HKS1:=Lib.hid (HKS.out.later hbl1);clear hst;try rw [hdS_cons]
  have hbx1:=(hbl1.block _ (heap_lt HBX0.out)).trans HBX0.out;obtain⟨f0,f1,f2,f3,f4,f5,f6,f7,f8⟩:=bx_cells (c:=[]) hby1;obtain⟨e0,e1,e2,e3,e4,e5,e6,e7,e8⟩:=bx_cells hbx1;have HRD1:=Lib.hid hrd1;clear hby1 hbr1 hbx1 hrd1;go_wp2
  have hxs1:=HXS.out.later hbl1;refine bodyPost_ret (v:=.tuple #[.agg #[.int .i64 k,.string ⟨(c).toArray⟩,.bool ng,.slice ra rs.length rc,.int .i64 lo,.int .i64 hi,.bool lz,.slice ka ks.length kc],.int .i64 0]) (by simp [results,Tryz.results122,go_sem,f0,f1,f2,f3,f4,f5,f6,f7]) rfl ?_;refine⟨?_,?_⟩
  ·iterate 8 (refine grown_setNew ?_ (by first|omega|(simp;done)|(simp;omega)) _)
   exact hgw1
  rw [←HR.out];refine⟨rxc k c ng ra rs.length rc lo hi lz ka ks.length kc,rfl,RxV.mono (S:=fun b=>B≤b∧b≠w.heap.size+1∧b≠w.heap.size+3) (fun b hb _=>hb.1) ?_,?_⟩
  ·iterate 8 (refine RxV.keep (Kept.setLow _ (fun b hb=>by have:B≤b∧b≠w.heap.size+1∧b≠w.heap.size+3:=hb;first|omega|(simp;done)|(simp;omega))) ?_)
   exact hxs1
  ·iterate 8 (refine RdT.setHi ?_ (by first|omega|(simp;done)|(simp;omega)) _)
   exact HRD1.out
end Go.Proofs.YtbgcjpefocdkkaaGreat
set_option maxRecDepth 100000
namespace Go.Proofs.YtbgcjpefocdkkaaGreat
open Go.RowKit
def Pl (x:List Value) (w:World) (g:Nat) (s:Str) (i:Nat):Prop:=w.heap[g]?=some (.cells (.string ⟨(s).toArray⟩::.int .i64 i::x).toArray 46 (0,0))∧i≤s.length∧s.length≤1000000
theorem Pl.c0 {x:List Value} {w:World} {g:Nat} {s:Str} {i:Nat} (h:Pl x w g s i):w.cell? ⟨g,0,none⟩=some (.string ⟨(s).toArray⟩):=by rw [Lib.cell_of_heap h.1];rfl
theorem Pl.c1 {x:List Value} {w:World} {g:Nat} {s:Str} {i:Nat} (h:Pl x w g s i):w.cell? ⟨g,1,none⟩=some (.int .i64 i):=by rw [Lib.cell_of_heap h.1];rfl
theorem Pl.c2 {v:Value} {w:World} {g:Nat} {s:Str} {i:Nat} (h:Pl [v] w g s i):w.cell? ⟨g,2,none⟩=some v:=by rw [Lib.cell_of_heap h.1];rfl
theorem Pl.free {x:List Value} {w:World} {g:Nat} {s:Str} {i:Nat} (h:Pl x w g s i) (j:Nat):w.frozen? ⟨g,j,none⟩=false:=by unfold World.frozen?;rw [h.1];rfl
theorem Pl.lt {x:List Value} {w:World} {g:Nat} {s:Str} {i:Nat} (h:Pl x w g s i):g<w.heap.size:=heap_lt h.1
theorem Pl.later {x:List Value} {w w':World} {g:Nat} {s:Str} {i:Nat} (h:Pl x w g s i) (hb:Below w.heap.size w w'):Pl x w' g s i:=⟨(hb.block g (heap_lt h.1)).trans h.1,h.2⟩
theorem Pl.set {x:List Value} {w:World} {g:Nat} {s:Str} {i:Nat} (h:Pl x w g s i) {j:Nat} (hj:j≤s.length):Pl x (w.setCell ⟨g,1,none⟩ (.int .i64 j)) g s j :=
 ⟨by rw [heap_setCell_same w _ _ _ _ _ h.1];rfl,hj,h.2.2⟩
theorem Pl.setHi {x:List Value} {w:World} {g:Nat} {s:Str} {i:Nat} (h:Pl x w g s i) {a:Addr} (ha:a.block≠g) (u:Value):Pl x (w.setCell a u) g s i :=
 ⟨(heap_setCell_other w a g u (Ne.symm ha)).trans h.1,h.2⟩
theorem HasPrefix_any (l p:Str) (w:World) (_hs:l.length≤100000000) (_hp:p.length≤100000000) :
  Calls Tryz.prog 34 #[.string ⟨(l).toArray⟩,.string ⟨(p).toArray⟩] w fun e w'=>e=.returned (.bool (p.isPrefixOf l))∧w=w':=by
 generalize hR:List.isPrefixOf p l=R
 have HR:=Lib.hid hR;clear hR;go_enter Tryz.func34,Tryz.ntmps34
 go_wp2
 ·go_ret;refine⟨?_,rfl⟩;rw [←HR.out,pre_eq];try simp
 ·rename_i h2
  go_ret;refine⟨?_,rfl⟩;rw [←HR.out,pre_eq]
  have:(List.take p.length l)≠p:=fun h=>by
   have:=congrArg List.length h;simp at this;omega
  simp [this]
set_option maxHeartbeats 400000 in
theorem see_s {x:List Value} {g:Nat} {s p:Str} {i:Nat} (w:World) (h:Pl x w g s i) (hp:p.length≤1000) :
  Calls Tryz.prog 20 #[.pointer (some ⟨g,0,none⟩),.string ⟨(p).toArray⟩] w fun e w'=>e=.returned (.bool (p.isPrefixOf (s.drop i)))∧Below w.heap.size w w':=by
 generalize hR:p.isPrefixOf (s.drop i)=R
 have HR:=Lib.hid hR;clear hR;have d0:∀x':ExtOf w,x'.val.cell? ⟨g,0,none⟩=some (.string ⟨(s).toArray⟩):=ExtOf.cell h.c0;have d1:∀x':ExtOf w,x'.val.cell? ⟨g,1,none⟩=some (.int .i64 i):=ExtOf.cell h.c1;have hi:=h.2.1;have hl:=h.2.2;have gk0:(0:Int)≤(i:Int):=by omega
 have gk1:(i:Int)≤(s.length:Int):=by omega
 have gk2:((i:Int)).toNat=i:=by omega
 have HP:Hid (∀w,Calls Tryz.prog 34 #[.string ⟨(s.drop i).toArray⟩,.string ⟨(p).toArray⟩] w fun e w'=>e=.returned (.bool R)∧Below w.heap.size w w'):=Lib.hid fun w=>by
  have:=HasPrefix_any (s.drop i) p w (by simp;omega) (by omega)
  rw [HR.out] at this;exact this.mono fun _ _ ⟨h1,h2⟩=>⟨h1,h2▸Below.refl _ _⟩
 clear h;go_enter Tryz.func20,Tryz.ntmps20
 go_wp2
 refine wp_region_ext (by kernel_rfl) (by kernel_rfl) ?_;repeat (go_big_quiet_step ((go_at_call 34;exact ext_call (HP.out _))))
 refine wpQuiet_nil ?_;rintro _ ⟨xq,rfl⟩;go_wp2
 go_ret
 exact⟨rfl,xq.ext⟩
theorem take_s_yes {x:List Value} {g:Nat} {s p:Str} {i:Nat} (w:World) (h:Pl x w g s i) (hp:p.length≤1000) (hy:p.isPrefixOf (s.drop i)=true) :
  Calls Tryz.prog 49 #[.pointer (some ⟨g,0,none⟩),.string ⟨(p).toArray⟩] w fun e w'=>e=.returned (.bool true)∧Pl x w' g s (i+p.length)∧w.grownBy w' (some g):=by
 have HS:=Lib.hid (see_s w h hp);rw [hy] at HS;have HPL:=Lib.hid h;have hj:i+p.length≤s.length:=by
  rw [List.isPrefixOf_iff_prefix] at hy;have:=hy.length_le
  have h2:=h.2.1;rw [List.length_drop] at this;omega
 have hl:=h.2.2;clear h hy;go_enter Tryz.func49,Tryz.ntmps49
 go_wp2_with (go_at_call 20;refine HS.out.mono ?_)
 rintro e w1 ⟨rfl,hst⟩;have hg1:=grown_of_below hst (some g);have h1:=HPL.out.later hst;have c1:=h1.c1;have f1:=h1.free 1;have HP2:=Lib.hid (h1.set hj);have hg2:=grown_set hg1 1 (.int .i64 ((i+p.length:Nat):Int));clear hst h1 hg1 HS HPL;push_cast at HP2 hg2
 go_wp2
 go_ret
 exact⟨rfl,HP2.out,hg2⟩
theorem take_s_no {x:List Value} {g:Nat} {s p:Str} {i:Nat} (w:World) (h:Pl x w g s i) (hp:p.length≤1000) (hy:p.isPrefixOf (s.drop i)=false) :
  Calls Tryz.prog 49 #[.pointer (some ⟨g,0,none⟩),.string ⟨(p).toArray⟩] w fun e w'=>e=.returned (.bool false)∧Pl x w' g s i∧w.grownBy w' (some g):=by
 have HS:=Lib.hid (see_s w h hp);rw [hy] at HS;have HPL:=Lib.hid h;clear h hy;go_enter Tryz.func49,Tryz.ntmps49
 go_wp2_with (go_at_call 20;refine HS.out.mono ?_)
 rintro e w1 ⟨rfl,hst⟩;have hg1:=grown_of_below hst (some g);have h1:=HPL.out.later hst;clear hst;go_wp2
 go_ret
 exact⟨rfl,h1,hg1⟩
def PlR (x:List Value) (w:World) (g:Nat) (s:Str) (i:Nat) (r:Str):Prop:=∃j,Pl x w g s j∧s.drop j=r∧i≤j
def NxtR (x:List Value) (g:Nat) (s:Str) (i:Nat) (q:UInt8 × Str) (w:World) (e:Ending) (w':World):Prop :=
 e=.returned (.int .u8 q.1.toNat)∧PlR x w' g s i q.2∧w.grownBy w' (some g)
set_option maxHeartbeats 1000000 in
theorem next_s {x:List Value} {g:Nat} {s th:Str} {i:Nat} {c:UInt8} {r:Str} (w:World) (h:Pl x w g s i) (hd:s.drop i=c::r) (_hth:th.length≤1000) :
  Calls Tryz.prog 23 #[.pointer (some ⟨g,0,none⟩),.string ⟨(th).toArray⟩] w fun e w'=>NxtR x g s i (nxtM th (c::r)) w e w':=by
 obtain⟨h2,h3c,hr⟩:=drop_cons hd;have hl:=h.2.2;have HPL:=Lib.hid h;have HSEE:Hid (∀x':ExtOf w,Calls Tryz.prog 20 #[.pointer (some ⟨g,0,none⟩),.string ⟨([92]).toArray⟩] x'.val fun e w'=>e=.returned (.bool (decide (c.toNat=92)))∧Below x'.val.heap.size x'.val w'):=Lib.hid fun x'=>(see_s (p:=[92]) _ (h.later x'.ext) (by simp)).mono fun _ _ ⟨h1,h2⟩=>⟨by rw [h1,hd,pre1];rfl,h2⟩
 have d0:∀x':ExtOf w,x'.val.cell? ⟨g,0,none⟩=some (.string ⟨(s).toArray⟩):=ExtOf.cell h.c0;have d1:∀x':ExtOf w,x'.val.cell? ⟨g,1,none⟩=some (.int .i64 i):=ExtOf.cell h.c1;clear h;by_cases h92:c.toNat=92
 ·rw [decide_eq_true h92] at HSEE
  have gw:IntKind.i64.wrap ((i:Int)+1)=(i:Int)+1:=IntWalk.i64_in _ (by omega);cases r with
  | nil =>
   have hq:nxtM th [c]=(c,[]):=rfl;have hlen:=drop_nil hr;have gg:decide (i+1<s.length)=false:=decide_eq_false (by omega);have gg2:decide ((i:Int)+1<(s.length:Int))=false:=decide_eq_false (by omega);rw [hq];clear hd hq hlen;go_enter Tryz.func23,Tryz.ntmps23
   go_wp2
   refine wp_region_ext (by kernel_rfl) (by kernel_rfl) ?_;repeat (go_big_quiet_step ((go_at_call 20;exact ext_call (HSEE.out _))))
   refine wpQuiet_nil ?_;rintro _ ⟨xq,rfl⟩;clear gg gg2 HSEE gw;have hpa:=HPL.out.later xq.ext;have hga:=grown_of_below xq.ext (some g);generalize xq.val=wa at *
   clear d0 d1;obtain⟨w4,hw4⟩:∃w4,w4=wa.setCell ⟨g,1,none⟩ (.int .i64 ((i:Int)+1)):=⟨_,rfl⟩;have HP4:Hid (Pl x w4 g s (i+1)):=Lib.hid (by have:=hpa.set (j:=i+1) (by omega);rw [hw4];push_cast at this;exact this);have hg4:w.grownBy w4 (some g):=hw4▸grown_set hga 1 _;have c1:=hpa.c1;have f1:=hpa.free 1;push_cast at c1
   go_upto_region 4 with fail
   rw [←hw4];clear hw4 hpa hga c1 f1;have e0:∀x':ExtOf w4,x'.val.cell? ⟨g,0,none⟩=some (.string ⟨(s).toArray⟩):=ExtOf.cell HP4.out.c0;have e1:∀x':ExtOf w4,x'.val.cell? ⟨g,1,none⟩=some (.int .i64 ((i:Int)+1)):=ExtOf.cell (by have:=HP4.out.c1;push_cast at this;exact this);have gw:IntKind.i64.wrap ((i:Int)+1-1)=(i:Int):=by rw [show (i:Int)+1-1=i by omega];exact IntWalk.i64_in _ (by omega)
   have gk0:(0:Int)≤(i:Int):=by omega
   have gk1:(i:Int)<(s.length:Int):=by omega
   have gk2:((i:Int)).toNat=i:=by omega
   have h3:=h3c;refine wp_region_ext (by kernel_rfl) (by kernel_rfl) ?_;repeat (go_big_quiet_step ((fail)))
   refine wpQuiet_nil ?_;rintro _ ⟨xq,rfl⟩;go_wp2
   go_ret
   refine⟨?_,⟨i+1,HP4.out.later xq.ext,hr,by omega⟩,grown_trans hg4 (grown_of_below xq.ext (some g))⟩;first|rfl|(simp;done)|(simp;omega)|(simp [h3];done)|(simp [h3];omega)
  | cons d r2 =>
   obtain⟨g2,g3,gr⟩:=drop_cons hr;have gg:decide (i+1<s.length)=true:=decide_eq_true (by omega);have gg2:decide ((i:Int)+1<(s.length:Int))=true:=decide_eq_true (by omega);have gk0:(0:Int)≤(i:Int)+1:=by omega
   have gk1:(i:Int)+1<(s.length:Int):=by omega
   have gk2:((i:Int)+1).toNat=i+1:=by omega
   cases hc:th.contains d with
   | true =>
    have hq:nxtM th (c::d::r2)=(d,r2):=by simp only [nxtM];rw [if_pos ⟨h92,hc⟩]
    obtain⟨k,hk⟩:=idx_hit hc;have HIX:Hid (∀x':ExtOf w,Calls Tryz.prog 36 #[.string ⟨(th).toArray⟩,.int .u8 d.toNat] x'.val fun e w'=>e=.returned (.int .i64 k)∧Below x'.val.heap.size x'.val w'):=Lib.hid fun x'=>(IndexByte_eq x'.val hk).mono fun _ _ ⟨h1,h2⟩=>⟨h1,h2▸Below.refl _ _⟩
    have gi:decide ((0:Int)≤(k:Int))=true:=decide_eq_true (by omega);rw [hq];clear hd hq hc hk h3c;have h3:=g3;go_enter Tryz.func23,Tryz.ntmps23
    go_wp2
    refine wp_region_ext (by kernel_rfl) (by kernel_rfl) ?_;repeat (go_big_quiet_step ((first|(go_at_call 20;exact ext_call (HSEE.out _))|(go_at_call 36;exact ext_call (HIX.out _)))))
    refine wpQuiet_nil ?_;rintro _ ⟨xq,rfl⟩;clear gg gg2 HSEE HIX gw gi gk0 gk1 gk2 h3;have hp0:=HPL.out.later xq.ext;have hg0:=grown_of_below xq.ext (some g);generalize xq.val=wz at *
    clear d0 d1;obtain⟨wa,hwa⟩:∃wa,wa=wz.setCell ⟨g,1,none⟩ (.int .i64 ((i:Int)+1)):=⟨_,rfl⟩;have hpa:Pl x wa g s (i+1):=by have:=hp0.set (j:=i+1) (by omega);rw [hwa];push_cast at this;exact this
    have hga:w.grownBy wa (some g):=hwa▸grown_set hg0 1 _;have c1:=hp0.c1;have f1:=hp0.free 1;go_upto_region 3 with fail
    rw [←hwa];clear hwa hp0 hg0 c1 f1;obtain⟨w4,hw4⟩:∃w4,w4=wa.setCell ⟨g,1,none⟩ (.int .i64 (((i+1):Int)+1)):=⟨_,rfl⟩;have HP4:Hid (Pl x w4 g s ((i+1)+1)):=Lib.hid (by have:=hpa.set (j:=(i+1)+1) (by omega);rw [hw4];push_cast at this;exact this);have hg4:w.grownBy w4 (some g):=hw4▸grown_set hga 1 _;have c1:=hpa.c1;have f1:=hpa.free 1;push_cast at c1
    go_upto_region 4 with fail
    rw [←hw4];clear hw4 hpa hga c1 f1;have e0:∀x':ExtOf w4,x'.val.cell? ⟨g,0,none⟩=some (.string ⟨(s).toArray⟩):=ExtOf.cell HP4.out.c0;have e1:∀x':ExtOf w4,x'.val.cell? ⟨g,1,none⟩=some (.int .i64 (((i+1):Int)+1)):=ExtOf.cell (by have:=HP4.out.c1;push_cast at this;exact this);have gw:IntKind.i64.wrap (((i+1):Int)+1-1)=((i+1):Int):=by rw [show ((i+1):Int)+1-1=(i+1) by omega];exact IntWalk.i64_in _ (by omega)
    have gk0:(0:Int)≤((i+1):Int):=by omega
    have gk1:((i+1):Int)<(s.length:Int):=by omega
    have gk2:(((i+1):Int)).toNat=(i+1):=by omega
    have h3:=g3;refine wp_region_ext (by kernel_rfl) (by kernel_rfl) ?_;repeat (go_big_quiet_step ((fail)))
    refine wpQuiet_nil ?_;rintro _ ⟨xq,rfl⟩;go_wp2
    go_ret
    refine⟨?_,⟨(i+1)+1,HP4.out.later xq.ext,gr,by omega⟩,grown_trans hg4 (grown_of_below xq.ext (some g))⟩;first|rfl|(simp;done)|(simp;omega)|(simp [h3];done)|(simp [h3];omega)
   | false =>
    have hq:nxtM th (c::d::r2)=(c,d::r2):=by simp only [nxtM];rw [if_neg (fun e=>by rw [hc] at e;cases e.2)]
    have hk:=idx_miss (th:=th) (c:=d) (by rw [hc];decide);have HIX:Hid (∀x':ExtOf w,Calls Tryz.prog 36 #[.string ⟨(th).toArray⟩,.int .u8 d.toNat] x'.val fun e w'=>e=.returned (.int .i64 (-1))∧Below x'.val.heap.size x'.val w'):=Lib.hid fun x'=>(IndexByte_eq x'.val hk).mono fun _ _ ⟨h1,h2⟩=>⟨h1,h2▸Below.refl _ _⟩
    rw [hq];clear hd hq hc hk;have h3:=g3;go_enter Tryz.func23,Tryz.ntmps23
    go_wp2
    refine wp_region_ext (by kernel_rfl) (by kernel_rfl) ?_;repeat (go_big_quiet_step ((first|(go_at_call 20;exact ext_call (HSEE.out _))|(go_at_call 36;exact ext_call (HIX.out _)))))
    refine wpQuiet_nil ?_;rintro _ ⟨xq,rfl⟩;clear gg gg2 HSEE HIX gw gk0 gk1 gk2 h3;have hpa:=HPL.out.later xq.ext;have hga:=grown_of_below xq.ext (some g);generalize xq.val=wa at *
    clear d0 d1;obtain⟨w4,hw4⟩:∃w4,w4=wa.setCell ⟨g,1,none⟩ (.int .i64 ((i:Int)+1)):=⟨_,rfl⟩;have HP4:Hid (Pl x w4 g s (i+1)):=Lib.hid (by have:=hpa.set (j:=i+1) (by omega);rw [hw4];push_cast at this;exact this);have hg4:w.grownBy w4 (some g):=hw4▸grown_set hga 1 _;have c1:=hpa.c1;have f1:=hpa.free 1;push_cast at c1
    go_upto_region 4 with fail
    rw [←hw4];clear hw4 hpa hga c1 f1;have e0:∀x':ExtOf w4,x'.val.cell? ⟨g,0,none⟩=some (.string ⟨(s).toArray⟩):=ExtOf.cell HP4.out.c0;have e1:∀x':ExtOf w4,x'.val.cell? ⟨g,1,none⟩=some (.int .i64 ((i:Int)+1)):=ExtOf.cell (by have:=HP4.out.c1;push_cast at this;exact this);have gw:IntKind.i64.wrap ((i:Int)+1-1)=(i:Int):=by rw [show (i:Int)+1-1=i by omega];exact IntWalk.i64_in _ (by omega)
    have gk0:(0:Int)≤(i:Int):=by omega
    have gk1:(i:Int)<(s.length:Int):=by omega
    have gk2:((i:Int)).toNat=i:=by omega
    have h3:=h3c;refine wp_region_ext (by kernel_rfl) (by kernel_rfl) ?_;repeat (go_big_quiet_step ((fail)))
    refine wpQuiet_nil ?_;rintro _ ⟨xq,rfl⟩;go_wp2
    go_ret
    refine⟨?_,⟨i+1,HP4.out.later xq.ext,hr,by omega⟩,grown_trans hg4 (grown_of_below xq.ext (some g))⟩;first|rfl|(simp;done)|(simp;omega)|(simp [h3];done)|(simp [h3];omega)
 ·rw [decide_eq_false h92] at HSEE
  have hq:nxtM th (c::r)=(c,r):=by
   cases r with
   | nil=>rfl
   | cons d r2=>simp only [nxtM];rw [if_neg (fun e=>h92 e.1)]
  rw [hq];clear hd hq;go_enter Tryz.func23,Tryz.ntmps23
  go_wp2
  refine wp_region_ext (by kernel_rfl) (by kernel_rfl) ?_;repeat (go_big_quiet_step ((go_at_call 20;exact ext_call (HSEE.out _))))
  refine wpQuiet_nil ?_;rintro _ ⟨xq,rfl⟩;clear HSEE;have hpa:=HPL.out.later xq.ext;have hga:=grown_of_below xq.ext (some g);generalize xq.val=wa at *
  clear d0 d1;obtain⟨w4,hw4⟩:∃w4,w4=wa.setCell ⟨g,1,none⟩ (.int .i64 ((i:Int)+1)):=⟨_,rfl⟩;have HP4:Hid (Pl x w4 g s (i+1)):=Lib.hid (by have:=hpa.set (j:=i+1) (by omega);rw [hw4];push_cast at this;exact this);have hg4:w.grownBy w4 (some g):=hw4▸grown_set hga 1 _;have c1:=hpa.c1;have f1:=hpa.free 1;push_cast at c1
  go_upto_region 4 with fail
  rw [←hw4];clear hw4 hpa hga c1 f1;have e0:∀x':ExtOf w4,x'.val.cell? ⟨g,0,none⟩=some (.string ⟨(s).toArray⟩):=ExtOf.cell HP4.out.c0;have e1:∀x':ExtOf w4,x'.val.cell? ⟨g,1,none⟩=some (.int .i64 ((i:Int)+1)):=ExtOf.cell (by have:=HP4.out.c1;push_cast at this;exact this);have gw:IntKind.i64.wrap ((i:Int)+1-1)=(i:Int):=by rw [show (i:Int)+1-1=i by omega];exact IntWalk.i64_in _ (by omega)
  have gk0:(0:Int)≤(i:Int):=by omega
  have gk1:(i:Int)<(s.length:Int):=by omega
  have gk2:((i:Int)).toNat=i:=by omega
  have h3:=h3c;refine wp_region_ext (by kernel_rfl) (by kernel_rfl) ?_;repeat (go_big_quiet_step ((fail)))
  refine wpQuiet_nil ?_;rintro _ ⟨xq,rfl⟩;go_wp2
  go_ret
  refine⟨?_,⟨i+1,HP4.out.later xq.ext,hr,by omega⟩,grown_trans hg4 (grown_of_below xq.ext (some g))⟩;first|rfl|(simp;done)|(simp;omega)|(simp [h3];done)|(simp [h3];omega)
end Go.Proofs.YtbgcjpefocdkkaaGreat
set_option maxRecDepth 100000
namespace Go.Proofs.YtbgcjpefocdkkaaGreat
open Go.RowKit
def NumS (x:List Value) (g:Nat) (s:Str) (i:Nat) (R:Option (Nat × Str)) (w:World) (e:Ending) (w':World):Prop:=w.grownBy w' (some g) ∧
 match R with
 | none=>e=.returned (.tuple #[.int .i64 0,.bool false])∧Pl x w' g s i
 | some (n,r)=>n<10000∧e=.returned (.tuple #[.int .i64 n,.bool true])∧∃j,Pl x w' g s j∧s.drop j=r∧i<j
def NumSRel (x:List Value) (g:Nat) (s:Str) (i:Nat) (R:Option (Nat × Str)) (w:World) (n q:Value) (wr:World):Prop :=
 ∃k m:Nat,k≤4∧i+k≤s.length∧m<10 ^ k∧q=.int .i64 ((i+k:Nat):Int)∧n=.int .i64 (m:Int)∧Pl x wr g s i∧w.grownBy wr (some g)∧Hid (numLF (s.drop (i+k)) k m=R)
set_option maxHeartbeats 1000000 in
theorem number_s {x:List Value} {g:Nat} {s:Str} {i:Nat} (w:World) (h:Pl x w g s i) :
  Calls Tryz.prog 50 #[.pointer (some ⟨g,0,none⟩)] w fun e w'=>NumS x g s i (numRF (s.drop i)) w e w':=by
 obtain⟨R,hR⟩:∃R,numRF (s.drop i)=R:=⟨_,rfl⟩;rw [hR];have HR:Hid (numLF (s.drop (i+0)) 0 0=R):=Lib.hid hR;have HPL:=Lib.hid h;have hi:=h.2.1;have hl:=h.2.2;have d1:∀x':ExtOf w,x'.val.cell? ⟨g,1,none⟩=some (.int .i64 i):=ExtOf.cell h.c1;clear h hR;go_enter Tryz.func50,Tryz.ntmps50
 go_wp2
 refine wp_region_ext (by kernel_rfl) (by kernel_rfl) ?_;repeat (go_big_quiet_step ((fail)))
 refine wpQuiet_nil ?_;rintro _ ⟨xq,rfl⟩;have hpq:=HPL.out.later xq.ext;have hgq:=grown_of_below xq.ext (some g);generalize xq.val=wq at *
 clear d1 HPL;have HPQ:=Lib.hid hpq;have HGQ:=Lib.hid hgq;clear hpq hgq;go_wp2
 go_loopw [4,5] (fun n q wr=>NumSRel x g s i R w n q wr) (fun _ q _=>s.length-(intOf q).toNat)
 case atStart=>exact⟨0,0,by omega,by omega,by simp,rfl,rfl,HPQ.out,HGQ.out,HR⟩
 case round =>
  obtain⟨k,m,hk,hik,hm,rfl,rfl,hpl,hg,HF⟩:=hrel;clear HR HPQ HGQ;have hm4:m<10000:=Nat.lt_of_lt_of_le hm (Nat.pow_le_pow_right (by omega) hk);have Hm:=Lib.hid hm;have HP:=Lib.hid hpl;have c0:=hpl.c0;have c1:=hpl.c1;have f1:=hpl.free 1;have HP2:=Lib.hid (hpl.set (j:=i+k) hik);have hg2:=grown_set hg 1 (.int .i64 ((i+k:Nat):Int));clear hm hpl;cases hd:s.drop (i+k) with
  | nil =>
   have h2:=drop_nil hd;have HF':Hid (numLF [] k m=R):=Lib.hid (by rw [←hd];exact HF.out);have HD:Hid (s.drop (i+k)=[]):=Lib.hid hd;clear hd HF;have gl:decide (i+k<s.length)=false:=decide_eq_false (by omega);have gl2:decide (((i+k:Nat):Int)<(s.length:Int))=false:=decide_eq_false (by omega);push_cast at gl2
   by_cases hk0:k=0
   ·subst hk0
    have hRn:Hid (R=none):=Lib.hid (by rw [←HF'.out];(simp [numLF]));have gb:((i:Int)+0==(i:Int))=true:=by simp
    try simp only [Nat.add_zero] at h2 h3
    first|(have gl5:decide ((i:Int)<(s.length:Int))=true:=decide_eq_true (by omega))|(have gl5:decide ((i:Int)<(s.length:Int))=false:=decide_eq_false (by omega))
    go_wp2
    go_ret2
    exact⟨hg,by rw [hRn.out];exact⟨rfl,HP.out⟩⟩
   ·have hRs:Hid (R=some (m,[])):=Lib.hid (by rw [←HF'.out];(simp [numLF];omega))
    have gb:((i:Int)+(k:Int)==(i:Int))=false:=by rw [beq_eq_false_iff_ne];omega
    have gb2:(((i+k:Nat):Int)==(i:Int))=false:=by rw [beq_eq_false_iff_ne];omega
    go_wp2
    go_ret2
    exact⟨hg2,by rw [hRs.out];exact⟨hm4,rfl,i+k,HP2.out,HD.out,by omega⟩⟩
  | cons c r =>
   obtain⟨h2,h3,hr⟩:=drop_cons hd;have HF':Hid (numLF (c::r) k m=R):=Lib.hid (by rw [←hd];exact HF.out);have Hr:=Lib.hid hr;have HD:=Lib.hid hd;have gl:decide (i+k<s.length)=true:=decide_eq_true (by omega);have gl2:decide (((i+k:Nat):Int)<(s.length:Int))=true:=decide_eq_true (by omega);push_cast at gl2
   clear hd HF hr;by_cases hdg:48≤c.toNat∧c.toNat≤57
   ·by_cases hk4:k=4
    ·subst hk4
     have hRn:Hid (R=none):=Lib.hid (by rw [←HF'.out];unfold numLF;rw [if_pos hdg,if_pos rfl]);have hz:((i:Int)+4-i==4)=true:=by rw [beq_iff_eq];omega
     obtain⟨d1,d2⟩:=hdg;go_wp2
     go_ret2
     exact⟨hg,by rw [hRn.out];exact⟨rfl,HP.out⟩⟩
    ·have HF2:Hid (numLF r (k+1) (10*m+(c.toNat-48))=R):=Lib.hid (by have h:=HF'.out;unfold numLF at h;rw [if_pos hdg,if_neg hk4] at h;exact h)
     have hz:((i:Int)+k-i==4)=false:=by rw [beq_eq_false_iff_ne];omega
     obtain⟨d1,d2⟩:=hdg;go_wp2
     go_roundw
     case rel =>
      refine⟨k+1,10*m+(c.toNat-48),by omega,by omega,?_,by go_num,?_,HP.out,hg,?_⟩
      ·have:=Hm.out;rw [Nat.pow_succ];omega
      ·congr 1;omega
      ·exact Lib.hid (by rw [show i+(k+1)=i+k+1 from rfl,Hr.out];exact HF2.out)
     case measure=>simp [intOf];omega
   ·by_cases d1:48≤c.toNat
    ·have d2:¬c.toNat≤57:=fun e=>hdg ⟨d1,e⟩
     have q1:decide (48≤c.toNat)=true:=decide_eq_true d1;have q2:decide (c.toNat≤57)=false:=decide_eq_false d2;by_cases hk0:k=0
     ·subst hk0
      have hRn:Hid (R=none):=Lib.hid (by rw [←HF'.out];(unfold numLF;rw [if_neg hdg,if_neg (by omega)]));have gb:((i:Int)+0==(i:Int))=true:=by simp
      try simp only [Nat.add_zero] at h2 h3
      first|(have gl5:decide ((i:Int)<(s.length:Int))=true:=decide_eq_true (by omega))|(have gl5:decide ((i:Int)<(s.length:Int))=false:=decide_eq_false (by omega))
      go_wp2
      go_ret2
      exact⟨hg,by rw [hRn.out];exact⟨rfl,HP.out⟩⟩
     ·have hRs:Hid (R=some (m,c::r)):=Lib.hid (by rw [←HF'.out];(unfold numLF;rw [if_neg hdg,if_pos (by omega)]))
      have gb:((i:Int)+(k:Int)==(i:Int))=false:=by rw [beq_eq_false_iff_ne];omega
      have gb2:(((i+k:Nat):Int)==(i:Int))=false:=by rw [beq_eq_false_iff_ne];omega
      go_wp2
      go_ret2
      exact⟨hg2,by rw [hRs.out];exact⟨hm4,rfl,i+k,HP2.out,HD.out,by omega⟩⟩
    ·have q1:decide (48≤c.toNat)=false:=decide_eq_false d1
     by_cases hk0:k=0
     ·subst hk0
      have hRn:Hid (R=none):=Lib.hid (by rw [←HF'.out];(unfold numLF;rw [if_neg hdg,if_neg (by omega)]));have gb:((i:Int)+0==(i:Int))=true:=by simp
      try simp only [Nat.add_zero] at h2 h3
      first|(have gl5:decide ((i:Int)<(s.length:Int))=true:=decide_eq_true (by omega))|(have gl5:decide ((i:Int)<(s.length:Int))=false:=decide_eq_false (by omega))
      go_wp2
      go_ret2
      exact⟨hg,by rw [hRn.out];exact⟨rfl,HP.out⟩⟩
     ·have hRs:Hid (R=some (m,c::r)):=Lib.hid (by rw [←HF'.out];(unfold numLF;rw [if_neg hdg,if_pos (by omega)]))
      have gb:((i:Int)+(k:Int)==(i:Int))=false:=by rw [beq_eq_false_iff_ne];omega
      have gb2:(((i+k:Nat):Int)==(i:Int))=false:=by rw [beq_eq_false_iff_ne];omega
      go_wp2
      go_ret2
      exact⟨hg2,by rw [hRs.out];exact⟨hm4,rfl,i+k,HP2.out,HD.out,by omega⟩⟩
end Go.Proofs.YtbgcjpefocdkkaaGreat
