/- walk of rxread.Read -/
import Derived.Test.YtbnkaecmgfolpaaGreatJb21
import Derived.Test.YtbnkaecmgfolpaaGreatJb18
import Derived.Lib.ItoaMem
set_option maxRecDepth 100000
set_option maxHeartbeats 4000000
namespace Go.Proofs.YtbnkaecmgfolpaaGreat
open Go.RowKit
theorem rF:∀n:Nat,PatC n
 | 0=>fun _ _ _ _ _ h _=>by omega
 | n+1=>qr (rF n)
theorem na:∀(k:Nat) (l:Str),(∀p∈iI k l,p≠[]∧p.length≤l.length)∧(iI k l).length≤l.length
 | 0,_=>by simp [iI]
 | _+1,[]=>by simp [iI]
 | k+1,c::r=>by
  obtain⟨i1,i2⟩:=na k (r.dropWhile gU);have hd:(r.dropWhile gU).length≤r.length:=(List.dropWhile_suffix gU).length_le;have ht:(r.takeWhile gU).length≤r.length:=(List.takeWhile_prefix gU).length_le;refine⟨fun p hp=>?_,by simp only [iI,xg];omega⟩;simp only [iI,xo] at hp;rcases hp with rfl|hp
  ·exact⟨by simp,by simp;omega⟩
  ·have:=i1 p hp;exact⟨this.1,by simp;omega⟩
def ReadPost (B:Nat) (w:World) (res:Except Int Rx) (e:Ending) (w':World):Prop:=Below w.heap.size w w'∧match res with
 | .error q=>e=.returned (.tuple #[rxv0,.int .i64 q])
 | .ok x=>∃cc:List Value,e=.returned (.tuple #[.agg cc.toArray,.int .i64 0])∧RxV w' (fun b=>B≤b) cc x
theorem s5 {w w2 w5:World} {g:Nat} (h:Below w.heap.size w w2) (hg:w2.grownBy w5 (some g)) (hB:w.heap.size≤g):Below w.heap.size w w5 :=
 ⟨hg.os.trans h.os,hg.tape.trans h.tape,hg.output.trans h.output,xb h.size hg.size,fun k hk=>(hg.block k (by have:=h.size;omega) (by
  first
  | omega
  | (intro e;injection e with e;omega))).trans (h.block k hk)⟩
def SplitRes (L:List Str) (w:World) (e:Ending) (w':World):Prop:=∃(a:Option Addr) (c:Nat),e=.returned (.slice a L.length c)∧SlS w' (fun b=>w.heap.size≤b) a 1 L.length (i6 L)∧Below w.heap.size w w'
theorem pU (s:Str) (w:World) (hs:s.length≤1000000) :
  Calls Tryz.prog 20 #[.string ⟨s.toArray⟩] w fun e w'=>ReadPost w.heap.size w (oN s) e w':=by
 obtain⟨R,hR⟩:∃R,oN s=R:=⟨_,rfl⟩;rw [hR];unfold oN at hR;by_cases hl:256<s.length
 ·rw [wU hl] at hR
  have HR:=ab hR;clear hR;have hbl:Below w.heap.size w (w.alloc (.cells #[.int .i64 0,.string ⟨#[]⟩,.bool false,.slice none 0 0,.int .i64 0,.int .i64 0,.bool false,.slice none 0 0] 25)):=(Below.refl _ _).alloc (wY _) _;have hby:(w.alloc (.cells #[.int .i64 0,.string ⟨#[]⟩,.bool false,.slice none 0 0,.int .i64 0,.int .i64 0,.bool false,.slice none 0 0] 25)).heap[w.heap.size]?=some (.cells #[.int .i64 0,.string ⟨#[]⟩,.bool false,.slice none 0 0,.int .i64 0,.int .i64 0,.bool false,.slice none 0 0] 25 (0,0)):=heap_alloc_new w _;obtain⟨f0,f1,f2,f3,f4,f5,f6,f7,f8⟩:=gK (c:=[]) hby;clear hby;go_enter Tryz.func20,Tryz.ntmps20
  go_wp2
  refine xE (v:=.tuple #[.agg #[.int .i64 0,.string ⟨[].toArray⟩,.bool false,.slice none 0 0,.int .i64 0,.int .i64 0,.bool false,.slice none 0 0],.int .i64 4]) eP rfl ?_;refine⟨?_,?_⟩
  ·iterate 0 (refine Below.setCell ?_ ex _)
   exact hbl
  ·rw [←HR.out];rfl
 rw [wX hl] at hR;obtain⟨L,hL⟩:∃L,gM s=L:=⟨_,rfl⟩;have hf:=na s.length s;have hf1:∀p∈L,p≠[]∧p.length≤1000000:=fun p hp=>by
  rw [←hL] at hp;have:=hf.1 p hp
  exact⟨this.1,by omega⟩
 have hf2:L.length≤200000:=by rw [←hL];have:=hf.2;unfold gM;omega
 have hf3:L.length≤256:=by rw [←hL];have:=hf.2;unfold gM;omega
 rw [hL] at hR;have HSP:Hid (∀w,Calls Tryz.prog 19 #[.string ⟨s.toArray⟩] w fun e w'=>SplitRes L w e w'):=ab (fun w=>hL▸oC s w hs);clear hf;cases s with
 | nil =>
  obtain rfl:L=[]:=by rw [←hL];rfl
  have HR:Hid (rJ []=R):=ab hR;clear hR hL;have HF1:=ab hf1;clear hf1;obtain⟨w0,hw0⟩:∃w0,w0=w.alloc (.cells #[.int .i64 0,.string ⟨#[]⟩,.bool false,.slice none 0 0,.int .i64 0,.int .i64 0,.bool false,.slice none 0 0] 25):=⟨_,rfl⟩;obtain⟨hb0,hz0e,hby0⟩:=ij w hw0;have HW0:=ab hw0;have HBY0:=ab hby0;have hz0:w.heap.size+1≤w0.heap.size:=eu;clear hw0 hby0 hz0e;go_enter Tryz.func20,Tryz.ntmps20
  go_wp2_with (go_at_call 19;refine(HSP.out _).mono ?_)
  rintro e w1 hq;obtain⟨a,k,rfl,hsl,hb1⟩:=hq;rw [←HW0.out] at hsl hb1;have hz1:=hb1.size;obtain⟨w2,hw2⟩:∃w2,w2=w1.alloc (.cells #[.slice a 0 k,.int .i64 0,.int .i64 0] 93):=⟨_,rfl⟩;obtain⟨hb2,hz2e,hbr2⟩:=ij w1 hw2;have hz2:w1.heap.size+1≤w2.heap.size:=eu;have HCH:=ab (hsl.keep (Kept.all hb2));have HRD2:Hid (Rd w2 w1.heap.size (([]:List Str)) 0):=ab ⟨a,k,([]:List Str),0,hbr2,(hsl.mono (S':=fun b=>b<w1.heap.size) fun b _ h=>h).keep (Kept.all hb2),hf2,by omega,HF1.out,rfl⟩;have hbw2:Below w.heap.size w w2:=(hb0.trans (hb1.mono eu)).trans (hb2.mono eu);have HBY2:=ab ((hb2.block _ (gI ((hb1.block _ (gI HBY0.out)).trans HBY0.out))).trans ((hb1.block _ (gI HBY0.out)).trans HBY0.out));clear hsl hb1 hz2e hb0;go_upto_region 6 with fail
  rw [←hw2];clear hw2;have HPAT:=ab (rF ((([]:List Str)).length+1) w1.heap.size 0 (([]:List Str)) w2 HRD2.out eu eu);go_wp2_with (go_at_call 42;refine HPAT.out.mono ?_)
  rintro e w5 hq;clear HPAT;cases hpr:patF ((([]:List Str)).length+1) (([]:List Str)) 0 with
  | error q =>
   exact aQ
  | ok y =>
   exact av
 | cons b t =>
  obtain⟨c,r,rfl⟩:∃c r,L=c::r:=by rw [←hL];exact⟨_,_,rfl⟩
  generalize hss:b::t=s at *
  have hs1:List.isEmpty s=false:=by rw [←hss];rfl
  have hs2:(!List.isEmpty s)=true:=by rw [hs1];rfl
  clear hss hL;have hcl:=(hf1 c (xt ..)).2;have HF1:=ab hf1;clear hf1;cases hpb:iW c with
  | false =>
   have HR:Hid (Except.error 10=R):=ab (by rw [←hR];simp [hpb]);have HPB:=ab hpb;clear hR hpb;obtain⟨w0,hw0⟩:∃w0,w0=w.alloc (.cells #[.int .i64 0,.string ⟨#[]⟩,.bool false,.slice none 0 0,.int .i64 0,.int .i64 0,.bool false,.slice none 0 0] 25):=⟨_,rfl⟩;obtain⟨hb0,hz0e,hby0⟩:=ij w hw0;have HW0:=ab hw0;have HBY0:=ab hby0;have hz0:w.heap.size+1≤w0.heap.size:=eu;clear hw0 hby0 hz0e;go_enter Tryz.func20,Tryz.ntmps20
   go_wp2_with (go_at_call 19;refine(HSP.out _).mono ?_)
   rintro e w1 hq;obtain⟨a,k,rfl,hsl,hb1⟩:=hq;rw [←HW0.out] at hsl hb1;have hz1:=hb1.size;obtain⟨w2,hw2⟩:∃w2,w2=w1.alloc (.cells #[.slice a (r.length+1) k,.int .i64 0,.int .i64 0] 93):=⟨_,rfl⟩;obtain⟨hb2,hz2e,hbr2⟩:=ij w1 hw2;have hz2:w1.heap.size+1≤w2.heap.size:=eu;have HCH:=ab (hsl.keep (Kept.all hb2));have HRD2:Hid (Rd w2 w1.heap.size (c::r) 0):=ab ⟨a,k,c::r,0,hbr2,(hsl.mono (S':=fun b=>b<w1.heap.size) fun b _ h=>h).keep (Kept.all hb2),hf2,by omega,HF1.out,rfl⟩;have hbw2:Below w.heap.size w w2:=(hb0.trans (hb1.mono eu)).trans (hb2.mono eu);have HBY2:=ab ((hb2.block _ (gI ((hb1.block _ (gI HBY0.out)).trans HBY0.out))).trans ((hb1.block _ (gI HBY0.out)).trans HBY0.out));clear hsl hb1 hz2e hb0;go_upto_region 4 with fail
   rw [←hw2];clear hw2;obtain⟨cb,co,rfl,_,kc⟩:=HCH.out.sl.str (k:=0) (p:=c) rfl;have kc':w2.cell? ⟨cb,co,none⟩=some (.string ⟨c.toArray⟩):=kc;have c0:w2.cell? ⟨w1.heap.size,0,none⟩=some (.slice (some ⟨cb,co,none⟩) (r.length+1) k):=by rw [xe hbr2];rfl
   have HPR:Hid (Calls Tryz.prog 22 #[.string ⟨c.toArray⟩] w2 fun e w'=>e=.returned (.bool false)∧w2=w'):=ab (HPB.out▸jI c w2 eu);clear kc;go_wp2_with (go_at_call 22;refine HPR.out.mono ?_)
   rintro e wq ⟨rfl,rfl⟩;have HBYq:=HBY2;have hbwq:=hbw2;clear kc' c0 HPR;obtain⟨f0,f1,f2,f3,f4,f5,f6,f7,f8⟩:=gK (c:=[]) HBYq.out;go_wp2
   refine xE (v:=.tuple #[.agg #[.int .i64 0,.string ⟨[].toArray⟩,.bool false,.slice none 0 0,.int .i64 0,.int .i64 0,.bool false,.slice none 0 0],.int .i64 10]) eP rfl ?_;refine⟨?_,?_⟩
   ·iterate 8 (refine Below.setCell ?_ ex _)
    exact hbwq
   ·rw [←HR.out];rfl
  | true =>
   have HR:Hid (rJ (c::r)=R):=ab (by rw [←hR];simp [hpb]);have HPB:=ab hpb;clear hR hpb;obtain⟨w0,hw0⟩:∃w0,w0=w.alloc (.cells #[.int .i64 0,.string ⟨#[]⟩,.bool false,.slice none 0 0,.int .i64 0,.int .i64 0,.bool false,.slice none 0 0] 25):=⟨_,rfl⟩;obtain⟨hb0,hz0e,hby0⟩:=ij w hw0;have HW0:=ab hw0;have HBY0:=ab hby0;have hz0:w.heap.size+1≤w0.heap.size:=eu;clear hw0 hby0 hz0e;go_enter Tryz.func20,Tryz.ntmps20
   go_wp2_with (go_at_call 19;refine(HSP.out _).mono ?_)
   rintro e w1 hq;obtain⟨a,k,rfl,hsl,hb1⟩:=hq;rw [←HW0.out] at hsl hb1;have hz1:=hb1.size;obtain⟨w2,hw2⟩:∃w2,w2=w1.alloc (.cells #[.slice a (r.length+1) k,.int .i64 0,.int .i64 0] 93):=⟨_,rfl⟩;obtain⟨hb2,hz2e,hbr2⟩:=ij w1 hw2;have hz2:w1.heap.size+1≤w2.heap.size:=eu;have HCH:=ab (hsl.keep (Kept.all hb2));have HRD2:Hid (Rd w2 w1.heap.size (c::r) 0):=ab ⟨a,k,c::r,0,hbr2,(hsl.mono (S':=fun b=>b<w1.heap.size) fun b _ h=>h).keep (Kept.all hb2),hf2,by omega,HF1.out,rfl⟩;have hbw2:Below w.heap.size w w2:=(hb0.trans (hb1.mono eu)).trans (hb2.mono eu);have HBY2:=ab ((hb2.block _ (gI ((hb1.block _ (gI HBY0.out)).trans HBY0.out))).trans ((hb1.block _ (gI HBY0.out)).trans HBY0.out));clear hsl hb1 hz2e hb0;go_upto_region 4 with fail
   rw [←hw2];clear hw2;obtain⟨cb,co,rfl,_,kc⟩:=HCH.out.sl.str (k:=0) (p:=c) rfl;have kc':w2.cell? ⟨cb,co,none⟩=some (.string ⟨c.toArray⟩):=kc;have c0:w2.cell? ⟨w1.heap.size,0,none⟩=some (.slice (some ⟨cb,co,none⟩) (r.length+1) k):=by rw [xe hbr2];rfl
   have HPR:Hid (Calls Tryz.prog 22 #[.string ⟨c.toArray⟩] w2 fun e w'=>e=.returned (.bool true)∧w2=w'):=ab (HPB.out▸jI c w2 eu);clear kc;go_wp2_with (go_at_call 22;refine HPR.out.mono ?_)
   rintro e wq ⟨rfl,rfl⟩;have HBYq:=HBY2;have hbwq:=hbw2;clear kc' c0 HPR;have HPAT:=ab (rF ((c::r).length+1) w1.heap.size 0 (c::r) w2 HRD2.out eu eu);go_wp2_with (go_at_call 42;refine HPAT.out.mono ?_)
   rintro e w5 hq;clear HPAT;cases hpr:patF ((c::r).length+1) (c::r) 0 with
   | error q =>
    exact aQ
   | ok y =>
    exact av
open Go.RowKit
theorem gL {w:World} {g:Nat} {cs:Array Value} {t:TypeId} {m:Nat × Nat} (h:w.heap[g]?=some (.cells cs t m)) (j:Nat) {u:Value} (hj:cs[j]?=some u):w.cell? ⟨g,j,none⟩=some u:=by
 rw [xe h];exact hj
theorem lD {w:World} {g:Nat} {cs:Array Value} {t:TypeId} (h:w.heap[g]?=some (.cells cs t (0,0))) (j:Nat):w.frozen? ⟨g,j,none⟩=false:=Lib.frozen_of_heap h j
theorem gS {w:World} {g:Nat} {o':Obj} (h:w.heap[g]?=some o') (o:Obj):(w.alloc o).heap[g]?=some o':=(Below.heap_alloc _ _ _ (gI h)).trans h
def tfv0:Value:=.agg #[.int .i64 0,.string ⟨[].toArray⟩,.bool false,.slice none 0 0,.int .i64 0,.int .i64 0,.bool false,.slice none 0 0,.slice none 0 0,.bool false,.bool false]
def FormPost (s:Str) (i B:Nat) (w:World) (R:Option (Tf × Str)) (e:Ending) (w':World):Prop:=Below w.heap.size w w' ∧
 match R with
 | none=>e=.returned (.tuple #[tfv0,.int .i64 0,.bool false])
 | some (f,r)=>∃(fc:List Value) (j:Nat),e=.returned (.tuple #[.agg fc.toArray,.int .i64 j,.bool true])∧TfV w' (fun b=>B≤b) fc f∧i<j∧j<s.length∧s.drop (j+1)=r
def RfRel (s:Str) (i:Nat) (w:World) (RX:Str × Str) (q v:Value) (wr:World):Prop :=
 ∃(j:Nat) (a:Str),i+1≤j∧j≤s.length∧q=.int .i64 j∧wr.ownsRow w.heap.size 5 1 v a.length (iE a)∧wr.heap[w.heap.size]?=some (.cells #[.int .i64 0,.string ⟨[].toArray⟩,.bool false,.slice none 0 0,.int .i64 0,.int .i64 0,.bool false,.slice none 0 0,.slice none 0 0,.bool false,.bool false] 28 (0,0))∧Below w.heap.size w wr∧a.length≤j∧Hid (rxSp (s.drop j) a=RX)
theorem uo {s:Str} {i:Nat} {c:UInt8} {r:Str} (h:s.drop i=c::r) (hc:c.toNat=47):qF (s.drop i)=match (rxSp r []).2 with
  | []=>none
  | _::r3=>match oN (rxSp r []).1 with
   | .error _=>none
   | .ok x=>match jZ r3 [] [] with
    | none=>none
    | some (_,[])=>none
    | some (fs,_::r5)=>uC x fs r5:=by
 rw [h];simp only [qF];rw [wU hc];rfl
theorem vJ {c:UInt8} (h:c.toNat=47) (r a:Str):rxSp (c::r) a=(a,c::r):=by
 cases r with
 | nil=>simp [rxSp,h]
 | cons d r=>simp [rxSp,h]
theorem wM {c:UInt8} (h:¬c.toNat=47) (h2:¬c.toNat=92) (r a:Str):rxSp (c::r) a=rxSp r (a++[c]):=by
 cases r with
 | nil=>simp [rxSp,h]
 | cons d r=>simp [rxSp,h,h2]
theorem ve {s:Str} {q:Int} (h:oN s=.error q):q≠0:=by
 have hc:∀l:List Str,rJ l=.error q→q≠0:=by
  intro l hl;unfold rJ at hl;split at hl
  ·rename_i e heq
   injection hl with hl
   subst hl;exact kb _ _ _ _ heq
  ·cases hl
  ·injection hl with hl;rw [←hl];decide
 unfold oN at h;split at h
 ·injection h with h;rw [←h];decide
 ·split at h
  ·exact hc _ h
  ·split at h
   ·exact hc _ h
   ·injection h with h;rw [←h];decide
theorem uy {tk:Str} {a f:Bool} (h:nh tk=some (a,f)):(tk=[]∧a=false∧f=false)∨(tk=[103]∧a=true∧f=false)∨(tk=[105]∧a=false∧f=true)∨(tk=[103,105]∧a=true∧f=true)∨(tk=[105,103]∧a=true∧f=true):=by
 unfold nh at h;split at h
 ·injection h with h;injection h with h1 h2;exact .inl ⟨‹_›,h1.symm,h2.symm⟩
 split at h
 ·injection h with h;injection h with h1 h2;exact .inr (.inl ⟨‹_›,h1.symm,h2.symm⟩)
 split at h
 ·injection h with h;injection h with h1 h2;exact .inr (.inr (.inl ⟨‹_›,h1.symm,h2.symm⟩))
 split at h
 ·rename_i hor
  injection h with h;injection h with h1 h2
  rcases hor with hor|hor
  ·exact .inr (.inr (.inr (.inl ⟨hor,h1.symm,h2.symm⟩)))
  ·exact .inr (.inr (.inr (.inr ⟨hor,h1.symm,h2.symm⟩)))
 ·cases h
theorem ux {tk:Str} (h:nh tk=none):(tk==[])=false∧(tk==[103])=false∧(tk==[105])=false∧(tk==[103,105])=false∧(tk==[105,103])=false:=by
 unfold nh at h;split at h
 ·cases h
 split at h
 ·cases h
 split at h
 ·cases h
 split at h
 ·cases h
 rename_i h1 h2 h3 h4
 exact⟨xH.2 h1,xH.2 h2,xH.2 h3,xH.2 fun e=>h4 (.inl e),xH.2 fun e=>h4 (.inr e)⟩
theorem wg (s:Str) (i:Nat) (w:World) (hi:i≤s.length) (hs:s.length≤600000) :
  Calls Tryz.prog 14 #[.string ⟨s.toArray⟩,.int .i64 i] w fun e w'=>FormPost s i w.heap.size w (qF (s.drop i)) e w':=by
 obtain⟨R,hR⟩:∃R,R=qF (s.drop i):=⟨_,rfl⟩;rw [←hR];obtain⟨iu,hiu⟩:=info_parts mI;have g0:decide ((i:Int)<0)=false:=xK eu;have hby0:(w.alloc (.cells #[.int .i64 0,.string ⟨[].toArray⟩,.bool false,.slice none 0 0,.int .i64 0,.int .i64 0,.bool false,.slice none 0 0,.slice none 0 0,.bool false,.bool false] 28)).heap[w.heap.size]?=some (.cells #[.int .i64 0,.string ⟨[].toArray⟩,.bool false,.slice none 0 0,.int .i64 0,.int .i64 0,.bool false,.slice none 0 0,.slice none 0 0,.bool false,.bool false] 28 (0,0)):=heap_alloc_new w _;have HBY0:=ab hby0;have hb0:Below w.heap.size w (w.alloc (.cells #[.int .i64 0,.string ⟨[].toArray⟩,.bool false,.slice none 0 0,.int .i64 0,.int .i64 0,.bool false,.slice none 0 0,.slice none 0 0,.bool false,.bool false] 28)):=(Below.refl _ _).alloc (wY _) _;cases hd:s.drop i with
 | nil =>
  have h2:=jg hd;have HE:Hid (R=none):=ab (by rw [hR,hd];rfl);have g1:decide ((s.length:Int)≤(i:Int))=true:=xJ eu;clear hd hR;exact dz
 | cons c r =>
  obtain⟨h2,h3,hr⟩:=iv hd;have g1:decide ((s.length:Int)≤(i:Int))=false:=xK eu;by_cases c47:c.toNat=47
  ·have b47:((c.toNat:Int)==47)=true:= fx
   have b47':((c.toNat:Int) != 47)=false:=by simp [bne,b47]
   have HF:Hid (R=_):=ab (hR.trans (uo hd c47));have HRX:Hid (rxSp (s.drop (i+1)) []=rxSp r []):=ab (by rw [hr]);generalize hRX:rxSp r []=RX at *
   clear hd hR hr hby0 c47;go_enter Tryz.func14,Tryz.ntmps14
   go_wp2
   go_loopw [1,7] (fun q v wr=>RfRel s i w RX q v wr) (fun q _ _=>s.length-(intOf q).toNat)
   case atStart=>exact⟨i+1,[],by omega,by omega,by go_num,World.ownsRow_nil _ _ _ _,HBY0.out,hb0,by simp,HRX⟩
   case round =>
    obtain⟨j,a,hij,hjl,rfl,hown,hby,hb,ha,HS⟩:=hrel;clear HRX h3 h2 g1 b47 b47' HBY0 hb0;have hB:=hb.size;have HBY:=ab hby;have hcv:=nB (P:=Tryz.prog) (src:=67) (dst:=9) Tryz.underlying67 Tryz.underlying5 Tryz.underlying9 hown;cases hd:s.drop j with
    | nil =>
     have h2:=jg hd;have g2:decide ((j:Int)<(s.length:Int))=false:=xK eu;have g3:decide ((s.length:Int)≤(j:Int))=true:=xJ eu;have HX:Hid (RX=(a,[])):=ab (by rw [←HS.out,hd];rfl);have HE:Hid (R=none):=ab (by rw [HF.out,HX.out]);clear hd HS HF HX;cases hx:oN a with
     | error q =>
      have HRD:=ab (pU a wr eu);rw [hx] at HRD;clear hx;exact du
     | ok x =>
      have HRD:=ab (pU a wr eu);rw [hx] at HRD;clear hx;go_wp2_with (go_at_call 20;refine HRD.out.mono ?_)
      rintro e w1 ⟨hb1,cc,rfl,hxv⟩;obtain⟨k,ch,ng,rs,lo,hii,lz,ks⟩:=x;obtain⟨ra,rc,ka,kc,rfl,_,_⟩:=hxv.open_;have hb1w:Below w.heap.size w w1:=hb.trans (hb1.mono hB);have hB1:=hb1w.size;have hby1:=(hb1.block _ (gI HBY.out)).trans HBY.out;have z0:=fun o=>gL (gS hby1 o) 0 rfl
      have z1:=fun o=>gL (gS hby1 o) 1 rfl
      have z2:=fun o=>gL (gS hby1 o) 2 rfl
      have z3:=fun o=>gL (gS hby1 o) 3 rfl
      have z4:=fun o=>gL (gS hby1 o) 4 rfl
      have z5:=fun o=>gL (gS hby1 o) 5 rfl
      have z6:=fun o=>gL (gS hby1 o) 6 rfl
      have z7:=fun o=>gL (gS hby1 o) 7 rfl
      have z8:=fun o=>gL (gS hby1 o) 8 rfl
      have z9:=fun o=>gL (gS hby1 o) 9 rfl
      have z10:=fun o=>gL (gS hby1 o) 10 rfl
      have zf:=fun o=>lD (gS hby1 o)
      clear hby1 hby hxv;unfold rxc;go_wp2
      exact ay
    | cons c r =>
     obtain⟨h2,h3,hr⟩:=iv hd;have g2:decide ((j:Int)<(s.length:Int))=true:=xJ eu;have Hr:=ab hr;by_cases c47:c.toNat=47
     ·have b47:((c.toNat:Int)==47)=true:= fx
      have b47':((c.toNat:Int) != 47)=false:=by simp [bne,b47]
      have g3:decide ((s.length:Int)≤(j:Int))=false:=xK eu;have HX:Hid (RX=(a,c::r)):=ab (by rw [←HS.out,hd];exact vJ c47 r a);have HE1:Hid (R=match oN a with
       | .error _=>none
       | .ok x=>match jZ r [] [] with
        | none=>none
        | some (_,[])=>none
        | some (fs,_::r5)=>uC x fs r5):=ab (by rw [HF.out,HX.out])
      have HRD:=ab (pU a wr eu);clear hd HS HF HX hr c47;cases hx:oN a with
      | error q =>
       have HE:Hid (R=none):=ab (by rw [HE1.out,hx]);have hq:(q==0)=false:=by rw [xH];exact ve hx
       have hq':(q != 0)=true:=by simp [bne,hq]
       rw [hx] at HRD;clear hx HE1;exact du
      | ok x =>
       have HE2:Hid (R=match jZ r [] [] with
        | none=>none
        | some (_,[])=>none
        | some (fs,_::r5)=>uC x fs r5):=ab (by rw [HE1.out,hx])
       rw [hx] at HRD;clear hx HE1;have HFR:Hid (∀w:World,Calls Tryz.prog 35 #[.string ⟨s.toArray⟩,.int .i64 ((j:Int)+1)] w fun e w'=>Below w.heap.size w w'∧qv s (j+1) w.heap.size (jZ r [] []) e w'):=ab (fun w=>by
        have:=wE s (j+1) w eu eu
        rw [Hr.out] at this;push_cast at this;exact this)
       go_wp2_with (go_at_call 20;refine HRD.out.mono ?_)
       rintro e w1 ⟨hb1,cc,rfl,hxv⟩;obtain⟨k,ch,ng,rs,lo,hii,lz,ks⟩:=x;have hxv0:=hxv;obtain⟨ra,rc,ka,kc,rfl,_,_⟩:=hxv.open_;have HXV:=ab hxv0;have hb1w:Below w.heap.size w w1:=hb.trans (hb1.mono hB);have hB1:=hb1w.size;have HBY1:=ab ((hb1.block _ (gI HBY.out)).trans HBY.out);have HZ1:=ab hb1.size;have HLT:=ab (gI HBY.out);clear hby hxv hxv0;unfold rxc at HXV ⊢;go_wp2_with (go_at_call 35;refine(HFR.out _).mono ?_)
       rintro e w3 ⟨hb3,hp⟩;have hz3:=hb3.size;simp only [xG] at hz3;have hby3:=(hb3.block _ (gI (gS HBY1.out _))).trans (gS HBY1.out _);have hbx3:=(hb3.block _ (gI (heap_alloc_new w1 _))).trans (heap_alloc_new w1 _);have HBX3:=ab hbx3;have HBY3:=ab hby3;have hb3w:Below w.heap.size w w3:=(hb1w.alloc hB1 _).trans (hb3.mono eC);have hB3:=hb3w.size;have HXV3:=ab ((HXV.out.later ((Below.refl _ _).alloc (wY _) _)).later hb3);clear hbx3 HXV;cases hX:jZ r [] [] with
       | none =>
        have HE:Hid (R=none):=ab (by rw [HE2.out,hX]);rw [hX] at hp;have hp':e=.returned (.tuple #[.slice none 0 0,.int .i64 0,.bool false]):=hp;subst hp';clear hp hX HE2 HXV3;have z0:=gL hby3 0 rfl;have z1:=gL hby3 1 rfl;have z2:=gL hby3 2 rfl;have z3:=gL hby3 3 rfl;have z4:=gL hby3 4 rfl;have z5:=gL hby3 5 rfl;have z6:=gL hby3 6 rfl;have z7:=gL hby3 7 rfl;have z8:=gL hby3 8 rfl;have z9:=gL hby3 9 rfl;have z10:=gL hby3 10 rfl;have zf:=lD hby3;clear hby3;go_wp2
        exact ay
       | some p =>
        obtain⟨fs,r4⟩:=p;rw [hX] at hp;obtain⟨fa,fcp,j2,rfl,hsl,hj1,hj2,hj3,_,_⟩:=hp;obtain⟨_,d,r5,rfl,hd47⟩:=ld _ _ _ _ hX;have HSL:=ab hsl;have HE3:Hid (R=uC (.mk k ch ng rs lo hii lz ks) fs r5):=ab (by rw [HE2.out,hX]);have hix:Lib.indexByte (List.drop j2 s) ((125:Int)).toNat.toUInt8=match r5.dropWhile jm with|[]=>-1|_::_=>((r5.takeWhile jm).length:Int)+1:=by
         rw [hj3];have e125:(125:Int).toNat.toUInt8=125:=rfl;have hb:(d==125)=false:=by rw [xH];intro e;rw [e] at hd47;simp at hd47
         rw [e125];simp only [Lib.indexByte,hb];rw [sU];cases r5.dropWhile jm with
         | nil=>rfl
         | cons x y =>
          have h1:((((r5.takeWhile jm).length:Int))==-1)=false:=by rw [xH];omega
          simp only [h1,xX,if_false]
        obtain⟨_,_,hj4⟩:=iv hj3;have HJ4:=ab hj4;have hspan:=xL (p:=jm) (l:=r5);have HE4:Hid (R=match r5.dropWhile jm with
         | []=>none
         | _::r2=>match nh (r5.takeWhile jm) with
          | none=>none
          | some (a,f)=>some (⟨.mk k ch ng rs lo hii lz ks,fs,f,a⟩,r2)):=ab HE3.out
        clear hX HE2 hj3 hj4 hsl hd47 HE3;generalize r5.takeWhile jm=tk at *
        generalize r5.dropWhile jm=dw at *
        have HSP:=ab hspan;have HX0:=ab hix;clear hspan hix;cases dw with
        | nil =>
         have HIX:Hid (Lib.indexByte (List.drop j2 s) ((125:Int)).toNat.toUInt8=-1):=HX0;have HE:Hid (R=none):=HE4;clear HX0 HE4 HXV3;have z0:=gL hby3 0 rfl;have z1:=gL hby3 1 rfl;have z2:=gL hby3 2 rfl;have z3:=gL hby3 3 rfl;have z4:=gL hby3 4 rfl;have z5:=gL hby3 5 rfl;have z6:=gL hby3 6 rfl;have z7:=gL hby3 7 rfl;have z8:=gL hby3 8 rfl;have z9:=gL hby3 9 rfl;have z10:=gL hby3 10 rfl;have zf:=lD hby3;clear hby3;exact ec
        | cons d2 r6 =>
         have HIX:Hid (Lib.indexByte (List.drop j2 s) ((125:Int)).toNat.toUInt8=(tk.length:Int)+1):=HX0;have HE5:Hid (R=match nh tk with|none=>none|some (a,f)=>some (⟨.mk k ch ng rs lo hii lz ks,fs,f,a⟩,r6)):=HE4;have hlen:j2+1+tk.length<s.length:=by
          have h1:=xM List.length HSP.out;have h2:=xM List.length HJ4.out;simp at h1 h2;omega
         obtain⟨m,hm⟩:∃m,m=tk.length:=⟨_,rfl⟩;have hK:List.take (j2+(m+1)-(j2+1)) (List.drop (j2+1) s)=tk:=by
          rw [HJ4.out,←HSP.out,show j2+(m+1)-(j2+1)=tk.length by omega,List.take_left]
         have HDR:Hid (s.drop (j2+(m+1)+1)=r6):=ab (by
          rw [show j2+(m+1)+1=j2+1+(tk.length+1) by omega,←List.drop_drop,HJ4.out,←HSP.out,List.drop_append];simp)
         rw [←hm] at HIX hlen;clear HX0 HE4 hm HSP;obtain⟨y0,y1,y2,y3,y4,y5,y6,y7,_⟩:=gK HBX3.out;have z0:=fun o=>gL (gS hby3 o) 0 rfl
         have z1:=fun o=>gL (gS hby3 o) 1 rfl
         have z2:=fun o=>gL (gS hby3 o) 2 rfl
         have z3:=fun o=>gL (gS hby3 o) 3 rfl
         have z4:=fun o=>gL (gS hby3 o) 4 rfl
         have z5:=fun o=>gL (gS hby3 o) 5 rfl
         have z6:=fun o=>gL (gS hby3 o) 6 rfl
         have z7:=fun o=>gL (gS hby3 o) 7 rfl
         have z8:=fun o=>gL (gS hby3 o) 8 rfl
         have z9:=fun o=>gL (gS hby3 o) 9 rfl
         have z10:=fun o=>gL (gS hby3 o) 10 rfl
         have zf:=fun o=>lD (gS hby3 o)
         clear hby3;cases hfl:nh tk with
         | none =>
          have HE:Hid (R=none):=ab gD;obtain⟨t0,t1,t2,t3,t4⟩:=ux hfl;clear HE5 hfl HXV3;exact ec
         | some af =>
          obtain⟨al,fd⟩:=af;rcases uy hfl with⟨rfl,rfl,rfl⟩|⟨rfl,rfl,rfl⟩|⟨rfl,rfl,rfl⟩|⟨rfl,rfl,rfl⟩|⟨rfl,rfl,rfl⟩
          ·have HE6:Hid (R=some (⟨.mk k ch ng rs lo hii lz ks,fs,false,false⟩,r6)):=ab gD
           clear HE5 hfl;go_wp2_with (go_at_call 36;refine(iU _ HIX.out).mono ?_;rintro e w4 ⟨rfl,rfl⟩)
           refine xE (v:=.tuple #[.agg #[.int .i64 k,.string ⟨ch.toArray⟩,.bool ng,.slice ra rs.length rc,.int .i64 lo,.int .i64 hii,.bool lz,.slice ka ks.length kc,.slice fa fs.length fcp,.bool false,.bool false],.int .i64 (j2+(m+1)),.bool true]) eQ rfl ⟨?_,?_⟩
           ·(repeat (first|with_reducible exact Below.refl _ _|with_reducible assumption|(refine Below.setCell ?_ eI _)|(refine Below.alloc ?_ eD _)|(refine Below.drew ?_)))
           ·rw [HE6.out]
            refine⟨_,j2+(m+1),rfl,?_,by omega,by omega,HDR.out⟩;have hT:TfV w3 (fun b=>w.heap.size<b∧b<w3.heap.size) (rxc k ch ng ra rs.length rc lo hii lz ka ks.length kc++[.slice fa fs.length fcp,.bool false,.bool false]) ⟨.mk k ch ng rs lo hii lz ks,fs,false,false⟩ :=
             ⟨_,fa,fcp,HXV3.out.mono fun b hb hlt=>by have h1:=HLT.out;have h2:wr.heap.size≤b:=hb;constructor<;>omega,HSL.out.mono fun b hb hlt=>by have h2:(w1.alloc _).heap.size≤b:=hb;simp only [xG] at h2;constructor<;>omega,rfl⟩
            exact dr
          ·have HE6:Hid (R=some (⟨.mk k ch ng rs lo hii lz ks,fs,false,true⟩,r6)):=ab gD
           clear HE5 hfl;go_wp2_with (go_at_call 36;refine(iU _ HIX.out).mono ?_;rintro e w4 ⟨rfl,rfl⟩)
           refine xE (v:=.tuple #[.agg #[.int .i64 k,.string ⟨ch.toArray⟩,.bool ng,.slice ra rs.length rc,.int .i64 lo,.int .i64 hii,.bool lz,.slice ka ks.length kc,.slice fa fs.length fcp,.bool false,.bool true],.int .i64 (j2+(m+1)),.bool true]) eQ rfl ⟨?_,?_⟩
           ·(repeat (first|with_reducible exact Below.refl _ _|with_reducible assumption|(refine Below.setCell ?_ eI _)|(refine Below.alloc ?_ eD _)|(refine Below.drew ?_)))
           ·rw [HE6.out]
            refine⟨_,j2+(m+1),rfl,?_,by omega,by omega,HDR.out⟩;have hT:TfV w3 (fun b=>w.heap.size<b∧b<w3.heap.size) (rxc k ch ng ra rs.length rc lo hii lz ka ks.length kc++[.slice fa fs.length fcp,.bool false,.bool true]) ⟨.mk k ch ng rs lo hii lz ks,fs,false,true⟩ :=
             ⟨_,fa,fcp,HXV3.out.mono fun b hb hlt=>by have h1:=HLT.out;have h2:wr.heap.size≤b:=hb;constructor<;>omega,HSL.out.mono fun b hb hlt=>by have h2:(w1.alloc _).heap.size≤b:=hb;simp only [xG] at h2;constructor<;>omega,rfl⟩
            exact dr
          ·have HE6:Hid (R=some (⟨.mk k ch ng rs lo hii lz ks,fs,true,false⟩,r6)):=ab gD
           clear HE5 hfl;go_wp2_with (go_at_call 36;refine(iU _ HIX.out).mono ?_;rintro e w4 ⟨rfl,rfl⟩)
           refine xE (v:=.tuple #[.agg #[.int .i64 k,.string ⟨ch.toArray⟩,.bool ng,.slice ra rs.length rc,.int .i64 lo,.int .i64 hii,.bool lz,.slice ka ks.length kc,.slice fa fs.length fcp,.bool true,.bool false],.int .i64 (j2+(m+1)),.bool true]) eQ rfl ⟨?_,?_⟩
           ·(repeat (first|with_reducible exact Below.refl _ _|with_reducible assumption|(refine Below.setCell ?_ eI _)|(refine Below.alloc ?_ eD _)|(refine Below.drew ?_)))
           ·rw [HE6.out]
            refine⟨_,j2+(m+1),rfl,?_,by omega,by omega,HDR.out⟩;have hT:TfV w3 (fun b=>w.heap.size<b∧b<w3.heap.size) (rxc k ch ng ra rs.length rc lo hii lz ka ks.length kc++[.slice fa fs.length fcp,.bool true,.bool false]) ⟨.mk k ch ng rs lo hii lz ks,fs,true,false⟩ :=
             ⟨_,fa,fcp,HXV3.out.mono fun b hb hlt=>by have h1:=HLT.out;have h2:wr.heap.size≤b:=hb;constructor<;>omega,HSL.out.mono fun b hb hlt=>by have h2:(w1.alloc _).heap.size≤b:=hb;simp only [xG] at h2;constructor<;>omega,rfl⟩
            exact dr
          ·exact aI
          ·exact aI
     ·have b47:((c.toNat:Int)==47)=false:= eU
      have b47':((c.toNat:Int) != 47)=true:=by simp [bne,b47]
      by_cases c92:c.toNat=92
      ·have b92:((c.toNat:Int)==92)=true:= fx
       cases r with
       | nil =>
        have HS2:Hid (rxSp (s.drop (j+1)) (a++[c])=RX):=ab (by rw [Hr.out,←HS.out,hd];simp [rxSp,c47]);have hln:=jg hr;have g4:decide ((j:Int)+1<(s.length:Int))=false:=xK eu;exact bj
       | cons d r2 =>
        obtain⟨k2,k3,kr⟩:=iv hr;have Hkr:=ab kr;have g4:decide ((j:Int)+1<(s.length:Int))=true:=xJ eu;have gk0:(0:Int)≤(j:Int)+1:=eu;have gk1:(j:Int)+1<(s.length:Int):=eu;have gk2:((j:Int)+1).toNat=j+1:=eu;by_cases d47:d.toNat=47
        ·have d47b:((d.toNat:Int)==47)=true:= fx
         have d47':((d.toNat:Int) != 47)=false:=by simp [bne,d47b]
         have HS2:Hid (rxSp (s.drop (j+2)) (a++[d])=RX):=ab fC;clear hd HS hr c47 c92 d47 kr;go_wp2_with (at_builtin;refine iK w.heap.size 5 rfl _ _ 67 rfl Tryz.underlying67 hiu rfl ez rfl hown rfl fg rfl eG eu ez hB ?_;intro v1 w1 hown1 hg1 hb1 hne1)
         go_roundw
         case rel =>
          refine⟨(j+2),(a++[d]),by omega,by omega,by go_num,?_,?_,hb.trans hb1,by simp;omega,HS2⟩
          ·simpa [iE] using hown1
          ·exact ei
         case measure=>simp [intOf];omega
        ·have d47b:((d.toNat:Int)==47)=false:= eU
         have d47':((d.toNat:Int) != 47)=true:=by simp [bne,d47b]
         have HS2:Hid (rxSp (s.drop (j+2)) ((a++[92])++[d])=RX):=ab fC;clear hd HS hr c47 c92 d47 kr;go_wp2_with (at_builtin;first|refine iK w.heap.size 5 rfl _ _ 67 rfl Tryz.underlying67 hiu rfl ez rfl hown rfl fg rfl eG eu ez hB ?_;intro v1 w1 hown1 hg1 hb1 hne1|refine iK w.heap.size 5 rfl _ _ 67 rfl Tryz.underlying67 hiu rfl ez rfl hown1 rfl fg rfl eG eu ez (by have:=hb1.size;omega) ?_;intro v2 w2 hown2 hg2 hb2 hne2)
         go_roundw
         case rel =>
          refine⟨(j+2),(a++[92]++[d]),by omega,by omega,by go_num,?_,?_,(hb.trans hb1).trans hb2,by simp;omega,HS2⟩
          ·simpa [iE] using hown2
          ·have hx1:=(hg1.block _ (gI HBY.out) (i0 hown HBY.out ez).symm).trans HBY.out
           exact(hg2.block _ (gI hx1) (i0 hown1 hx1 ez).symm).trans hx1
         case measure=>simp [intOf];omega
      ·have b92:((c.toNat:Int)==92)=false:= eU
       have HS2:Hid (rxSp (s.drop (j+1)) (a++[c])=RX):=ab (by rw [Hr.out,←HS.out,hd];exact(wM c47 c92 r a).symm);exact bj
  ·have b47:((c.toNat:Int)==47)=false:= eU
   have b47':((c.toNat:Int) != 47)=true:=by simp [bne,b47]
   have HE:Hid (R=none):=ab (by rw [hR,hd];simp only [qF];rw [wX c47]);clear hd hR hr;exact dz
end Go.Proofs.YtbnkaecmgfolpaaGreat
namespace Go.Proofs.YtbnkaecmgfolpaaGreat
end Go.Proofs.YtbnkaecmgfolpaaGreat
namespace Go.Proofs.YtbnkaecmgfolpaaGreat
theorem ul:∀(k:Nat) (l:Str),l.length≤k→iI k l=gM l
 | k,l,h=>by
  have key:∀(n k:Nat) (l:Str),l.length≤n→n≤k→iI k l=iI n l:=by
   intro n;induction n with
   | zero=>intro k l h1 h2;obtain rfl:=wV (Nat.le_zero.1 h1);cases k<;>rfl
   | succ n ih =>
    intro k l h1 h2;obtain⟨k,rfl⟩:∃k',k=k'+1:=⟨k-1,by omega⟩;cases l with
    | nil=>rfl
    | cons c r =>
     have hd:(r.dropWhile gU).length≤r.length:=(List.dropWhile_suffix gU).length_le;simp only [xg] at h1;simp only [iI];rw [ih k _ eu eu]
  exact key l.length k l (wY _) h
theorem nd (c:UInt8) (r:Str):gM (c::r)=(c::r.takeWhile gU)::gM (r.dropWhile gU):=by
 have hd:(r.dropWhile gU).length≤r.length:=(List.dropWhile_suffix gU).length_le;show iI (r.length+1) (c::r)=_
 simp only [iI];rw [ul r.length _ hd]
def vQ:Str→Prop
 | []=>True
 | c::_=>gU c=false
theorem pL {p:UInt8→Bool} {a b:Str} (hb:∀c r,b=c::r→p c=false):(a++b).takeWhile p=a.takeWhile p∧(a++b).dropWhile p=a.dropWhile p++b:=by
 induction a with
 | nil =>
  cases b with
  | nil=>exact⟨rfl,rfl⟩
  | cons c r=>have:=hb c r rfl;simp [this]
 | cons x a ih =>
  cases hx:p x with
  | true=>simp [hx,ih.1,ih.2]
  | false=>simp [hx]
theorem o9:∀(n:Nat) (s t:Str),s.length≤n→vQ t→gM (s++t)=gM s++gM t
 | _,[],t,_,_=>rfl
 | 0,c::r,t,h,_=>by simp at h
 | n+1,c::r,t,h,ht=>by
  have hd:(r.dropWhile gU).length≤r.length:=(List.dropWhile_suffix gU).length_le;simp only [xg] at h;obtain⟨e1,e2⟩:=pL (p:=gU) (a:=r) (b:=t) (fun c' r' e=>by subst e;exact ht);rw [xQ,nd,nd,e1,e2,o9 n _ t eu ht];rfl
def gk (bare:Bool):Int:=if bare=true then 6 else 5
def rxZ:Rx→Bool|.mk k c ng rs lo hi lz ks=>decide (k=0)&&(c.isEmpty&&(!ng&&(rs.isEmpty&&(decide (lo=0)&&(decide (hi=0)&&(!lz&&ks.isEmpty))))))
def tfZ (f:Tf):Bool:=rxZ f.rx&&(f.fs.isEmpty&&(!f.fold&&!f.all))
def qM (f:Tf):Bool:=mayB f.rx&&oP f.fs
def pO (x:Sn):Bool:=!x.has&&(!x.turned&&(x.kids.isEmpty&&tfZ x.form))
def sZ (x:Sn):Bool:=if x.has=true then(if x.turned=true then false else tfZ x.form) else if x.turned=true then x.kids.isEmpty&&qM x.form else pO x
def vg (x:Sn):Bool:=decide (0≤x.n∧x.n≤9999)
def fieldsS (x:Sn):Bool :=
 if x.kind=0 then !x.text.isEmpty&&(decide (x.n=0)&&(x.opts.isEmpty&&pO x))
 else if x.kind=1 then x.text.isEmpty&&(vg x&&(x.opts.isEmpty&&sZ x))
 else if x.kind=2 then x.text.isEmpty&&(vg x&&(!x.opts.isEmpty&&pO x))
 else if x.kind=3 then nameB x.text&&(decide (x.n=0)&&(x.opts.isEmpty&&sZ x))
 else false
def adjS:Bool→List Sn→Bool
 | _,[]=>true
 | pt,x::r=>!(decide (x.kind=0)&&pt)&&adjS (decide (x.kind=0)) r
namespace Sn
mutual
def wf:Sn→Bool
 | mk k t n h u f o ks=>fieldsS (mk k t n h u f o ks)&&(!h||(adjS false ks&&wfL ks))
def wfL:List Sn→Bool
 | []=>true
 | x::r=>wf x&&wfL r
end
end Sn
open Go.RowKit
def Tf.small (f:Tf):Prop:=f.rx.small∧f.rx.parts≤1000000∧f.fs.length≤1000000
mutual
def Sn.small:Sn→Prop
 | .mk _ t _ _ _ f os ks=>f.small∧os.length≤1000000∧ks.length≤1000000∧t.length≤1000000∧Sn.smallL ks
def Sn.smallL:List Sn→Prop
 | []=>True
 | x::r=>x.small∧Sn.smallL r
end
open Go.RowKit Go.Maps Go.MapKept
open Go.ChangeMaps (setBlock)
def hdN (k:Int) (t:Str) (n:Int):Sn:=.mk k t n false false tf0 [] []
open Go.RowKit
theorem vN:(Tryz.prog.info? 28).map (·.size)=some 11:=by kernel_rfl
theorem pW:(Tryz.prog.info? 25).map (·.size)=some 8:=by kernel_rfl
theorem jo:Tryz.prog.underlying 28=some (.struct (Tryz.prog.fieldsOf 28)):=by kernel_rfl
theorem nu:Tryz.prog.underlying 25=some (.struct (Tryz.prog.fieldsOf 25)):=by kernel_rfl
def SlP (B sz n:Nat) (cs:List Value):Value→World→Prop:=fun v W=>∃a c,v=.slice a n c∧SlS W (fun b=>B≤b) a sz n cs
theorem kX {w0 w:World} {b:Nat} (h:Below w0.heap.size w0 w) (hb:w0.heap.size≤b) (cs:Array Value):Below w0.heap.size w0 (w.setRow b cs) :=
 ⟨h.os,h.tape,h.output,by rw [px];exact h.size,fun k hk=>(mh cs eu).trans (h.block k hk)⟩
open Go.RowKit
def FouP (f:Tf) (s:Str) (z:Int) (w:World) (e:Ending) (w':World):Prop :=
 Below w.heap.size w w' ∧
  ((mayB f.rx=false∧∃u:Int,e=.returned (.tuple #[.slice none 0 0,.int .i64 u,.int .i64 10]))
  ∨ (mayB f.rx=true∧(jk f.rx f.fold f.all s z).2.out=true∧∃u:Int,e=.returned (.tuple #[.slice none 0 0,.int .i64 u,.int .i64 9]))
  ∨ (mayB f.rx=true∧(jk f.rx f.fold f.all s z).2.out=false∧∃v,e=.returned (.tuple #[v,.int .i64 ((jk f.rx f.fold f.all s z).2.fuel:Int),.int .i64 0])∧OwnM w' w.heap.size (rcM f.fold s).offs f.rx.groups v (jk f.rx f.fold f.all s z).1))
theorem vb (S:Nat→Prop) (f:Tf) (fc:List Value) (w:World) (hv:TfV w S fc f) {s:Str} {z:Int} (hm:f.rx.parts≤1000000) (hsm:f.rx.small) (hwf:f.rx.wf=true) (hs:s.length≤1000000) (hg:f.rx.groups≤1000) :
  Calls Tryz.prog 28 #[.agg fc.toArray,.string ⟨s.toArray⟩,.int .i64 z] w (FouP f s z w):=by
 obtain⟨rk,rch,rng,rrs,rlo,rhi,rlz,rks,ra,rcp,rka,rkc,fa,fcp,hc⟩:=hv.open_;obtain⟨X,fs,fd,al⟩:=f;have hx1:X=.mk rk rch rng rrs rlo rhi rlz rks:=hc.rx;have hfce:fc=[.int .i64 rk,.string ⟨rch.toArray⟩,.bool rng,.slice ra rrs.length rcp,.int .i64 rlo,.int .i64 rhi,.bool rlz,.slice rka rks.length rkc,.slice fa fs.length fcp,.bool fd,.bool al]:=hc.eq;obtain⟨W0,hW0⟩:∃W0,W0=w.alloc (.cells fc.toArray 28):=⟨_,rfl⟩;have hb0:Below w.heap.size w W0:=by rw [hW0];exact(Below.refl _ _).alloc (wY _) _
 have HB1:Hid (W0.heap[w.heap.size]?=some (.cells fc.toArray 28 (0,0))):=ab (by rw [hW0];exact heap_alloc_new w _);have HXV:Hid (RxV W0 S [.int .i64 rk,.string ⟨rch.toArray⟩,.bool rng,.slice ra rrs.length rcp,.int .i64 rlo,.int .i64 rhi,.bool rlz,.slice rka rks.length rkc] X):=ab (hx1▸hc.rv.later hb0);subst hfce;have HW0:=ab hW0;have HB0:=ab hb0;have z9:=gL HB1.out 9 rfl;have z10:=gL HB1.out 10 rfl;clear hv hc hx1 hW0 hb0;cases al with
 | true =>
  have HA:=ab (All_any S (fold:=fd) (s:=s) (z:=z) W0 HXV.out hm hsm hwf hs hg);go_enter Tryz.func28,Tryz.ntmps28
  go_upto_region 1 with fail
  rw [←HW0.out];clear HW0;go_wp2_with (first
   | (refine iF rfl 25 (.tmp 15) rfl w.heap.size 0 rfl [.int .i64 rk,.string ⟨rch.toArray⟩,.bool rng,.slice ra rrs.length rcp,.int .i64 rlo,.int .i64 rhi,.bool rlz,.slice rka rks.length rkc] _ (iS (ds:=[.slice fa fs.length fcp,.bool fd,.bool true]) HB1.out) nu rfl (by rw [pW];rfl) ?_)
   | (go_at_call 55;refine HA.out.mono ?_))
  rintro e w1 ⟨hb1,h⟩;have HB2:=ab (bel2 HB0.out hb1);have hle:=HB0.out.size;clear hb1;rcases h with⟨h1,rfl⟩|⟨h1,h2,rfl⟩|⟨h1,h2,v,rfl,h3⟩
  ·have H1:=ab h1
   clear h1;go_wp2
   go_ret3
   exact⟨HB2.out,.inl ⟨H1.out,_,rfl⟩⟩
  ·have H1:=ab h1
   have H2:=ab h2;clear h1 h2;go_wp2
   go_ret3
   exact⟨HB2.out,.inr (.inl ⟨H1.out,H2.out,_,rfl⟩)⟩
  ·have H1:=ab h1
   have H2:=ab h2;have H3:=ab h3;clear h1 h2 h3;go_wp2
   go_ret3
   exact⟨HB2.out,.inr (.inr ⟨H1.out,H2.out,v,rfl,H3.out.base hle⟩)⟩
 | false =>
  have HA:=ab (Find_any S (fold:=fd) (s:=s) (z:=z) W0 HXV.out hm hsm hwf hs hg);go_enter Tryz.func28,Tryz.ntmps28
  go_upto_region 1 with fail
  rw [←HW0.out];clear HW0;go_wp2_with (first
   | (refine iF rfl 25 (.tmp 26) rfl w.heap.size 0 rfl [.int .i64 rk,.string ⟨rch.toArray⟩,.bool rng,.slice ra rrs.length rcp,.int .i64 rlo,.int .i64 rhi,.bool rlz,.slice rka rks.length rkc] _ (iS (ds:=[.slice fa fs.length fcp,.bool fd,.bool false]) HB1.out) nu rfl (by rw [pW];rfl) ?_)
   | (go_at_call 56;refine HA.out.mono ?_))
  rintro e w1 ⟨hb1,h⟩;have HB2:=ab (bel2 HB0.out hb1);have hle:=HB0.out.size;rcases h with⟨h1,rfl⟩|⟨h1,h2,rfl⟩|⟨h1,h2,h3,rfl⟩|⟨h1,h2,a,b,ps,aa,c,h3,rfl,h4,h5,h6,h7⟩
  ·have H1:=ab h1
   clear h1 hb1;unfold mz;go_wp2
   go_ret3
   exact⟨HB2.out.trans ((Below.refl _ _).alloc HB2.out.size _),.inl ⟨H1.out,_,rfl⟩⟩
  ·have H1:=ab h1
   have H2:=ab h2;clear h1 h2 hb1;unfold mz;go_wp2
   go_ret3
   exact⟨HB2.out.trans ((Below.refl _ _).alloc HB2.out.size _),.inr (.inl ⟨H1.out,H2.out,_,rfl⟩)⟩
  ·have H1:=ab h1
   have H2:=ab h2;have H3:=ab h3;clear h1 h2 h3 hb1;unfold mz;go_wp2
   go_ret3
   refine⟨HB2.out.trans ((Below.refl _ _).alloc HB2.out.size _),.inr (.inr ⟨H1.out,H2.out,_,rfl,?_⟩)⟩;show OwnM _ _ _ _ _ (nI X fd s z).1.toList
   rw [H3.out];exact OwnM.nil _ _ _ _
  ·have H1:=ab h1
   have H2:=ab h2;have H3:=ab h3;have H4:=ab h4;have H5:=ab h5;have H6:=ab h6;have H7:=ab h7;generalize hua:(rcM fd s).offs.getD a 0=ua
   generalize hub:(rcM fd s).offs.getD b 0=ub
   have HUA:=ab hua;have HUB:=ab hub;have hz1:=HB2.out.size;have ho:((w1.alloc (.cells #[.int .i64 (ua:Int),.int .i64 (ub:Int),.slice aa X.groups c] 72)).alloc (.cells #[.int .i64 (ua:Int),.int .i64 (ub:Int),.slice aa X.groups c] 72)).ownsRow w.heap.size 72 3 (.slice (some ⟨w1.heap.size+1,0,none⟩) 1 1) 1 [.int .i64 (ua:Int),.int .i64 (ub:Int),.slice aa X.groups c]:=by
    have:=World.ownsRow_lit (w1.alloc (.cells #[.int .i64 (ua:Int),.int .i64 (ub:Int),.slice aa X.groups c] 72)) #[.int .i64 (ua:Int),.int .i64 (ub:Int),.slice aa X.groups c] 1 (base:=w.heap.size) (e:=72) (size:=3) eC ez rfl
    simpa using this
   have HO:=ab ho;clear h1 h2 h3 h4 h5 h6 h7 hb1 hua hub ho;go_wp2
   go_ret3
   refine⟨(HB2.out.trans ((Below.refl _ _).alloc HB2.out.size _)).trans ((Below.refl _ _).alloc eC _),.inr (.inr ⟨H1.out,H2.out,_,rfl,?_⟩)⟩;show OwnM _ _ _ _ _ (nI X fd s z).1.toList
   rw [H3.out];refine⟨[[.int .i64 (ua:Int),.int .i64 (ub:Int),.slice aa X.groups c]],HO.out,.cons ⟨aa,c,by rw [HUA.out,HUB.out],?_,H5.out,H6.out,by show b+1≤(rcM fd s).offs.length;have h8:(rcM fd s).offs.length=(rcM fd s).cs.length+1:=jK _ _;have:=H7.out;omega⟩ .nil⟩;have h9:=SlS.mono H4.out (S':=fun b=>W0.heap.size≤b∧b<w1.heap.size) (fun b hb hlt=>⟨hb,hlt⟩);refine SlS.mono (SlS.keep (SlS.keep h9 (Kept.all ((Below.refl _ _).alloc (wY _) _))) (Kept.all ((Below.refl _ _).alloc (wY _) _))) (fun d hd _=>⟨xb hle hd.1,fun e=>?_⟩);have h12:=hd.2;have e2:w1.heap.size+1=d:=by injection e
   omega
end Go.Proofs.YtbnkaecmgfolpaaGreat
