/- walk of rxread.Read -/
import Derived.Test.YtdcnncgpomcaaaaGreatDoorRc16
set_option maxRecDepth 100000
set_option maxHeartbeats 4000000
namespace Go.Proofs.YtdcnncgpomcaaaaGreatDoor
open Go.RowKit
theorem CE:∀n:Nat,PatC n
 | 0=>fun _ _ _ _ _ h _=>by omega
 | n+1=>AJ (CE n)
theorem pP:∀(k:Nat) (l:Str),(∀p∈n8 k l,p≠[]∧p.length≤l.length)∧(n8 k l).length≤l.length
 | 0,_=>by simp [n8]
 | _+1,[]=>by simp [n8]
 | k+1,c::r=>by
  obtain⟨i1,i2⟩:=pP k (r.dropWhile lf);have hd:(r.dropWhile lf).length≤r.length:=(List.dropWhile_suffix lf).length_le;have ht:(r.takeWhile lf).length≤r.length:=(List.takeWhile_prefix lf).length_le;refine⟨fun p hp=>?_,by simp only [n8,Jr];omega⟩;simp only [n8,JC] at hp;rcases hp with rfl|hp
  ·exact⟨by simp,by simp;omega⟩
  ·have:=i1 p hp;exact⟨this.1,by simp;omega⟩
def ReadPost (B:Nat) (w:World) (res:Except Int Rx) (e:Ending) (w':World):Prop:=Below w.heap.size w w'∧match res with
 | .error q=>e=.returned (.tuple #[rxv0,.int .i64 q])
 | .ok x=>∃cc:List Value,e=.returned (.tuple #[.agg cc.toArray,.int .i64 0])∧RxV w' (fun b=>B≤b) cc x
theorem Eg {w w2 w5:World} {g:Nat} (h:Below w.heap.size w w2) (hg:w2.grownBy w5 (some g)) (hB:w.heap.size≤g):Below w.heap.size w w5 :=
 ⟨hg.os.trans h.os,hg.tape.trans h.tape,hg.output.trans h.output,Jv h.size hg.size,fun k hk=>(hg.block k (by have:=h.size;omega) (by
  first
  | omega
  | (intro e;injection e with e;omega))).trans (h.block k hk)⟩
def SplitRes (L:List Str) (w:World) (e:Ending) (w':World):Prop:=∃(a:Option Addr) (c:Nat),e=.returned (.slice a L.length c)∧SlS w' (fun b=>w.heap.size≤b) a 1 L.length (mE L)∧Below w.heap.size w w'
theorem zV (s:Str) (w:World) (hs:s.length≤1000000) :
  Calls Tryz.prog 108 #[.string ⟨s.toArray⟩] w fun e w'=>ReadPost w.heap.size w (qU s) e w':=by
 obtain⟨R,hR⟩:∃R,qU s=R:=⟨_,rfl⟩;rw [hR];unfold qU at hR;by_cases hl:256<s.length
 ·rw [Jl hl] at hR
  have HR:=ab hR;clear hR;have hbl:Below w.heap.size w (w.alloc (.cells #[.int .i64 0,.string ⟨#[]⟩,.bool false,.slice none 0 0,.int .i64 0,.int .i64 0,.bool false,.slice none 0 0] 38)):=(Below.refl _ _).alloc (Ju _) _;have hby:(w.alloc (.cells #[.int .i64 0,.string ⟨#[]⟩,.bool false,.slice none 0 0,.int .i64 0,.int .i64 0,.bool false,.slice none 0 0] 38)).heap[w.heap.size]?=some (.cells #[.int .i64 0,.string ⟨#[]⟩,.bool false,.slice none 0 0,.int .i64 0,.int .i64 0,.bool false,.slice none 0 0] 38 (0,0)):=heap_alloc_new w _;obtain⟨f0,f1,f2,f3,f4,f5,f6,f7,f8⟩:=kY (c:=[]) hby;clear hby;go_enter Tryz.func108,Tryz.ntmps108
  go_wp2
  refine JM (v:=.tuple #[.agg #[.int .i64 0,.string ⟨[].toArray⟩,.bool false,.slice none 0 0,.int .i64 0,.int .i64 0,.bool false,.slice none 0 0],.int .i64 4]) iI rfl ?_;refine⟨?_,?_⟩
  ·iterate 0 (refine Below.setCell ?_ gP _)
   exact hbl
  ·rw [←HR.out];rfl
 rw [Jo hl] at hR;obtain⟨L,hL⟩:∃L,lA s=L:=⟨_,rfl⟩;have hf:=pP s.length s;have hf1:∀p∈L,p≠[]∧p.length≤1000000:=fun p hp=>by
  rw [←hL] at hp;have:=hf.1 p hp
  exact⟨this.1,by omega⟩
 have hf2:L.length≤200000:=by rw [←hL];have:=hf.2;unfold lA;omega
 have hf3:L.length≤256:=by rw [←hL];have:=hf.2;unfold lA;omega
 rw [hL] at hR;have HSP:Hid (∀w,Calls Tryz.prog 115 #[.string ⟨s.toArray⟩] w fun e w'=>SplitRes L w e w'):=ab (fun w=>hL▸Ia s w hs);clear hf;cases s with
 | nil =>
  obtain rfl:L=[]:=by rw [←hL];rfl
  have HR:Hid (uq []=R):=ab hR;clear hR hL;have HF1:=ab hf1;clear hf1;obtain⟨w0,hw0⟩:∃w0,w0=w.alloc (.cells #[.int .i64 0,.string ⟨#[]⟩,.bool false,.slice none 0 0,.int .i64 0,.int .i64 0,.bool false,.slice none 0 0] 38):=⟨_,rfl⟩;obtain⟨hb0,hz0e,hby0⟩:=lY w hw0;have HW0:=ab hw0;have HBY0:=ab hby0;have hz0:w.heap.size+1≤w0.heap.size:=gN;clear hw0 hby0 hz0e;go_enter Tryz.func108,Tryz.ntmps108
  go_wp2_with (go_at_call 115;refine(HSP.out _).mono ?_)
  rintro e w1 hq;obtain⟨a,k,rfl,hsl,hb1⟩:=hq;rw [←HW0.out] at hsl hb1;have hz1:=hb1.size;obtain⟨w2,hw2⟩:∃w2,w2=w1.alloc (.cells #[.slice a 0 k,.int .i64 0,.int .i64 0] 164):=⟨_,rfl⟩;obtain⟨hb2,hz2e,hbr2⟩:=lY w1 hw2;have hz2:w1.heap.size+1≤w2.heap.size:=gN;have HCH:=ab (hsl.keep (Kept.all hb2));have HRD2:Hid (Rd w2 w1.heap.size (([]:List Str)) 0):=ab ⟨a,k,([]:List Str),0,hbr2,(hsl.mono (S':=fun b=>b<w1.heap.size) fun b _ h=>h).keep (Kept.all hb2),hf2,by omega,HF1.out,rfl⟩;have hbw2:Below w.heap.size w w2:=(hb0.trans (hb1.mono gN)).trans (hb2.mono gN);have HBY2:=ab ((hb2.block _ (kT ((hb1.block _ (kT HBY0.out)).trans HBY0.out))).trans ((hb1.block _ (kT HBY0.out)).trans HBY0.out));clear hsl hb1 hz2e hb0;go_upto_region 6 with fail
  rw [←hw2];clear hw2;have HPAT:=ab (CE ((([]:List Str)).length+1) w1.heap.size 0 (([]:List Str)) w2 HRD2.out gN gN);go_wp2_with (go_at_call 116;refine HPAT.out.mono ?_)
  rintro e w5 hq;clear HPAT;cases hpr:patF ((([]:List Str)).length+1) (([]:List Str)) 0 with
  | error q =>
   exact aV
  | ok y =>
   exact ay
 | cons b t =>
  obtain⟨c,r,rfl⟩:∃c r,L=c::r:=by rw [←hL];exact⟨_,_,rfl⟩
  generalize hss:b::t=s at *
  have hs1:List.isEmpty s=false:=by rw [←hss];rfl
  have hs2:(!List.isEmpty s)=true:=by rw [hs1];rfl
  clear hss hL;have hcl:=(hf1 c (JE ..)).2;have HF1:=ab hf1;clear hf1;cases hpb:l5 c with
  | false =>
   have HR:Hid (Except.error 10=R):=ab (by rw [←hR];simp [hpb]);have HPB:=ab hpb;clear hR hpb;obtain⟨w0,hw0⟩:∃w0,w0=w.alloc (.cells #[.int .i64 0,.string ⟨#[]⟩,.bool false,.slice none 0 0,.int .i64 0,.int .i64 0,.bool false,.slice none 0 0] 38):=⟨_,rfl⟩;obtain⟨hb0,hz0e,hby0⟩:=lY w hw0;have HW0:=ab hw0;have HBY0:=ab hby0;have hz0:w.heap.size+1≤w0.heap.size:=gN;clear hw0 hby0 hz0e;go_enter Tryz.func108,Tryz.ntmps108
   go_wp2_with (go_at_call 115;refine(HSP.out _).mono ?_)
   rintro e w1 hq;obtain⟨a,k,rfl,hsl,hb1⟩:=hq;rw [←HW0.out] at hsl hb1;have hz1:=hb1.size;obtain⟨w2,hw2⟩:∃w2,w2=w1.alloc (.cells #[.slice a (r.length+1) k,.int .i64 0,.int .i64 0] 164):=⟨_,rfl⟩;obtain⟨hb2,hz2e,hbr2⟩:=lY w1 hw2;have hz2:w1.heap.size+1≤w2.heap.size:=gN;have HCH:=ab (hsl.keep (Kept.all hb2));have HRD2:Hid (Rd w2 w1.heap.size (c::r) 0):=ab ⟨a,k,c::r,0,hbr2,(hsl.mono (S':=fun b=>b<w1.heap.size) fun b _ h=>h).keep (Kept.all hb2),hf2,by omega,HF1.out,rfl⟩;have hbw2:Below w.heap.size w w2:=(hb0.trans (hb1.mono gN)).trans (hb2.mono gN);have HBY2:=ab ((hb2.block _ (kT ((hb1.block _ (kT HBY0.out)).trans HBY0.out))).trans ((hb1.block _ (kT HBY0.out)).trans HBY0.out));clear hsl hb1 hz2e hb0;go_upto_region 4 with fail
   rw [←hw2];clear hw2;obtain⟨cb,co,rfl,_,kc⟩:=HCH.out.sl.str (k:=0) (p:=c) rfl;have kc':w2.cell? ⟨cb,co,none⟩=some (.string ⟨c.toArray⟩):=kc;have c0:w2.cell? ⟨w1.heap.size,0,none⟩=some (.slice (some ⟨cb,co,none⟩) (r.length+1) k):=by rw [Jw hbr2];rfl
   have HPR:Hid (Calls Tryz.prog 89 #[.string ⟨c.toArray⟩] w2 fun e w'=>e=.returned (.bool false)∧w2=w'):=ab (HPB.out▸qv c w2 gN);clear kc;go_wp2_with (go_at_call 89;refine HPR.out.mono ?_)
   rintro e wq ⟨rfl,rfl⟩;have HBYq:=HBY2;have hbwq:=hbw2;clear kc' c0 HPR;obtain⟨f0,f1,f2,f3,f4,f5,f6,f7,f8⟩:=kY (c:=[]) HBYq.out;go_wp2
   refine JM (v:=.tuple #[.agg #[.int .i64 0,.string ⟨[].toArray⟩,.bool false,.slice none 0 0,.int .i64 0,.int .i64 0,.bool false,.slice none 0 0],.int .i64 10]) iI rfl ?_;refine⟨?_,?_⟩
   ·iterate 8 (refine Below.setCell ?_ gP _)
    exact hbwq
   ·rw [←HR.out];rfl
  | true =>
   have HR:Hid (uq (c::r)=R):=ab (by rw [←hR];simp [hpb]);have HPB:=ab hpb;clear hR hpb;obtain⟨w0,hw0⟩:∃w0,w0=w.alloc (.cells #[.int .i64 0,.string ⟨#[]⟩,.bool false,.slice none 0 0,.int .i64 0,.int .i64 0,.bool false,.slice none 0 0] 38):=⟨_,rfl⟩;obtain⟨hb0,hz0e,hby0⟩:=lY w hw0;have HW0:=ab hw0;have HBY0:=ab hby0;have hz0:w.heap.size+1≤w0.heap.size:=gN;clear hw0 hby0 hz0e;go_enter Tryz.func108,Tryz.ntmps108
   go_wp2_with (go_at_call 115;refine(HSP.out _).mono ?_)
   rintro e w1 hq;obtain⟨a,k,rfl,hsl,hb1⟩:=hq;rw [←HW0.out] at hsl hb1;have hz1:=hb1.size;obtain⟨w2,hw2⟩:∃w2,w2=w1.alloc (.cells #[.slice a (r.length+1) k,.int .i64 0,.int .i64 0] 164):=⟨_,rfl⟩;obtain⟨hb2,hz2e,hbr2⟩:=lY w1 hw2;have hz2:w1.heap.size+1≤w2.heap.size:=gN;have HCH:=ab (hsl.keep (Kept.all hb2));have HRD2:Hid (Rd w2 w1.heap.size (c::r) 0):=ab ⟨a,k,c::r,0,hbr2,(hsl.mono (S':=fun b=>b<w1.heap.size) fun b _ h=>h).keep (Kept.all hb2),hf2,by omega,HF1.out,rfl⟩;have hbw2:Below w.heap.size w w2:=(hb0.trans (hb1.mono gN)).trans (hb2.mono gN);have HBY2:=ab ((hb2.block _ (kT ((hb1.block _ (kT HBY0.out)).trans HBY0.out))).trans ((hb1.block _ (kT HBY0.out)).trans HBY0.out));clear hsl hb1 hz2e hb0;go_upto_region 4 with fail
   rw [←hw2];clear hw2;obtain⟨cb,co,rfl,_,kc⟩:=HCH.out.sl.str (k:=0) (p:=c) rfl;have kc':w2.cell? ⟨cb,co,none⟩=some (.string ⟨c.toArray⟩):=kc;have c0:w2.cell? ⟨w1.heap.size,0,none⟩=some (.slice (some ⟨cb,co,none⟩) (r.length+1) k):=by rw [Jw hbr2];rfl
   have HPR:Hid (Calls Tryz.prog 89 #[.string ⟨c.toArray⟩] w2 fun e w'=>e=.returned (.bool true)∧w2=w'):=ab (HPB.out▸qv c w2 gN);clear kc;go_wp2_with (go_at_call 89;refine HPR.out.mono ?_)
   rintro e wq ⟨rfl,rfl⟩;have HBYq:=HBY2;have hbwq:=hbw2;clear kc' c0 HPR;have HPAT:=ab (CE ((c::r).length+1) w1.heap.size 0 (c::r) w2 HRD2.out gN gN);go_wp2_with (go_at_call 116;refine HPAT.out.mono ?_)
   rintro e w5 hq;clear HPAT;cases hpr:patF ((c::r).length+1) (c::r) 0 with
   | error q =>
    exact aV
   | ok y =>
    exact ay
theorem kU {w:World} {g:Nat} {cs:Array Value} {t:TypeId} {m:Nat × Nat} (h:w.heap[g]?=some (.cells cs t m)) (j:Nat) {u:Value} (hj:cs[j]?=some u):w.cell? ⟨g,j,none⟩=some u:=by
 rw [Jw h];exact hj
theorem mg {w:World} {g:Nat} {cs:Array Value} {t:TypeId} (h:w.heap[g]?=some (.cells cs t (0,0))) (j:Nat):w.frozen? ⟨g,j,none⟩=false:=Lib.frozen_of_heap h j
theorem lx {w:World} {g:Nat} {o':Obj} (h:w.heap[g]?=some o') (o:Obj):(w.alloc o).heap[g]?=some o':=(Below.heap_alloc _ _ _ (kT h)).trans h
def tfv0:Value:=.agg #[.int .i64 0,.string ⟨[].toArray⟩,.bool false,.slice none 0 0,.int .i64 0,.int .i64 0,.bool false,.slice none 0 0,.slice none 0 0,.bool false,.bool false]
def u9 (s:Str) (i B:Nat) (w:World) (R:Option (Tf × Str)) (e:Ending) (w':World):Prop:=Below w.heap.size w w' ∧
 match R with
 | none=>e=.returned (.tuple #[tfv0,.int .i64 0,.bool false])
 | some (f,r)=>∃(fc:List Value) (j:Nat),e=.returned (.tuple #[.agg fc.toArray,.int .i64 j,.bool true])∧TfV w' (fun b=>B≤b) fc f∧i<j∧j<s.length∧s.drop (j+1)=r
def RfRel (s:Str) (i:Nat) (w:World) (RX:Str × Str) (q v:Value) (wr:World):Prop :=
 ∃(j:Nat) (a:Str),i+1≤j∧j≤s.length∧q=.int .i64 j∧wr.ownsRow w.heap.size 5 1 v a.length (mt a)∧wr.heap[w.heap.size]?=some (.cells #[.int .i64 0,.string ⟨[].toArray⟩,.bool false,.slice none 0 0,.int .i64 0,.int .i64 0,.bool false,.slice none 0 0,.slice none 0 0,.bool false,.bool false] 41 (0,0))∧Below w.heap.size w wr∧a.length≤j∧Hid (rxSp (s.drop j) a=RX)
theorem EB {s:Str} {i:Nat} {c:UInt8} {r:Str} (h:s.drop i=c::r) (hc:c.toNat=47):oq (s.drop i)=match (rxSp r []).2 with
  | []=>none
  | _::r3=>match qU (rxSp r []).1 with
   | .error _=>none
   | .ok x=>match oB r3 [] [] with
    | none=>none
    | some (_,[])=>none
    | some (fs,_::r5)=>tC x fs r5:=by
 rw [h];simp only [oq];rw [Jl hc];rfl
theorem Hw {c:UInt8} (h:c.toNat=47) (r a:Str):rxSp (c::r) a=(a,c::r):=by
 cases r with
 | nil=>simp [rxSp,h]
 | cons d r=>simp [rxSp,h]
theorem F1 {c:UInt8} (h:¬c.toNat=47) (h2:¬c.toNat=92) (r a:Str):rxSp (c::r) a=rxSp r (a++[c]):=by
 cases r with
 | nil=>simp [rxSp,h]
 | cons d r=>simp [rxSp,h,h2]
theorem ID {s:Str} {q:Int} (h:qU s=.error q):q≠0:=by
 have hc:∀l:List Str,uq l=.error q→q≠0:=by
  intro l hl;unfold uq at hl;split at hl
  ·rename_i e heq
   injection hl with hl
   subst hl;exact pU _ _ _ _ heq
  ·cases hl
  ·injection hl with hl;rw [←hl];decide
 unfold qU at h;split at h
 ·injection h with h;rw [←h];decide
 ·split at h
  ·exact hc _ h
  ·split at h
   ·exact hc _ h
   ·injection h with h;rw [←h];decide
theorem EE {tk:Str} {a f:Bool} (h:uB tk=some (a,f)):(tk=[]∧a=false∧f=false)∨(tk=[103]∧a=true∧f=false)∨(tk=[105]∧a=false∧f=true)∨(tk=[103,105]∧a=true∧f=true)∨(tk=[105,103]∧a=true∧f=true):=by
 unfold uB at h;split at h
 ·injection h with h;injection h with h1 h2;exact .inl ⟨‹_›,h1.symm,h2.symm⟩
 split at h
 ·injection h with h;injection h with h1 h2;exact .inr (.inl ⟨‹_›,h1.symm,h2.symm⟩)
 split at h
 ·injection h with h;injection h with h1 h2;exact .inr (.inr (.inl ⟨‹_›,h1.symm,h2.symm⟩))
 split at h
 ·rename_i hor
  injection h with h;injection h with h1 h2
  rcases hor with hor|hor
  ·exact .inr (.inr (.inr (.inl ⟨hor,h1.symm,h2.symm⟩)))
  ·exact .inr (.inr (.inr (.inr ⟨hor,h1.symm,h2.symm⟩)))
 ·cases h
theorem Eu {tk:Str} (h:uB tk=none):(tk==[])=false∧(tk==[103])=false∧(tk==[105])=false∧(tk==[103,105])=false∧(tk==[105,103])=false:=by
 unfold uB at h;split at h
 ·cases h
 split at h
 ·cases h
 split at h
 ·cases h
 split at h
 ·cases h
 rename_i h1 h2 h3 h4
 exact⟨JP.2 h1,JP.2 h2,JP.2 h3,JP.2 fun e=>h4 (.inl e),JP.2 fun e=>h4 (.inr e)⟩
theorem AZ (s:Str) (i:Nat) (w:World) (hi:i≤s.length) (hs:s.length≤600000) :
  Calls Tryz.prog 94 #[.string ⟨s.toArray⟩,.int .i64 i] w fun e w'=>u9 s i w.heap.size w (oq (s.drop i)) e w':=by
 obtain⟨R,hR⟩:∃R,R=oq (s.drop i):=⟨_,rfl⟩;rw [←hR];obtain⟨iu,hiu⟩:=info_parts qP;have g0:decide ((i:Int)<0)=false:=JT gN;have hby0:(w.alloc (.cells #[.int .i64 0,.string ⟨[].toArray⟩,.bool false,.slice none 0 0,.int .i64 0,.int .i64 0,.bool false,.slice none 0 0,.slice none 0 0,.bool false,.bool false] 41)).heap[w.heap.size]?=some (.cells #[.int .i64 0,.string ⟨[].toArray⟩,.bool false,.slice none 0 0,.int .i64 0,.int .i64 0,.bool false,.slice none 0 0,.slice none 0 0,.bool false,.bool false] 41 (0,0)):=heap_alloc_new w _;have HBY0:=ab hby0;have hb0:Below w.heap.size w (w.alloc (.cells #[.int .i64 0,.string ⟨[].toArray⟩,.bool false,.slice none 0 0,.int .i64 0,.int .i64 0,.bool false,.slice none 0 0,.slice none 0 0,.bool false,.bool false] 41)):=(Below.refl _ _).alloc (Ju _) _;cases hd:s.drop i with
 | nil =>
  have h2:=ms hd;have HE:Hid (R=none):=ab (by rw [hR,hd];rfl);have g1:decide ((s.length:Int)≤(i:Int))=true:=JR gN;clear hd hR;exact fu
 | cons c r =>
  obtain⟨h2,h3,hr⟩:=lG hd;have g1:decide ((s.length:Int)≤(i:Int))=false:=JT gN;by_cases c47:c.toNat=47
  ·have b47:((c.toNat:Int)==47)=true:= jj
   have b47':((c.toNat:Int) != 47)=false:=by simp [bne,b47]
   have HF:Hid (R=_):=ab (hR.trans (EB hd c47));have HRX:Hid (rxSp (s.drop (i+1)) []=rxSp r []):=ab (by rw [hr]);generalize hRX:rxSp r []=RX at *
   clear hd hR hr hby0 c47;go_enter Tryz.func94,Tryz.ntmps94
   go_wp2
   go_loopw [1,7] (fun q v wr=>RfRel s i w RX q v wr) (fun q _ _=>s.length-(intOf q).toNat)
   case atStart=>exact⟨i+1,[],by omega,by omega,by go_num,World.ownsRow_nil _ _ _ _,HBY0.out,hb0,by simp,HRX⟩
   case round =>
    obtain⟨j,a,hij,hjl,rfl,hown,hby,hb,ha,HS⟩:=hrel;clear HRX h3 h2 g1 b47 b47' HBY0 hb0;have hB:=hb.size;have HBY:=ab hby;have hcv:=oN (P:=Tryz.prog) (src:=52) (dst:=9) Tryz.underlying52 Tryz.underlying5 Tryz.underlying9 hown;cases hd:s.drop j with
    | nil =>
     have h2:=ms hd;have g2:decide ((j:Int)<(s.length:Int))=false:=JT gN;have g3:decide ((s.length:Int)≤(j:Int))=true:=JR gN;have HX:Hid (RX=(a,[])):=ab (by rw [←HS.out,hd];rfl);have HE:Hid (R=none):=ab (by rw [HF.out,HX.out]);clear hd HS HF HX;cases hx:qU a with
     | error q =>
      have HRD:=ab (zV a wr gN);rw [hx] at HRD;clear hx;exact fi
     | ok x =>
      have HRD:=ab (zV a wr gN);rw [hx] at HRD;clear hx;go_wp2_with (go_at_call 108;refine HRD.out.mono ?_)
      rintro e w1 ⟨hb1,cc,rfl,hxv⟩;obtain⟨k,ch,ng,rs,lo,hii,lz,ks⟩:=x;obtain⟨ra,rc,ka,kc,rfl,_,_⟩:=hxv.open_;have hb1w:Below w.heap.size w w1:=hb.trans (hb1.mono hB);have hB1:=hb1w.size;have hby1:=(hb1.block _ (kT HBY.out)).trans HBY.out;have z0:=fun o=>kU (lx hby1 o) 0 rfl
      have z1:=fun o=>kU (lx hby1 o) 1 rfl
      have z2:=fun o=>kU (lx hby1 o) 2 rfl
      have z3:=fun o=>kU (lx hby1 o) 3 rfl
      have z4:=fun o=>kU (lx hby1 o) 4 rfl
      have z5:=fun o=>kU (lx hby1 o) 5 rfl
      have z6:=fun o=>kU (lx hby1 o) 6 rfl
      have z7:=fun o=>kU (lx hby1 o) 7 rfl
      have z8:=fun o=>kU (lx hby1 o) 8 rfl
      have z9:=fun o=>kU (lx hby1 o) 9 rfl
      have z10:=fun o=>kU (lx hby1 o) 10 rfl
      have zf:=fun o=>mg (lx hby1 o)
      clear hby1 hby hxv;unfold rxc;go_wp2
      exact aB
    | cons c r =>
     obtain⟨h2,h3,hr⟩:=lG hd;have g2:decide ((j:Int)<(s.length:Int))=true:=JR gN;have Hr:=ab hr;by_cases c47:c.toNat=47
     ·have b47:((c.toNat:Int)==47)=true:= jj
      have b47':((c.toNat:Int) != 47)=false:=by simp [bne,b47]
      have g3:decide ((s.length:Int)≤(j:Int))=false:=JT gN;have HX:Hid (RX=(a,c::r)):=ab (by rw [←HS.out,hd];exact Hw c47 r a);have HE1:Hid (R=match qU a with
       | .error _=>none
       | .ok x=>match oB r [] [] with
        | none=>none
        | some (_,[])=>none
        | some (fs,_::r5)=>tC x fs r5):=ab (by rw [HF.out,HX.out])
      have HRD:=ab (zV a wr gN);clear hd HS HF HX hr c47;cases hx:qU a with
      | error q =>
       have HE:Hid (R=none):=ab (by rw [HE1.out,hx]);have hq:(q==0)=false:=by rw [JP];exact ID hx
       have hq':(q != 0)=true:=by simp [bne,hq]
       rw [hx] at HRD;clear hx HE1;exact fi
      | ok x =>
       have HE2:Hid (R=match oB r [] [] with
        | none=>none
        | some (_,[])=>none
        | some (fs,_::r5)=>tC x fs r5):=ab (by rw [HE1.out,hx])
       rw [hx] at HRD;clear hx HE1;have HFR:Hid (∀w:World,Calls Tryz.prog 109 #[.string ⟨s.toArray⟩,.int .i64 ((j:Int)+1)] w fun e w'=>Below w.heap.size w w'∧Bn s (j+1) w.heap.size (oB r [] []) e w'):=ab (fun w=>by
        have:=Hx s (j+1) w gN gN
        rw [Hr.out] at this;push_cast at this;exact this)
       go_wp2_with (go_at_call 108;refine HRD.out.mono ?_)
       rintro e w1 ⟨hb1,cc,rfl,hxv⟩;obtain⟨k,ch,ng,rs,lo,hii,lz,ks⟩:=x;have hxv0:=hxv;obtain⟨ra,rc,ka,kc,rfl,_,_⟩:=hxv.open_;have HXV:=ab hxv0;have hb1w:Below w.heap.size w w1:=hb.trans (hb1.mono hB);have hB1:=hb1w.size;have HBY1:=ab ((hb1.block _ (kT HBY.out)).trans HBY.out);have HZ1:=ab hb1.size;have HLT:=ab (kT HBY.out);clear hby hxv hxv0;unfold rxc at HXV ⊢;go_wp2_with (go_at_call 109;refine(HFR.out _).mono ?_)
       rintro e w3 ⟨hb3,hp⟩;have hz3:=hb3.size;simp only [JO] at hz3;have hby3:=(hb3.block _ (kT (lx HBY1.out _))).trans (lx HBY1.out _);have hbx3:=(hb3.block _ (kT (heap_alloc_new w1 _))).trans (heap_alloc_new w1 _);have HBX3:=ab hbx3;have HBY3:=ab hby3;have hb3w:Below w.heap.size w w3:=(hb1w.alloc hB1 _).trans (hb3.mono gV);have hB3:=hb3w.size;have HXV3:=ab ((HXV.out.later ((Below.refl _ _).alloc (Ju _) _)).later hb3);clear hbx3 HXV;cases hX:oB r [] [] with
       | none =>
        have HE:Hid (R=none):=ab (by rw [HE2.out,hX]);rw [hX] at hp;have hp':e=.returned (.tuple #[.slice none 0 0,.int .i64 0,.bool false]):=hp;subst hp';clear hp hX HE2 HXV3;have z0:=kU hby3 0 rfl;have z1:=kU hby3 1 rfl;have z2:=kU hby3 2 rfl;have z3:=kU hby3 3 rfl;have z4:=kU hby3 4 rfl;have z5:=kU hby3 5 rfl;have z6:=kU hby3 6 rfl;have z7:=kU hby3 7 rfl;have z8:=kU hby3 8 rfl;have z9:=kU hby3 9 rfl;have z10:=kU hby3 10 rfl;have zf:=mg hby3;clear hby3;go_wp2
        exact aB
       | some p =>
        obtain⟨fs,r4⟩:=p;rw [hX] at hp;obtain⟨fa,fcp,j2,rfl,hsl,hj1,hj2,hj3,_,_⟩:=hp;obtain⟨_,d,r5,rfl,hd47⟩:=pD _ _ _ _ hX;have HSL:=ab hsl;have HE3:Hid (R=tC (.mk k ch ng rs lo hii lz ks) fs r5):=ab (by rw [HE2.out,hX]);have hix:Lib.indexByte (List.drop j2 s) ((125:Int)).toNat.toUInt8=match r5.dropWhile mV with|[]=>-1|_::_=>((r5.takeWhile mV).length:Int)+1:=by
         rw [hj3];have e125:(125:Int).toNat.toUInt8=125:=rfl;have hb:(d==125)=false:=by rw [JP];intro e;rw [e] at hd47;simp at hd47
         rw [e125];simp only [Lib.indexByte,hb];rw [DZ];cases r5.dropWhile mV with
         | nil=>rfl
         | cons x y =>
          have h1:((((r5.takeWhile mV).length:Int))==-1)=false:=by rw [JP];omega
          simp only [h1,J1,if_false]
        obtain⟨_,_,hj4⟩:=lG hj3;have HJ4:=ab hj4;have hspan:=Jq (p:=mV) (l:=r5);have HE4:Hid (R=match r5.dropWhile mV with
         | []=>none
         | _::r2=>match uB (r5.takeWhile mV) with
          | none=>none
          | some (a,f)=>some (⟨.mk k ch ng rs lo hii lz ks,fs,f,a⟩,r2)):=ab HE3.out
        clear hX HE2 hj3 hj4 hsl hd47 HE3;generalize r5.takeWhile mV=tk at *
        generalize r5.dropWhile mV=dw at *
        have HSP:=ab hspan;have HX0:=ab hix;clear hspan hix;cases dw with
        | nil =>
         have HIX:Hid (Lib.indexByte (List.drop j2 s) ((125:Int)).toNat.toUInt8=-1):=HX0;have HE:Hid (R=none):=HE4;clear HX0 HE4 HXV3;have z0:=kU hby3 0 rfl;have z1:=kU hby3 1 rfl;have z2:=kU hby3 2 rfl;have z3:=kU hby3 3 rfl;have z4:=kU hby3 4 rfl;have z5:=kU hby3 5 rfl;have z6:=kU hby3 6 rfl;have z7:=kU hby3 7 rfl;have z8:=kU hby3 8 rfl;have z9:=kU hby3 9 rfl;have z10:=kU hby3 10 rfl;have zf:=mg hby3;clear hby3;exact gC
        | cons d2 r6 =>
         have HIX:Hid (Lib.indexByte (List.drop j2 s) ((125:Int)).toNat.toUInt8=(tk.length:Int)+1):=HX0;have HE5:Hid (R=match uB tk with|none=>none|some (a,f)=>some (⟨.mk k ch ng rs lo hii lz ks,fs,f,a⟩,r6)):=HE4;have hlen:j2+1+tk.length<s.length:=by
          have h1:=Jp List.length HSP.out;have h2:=Jp List.length HJ4.out;simp at h1 h2;omega
         obtain⟨m,hm⟩:∃m,m=tk.length:=⟨_,rfl⟩;have hK:List.take (j2+(m+1)-(j2+1)) (List.drop (j2+1) s)=tk:=by
          rw [HJ4.out,←HSP.out,show j2+(m+1)-(j2+1)=tk.length by omega,List.take_left]
         have HDR:Hid (s.drop (j2+(m+1)+1)=r6):=ab (by
          rw [show j2+(m+1)+1=j2+1+(tk.length+1) by omega,←List.drop_drop,HJ4.out,←HSP.out,List.drop_append];simp)
         rw [←hm] at HIX hlen;clear HX0 HE4 hm HSP;obtain⟨y0,y1,y2,y3,y4,y5,y6,y7,_⟩:=kY HBX3.out;have z0:=fun o=>kU (lx hby3 o) 0 rfl
         have z1:=fun o=>kU (lx hby3 o) 1 rfl
         have z2:=fun o=>kU (lx hby3 o) 2 rfl
         have z3:=fun o=>kU (lx hby3 o) 3 rfl
         have z4:=fun o=>kU (lx hby3 o) 4 rfl
         have z5:=fun o=>kU (lx hby3 o) 5 rfl
         have z6:=fun o=>kU (lx hby3 o) 6 rfl
         have z7:=fun o=>kU (lx hby3 o) 7 rfl
         have z8:=fun o=>kU (lx hby3 o) 8 rfl
         have z9:=fun o=>kU (lx hby3 o) 9 rfl
         have z10:=fun o=>kU (lx hby3 o) 10 rfl
         have zf:=fun o=>mg (lx hby3 o)
         clear hby3;cases hfl:uB tk with
         | none =>
          have HE:Hid (R=none):=ab kH;obtain⟨t0,t1,t2,t3,t4⟩:=Eu hfl;clear HE5 hfl HXV3;exact gC
         | some af =>
          obtain⟨al,fd⟩:=af;rcases EE hfl with⟨rfl,rfl,rfl⟩|⟨rfl,rfl,rfl⟩|⟨rfl,rfl,rfl⟩|⟨rfl,rfl,rfl⟩|⟨rfl,rfl,rfl⟩
          ·have HE6:Hid (R=some (⟨.mk k ch ng rs lo hii lz ks,fs,false,false⟩,r6)):=ab kH
           clear HE5 hfl;go_wp2_with (go_at_call 47;refine(lX _ HIX.out).mono ?_;rintro e w4 ⟨rfl,rfl⟩)
           refine JM (v:=.tuple #[.agg #[.int .i64 k,.string ⟨ch.toArray⟩,.bool ng,.slice ra rs.length rc,.int .i64 lo,.int .i64 hii,.bool lz,.slice ka ks.length kc,.slice fa fs.length fcp,.bool false,.bool false],.int .i64 (j2+(m+1)),.bool true]) iK rfl ⟨?_,?_⟩
           ·(repeat (first|with_reducible exact Below.refl _ _|with_reducible assumption|(refine Below.setCell ?_ ij _)|(refine Below.alloc ?_ gX _)|(refine Below.drew ?_)))
           ·rw [HE6.out]
            refine⟨_,j2+(m+1),rfl,?_,by omega,by omega,HDR.out⟩;have hT:TfV w3 (fun b=>w.heap.size<b∧b<w3.heap.size) (rxc k ch ng ra rs.length rc lo hii lz ka ks.length kc++[.slice fa fs.length fcp,.bool false,.bool false]) ⟨.mk k ch ng rs lo hii lz ks,fs,false,false⟩ :=
             ⟨_,fa,fcp,HXV3.out.mono fun b hb hlt=>by have h1:=HLT.out;have h2:wr.heap.size≤b:=hb;constructor<;>omega,HSL.out.mono fun b hb hlt=>by have h2:(w1.alloc _).heap.size≤b:=hb;simp only [JO] at h2;constructor<;>omega,rfl⟩
            exact fb
          ·have HE6:Hid (R=some (⟨.mk k ch ng rs lo hii lz ks,fs,false,true⟩,r6)):=ab kH
           clear HE5 hfl;go_wp2_with (go_at_call 47;refine(lX _ HIX.out).mono ?_;rintro e w4 ⟨rfl,rfl⟩)
           refine JM (v:=.tuple #[.agg #[.int .i64 k,.string ⟨ch.toArray⟩,.bool ng,.slice ra rs.length rc,.int .i64 lo,.int .i64 hii,.bool lz,.slice ka ks.length kc,.slice fa fs.length fcp,.bool false,.bool true],.int .i64 (j2+(m+1)),.bool true]) iK rfl ⟨?_,?_⟩
           ·(repeat (first|with_reducible exact Below.refl _ _|with_reducible assumption|(refine Below.setCell ?_ ij _)|(refine Below.alloc ?_ gX _)|(refine Below.drew ?_)))
           ·rw [HE6.out]
            refine⟨_,j2+(m+1),rfl,?_,by omega,by omega,HDR.out⟩;have hT:TfV w3 (fun b=>w.heap.size<b∧b<w3.heap.size) (rxc k ch ng ra rs.length rc lo hii lz ka ks.length kc++[.slice fa fs.length fcp,.bool false,.bool true]) ⟨.mk k ch ng rs lo hii lz ks,fs,false,true⟩ :=
             ⟨_,fa,fcp,HXV3.out.mono fun b hb hlt=>by have h1:=HLT.out;have h2:wr.heap.size≤b:=hb;constructor<;>omega,HSL.out.mono fun b hb hlt=>by have h2:(w1.alloc _).heap.size≤b:=hb;simp only [JO] at h2;constructor<;>omega,rfl⟩
            exact fb
          ·have HE6:Hid (R=some (⟨.mk k ch ng rs lo hii lz ks,fs,true,false⟩,r6)):=ab kH
           clear HE5 hfl;go_wp2_with (go_at_call 47;refine(lX _ HIX.out).mono ?_;rintro e w4 ⟨rfl,rfl⟩)
           refine JM (v:=.tuple #[.agg #[.int .i64 k,.string ⟨ch.toArray⟩,.bool ng,.slice ra rs.length rc,.int .i64 lo,.int .i64 hii,.bool lz,.slice ka ks.length kc,.slice fa fs.length fcp,.bool true,.bool false],.int .i64 (j2+(m+1)),.bool true]) iK rfl ⟨?_,?_⟩
           ·(repeat (first|with_reducible exact Below.refl _ _|with_reducible assumption|(refine Below.setCell ?_ ij _)|(refine Below.alloc ?_ gX _)|(refine Below.drew ?_)))
           ·rw [HE6.out]
            refine⟨_,j2+(m+1),rfl,?_,by omega,by omega,HDR.out⟩;have hT:TfV w3 (fun b=>w.heap.size<b∧b<w3.heap.size) (rxc k ch ng ra rs.length rc lo hii lz ka ks.length kc++[.slice fa fs.length fcp,.bool true,.bool false]) ⟨.mk k ch ng rs lo hii lz ks,fs,true,false⟩ :=
             ⟨_,fa,fcp,HXV3.out.mono fun b hb hlt=>by have h1:=HLT.out;have h2:wr.heap.size≤b:=hb;constructor<;>omega,HSL.out.mono fun b hb hlt=>by have h2:(w1.alloc _).heap.size≤b:=hb;simp only [JO] at h2;constructor<;>omega,rfl⟩
            exact fb
          ·exact aM
          ·exact aM
     ·have b47:((c.toNat:Int)==47)=false:= iP
      have b47':((c.toNat:Int) != 47)=true:=by simp [bne,b47]
      by_cases c92:c.toNat=92
      ·have b92:((c.toNat:Int)==92)=true:= jj
       cases r with
       | nil =>
        have HS2:Hid (rxSp (s.drop (j+1)) (a++[c])=RX):=ab (by rw [Hr.out,←HS.out,hd];simp [rxSp,c47]);have hln:=ms hr;have g4:decide ((j:Int)+1<(s.length:Int))=false:=JT gN;exact bG
       | cons d r2 =>
        obtain⟨k2,k3,kr⟩:=lG hr;have Hkr:=ab kr;have g4:decide ((j:Int)+1<(s.length:Int))=true:=JR gN;have gk0:(0:Int)≤(j:Int)+1:=gN;have gk1:(j:Int)+1<(s.length:Int):=gN;have gk2:((j:Int)+1).toNat=j+1:=gN;by_cases d47:d.toNat=47
        ·have d47b:((d.toNat:Int)==47)=true:= jj
         have d47':((d.toNat:Int) != 47)=false:=by simp [bne,d47b]
         have HS2:Hid (rxSp (s.drop (j+2)) (a++[d])=RX):=ab jr;clear hd HS hr c47 c92 d47 kr;go_wp2_with (at_builtin;refine mA w.heap.size 5 rfl _ _ 52 rfl Tryz.underlying52 hiu rfl gR rfl hown rfl iV rfl ii gN gR hB ?_;intro v1 w1 hown1 hg1 hb1 hne1)
         go_roundw
         case rel =>
          refine⟨(j+2),(a++[d]),by omega,by omega,by go_num,?_,?_,hb.trans hb1,by simp;omega,HS2⟩
          ·simpa [mt] using hown1
          ·exact gD
         case measure=>simp [intOf];omega
        ·have d47b:((d.toNat:Int)==47)=false:= iP
         have d47':((d.toNat:Int) != 47)=true:=by simp [bne,d47b]
         have HS2:Hid (rxSp (s.drop (j+2)) ((a++[92])++[d])=RX):=ab jr;clear hd HS hr c47 c92 d47 kr;go_wp2_with (at_builtin;first|refine mA w.heap.size 5 rfl _ _ 52 rfl Tryz.underlying52 hiu rfl gR rfl hown rfl iV rfl ii gN gR hB ?_;intro v1 w1 hown1 hg1 hb1 hne1|refine mA w.heap.size 5 rfl _ _ 52 rfl Tryz.underlying52 hiu rfl gR rfl hown1 rfl iV rfl ii gN gR (by have:=hb1.size;omega) ?_;intro v2 w2 hown2 hg2 hb2 hne2)
         go_roundw
         case rel =>
          refine⟨(j+2),(a++[92]++[d]),by omega,by omega,by go_num,?_,?_,(hb.trans hb1).trans hb2,by simp;omega,HS2⟩
          ·simpa [mt] using hown2
          ·have hx1:=(hg1.block _ (kT HBY.out) (nL hown HBY.out gR).symm).trans HBY.out
           exact(hg2.block _ (kT hx1) (nL hown1 hx1 gR).symm).trans hx1
         case measure=>simp [intOf];omega
      ·have b92:((c.toNat:Int)==92)=false:= iP
       have HS2:Hid (rxSp (s.drop (j+1)) (a++[c])=RX):=ab (by rw [Hr.out,←HS.out,hd];exact(F1 c47 c92 r a).symm);exact bG
  ·have b47:((c.toNat:Int)==47)=false:= iP
   have b47':((c.toNat:Int) != 47)=true:=by simp [bne,b47]
   have HE:Hid (R=none):=ab (by rw [hR,hd];simp only [oq];rw [Jo c47]);clear hd hR hr;exact fu
theorem px:(Tryz.prog.info? 44).map (fun i=>(i.zero,i.size,i.bytes))=some (some (.agg #[.int .i64 0,.string ⟨#[]⟩,.int .i64 0,.bool false,.bool false,.int .i64 0,.string ⟨#[]⟩,.bool false,.slice none 0 0,.int .i64 0,.int .i64 0,.bool false,.slice none 0 0,.slice none 0 0,.bool false,.bool false,.slice none 0 0,.slice none 0 0]),18,224):=by kernel_rfl
theorem SnV.box {w:World} {S:Nat→Prop} {cc:List Value} {x:Sn} (h:SnV w S cc x) :
  ∃(p0:Int) (p1:Str) (p2:Int) (p3 p4:Bool) (p5:Int) (p6:Str) (p7:Bool) (p8:Option Addr) (p9 p10:Nat) (p11 p12:Int) (p13:Bool) (p14:Option Addr) (p15 p16:Nat) (p17:Option Addr) (p18 p19:Nat) (p20 p21:Bool) (p22:Option Addr) (p23 p24:Nat) (p25:Option Addr) (p26 p27:Nat),
   cc=[.int .i64 p0,.string ⟨p1.toArray⟩,.int .i64 p2,.bool p3,.bool p4,.int .i64 p5,.string ⟨p6.toArray⟩,.bool p7,.slice p8 p9 p10,.int .i64 p11,.int .i64 p12,.bool p13,.slice p14 p15 p16,.slice p17 p18 p19,.bool p20,.bool p21,.slice p22 p23 p24,.slice p25 p26 p27]∧p0=x.kind∧p1=x.text∧p2=x.n∧p3=x.has∧p4=x.turned∧p23=x.opts.length∧p26=x.kids.length:=by
 cases h with
 | @mk k t n hs u f os ks fc oa ka oc kc css h0 h1 h2 h3 =>
  obtain⟨rk,rch,rng,rrs,rlo,rhi,rlz,rks,ra,rcp,rka,rkc,fa,fcp,hc⟩:=h0.open_;refine⟨k,t,n,hs,u,rk,rch,rng,ra,rrs.length,rcp,rlo,rhi,rlz,rka,rks.length,rkc,fa,f.fs.length,fcp,f.fold,f.all,oa,os.length,oc,ka,ks.length,kc,?_,rfl,rfl,rfl,rfl,rfl,rfl,rfl⟩;unfold snc;rw [hc.eq];rfl
theorem zL (w:World) (S:Nat→Prop) (t:Str):SnV w S [.int .i64 0,.string ⟨t.toArray⟩,.int .i64 0,.bool false,.bool false,.int .i64 0,.string ⟨#[]⟩,.bool false,.slice none 0 0,.int .i64 0,.int .i64 0,.bool false,.slice none 0 0,.slice none 0 0,.bool false,.bool false,.slice none 0 0,.slice none 0 0] (pM t) :=
 SnV.close (os:=[]) (ks:=[]) (TfV.zero w S) (SlS.none_ _ _ _ _) (SnSl.nil _ _ _)
theorem OwnN.app {w w':World} {B:Nat} {S:Nat→Prop} {v v':Value} {xs ys:List Sn} {css ds:List (List Value)} {m:Nat} (hr1:SnVs w (fun b=>S b∧v.ownBlock≠some b) css xs)
  (hr2:SnVs w (fun b=>S b∧v.ownBlock≠some b) ds ys) (hm:m=ys.length)
  (ho:w'.ownsRow B 44 18 v' (xs.length+m) (css.flatten++ds.flatten)) (hg:w.grownBy w' v.ownBlock) (hmv:xj w v v'):OwnN w' B S v' (xs++ys):=by
 subst hm;refine⟨css++ds,by rw [List.flatten_append,JA];exact ho,?_⟩;have hk:Kept (fun b=>(S b∧v.ownBlock≠some b)∧b<w.heap.size) w w':=⟨hg.size,fun b hb hlt=>hg.block b hlt (fun e=>hb.1.2 e.symm)⟩;refine(((hr1.append hr2).mono (S':=fun b=>(S b∧v.ownBlock≠some b)∧b<w.heap.size) fun b h1 h2=>⟨h1,h2⟩).keep hk).mono fun b hb _=>⟨hb.1.1,fun e=>?_⟩
 rcases hmv with h|h
 ·exact hb.1.2 (h▸e)
 ·have:=h b e;omega
theorem OwnN.mono {w:World} {B:Nat} {S S':Nat→Prop} {v:Value} {xs:List Sn} (h:OwnN w B S v xs) (hS:∀b,S b→b<w.heap.size→S' b):OwnN w B S' v xs:=by
 obtain⟨css,h1,h2⟩:=h;exact⟨css,h1,h2.mono fun b hb hlt=>⟨hS b hb.1 hlt,hb.2⟩⟩
theorem OwnN.sl {w:World} {B:Nat} {S:Nat→Prop} {a:Option Addr} {n c:Nat} {xs:List Sn} (h:OwnN w B S (.slice a n c) xs):n=xs.length∧SnSl w (fun b=>S b∨B≤b) a xs.length xs:=by
 obtain⟨css,h1,h2⟩:=h;have hn:n=xs.length:=by
  exact cN
 subst hn;refine⟨rfl,css,⟨(Sl.of_own h1).1,fun hn=>?_⟩,h2.mono fun b hb _=>.inl hb.1⟩;exact eh
def WtPost (B:Nat) (S:Nat→Prop) (v:Value) (xs:List Sn) (w:World) (e:Ending) (w':World):Prop :=
 ∃v',e=.returned v'∧OwnN w' B S v' xs∧w.grownBy w' v.ownBlock∧xj w v v'
theorem uu {B B':Nat} {S:Nat→Prop} {v tv:Value} {xs:List Sn} {t:Str} (w:World) (h:OwnN w B S v xs) (ht:w.ownsRow B' 5 1 tv t.length (mt t)) (hB:B≤w.heap.size) (hx:xs.length≤1000000) (htl:t.length≤1000000) :
  Calls Tryz.prog 41 #[v,tv] w fun e w'=>WtPost B S v (lO xs t) w e w':=by
 obtain⟨a,c,rfl⟩:=h.form;obtain⟨ta,tc,rfl⟩:=lD ht;obtain⟨iN,hiN⟩:=info_parts px;cases ht0:t with
 | nil =>
  subst ht0;have HW:Hid (lO xs []=xs):=ab (by simp [lO]);have H:=ab h;clear h ht;go_enter Tryz.func41,Tryz.ntmps41
  go_wp2
  go_ret
  exact⟨_,rfl,by rw [HW.out];exact H.out,lF _ _,.inl rfl⟩
 | cons d r =>
  rw [←ht0];have htp:0<t.length:=by rw [ht0];simp
  have g0:((t.length:Int)==0)=false:=by rw [JP];omega
  have HW:Hid (lO xs t=xs++[pM t]):=ab (by unfold lO;rw [Jo (by rw [ht0];simp)]);have hcv:=oN (P:=Tryz.prog) (src:=52) (dst:=9) Tryz.underlying52 Tryz.underlying5 Tryz.underlying9 ht;obtain⟨css,ho,hv⟩:=h;have hnb:Below w.heap.size w (w.alloc (.cells #[.int .i64 0,.string ⟨t.toArray⟩,.int .i64 0,.bool false,.bool false,.int .i64 0,.string ⟨#[]⟩,.bool false,.slice none 0 0,.int .i64 0,.int .i64 0,.bool false,.slice none 0 0,.slice none 0 0,.bool false,.bool false,.slice none 0 0,.slice none 0 0] 44)):=(Below.refl _ _).alloc (Ju _) _;have ho1:=lh ho hnb;have hv1:=hv.later hnb;have hlt:=ho.lt;have hsl1:=Sl.lit (n:=1) (sz:=18) (heap_alloc_new w (.cells #[.int .i64 0,.string ⟨t.toArray⟩,.int .i64 0,.bool false,.bool false,.int .i64 0,.string ⟨#[]⟩,.bool false,.slice none 0 0,.int .i64 0,.int .i64 0,.bool false,.slice none 0 0,.slice none 0 0,.bool false,.bool false,.slice none 0 0,.slice none 0 0] 44)) rfl;have hone:=(zL w S t).one;have HO1:=ab ho1;have HV1:=ab hv1;have HSL:=ab hsl1;have HNB:=ab hnb;have HONE:=ab hone;clear ho hv ho1 hv1 hsl1 hnb hone ht ht0;go_enter Tryz.func41,Tryz.ntmps41
  go_wp2_with (at_builtin;refine lJ B 44 rfl _ _ 22 rfl Tryz.underlying22 hiN rfl gR rfl HO1.out rfl HSL.out HONE.out gN gN gR gV ?_)
  intro v7 w7 ho7 hq7 hb7 hmv;have hg7:w.grownBy w7 (Value.slice a xs.length c).ownBlock:=kR (kS HNB.out _) hq7;go_wp2
  go_ret
  refine⟨_,rfl,?_,hg7,?_⟩
  ·rw [HW.out]
   refine OwnN.app (ds:=[_]) (m:=1) HV1.out (.cons (zL _ _ t) .nil) rfl ?_ hq7 hmv;simpa using ho7
  ·rcases hmv with hm|hm
   ·exact .inl hm
   ·exact .inr fun k hk=>by have:=hm k hk;simp at this;omega
open Go.RowKit Go.Maps Go.MapKept
open Go.ChangeMaps (setBlock modify_eq_set)
theorem mp_look {P:Program} {w:World} {t kt et:TypeId} {m:Nat} {es:Array MapEntry} {clock:Nat} {z key:Value} {kl:Lit} (K:Keyed P kt) (ht:P.underlying t=some (.map kt et)) (hz:(zeroValue et).run P w=.ok z w)
  (hb:w.heap[m]?=some (.map es clock)) (hk:∀x∈es.toList,∃l,keyOf P kt x.key=some l) (hkey:keyOf P kt key=some kl) :
  ((Instr.lookup t (.map (some m)) key true).run P w=.ok (.tuple #[z,.bool false]) w∧∀x∈es.toList,x.key≠key) ∨
  ∃e0∈es.toList,e0.key=key∧(Instr.lookup t (.map (some m)) key true).run P w=.ok (.tuple #[e0.val,.bool true]) w:=by
 rcases K.find w hkey es.toList hk with⟨h1,h2⟩|⟨j,e0,h1,h2,h3⟩
 ·exact Or.inl ⟨by simp [Instr.lookup,run_underlying ht,MapKept.run_getObj_map hb,K.check w _ hkey,h1,hz,Result.andThen],h2⟩
 ·exact Or.inr ⟨e0,JH h2,h3,by simp [Instr.lookup,run_underlying ht,MapKept.run_getObj_map hb,K.check w _ hkey,h1,Result.andThen]⟩
theorem mp_store {P:Program} {w:World} {t kt et:TypeId} {m:Nat} {es:Array MapEntry} {clock:Nat} {key val:Value} {kl:Lit} (K:Keyed P kt) (ht:P.underlying t=some (.map kt et))
  (hb:w.heap[m]?=some (.map es clock)) (hk:∀x∈es.toList,∃l,keyOf P kt x.key=some l) (hkey:keyOf P kt key=some kl) :
  ∃es' clock',(Instr.mapUpdate t (.map (some m)) key val).run P w=.ok () (setBlock w m (.map es' clock'))∧∀x∈es'.toList,x∈es.toList∨(x.key=key∧x.val=val):=by
 rcases K.find w hkey es.toList hk with⟨h1,h2⟩|⟨j,e0,h1,h2,h3⟩
 ·refine⟨es.push ⟨key,val,clock⟩,clock+1,?_,fun x hx=>?_⟩
  ·simp [Instr.mapUpdate,run_underlying ht,MapKept.run_getObj_map hb,K.check w false hkey,h1,MapKept.run_setObj_map _ hb,Result.andThen,setBlock]
  ·simp only [Array.toList_push,JX,JY] at hx
   rcases hx with hx|rfl
   ·exact .inl hx
   ·exact .inr ⟨rfl,rfl⟩
 ·have hj:es[j]?=some e0:=by simpa using h2
  have hlist:(es.modify j (fun e'=>{ e' with key:=key,val:=val })).toList=es.toList.set j { e0 with key:=key,val:=val }:=by rw [Array.toList_modify,modify_eq_set _ _ _ _ h2]
  refine⟨es.modify j (fun e'=>{ e' with key:=key,val:=val }),clock,?_,fun x hx=>?_⟩
  ·simp [Instr.mapUpdate,run_underlying ht,MapKept.run_getObj_map hb,K.check w false hkey,h1,hj,h3,K.stays w hkey,MapKept.run_setObj_map _ hb,Result.andThen,setBlock]
  ·rw [hlist] at hx
   rcases List.mem_or_eq_of_mem_set hx with hx|rfl
   ·exact .inl hx
   ·exact .inr ⟨rfl,rfl⟩
theorem AC {P:Program} (w:World) {ops:Array Oper} {rest:List Oper} {o:Oper} {a:Act} {Q:Exit→Act→World→Prop} (hg:o.guard=none) (m x v:Operand) (t:TypeId) (hop:o.op=Op.mapUpdate t m x v)
  (kt et:TypeId) (K:Keyed P kt) (ht:P.underlying t=some (.map kt et)) (b:Nat) (es:Array MapEntry) (clock:Nat) (hm:a.eval m=.map (some b)) (hb:w.heap[b]?=some (.map es clock)) (hk:∀x∈es.toList,∃l,keyOf P kt x.key=some l)
  (key val:Value) (kl:Lit) (hx:a.eval x=key) (hv:a.eval v=val) (hkey:keyOf P kt key=some kl)
  (hK:∀es' clock',(∀x∈es'.toList,x∈es.toList∨(x.key=key∧x.val=val))→wpList P ops Q rest (a.put o.dst undef) (setBlock w b (.map es' clock'))) :
  wpList P ops Q (o::rest) a w:=by
 refine wpList_plain hg fun K' hK'=>?_
 obtain⟨es',clock',hrun,r1⟩:=mp_store (val:=val) K ht hb hk hkey;unfold Oper.wp;simp [execOp,hop,hm,hx,hv,hrun,Result.andThen]
 exact hK' _ _ (hK es' clock' r1)
theorem zm {w:World} {b:Nat} {o o':Obj} (h:w.heap[b]?=some o):(setBlock w b o').heap[b]?=some o':=by
 have hlt:=(Array.getElem?_eq_some_iff.1 h).1;simp [setBlock,hlt]
theorem nr {w:World} {b k:Nat} (o:Obj) (h:k≠b):(setBlock w b o).heap[k]?=w.heap[k]?:=by
 simp only [setBlock];rw [Array.getElem?_setIfInBounds_ne (Ne.symm h)]
theorem nH (w:World) (b:Nat) (o:Obj):(setBlock w b o).heap.size=w.heap.size:=by simp [setBlock]
end Go.Proofs.YtdcnncgpomcaaaaGreatDoor
