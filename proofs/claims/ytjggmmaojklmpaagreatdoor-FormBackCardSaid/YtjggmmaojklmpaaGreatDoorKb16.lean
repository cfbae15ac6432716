/- walk of rxread.Read -/
import Derived.Test.YtjggmmaojklmpaaGreatDoorKb15
import Derived.Test.YtjggmmaojklmpaaGreatDoorKb12
import Derived.Deep.MidRow
import Derived.Deep.WholeRow
set_option maxRecDepth 100000
set_option maxHeartbeats 4000000
namespace Go.Proofs.YtjggmmaojklmpaaGreatDoor
open Go.RowKit
theorem xO:∀n:Nat,PatC n
 | 0=>fun _ _ _ _ _ h _=>by omega
 | n+1=>vw (xO n)
theorem mU:∀(k:Nat) (l:Str),(∀p∈kO k l,p≠[]∧p.length≤l.length)∧(kO k l).length≤l.length
 | 0,_=>by simp [kO]
 | _+1,[]=>by simp [kO]
 | k+1,c::r=>by
  obtain⟨i1,i2⟩:=mU k (r.dropWhile jE);have hd:(r.dropWhile jE).length≤r.length:=(List.dropWhile_suffix jE).length_le;have ht:(r.takeWhile jE).length≤r.length:=(List.takeWhile_prefix jE).length_le;refine⟨fun p hp=>?_,by simp only [kO,Dx];omega⟩;simp only [kO,DF] at hp;rcases hp with rfl|hp
  ·exact⟨by simp,by simp;omega⟩
  ·have:=i1 p hp;exact⟨this.1,by simp;omega⟩
def ReadPost (B:Nat) (w:World) (res:Except Int Rx) (e:Ending) (w':World):Prop:=Below w.heap.size w w'∧match res with
 | .error q=>e=.returned (.tuple #[rxv0,.int .i64 q])
 | .ok x=>∃cc:List Value,e=.returned (.tuple #[.agg cc.toArray,.int .i64 0])∧RxV w' (fun b=>B≤b) cc x
theorem yP {w w2 w5:World} {g:Nat} (h:Below w.heap.size w w2) (hg:w2.grownBy w5 (some g)) (hB:w.heap.size≤g):Below w.heap.size w w5 :=
 ⟨hg.os.trans h.os,hg.tape.trans h.tape,hg.output.trans h.output,Dz h.size hg.size,fun k hk=>(hg.block k (by have:=h.size;omega) (by
  first
  | omega
  | (intro e;injection e with e;omega))).trans (h.block k hk)⟩
def SplitRes (L:List Str) (w:World) (e:Ending) (w':World):Prop:=∃(a:Option Addr) (c:Nat),e=.returned (.slice a L.length c)∧SlS w' (fun b=>w.heap.size≤b) a 1 L.length (kS L)∧Below w.heap.size w w'
theorem uE (s:Str) (w:World) (hs:s.length≤1000000) :
  Calls Tryz.prog 26 #[.string ⟨s.toArray⟩] w fun e w'=>ReadPost w.heap.size w (ql s) e w':=by
 obtain⟨R,hR⟩:∃R,ql s=R:=⟨_,rfl⟩;rw [hR];unfold ql at hR;by_cases hl:256<s.length
 ·rw [Dr hl] at hR
  have HR:=ab hR;clear hR;have hbl:Below w.heap.size w (w.alloc (.cells #[.int .i64 0,.string ⟨#[]⟩,.bool false,.slice none 0 0,.int .i64 0,.int .i64 0,.bool false,.slice none 0 0] 25)):=(Below.refl _ _).alloc (Dv _) _;have hby:(w.alloc (.cells #[.int .i64 0,.string ⟨#[]⟩,.bool false,.slice none 0 0,.int .i64 0,.int .i64 0,.bool false,.slice none 0 0] 25)).heap[w.heap.size]?=some (.cells #[.int .i64 0,.string ⟨#[]⟩,.bool false,.slice none 0 0,.int .i64 0,.int .i64 0,.bool false,.slice none 0 0] 25 (0,0)):=heap_alloc_new w _;obtain⟨f0,f1,f2,f3,f4,f5,f6,f7,f8⟩:=jD (c:=[]) hby;clear hby;go_enter Tryz.func26,Tryz.ntmps26
  go_wp2
  refine DX (v:=.tuple #[.agg #[.int .i64 0,.string ⟨[].toArray⟩,.bool false,.slice none 0 0,.int .i64 0,.int .i64 0,.bool false,.slice none 0 0],.int .i64 4]) gJ rfl ?_;refine⟨?_,?_⟩
  ·iterate 0 (refine Below.setCell ?_ fS _)
   exact hbl
  ·rw [←HR.out];rfl
 rw [Du hl] at hR;obtain⟨L,hL⟩:∃L,jL s=L:=⟨_,rfl⟩;have hf:=mU s.length s;have hf1:∀p∈L,p≠[]∧p.length≤1000000:=fun p hp=>by
  rw [←hL] at hp;have:=hf.1 p hp
  exact⟨this.1,by omega⟩
 have hf2:L.length≤200000:=by rw [←hL];have:=hf.2;unfold jL;omega
 have hf3:L.length≤256:=by rw [←hL];have:=hf.2;unfold jL;omega
 rw [hL] at hR;have HSP:Hid (∀w,Calls Tryz.prog 50 #[.string ⟨s.toArray⟩] w fun e w'=>SplitRes L w e w'):=ab (fun w=>hL▸wv s w hs);clear hf;cases s with
 | nil =>
  obtain rfl:L=[]:=by rw [←hL];rfl
  have HR:Hid (uw []=R):=ab hR;clear hR hL;have HF1:=ab hf1;clear hf1;obtain⟨w0,hw0⟩:∃w0,w0=w.alloc (.cells #[.int .i64 0,.string ⟨#[]⟩,.bool false,.slice none 0 0,.int .i64 0,.int .i64 0,.bool false,.slice none 0 0] 25):=⟨_,rfl⟩;obtain⟨hb0,hz0e,hby0⟩:=kl w hw0;have HW0:=ab hw0;have HBY0:=ab hby0;have hz0:w.heap.size+1≤w0.heap.size:=fR;clear hw0 hby0 hz0e;go_enter Tryz.func26,Tryz.ntmps26
  go_wp2_with (go_at_call 50;refine(HSP.out _).mono ?_)
  rintro e w1 hq;obtain⟨a,k,rfl,hsl,hb1⟩:=hq;rw [←HW0.out] at hsl hb1;have hz1:=hb1.size;obtain⟨w2,hw2⟩:∃w2,w2=w1.alloc (.cells #[.slice a 0 k,.int .i64 0,.int .i64 0] 93):=⟨_,rfl⟩;obtain⟨hb2,hz2e,hbr2⟩:=kl w1 hw2;have hz2:w1.heap.size+1≤w2.heap.size:=fR;have HCH:=ab (hsl.keep (Kept.all hb2));have HRD2:Hid (Rd w2 w1.heap.size (([]:List Str)) 0):=ab ⟨a,k,([]:List Str),0,hbr2,(hsl.mono (S':=fun b=>b<w1.heap.size) fun b _ h=>h).keep (Kept.all hb2),hf2,by omega,HF1.out,rfl⟩;have hbw2:Below w.heap.size w w2:=(hb0.trans (hb1.mono fR)).trans (hb2.mono fR);have HBY2:=ab ((hb2.block _ (jA ((hb1.block _ (jA HBY0.out)).trans HBY0.out))).trans ((hb1.block _ (jA HBY0.out)).trans HBY0.out));clear hsl hb1 hz2e hb0;go_upto_region 6 with fail
  rw [←hw2];clear hw2;have HPAT:=ab (xO ((([]:List Str)).length+1) w1.heap.size 0 (([]:List Str)) w2 HRD2.out fR fR);go_wp2_with (go_at_call 52;refine HPAT.out.mono ?_)
  rintro e w5 hq;clear HPAT;cases hpr:patF ((([]:List Str)).length+1) (([]:List Str)) 0 with
  | error q =>
   exact aY
  | ok y =>
   exact ax
 | cons b t =>
  obtain⟨c,r,rfl⟩:∃c r,L=c::r:=by rw [←hL];exact⟨_,_,rfl⟩
  generalize hss:b::t=s at *
  have hs1:List.isEmpty s=false:=by rw [←hss];rfl
  have hs2:(!List.isEmpty s)=true:=by rw [hs1];rfl
  clear hss hL;have hcl:=(hf1 c (DH ..)).2;have HF1:=ab hf1;clear hf1;cases hpb:kj c with
  | false =>
   have HR:Hid (Except.error 10=R):=ab (by rw [←hR];simp [hpb]);have HPB:=ab hpb;clear hR hpb;obtain⟨w0,hw0⟩:∃w0,w0=w.alloc (.cells #[.int .i64 0,.string ⟨#[]⟩,.bool false,.slice none 0 0,.int .i64 0,.int .i64 0,.bool false,.slice none 0 0] 25):=⟨_,rfl⟩;obtain⟨hb0,hz0e,hby0⟩:=kl w hw0;have HW0:=ab hw0;have HBY0:=ab hby0;have hz0:w.heap.size+1≤w0.heap.size:=fR;clear hw0 hby0 hz0e;go_enter Tryz.func26,Tryz.ntmps26
   go_wp2_with (go_at_call 50;refine(HSP.out _).mono ?_)
   rintro e w1 hq;obtain⟨a,k,rfl,hsl,hb1⟩:=hq;rw [←HW0.out] at hsl hb1;have hz1:=hb1.size;obtain⟨w2,hw2⟩:∃w2,w2=w1.alloc (.cells #[.slice a (r.length+1) k,.int .i64 0,.int .i64 0] 93):=⟨_,rfl⟩;obtain⟨hb2,hz2e,hbr2⟩:=kl w1 hw2;have hz2:w1.heap.size+1≤w2.heap.size:=fR;have HCH:=ab (hsl.keep (Kept.all hb2));have HRD2:Hid (Rd w2 w1.heap.size (c::r) 0):=ab ⟨a,k,c::r,0,hbr2,(hsl.mono (S':=fun b=>b<w1.heap.size) fun b _ h=>h).keep (Kept.all hb2),hf2,by omega,HF1.out,rfl⟩;have hbw2:Below w.heap.size w w2:=(hb0.trans (hb1.mono fR)).trans (hb2.mono fR);have HBY2:=ab ((hb2.block _ (jA ((hb1.block _ (jA HBY0.out)).trans HBY0.out))).trans ((hb1.block _ (jA HBY0.out)).trans HBY0.out));clear hsl hb1 hz2e hb0;go_upto_region 4 with fail
   rw [←hw2];clear hw2;obtain⟨cb,co,rfl,_,kc⟩:=HCH.out.sl.str (k:=0) (p:=c) rfl;have kc':w2.cell? ⟨cb,co,none⟩=some (.string ⟨c.toArray⟩):=kc;have c0:w2.cell? ⟨w1.heap.size,0,none⟩=some (.slice (some ⟨cb,co,none⟩) (r.length+1) k):=by rw [DB hbr2];rfl
   have HPR:Hid (Calls Tryz.prog 51 #[.string ⟨c.toArray⟩] w2 fun e w'=>e=.returned (.bool false)∧w2=w'):=ab (HPB.out▸nD c w2 fR);clear kc;go_wp2_with (go_at_call 51;refine HPR.out.mono ?_)
   rintro e wq ⟨rfl,rfl⟩;have HBYq:=HBY2;have hbwq:=hbw2;clear kc' c0 HPR;obtain⟨f0,f1,f2,f3,f4,f5,f6,f7,f8⟩:=jD (c:=[]) HBYq.out;go_wp2
   refine DX (v:=.tuple #[.agg #[.int .i64 0,.string ⟨[].toArray⟩,.bool false,.slice none 0 0,.int .i64 0,.int .i64 0,.bool false,.slice none 0 0],.int .i64 10]) gJ rfl ?_;refine⟨?_,?_⟩
   ·iterate 8 (refine Below.setCell ?_ fS _)
    exact hbwq
   ·rw [←HR.out];rfl
  | true =>
   have HR:Hid (uw (c::r)=R):=ab (by rw [←hR];simp [hpb]);have HPB:=ab hpb;clear hR hpb;obtain⟨w0,hw0⟩:∃w0,w0=w.alloc (.cells #[.int .i64 0,.string ⟨#[]⟩,.bool false,.slice none 0 0,.int .i64 0,.int .i64 0,.bool false,.slice none 0 0] 25):=⟨_,rfl⟩;obtain⟨hb0,hz0e,hby0⟩:=kl w hw0;have HW0:=ab hw0;have HBY0:=ab hby0;have hz0:w.heap.size+1≤w0.heap.size:=fR;clear hw0 hby0 hz0e;go_enter Tryz.func26,Tryz.ntmps26
   go_wp2_with (go_at_call 50;refine(HSP.out _).mono ?_)
   rintro e w1 hq;obtain⟨a,k,rfl,hsl,hb1⟩:=hq;rw [←HW0.out] at hsl hb1;have hz1:=hb1.size;obtain⟨w2,hw2⟩:∃w2,w2=w1.alloc (.cells #[.slice a (r.length+1) k,.int .i64 0,.int .i64 0] 93):=⟨_,rfl⟩;obtain⟨hb2,hz2e,hbr2⟩:=kl w1 hw2;have hz2:w1.heap.size+1≤w2.heap.size:=fR;have HCH:=ab (hsl.keep (Kept.all hb2));have HRD2:Hid (Rd w2 w1.heap.size (c::r) 0):=ab ⟨a,k,c::r,0,hbr2,(hsl.mono (S':=fun b=>b<w1.heap.size) fun b _ h=>h).keep (Kept.all hb2),hf2,by omega,HF1.out,rfl⟩;have hbw2:Below w.heap.size w w2:=(hb0.trans (hb1.mono fR)).trans (hb2.mono fR);have HBY2:=ab ((hb2.block _ (jA ((hb1.block _ (jA HBY0.out)).trans HBY0.out))).trans ((hb1.block _ (jA HBY0.out)).trans HBY0.out));clear hsl hb1 hz2e hb0;go_upto_region 4 with fail
   rw [←hw2];clear hw2;obtain⟨cb,co,rfl,_,kc⟩:=HCH.out.sl.str (k:=0) (p:=c) rfl;have kc':w2.cell? ⟨cb,co,none⟩=some (.string ⟨c.toArray⟩):=kc;have c0:w2.cell? ⟨w1.heap.size,0,none⟩=some (.slice (some ⟨cb,co,none⟩) (r.length+1) k):=by rw [DB hbr2];rfl
   have HPR:Hid (Calls Tryz.prog 51 #[.string ⟨c.toArray⟩] w2 fun e w'=>e=.returned (.bool true)∧w2=w'):=ab (HPB.out▸nD c w2 fR);clear kc;go_wp2_with (go_at_call 51;refine HPR.out.mono ?_)
   rintro e wq ⟨rfl,rfl⟩;have HBYq:=HBY2;have hbwq:=hbw2;clear kc' c0 HPR;have HPAT:=ab (xO ((c::r).length+1) w1.heap.size 0 (c::r) w2 HRD2.out fR fR);go_wp2_with (go_at_call 52;refine HPAT.out.mono ?_)
   rintro e w5 hq;clear HPAT;cases hpr:patF ((c::r).length+1) (c::r) 0 with
   | error q =>
    exact aY
   | ok y =>
    exact ax
theorem jC {w:World} {g:Nat} {cs:Array Value} {t:TypeId} {m:Nat × Nat} (h:w.heap[g]?=some (.cells cs t m)) (j:Nat) {u:Value} (hj:cs[j]?=some u):w.cell? ⟨g,j,none⟩=some u:=by
 rw [DB h];exact hj
theorem oN {w:World} {g:Nat} {cs:Array Value} {t:TypeId} (h:w.heap[g]?=some (.cells cs t (0,0))) (j:Nat):w.frozen? ⟨g,j,none⟩=false:=Lib.frozen_of_heap h j
theorem jS {w:World} {g:Nat} {o':Obj} (h:w.heap[g]?=some o') (o:Obj):(w.alloc o).heap[g]?=some o':=(Below.heap_alloc _ _ _ (jA h)).trans h
def tfv0:Value:=.agg #[.int .i64 0,.string ⟨[].toArray⟩,.bool false,.slice none 0 0,.int .i64 0,.int .i64 0,.bool false,.slice none 0 0,.slice none 0 0,.bool false,.bool false]
def FormPost (s:Str) (i B:Nat) (w:World) (R:Option (Tf × Str)) (e:Ending) (w':World):Prop:=Below w.heap.size w w' ∧
 match R with
 | none=>e=.returned (.tuple #[tfv0,.int .i64 0,.bool false])
 | some (f,r)=>∃(fc:List Value) (j:Nat),e=.returned (.tuple #[.agg fc.toArray,.int .i64 j,.bool true])∧TfV w' (fun b=>B≤b) fc f∧i<j∧j<s.length∧s.drop (j+1)=r
def RfRel (s:Str) (i:Nat) (w:World) (RX:Str × Str) (q v:Value) (wr:World):Prop :=
 ∃(j:Nat) (a:Str),i+1≤j∧j≤s.length∧q=.int .i64 j∧wr.ownsRow w.heap.size 5 1 v a.length (kx a)∧wr.heap[w.heap.size]?=some (.cells #[.int .i64 0,.string ⟨[].toArray⟩,.bool false,.slice none 0 0,.int .i64 0,.int .i64 0,.bool false,.slice none 0 0,.slice none 0 0,.bool false,.bool false] 28 (0,0))∧Below w.heap.size w wr∧a.length≤j∧Hid (rxSp (s.drop j) a=RX)
theorem AV {s:Str} {i:Nat} {c:UInt8} {r:Str} (h:s.drop i=c::r) (hc:c.toNat=47):pS (s.drop i)=match (rxSp r []).2 with
  | []=>none
  | _::r3=>match ql (rxSp r []).1 with
   | .error _=>none
   | .ok x=>match mu r3 [] [] with
    | none=>none
    | some (_,[])=>none
    | some (fs,_::r5)=>xo x fs r5:=by
 rw [h];simp only [pS];rw [Dr hc];rfl
theorem CG {c:UInt8} (h:c.toNat=47) (r a:Str):rxSp (c::r) a=(a,c::r):=by
 cases r with
 | nil=>simp [rxSp,h]
 | cons d r=>simp [rxSp,h]
theorem Bh {c:UInt8} (h:¬c.toNat=47) (h2:¬c.toNat=92) (r a:Str):rxSp (c::r) a=rxSp r (a++[c]):=by
 cases r with
 | nil=>simp [rxSp,h]
 | cons d r=>simp [rxSp,h,h2]
theorem BZ {s:Str} {q:Int} (h:ql s=.error q):q≠0:=by
 have hc:∀l:List Str,uw l=.error q→q≠0:=by
  intro l hl;unfold uw at hl;split at hl
  ·rename_i e heq
   injection hl with hl
   subst hl;exact mW _ _ _ _ heq
  ·cases hl
  ·injection hl with hl;rw [←hl];decide
 unfold ql at h;split at h
 ·injection h with h;rw [←h];decide
 ·split at h
  ·exact hc _ h
  ·split at h
   ·exact hc _ h
   ·injection h with h;rw [←h];decide
theorem Av {tk:Str} {a f:Bool} (h:qG tk=some (a,f)):(tk=[]∧a=false∧f=false)∨(tk=[103]∧a=true∧f=false)∨(tk=[105]∧a=false∧f=true)∨(tk=[103,105]∧a=true∧f=true)∨(tk=[105,103]∧a=true∧f=true):=by
 unfold qG at h;split at h
 ·injection h with h;injection h with h1 h2;exact .inl ⟨‹_›,h1.symm,h2.symm⟩
 split at h
 ·injection h with h;injection h with h1 h2;exact .inr (.inl ⟨‹_›,h1.symm,h2.symm⟩)
 split at h
 ·injection h with h;injection h with h1 h2;exact .inr (.inr (.inl ⟨‹_›,h1.symm,h2.symm⟩))
 split at h
 ·rename_i hor
  injection h with h;injection h with h1 h2
  rcases hor with hor|hor
  ·exact .inr (.inr (.inr (.inl ⟨hor,h1.symm,h2.symm⟩)))
  ·exact .inr (.inr (.inr (.inr ⟨hor,h1.symm,h2.symm⟩)))
 ·cases h
theorem zW {tk:Str} (h:qG tk=none):(tk==[])=false∧(tk==[103])=false∧(tk==[105])=false∧(tk==[103,105])=false∧(tk==[105,103])=false:=by
 unfold qG at h;split at h
 ·cases h
 split at h
 ·cases h
 split at h
 ·cases h
 split at h
 ·cases h
 rename_i h1 h2 h3 h4
 exact⟨DV.2 h1,DV.2 h2,DV.2 h3,DV.2 fun e=>h4 (.inl e),DV.2 fun e=>h4 (.inr e)⟩
theorem wz (s:Str) (i:Nat) (w:World) (hi:i≤s.length) (hs:s.length≤600000) :
  Calls Tryz.prog 12 #[.string ⟨s.toArray⟩,.int .i64 i] w fun e w'=>FormPost s i w.heap.size w (pS (s.drop i)) e w':=by
 obtain⟨R,hR⟩:∃R,R=pS (s.drop i):=⟨_,rfl⟩;rw [←hR];obtain⟨iu,hiu⟩:=info_parts qC;have g0:decide ((i:Int)<0)=false:=DU fR;have hby0:(w.alloc (.cells #[.int .i64 0,.string ⟨[].toArray⟩,.bool false,.slice none 0 0,.int .i64 0,.int .i64 0,.bool false,.slice none 0 0,.slice none 0 0,.bool false,.bool false] 28)).heap[w.heap.size]?=some (.cells #[.int .i64 0,.string ⟨[].toArray⟩,.bool false,.slice none 0 0,.int .i64 0,.int .i64 0,.bool false,.slice none 0 0,.slice none 0 0,.bool false,.bool false] 28 (0,0)):=heap_alloc_new w _;have HBY0:=ab hby0;have hb0:Below w.heap.size w (w.alloc (.cells #[.int .i64 0,.string ⟨[].toArray⟩,.bool false,.slice none 0 0,.int .i64 0,.int .i64 0,.bool false,.slice none 0 0,.slice none 0 0,.bool false,.bool false] 28)):=(Below.refl _ _).alloc (Dv _) _;cases hd:s.drop i with
 | nil =>
  have h2:=kN hd;have HE:Hid (R=none):=ab (by rw [hR,hd];rfl);have g1:decide ((s.length:Int)≤(i:Int))=true:=DN fR;clear hd hR;exact eO
 | cons c r =>
  obtain⟨h2,h3,hr⟩:=kh hd;have g1:decide ((s.length:Int)≤(i:Int))=false:=DU fR;by_cases c47:c.toNat=47
  ·have b47:((c.toNat:Int)==47)=true:= ii
   have b47':((c.toNat:Int) != 47)=false:=by simp [bne,b47]
   have HF:Hid (R=_):=ab (hR.trans (AV hd c47));have HRX:Hid (rxSp (s.drop (i+1)) []=rxSp r []):=ab (by rw [hr]);generalize hRX:rxSp r []=RX at *
   clear hd hR hr hby0 c47;go_enter Tryz.func12,Tryz.ntmps12
   go_wp2
   go_loopw [1,7] (fun q v wr=>RfRel s i w RX q v wr) (fun q _ _=>s.length-(intOf q).toNat)
   case atStart=>exact⟨i+1,[],by omega,by omega,by go_num,World.ownsRow_nil _ _ _ _,HBY0.out,hb0,by simp,HRX⟩
   case round =>
    obtain⟨j,a,hij,hjl,rfl,hown,hby,hb,ha,HS⟩:=hrel;clear HRX h3 h2 g1 b47 b47' HBY0 hb0;have hB:=hb.size;have HBY:=ab hby;have hcv:=oH (P:=Tryz.prog) (src:=48) (dst:=9) Tryz.underlying48 Tryz.underlying5 Tryz.underlying9 hown;cases hd:s.drop j with
    | nil =>
     have h2:=kN hd;have g2:decide ((j:Int)<(s.length:Int))=false:=DU fR;have g3:decide ((s.length:Int)≤(j:Int))=true:=DN fR;have HX:Hid (RX=(a,[])):=ab (by rw [←HS.out,hd];rfl);have HE:Hid (R=none):=ab (by rw [HF.out,HX.out]);clear hd HS HF HX;cases hx:ql a with
     | error q =>
      have HRD:=ab (uE a wr fR);rw [hx] at HRD;clear hx;exact eK
     | ok x =>
      have HRD:=ab (uE a wr fR);rw [hx] at HRD;clear hx;go_wp2_with (go_at_call 26;refine HRD.out.mono ?_)
      rintro e w1 ⟨hb1,cc,rfl,hxv⟩;obtain⟨k,ch,ng,rs,lo,hii,lz,ks⟩:=x;obtain⟨ra,rc,ka,kc,rfl,_,_⟩:=hxv.open_;have hb1w:Below w.heap.size w w1:=hb.trans (hb1.mono hB);have hB1:=hb1w.size;have hby1:=(hb1.block _ (jA HBY.out)).trans HBY.out;have z0:=fun o=>jC (jS hby1 o) 0 rfl
      have z1:=fun o=>jC (jS hby1 o) 1 rfl
      have z2:=fun o=>jC (jS hby1 o) 2 rfl
      have z3:=fun o=>jC (jS hby1 o) 3 rfl
      have z4:=fun o=>jC (jS hby1 o) 4 rfl
      have z5:=fun o=>jC (jS hby1 o) 5 rfl
      have z6:=fun o=>jC (jS hby1 o) 6 rfl
      have z7:=fun o=>jC (jS hby1 o) 7 rfl
      have z8:=fun o=>jC (jS hby1 o) 8 rfl
      have z9:=fun o=>jC (jS hby1 o) 9 rfl
      have z10:=fun o=>jC (jS hby1 o) 10 rfl
      have zf:=fun o=>oN (jS hby1 o)
      clear hby1 hby hxv;unfold rxc;go_wp2
      exact aB
    | cons c r =>
     obtain⟨h2,h3,hr⟩:=kh hd;have g2:decide ((j:Int)<(s.length:Int))=true:=DN fR;have Hr:=ab hr;by_cases c47:c.toNat=47
     ·have b47:((c.toNat:Int)==47)=true:= ii
      have b47':((c.toNat:Int) != 47)=false:=by simp [bne,b47]
      have g3:decide ((s.length:Int)≤(j:Int))=false:=DU fR;have HX:Hid (RX=(a,c::r)):=ab (by rw [←HS.out,hd];exact CG c47 r a);have HE1:Hid (R=match ql a with
       | .error _=>none
       | .ok x=>match mu r [] [] with
        | none=>none
        | some (_,[])=>none
        | some (fs,_::r5)=>xo x fs r5):=ab (by rw [HF.out,HX.out])
      have HRD:=ab (uE a wr fR);clear hd HS HF HX hr c47;cases hx:ql a with
      | error q =>
       have HE:Hid (R=none):=ab (by rw [HE1.out,hx]);have hq:(q==0)=false:=by rw [DV];exact BZ hx
       have hq':(q != 0)=true:=by simp [bne,hq]
       rw [hx] at HRD;clear hx HE1;exact eK
      | ok x =>
       have HE2:Hid (R=match mu r [] [] with
        | none=>none
        | some (_,[])=>none
        | some (fs,_::r5)=>xo x fs r5):=ab (by rw [HE1.out,hx])
       rw [hx] at HRD;clear hx HE1;have HFR:Hid (∀w:World,Calls Tryz.prog 27 #[.string ⟨s.toArray⟩,.int .i64 ((j:Int)+1)] w fun e w'=>Below w.heap.size w w'∧vP s (j+1) w.heap.size (mu r [] []) e w'):=ab (fun w=>by
        have:=BR s (j+1) w fR fR
        rw [Hr.out] at this;push_cast at this;exact this)
       go_wp2_with (go_at_call 26;refine HRD.out.mono ?_)
       rintro e w1 ⟨hb1,cc,rfl,hxv⟩;obtain⟨k,ch,ng,rs,lo,hii,lz,ks⟩:=x;have hxv0:=hxv;obtain⟨ra,rc,ka,kc,rfl,_,_⟩:=hxv.open_;have HXV:=ab hxv0;have hb1w:Below w.heap.size w w1:=hb.trans (hb1.mono hB);have hB1:=hb1w.size;have HBY1:=ab ((hb1.block _ (jA HBY.out)).trans HBY.out);have HZ1:=ab hb1.size;have HLT:=ab (jA HBY.out);clear hby hxv hxv0;unfold rxc at HXV ⊢;go_wp2_with (go_at_call 27;refine(HFR.out _).mono ?_)
       rintro e w3 ⟨hb3,hp⟩;have hz3:=hb3.size;simp only [D0] at hz3;have hby3:=(hb3.block _ (jA (jS HBY1.out _))).trans (jS HBY1.out _);have hbx3:=(hb3.block _ (jA (heap_alloc_new w1 _))).trans (heap_alloc_new w1 _);have HBX3:=ab hbx3;have HBY3:=ab hby3;have hb3w:Below w.heap.size w w3:=(hb1w.alloc hB1 _).trans (hb3.mono fY);have hB3:=hb3w.size;have HXV3:=ab ((HXV.out.later ((Below.refl _ _).alloc (Dv _) _)).later hb3);clear hbx3 HXV;cases hX:mu r [] [] with
       | none =>
        have HE:Hid (R=none):=ab (by rw [HE2.out,hX]);rw [hX] at hp;have hp':e=.returned (.tuple #[.slice none 0 0,.int .i64 0,.bool false]):=hp;subst hp';clear hp hX HE2 HXV3;have z0:=jC hby3 0 rfl;have z1:=jC hby3 1 rfl;have z2:=jC hby3 2 rfl;have z3:=jC hby3 3 rfl;have z4:=jC hby3 4 rfl;have z5:=jC hby3 5 rfl;have z6:=jC hby3 6 rfl;have z7:=jC hby3 7 rfl;have z8:=jC hby3 8 rfl;have z9:=jC hby3 9 rfl;have z10:=jC hby3 10 rfl;have zf:=oN hby3;clear hby3;go_wp2
        exact aB
       | some p =>
        obtain⟨fs,r4⟩:=p;rw [hX] at hp;obtain⟨fa,fcp,j2,rfl,hsl,hj1,hj2,hj3,_,_⟩:=hp;obtain⟨_,d,r5,rfl,hd47⟩:=oy _ _ _ _ hX;have HSL:=ab hsl;have HE3:Hid (R=xo (.mk k ch ng rs lo hii lz ks) fs r5):=ab (by rw [HE2.out,hX]);have hix:Lib.indexByte (List.drop j2 s) ((125:Int)).toNat.toUInt8=match r5.dropWhile lg with|[]=>-1|_::_=>((r5.takeWhile lg).length:Int)+1:=by
         rw [hj3];have e125:(125:Int).toNat.toUInt8=125:=rfl;have hb:(d==125)=false:=by rw [DV];intro e;rw [e] at hd47;simp at hd47
         rw [e125];simp only [Lib.indexByte,hb];rw [zC];cases r5.dropWhile lg with
         | nil=>rfl
         | cons x y =>
          have h1:((((r5.takeWhile lg).length:Int))==-1)=false:=by rw [DV];omega
          simp only [h1,DW,if_false]
        obtain⟨_,_,hj4⟩:=kh hj3;have HJ4:=ab hj4;have hspan:=DR (p:=lg) (l:=r5);have HE4:Hid (R=match r5.dropWhile lg with
         | []=>none
         | _::r2=>match qG (r5.takeWhile lg) with
          | none=>none
          | some (a,f)=>some (⟨.mk k ch ng rs lo hii lz ks,fs,f,a⟩,r2)):=ab HE3.out
        clear hX HE2 hj3 hj4 hsl hd47 HE3;generalize r5.takeWhile lg=tk at *
        generalize r5.dropWhile lg=dw at *
        have HSP:=ab hspan;have HX0:=ab hix;clear hspan hix;cases dw with
        | nil =>
         have HIX:Hid (Lib.indexByte (List.drop j2 s) ((125:Int)).toNat.toUInt8=-1):=HX0;have HE:Hid (R=none):=HE4;clear HX0 HE4 HXV3;have z0:=jC hby3 0 rfl;have z1:=jC hby3 1 rfl;have z2:=jC hby3 2 rfl;have z3:=jC hby3 3 rfl;have z4:=jC hby3 4 rfl;have z5:=jC hby3 5 rfl;have z6:=jC hby3 6 rfl;have z7:=jC hby3 7 rfl;have z8:=jC hby3 8 rfl;have z9:=jC hby3 9 rfl;have z10:=jC hby3 10 rfl;have zf:=oN hby3;clear hby3;exact fE
        | cons d2 r6 =>
         have HIX:Hid (Lib.indexByte (List.drop j2 s) ((125:Int)).toNat.toUInt8=(tk.length:Int)+1):=HX0;have HE5:Hid (R=match qG tk with|none=>none|some (a,f)=>some (⟨.mk k ch ng rs lo hii lz ks,fs,f,a⟩,r6)):=HE4;have hlen:j2+1+tk.length<s.length:=by
          have h1:=DQ List.length HSP.out;have h2:=DQ List.length HJ4.out;simp at h1 h2;omega
         obtain⟨m,hm⟩:∃m,m=tk.length:=⟨_,rfl⟩;have hK:List.take (j2+(m+1)-(j2+1)) (List.drop (j2+1) s)=tk:=by
          rw [HJ4.out,←HSP.out,show j2+(m+1)-(j2+1)=tk.length by omega,List.take_left]
         have HDR:Hid (s.drop (j2+(m+1)+1)=r6):=ab (by
          rw [show j2+(m+1)+1=j2+1+(tk.length+1) by omega,←List.drop_drop,HJ4.out,←HSP.out,List.drop_append];simp)
         rw [←hm] at HIX hlen;clear HX0 HE4 hm HSP;obtain⟨y0,y1,y2,y3,y4,y5,y6,y7,_⟩:=jD HBX3.out;have z0:=fun o=>jC (jS hby3 o) 0 rfl
         have z1:=fun o=>jC (jS hby3 o) 1 rfl
         have z2:=fun o=>jC (jS hby3 o) 2 rfl
         have z3:=fun o=>jC (jS hby3 o) 3 rfl
         have z4:=fun o=>jC (jS hby3 o) 4 rfl
         have z5:=fun o=>jC (jS hby3 o) 5 rfl
         have z6:=fun o=>jC (jS hby3 o) 6 rfl
         have z7:=fun o=>jC (jS hby3 o) 7 rfl
         have z8:=fun o=>jC (jS hby3 o) 8 rfl
         have z9:=fun o=>jC (jS hby3 o) 9 rfl
         have z10:=fun o=>jC (jS hby3 o) 10 rfl
         have zf:=fun o=>oN (jS hby3 o)
         clear hby3;cases hfl:qG tk with
         | none =>
          have HE:Hid (R=none):=ab jq;obtain⟨t0,t1,t2,t3,t4⟩:=zW hfl;clear HE5 hfl HXV3;exact fE
         | some af =>
          obtain⟨al,fd⟩:=af;rcases Av hfl with⟨rfl,rfl,rfl⟩|⟨rfl,rfl,rfl⟩|⟨rfl,rfl,rfl⟩|⟨rfl,rfl,rfl⟩|⟨rfl,rfl,rfl⟩
          ·have HE6:Hid (R=some (⟨.mk k ch ng rs lo hii lz ks,fs,false,false⟩,r6)):=ab jq
           clear HE5 hfl;go_wp2_with (go_at_call 28;refine(kB _ HIX.out).mono ?_;rintro e w4 ⟨rfl,rfl⟩)
           refine DX (v:=.tuple #[.agg #[.int .i64 k,.string ⟨ch.toArray⟩,.bool ng,.slice ra rs.length rc,.int .i64 lo,.int .i64 hii,.bool lz,.slice ka ks.length kc,.slice fa fs.length fcp,.bool false,.bool false],.int .i64 (j2+(m+1)),.bool true]) gK rfl ⟨?_,?_⟩
           ·(repeat (first|with_reducible exact Below.refl _ _|with_reducible assumption|(refine Below.setCell ?_ gj _)|(refine Below.alloc ?_ fZ _)|(refine Below.drew ?_)))
           ·rw [HE6.out]
            refine⟨_,j2+(m+1),rfl,?_,by omega,by omega,HDR.out⟩;have hT:TfV w3 (fun b=>w.heap.size<b∧b<w3.heap.size) (rxc k ch ng ra rs.length rc lo hii lz ka ks.length kc++[.slice fa fs.length fcp,.bool false,.bool false]) ⟨.mk k ch ng rs lo hii lz ks,fs,false,false⟩ :=
             ⟨_,fa,fcp,HXV3.out.mono fun b hb hlt=>by have h1:=HLT.out;have h2:wr.heap.size≤b:=hb;constructor<;>omega,HSL.out.mono fun b hb hlt=>by have h2:(w1.alloc _).heap.size≤b:=hb;simp only [D0] at h2;constructor<;>omega,rfl⟩
            exact eI
          ·have HE6:Hid (R=some (⟨.mk k ch ng rs lo hii lz ks,fs,false,true⟩,r6)):=ab jq
           clear HE5 hfl;go_wp2_with (go_at_call 28;refine(kB _ HIX.out).mono ?_;rintro e w4 ⟨rfl,rfl⟩)
           refine DX (v:=.tuple #[.agg #[.int .i64 k,.string ⟨ch.toArray⟩,.bool ng,.slice ra rs.length rc,.int .i64 lo,.int .i64 hii,.bool lz,.slice ka ks.length kc,.slice fa fs.length fcp,.bool false,.bool true],.int .i64 (j2+(m+1)),.bool true]) gK rfl ⟨?_,?_⟩
           ·(repeat (first|with_reducible exact Below.refl _ _|with_reducible assumption|(refine Below.setCell ?_ gj _)|(refine Below.alloc ?_ fZ _)|(refine Below.drew ?_)))
           ·rw [HE6.out]
            refine⟨_,j2+(m+1),rfl,?_,by omega,by omega,HDR.out⟩;have hT:TfV w3 (fun b=>w.heap.size<b∧b<w3.heap.size) (rxc k ch ng ra rs.length rc lo hii lz ka ks.length kc++[.slice fa fs.length fcp,.bool false,.bool true]) ⟨.mk k ch ng rs lo hii lz ks,fs,false,true⟩ :=
             ⟨_,fa,fcp,HXV3.out.mono fun b hb hlt=>by have h1:=HLT.out;have h2:wr.heap.size≤b:=hb;constructor<;>omega,HSL.out.mono fun b hb hlt=>by have h2:(w1.alloc _).heap.size≤b:=hb;simp only [D0] at h2;constructor<;>omega,rfl⟩
            exact eI
          ·have HE6:Hid (R=some (⟨.mk k ch ng rs lo hii lz ks,fs,true,false⟩,r6)):=ab jq
           clear HE5 hfl;go_wp2_with (go_at_call 28;refine(kB _ HIX.out).mono ?_;rintro e w4 ⟨rfl,rfl⟩)
           refine DX (v:=.tuple #[.agg #[.int .i64 k,.string ⟨ch.toArray⟩,.bool ng,.slice ra rs.length rc,.int .i64 lo,.int .i64 hii,.bool lz,.slice ka ks.length kc,.slice fa fs.length fcp,.bool true,.bool false],.int .i64 (j2+(m+1)),.bool true]) gK rfl ⟨?_,?_⟩
           ·(repeat (first|with_reducible exact Below.refl _ _|with_reducible assumption|(refine Below.setCell ?_ gj _)|(refine Below.alloc ?_ fZ _)|(refine Below.drew ?_)))
           ·rw [HE6.out]
            refine⟨_,j2+(m+1),rfl,?_,by omega,by omega,HDR.out⟩;have hT:TfV w3 (fun b=>w.heap.size<b∧b<w3.heap.size) (rxc k ch ng ra rs.length rc lo hii lz ka ks.length kc++[.slice fa fs.length fcp,.bool true,.bool false]) ⟨.mk k ch ng rs lo hii lz ks,fs,true,false⟩ :=
             ⟨_,fa,fcp,HXV3.out.mono fun b hb hlt=>by have h1:=HLT.out;have h2:wr.heap.size≤b:=hb;constructor<;>omega,HSL.out.mono fun b hb hlt=>by have h2:(w1.alloc _).heap.size≤b:=hb;simp only [D0] at h2;constructor<;>omega,rfl⟩
            exact eI
          ·exact aO
          ·exact aO
     ·have b47:((c.toNat:Int)==47)=false:= gI
      have b47':((c.toNat:Int) != 47)=true:=by simp [bne,b47]
      by_cases c92:c.toNat=92
      ·have b92:((c.toNat:Int)==92)=true:= ii
       cases r with
       | nil =>
        have HS2:Hid (rxSp (s.drop (j+1)) (a++[c])=RX):=ab (by rw [Hr.out,←HS.out,hd];simp [rxSp,c47]);have hln:=kN hr;have g4:decide ((j:Int)+1<(s.length:Int))=false:=DU fR;exact bJ
       | cons d r2 =>
        obtain⟨k2,k3,kr⟩:=kh hr;have Hkr:=ab kr;have g4:decide ((j:Int)+1<(s.length:Int))=true:=DN fR;have gk0:(0:Int)≤(j:Int)+1:=fR;have gk1:(j:Int)+1<(s.length:Int):=fR;have gk2:((j:Int)+1).toNat=j+1:=fR;by_cases d47:d.toNat=47
        ·have d47b:((d.toNat:Int)==47)=true:= ii
         have d47':((d.toNat:Int) != 47)=false:=by simp [bne,d47b]
         have HS2:Hid (rxSp (s.drop (j+2)) (a++[d])=RX):=ab it;clear hd HS hr c47 c92 d47 kr;go_wp2_with (at_builtin;refine kv w.heap.size 5 rfl _ _ 48 rfl Tryz.underlying48 hiu rfl fU rfl hown rfl gQ rfl gd fR fU hB ?_;intro v1 w1 hown1 hg1 hb1 hne1)
         go_roundw
         case rel =>
          refine⟨(j+2),(a++[d]),by omega,by omega,by go_num,?_,?_,hb.trans hb1,by simp;omega,HS2⟩
          ·simpa [kx] using hown1
          ·exact fK
         case measure=>simp [intOf];omega
        ·have d47b:((d.toNat:Int)==47)=false:= gI
         have d47':((d.toNat:Int) != 47)=true:=by simp [bne,d47b]
         have HS2:Hid (rxSp (s.drop (j+2)) ((a++[92])++[d])=RX):=ab it;clear hd HS hr c47 c92 d47 kr;go_wp2_with (at_builtin;first|refine kv w.heap.size 5 rfl _ _ 48 rfl Tryz.underlying48 hiu rfl fU rfl hown rfl gQ rfl gd fR fU hB ?_;intro v1 w1 hown1 hg1 hb1 hne1|refine kv w.heap.size 5 rfl _ _ 48 rfl Tryz.underlying48 hiu rfl fU rfl hown1 rfl gQ rfl gd fR fU (by have:=hb1.size;omega) ?_;intro v2 w2 hown2 hg2 hb2 hne2)
         go_roundw
         case rel =>
          refine⟨(j+2),(a++[92]++[d]),by omega,by omega,by go_num,?_,?_,(hb.trans hb1).trans hb2,by simp;omega,HS2⟩
          ·simpa [kx] using hown2
          ·have hx1:=(hg1.block _ (jA HBY.out) (lm hown HBY.out fU).symm).trans HBY.out
           exact(hg2.block _ (jA hx1) (lm hown1 hx1 fU).symm).trans hx1
         case measure=>simp [intOf];omega
      ·have b92:((c.toNat:Int)==92)=false:= gI
       have HS2:Hid (rxSp (s.drop (j+1)) (a++[c])=RX):=ab (by rw [Hr.out,←HS.out,hd];exact(Bh c47 c92 r a).symm);exact bJ
  ·have b47:((c.toNat:Int)==47)=false:= gI
   have b47':((c.toNat:Int) != 47)=true:=by simp [bne,b47]
   have HE:Hid (R=none):=ab (by rw [hR,hd];simp only [pS];rw [Du c47]);clear hd hR hr;exact eO
theorem oi {w:World} {b:Nat} {cs old:Array Value} {t:TypeId} {f:Nat × Nat} (h:w.heap[b]?=some (.cells old t f)):(w.setRow b cs).heap[b]?=some (.cells cs t f):=by
 simp [World.setRow,Array.getElem?_modify,h]
theorem q9 {w:World} {b k:Nat} (cs:Array Value) (h:k≠b):(w.setRow b cs).heap[k]?=w.heap[k]?:=by
 simp only [World.setRow,Array.getElem?_modify];rw [Du (Ne.symm h)]
theorem xj (w:World) (b:Nat) (cs:Array Value):(w.setRow b cs).heap.size=w.heap.size:=by simp [World.setRow]
theorem uF {fn:Func} {p u:Tmp} {ty t:TypeId} {tmps:Array Value} {w:World} {b:Nat} {cs:Array Value} {f:Nat × Nat} {fs:Array Field} {n:Nat} {v:Value} (hr:fn.results=#[.cell p ty,.tmp u]) (hu:Tryz.prog.underlying ty=some (.struct fs)) (hi:(Tryz.prog.info? ty).map (·.size)=some n)
  (h:w.heap[b]?=some (.cells cs t f)) (hn:cs.size=n) (hp:tmps.getD p undef=.pointer (some ⟨b,0,none⟩)) (hv:tmps.getD u undef=v):(results fn tmps).run Tryz.prog w=.ok (.tuple #[.agg cs,v]) w:=by
 subst hn;rw [results_cell_tmp hr,hp,hv];exact ep
theorem lM {P:Program} {ops:Array Oper} {rest:List Oper} {o:Oper} {a:Act} {w W:World} {Q:Exit→Act→World→Prop} (hgd:o.guard=none) (ty:TypeId) (x y:Operand) (ho:o.op=.store ty x y)
  (g:Nat) (cells:Array Value) (hx:a.eval x=.pointer (some ⟨g,0,none⟩)) (hy:a.eval y=.agg cells)
  (t:TypeId) (old:Array Value) {n:Nat} (hg:w.heap[g]?=some (.cells old t (0,0))) (hi:(P.info? ty).map (·.size)=some n) (hn:cells.size=n)
  (hold:old.size=n) (h1:∀u∈cells.toList,u.oneCell'=true) (hW:w.setRow g cells=W)
  (h:wpList P ops Q rest (a.put o.dst undef) W):wpList P ops Q (o::rest) a w:=by
 subst hn;subst hW;exact wpList_store_row hgd ty x y ho g cells hx hy t old hg hi hold (Array.all_eq_true_iff_forall_mem.2 (fun v hv=>h1 v (by simpa using hv))) h
theorem jI {P:Program} {ops:Array Oper} {rest:List Oper} {op:Oper} {a:Act} {w:World} {Q:Exit→Act→World→Prop} (hgd:op.guard=none) (ty:TypeId) (x:Operand) (ho:op.op=.load ty x)
  (b o:Nat) (hx:a.eval x=.pointer (some ⟨b,o,none⟩)) (cs:List Value) (d:TypeDesc) (hc:w.rangeAt b o cs)
  (hu:P.underlying ty=some d) (hd:d.isRow=true) (hi:(P.info? ty).map (·.size)=some cs.length)
  (h:wpList P ops Q rest (a.put op.dst (.agg cs.toArray)) w):wpList P ops Q (op::rest) a w:=wpList_load_mid hgd ty x ho b o hx cs d hc hu hd hi h
theorem jK {w:World} {b:Nat} {cs ds:List Value} {t:TypeId} {f:Nat × Nat} (h:w.heap[b]?=some (.cells (cs++ds).toArray t f)):w.rangeAt b 0 cs:=fun j v hv=>by
 rw [Nat.zero_add,DB h];have:=(Dw.1 hv).1
 simp [DG this,hv]
theorem Bs {P:Program} {o:Oper} {a:Act} {w:World} {K:Act→World→Prop} {Q:Exit→Act→World→Prop} (h:o.wp P a w K (Exit.then K Q)):o.wp P a w K Q:=by
 exact bL
theorem AU {P:Program} {o:Oper} {a:Act} {w:World} {K K1 K2:Act→World→Prop} {Q:Exit→Act→World→Prop} (h:o.wp P a w K (Exit.then K1 Q)):o.wp P a w K (Exit.then K2 Q):=by
 exact bL
def open_ (ops:Array Oper) (listed:Array Bool):Nat:=((List.range ops.size).filter fun j=>!listed.getD j true).length
theorem yW {ops:Array Oper} {listed:Array Bool} {i:Nat} (hi:i<ops.size) (hs:listed.size=ops.size) (h:listed.getD i true=false):open_ ops (listed.setIfInBounds i true)<open_ ops listed:=by
 unfold open_;have e:((List.range ops.size).filter fun j=>!(listed.setIfInBounds i true).getD j true)=((List.range ops.size).filter fun j=>!listed.getD j true).filter fun j=>decide (j≠i):=by
  rw [List.filter_filter];apply List.filter_congr
  intro j hj;by_cases hji:j=i
  ·subst hji
   have:(listed.setIfInBounds j true).getD j true=true:=by simp [Array.getD_eq_getD_getElem?,hs]
   rw [this];simp
  ·have:(listed.setIfInBounds i true).getD j true=listed.getD j true:=by
    simp only [Array.getD_eq_getD_getElem?];rw [Array.getElem?_setIfInBounds_ne (Ne.symm hji)]
   rw [this];simp [hji]
 rw [e,List.length_filter_lt_length_iff_exists];exact⟨i,List.mem_filter.2 ⟨List.mem_range.2 hi,by rw [h];rfl⟩,by simp⟩
def kX (o:Oper) (L:Nat→Bool):Prop:=∀e∈o.after,Region.binds .any e=true→L e.on=true
theorem put_self (a:Act) (d:Nat):a.put (some d) (a.tmps.getD d undef)=a:=by
 have e:a.tmps.setIfInBounds d (a.tmps.getD d undef)=a.tmps:=by
  apply Array.ext_getElem?
  intro i;by_cases h:d=i
  ·subst h
   by_cases hd:d<a.tmps.size
   ·rw [Array.getElem?_setIfInBounds_self_of_lt hd,Array.getElem?_eq_getElem hd,Array.getD_eq_getD_getElem?,Array.getElem?_eq_getElem hd];rfl
   ·rw [Array.getElem?_eq_none gm,Array.getElem?_eq_none gm]
  ·rw [Array.getElem?_setIfInBounds_ne h]
 show ({ a with tmps:=a.tmps.setIfInBounds d (a.tmps.getD d undef) }:Act)=a
 rw [e]
def oX:List Nat→Nat→(Nat→Value)→Act→Act
 | [],_,_,a=>a
 | d::ds,k,V,a=>oX ds (k+1) V (a.put (some d) (V k))
theorem tK (a:Act):∀(ds:List Nat) (k:Nat) (V:Nat→Value),(∀i d,ds[i]?=some d→V (k+i)=a.tmps.getD d undef)→oX ds k V a=a
 | [],_,_,_=>rfl
 | d::ds,k,V,h=>by
  have h0:=h 0 d rfl;simp only [oX];rw [show V k=a.tmps.getD d undef from h0,put_self];exact tK a ds (k+1) V fun i d' hi=>by have:=h (i+1) d' (by simpa using hi);rw [show k+(i+1)=k+1+i by omega] at this;exact this
theorem Bz (a:Act) (ds:List Nat):∃V:Nat→Value,a=oX ds 0 V a:=by
 refine⟨fun i=>a.tmps.getD (ds.getD i 0) undef,(tK a ds 0 _ fun i d hi=>?_).symm⟩;have e:ds.getD i 0=d:=by rw [List.getD_eq_getElem?_getD,hi];rfl
 simp only [Nat.zero_add,e]
def upd (V:Nat→Value) (i:Nat) (v:Value):Nat→Value:=fun j=>if j=i then v else V j
def gk (bare:Bool):Int:=if bare=true then 6 else 5
end Go.Proofs.YtjggmmaojklmpaaGreatDoor
