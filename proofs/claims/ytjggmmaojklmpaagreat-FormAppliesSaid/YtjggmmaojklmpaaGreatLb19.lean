/- walk of rxread.Read -/
import Derived.Test.YtjggmmaojklmpaaGreatLb18
import Derived.Test.YtjggmmaojklmpaaGreatLb9
set_option maxRecDepth 100000
set_option maxHeartbeats 4000000
namespace Go.Proofs.YtjggmmaojklmpaaGreat
open Go.RowKit
theorem xm:∀n:Nat,PatC n
 | 0=>fun _ _ _ _ _ h _=>by omega
 | n+1=>vq (xm n)
theorem oE:∀(k:Nat) (l:Str),(∀p∈kN k l,p≠[]∧p.length≤l.length)∧(kN k l).length≤l.length
 | 0,_=>by simp [kN]
 | _+1,[]=>by simp [kN]
 | k+1,c::r=>by
  obtain⟨i1,i2⟩:=oE k (r.dropWhile j0);have hd:(r.dropWhile j0).length≤r.length:=(List.dropWhile_suffix j0).length_le;have ht:(r.takeWhile j0).length≤r.length:=(List.takeWhile_prefix j0).length_le;refine⟨fun p hp=>?_,by simp only [kN,Cr];omega⟩;simp only [kN,Cz] at hp;rcases hp with rfl|hp
  ·exact⟨by simp,by simp;omega⟩
  ·have:=i1 p hp;exact⟨this.1,by simp;omega⟩
def ReadPost (B:Nat) (w:World) (res:Except Int Rx) (e:Ending) (w':World):Prop:=Below w.heap.size w w'∧match res with
 | .error q=>e=.returned (.tuple #[rxv0,.int .i64 q])
 | .ok x=>∃cc:List Value,e=.returned (.tuple #[.agg cc.toArray,.int .i64 0])∧RxV w' (fun b=>B≤b) cc x
theorem ye {w w2 w5:World} {g:Nat} (h:Below w.heap.size w w2) (hg:w2.grownBy w5 (some g)) (hB:w.heap.size≤g):Below w.heap.size w w5 :=
 ⟨hg.os.trans h.os,hg.tape.trans h.tape,hg.output.trans h.output,Ct h.size hg.size,fun k hk=>(hg.block k (by have:=h.size;omega) (by
  first
  | omega
  | (intro e;injection e with e;omega))).trans (h.block k hk)⟩
def SplitRes (L:List Str) (w:World) (e:Ending) (w':World):Prop:=∃(a:Option Addr) (c:Nat),e=.returned (.slice a L.length c)∧SlS w' (fun b=>w.heap.size≤b) a 1 L.length (kv L)∧Below w.heap.size w w'
theorem ui (s:Str) (w:World) (hs:s.length≤1000000) :
  Calls Tryz.prog 23 #[.string ⟨s.toArray⟩] w fun e w'=>ReadPost w.heap.size w (sy s) e w':=by
 obtain⟨R,hR⟩:∃R,sy s=R:=⟨_,rfl⟩;rw [hR];unfold sy at hR;by_cases hl:256<s.length
 ·rw [Cl hl] at hR
  have HR:=ab hR;clear hR;have hbl:Below w.heap.size w (w.alloc (.cells #[.int .i64 0,.string ⟨#[]⟩,.bool false,.slice none 0 0,.int .i64 0,.int .i64 0,.bool false,.slice none 0 0] 25)):=(Below.refl _ _).alloc (Cp _) _;have hby:(w.alloc (.cells #[.int .i64 0,.string ⟨#[]⟩,.bool false,.slice none 0 0,.int .i64 0,.int .i64 0,.bool false,.slice none 0 0] 25)).heap[w.heap.size]?=some (.cells #[.int .i64 0,.string ⟨#[]⟩,.bool false,.slice none 0 0,.int .i64 0,.int .i64 0,.bool false,.slice none 0 0] 25 (0,0)):=heap_alloc_new w _;obtain⟨f0,f1,f2,f3,f4,f5,f6,f7,f8⟩:=jR (c:=[]) hby;clear hby;go_enter Tryz.func23,Tryz.ntmps23
  go_wp2
  refine CJ (v:=.tuple #[.agg #[.int .i64 0,.string ⟨[].toArray⟩,.bool false,.slice none 0 0,.int .i64 0,.int .i64 0,.bool false,.slice none 0 0],.int .i64 4]) gX rfl ?_;refine⟨?_,?_⟩
  ·iterate 0 (refine Below.setCell ?_ gz _)
   exact hbl
  ·rw [←HR.out];rfl
 rw [Co hl] at hR;obtain⟨L,hL⟩:∃L,kh s=L:=⟨_,rfl⟩;have hf:=oE s.length s;have hf1:∀p∈L,p≠[]∧p.length≤1000000:=fun p hp=>by
  rw [←hL] at hp;have:=hf.1 p hp
  exact⟨this.1,by omega⟩
 have hf2:L.length≤200000:=by rw [←hL];have:=hf.2;unfold kh;omega
 have hf3:L.length≤256:=by rw [←hL];have:=hf.2;unfold kh;omega
 rw [hL] at hR;have HSP:Hid (∀w,Calls Tryz.prog 43 #[.string ⟨s.toArray⟩] w fun e w'=>SplitRes L w e w'):=ab (fun w=>hL▸uG s w hs);clear hf;cases s with
 | nil =>
  obtain rfl:L=[]:=by rw [←hL];rfl
  have HR:Hid (wi []=R):=ab hR;clear hR hL;have HF1:=ab hf1;clear hf1;obtain⟨w0,hw0⟩:∃w0,w0=w.alloc (.cells #[.int .i64 0,.string ⟨#[]⟩,.bool false,.slice none 0 0,.int .i64 0,.int .i64 0,.bool false,.slice none 0 0] 25):=⟨_,rfl⟩;obtain⟨hb0,hz0e,hby0⟩:=kB w hw0;have HW0:=ab hw0;have HBY0:=ab hby0;have hz0:w.heap.size+1≤w0.heap.size:=gu;clear hw0 hby0 hz0e;go_enter Tryz.func23,Tryz.ntmps23
  go_wp2_with (go_at_call 43;refine(HSP.out _).mono ?_)
  rintro e w1 hq;obtain⟨a,k,rfl,hsl,hb1⟩:=hq;rw [←HW0.out] at hsl hb1;have hz1:=hb1.size;obtain⟨w2,hw2⟩:∃w2,w2=w1.alloc (.cells #[.slice a 0 k,.int .i64 0,.int .i64 0] 103):=⟨_,rfl⟩;obtain⟨hb2,hz2e,hbr2⟩:=kB w1 hw2;have hz2:w1.heap.size+1≤w2.heap.size:=gu;have HCH:=ab (hsl.keep (Kept.all hb2));have HRD2:Hid (Rd w2 w1.heap.size (([]:List Str)) 0):=ab ⟨a,k,([]:List Str),0,hbr2,(hsl.mono (S':=fun b=>b<w1.heap.size) fun b _ h=>h).keep (Kept.all hb2),hf2,by omega,HF1.out,rfl⟩;have hbw2:Below w.heap.size w w2:=(hb0.trans (hb1.mono gu)).trans (hb2.mono gu);have HBY2:=ab ((hb2.block _ (jO ((hb1.block _ (jO HBY0.out)).trans HBY0.out))).trans ((hb1.block _ (jO HBY0.out)).trans HBY0.out));clear hsl hb1 hz2e hb0;go_upto_region 6 with fail
  rw [←hw2];clear hw2;have HPAT:=ab (xm ((([]:List Str)).length+1) w1.heap.size 0 (([]:List Str)) w2 HRD2.out gu gu);go_wp2_with (go_at_call 45;refine HPAT.out.mono ?_)
  rintro e w5 hq;clear HPAT;cases hpr:patF ((([]:List Str)).length+1) (([]:List Str)) 0 with
  | error q =>
   exact ba
  | ok y =>
   exact au
 | cons b t =>
  obtain⟨c,r,rfl⟩:∃c r,L=c::r:=by rw [←hL];exact⟨_,_,rfl⟩
  generalize hss:b::t=s at *
  have hs1:List.isEmpty s=false:=by rw [←hss];rfl
  have hs2:(!List.isEmpty s)=true:=by rw [hs1];rfl
  clear hss hL;have hcl:=(hf1 c (CB ..)).2;have HF1:=ab hf1;clear hf1;cases hpb:kX c with
  | false =>
   have HR:Hid (Except.error 10=R):=ab (by rw [←hR];simp [hpb]);have HPB:=ab hpb;clear hR hpb;obtain⟨w0,hw0⟩:∃w0,w0=w.alloc (.cells #[.int .i64 0,.string ⟨#[]⟩,.bool false,.slice none 0 0,.int .i64 0,.int .i64 0,.bool false,.slice none 0 0] 25):=⟨_,rfl⟩;obtain⟨hb0,hz0e,hby0⟩:=kB w hw0;have HW0:=ab hw0;have HBY0:=ab hby0;have hz0:w.heap.size+1≤w0.heap.size:=gu;clear hw0 hby0 hz0e;go_enter Tryz.func23,Tryz.ntmps23
   go_wp2_with (go_at_call 43;refine(HSP.out _).mono ?_)
   rintro e w1 hq;obtain⟨a,k,rfl,hsl,hb1⟩:=hq;rw [←HW0.out] at hsl hb1;have hz1:=hb1.size;obtain⟨w2,hw2⟩:∃w2,w2=w1.alloc (.cells #[.slice a (r.length+1) k,.int .i64 0,.int .i64 0] 103):=⟨_,rfl⟩;obtain⟨hb2,hz2e,hbr2⟩:=kB w1 hw2;have hz2:w1.heap.size+1≤w2.heap.size:=gu;have HCH:=ab (hsl.keep (Kept.all hb2));have HRD2:Hid (Rd w2 w1.heap.size (c::r) 0):=ab ⟨a,k,c::r,0,hbr2,(hsl.mono (S':=fun b=>b<w1.heap.size) fun b _ h=>h).keep (Kept.all hb2),hf2,by omega,HF1.out,rfl⟩;have hbw2:Below w.heap.size w w2:=(hb0.trans (hb1.mono gu)).trans (hb2.mono gu);have HBY2:=ab ((hb2.block _ (jO ((hb1.block _ (jO HBY0.out)).trans HBY0.out))).trans ((hb1.block _ (jO HBY0.out)).trans HBY0.out));clear hsl hb1 hz2e hb0;go_upto_region 4 with fail
   rw [←hw2];clear hw2;obtain⟨cb,co,rfl,_,kc⟩:=HCH.out.sl.str (k:=0) (p:=c) rfl;have kc':w2.cell? ⟨cb,co,none⟩=some (.string ⟨c.toArray⟩):=kc;have c0:w2.cell? ⟨w1.heap.size,0,none⟩=some (.slice (some ⟨cb,co,none⟩) (r.length+1) k):=by rw [Cv hbr2];rfl
   have HPR:Hid (Calls Tryz.prog 44 #[.string ⟨c.toArray⟩] w2 fun e w'=>e=.returned (.bool false)∧w2=w'):=ab (HPB.out▸nx c w2 gu);clear kc;go_wp2_with (go_at_call 44;refine HPR.out.mono ?_)
   rintro e wq ⟨rfl,rfl⟩;have HBYq:=HBY2;have hbwq:=hbw2;clear kc' c0 HPR;obtain⟨f0,f1,f2,f3,f4,f5,f6,f7,f8⟩:=jR (c:=[]) HBYq.out;go_wp2
   refine CJ (v:=.tuple #[.agg #[.int .i64 0,.string ⟨[].toArray⟩,.bool false,.slice none 0 0,.int .i64 0,.int .i64 0,.bool false,.slice none 0 0],.int .i64 10]) gX rfl ?_;refine⟨?_,?_⟩
   ·iterate 8 (refine Below.setCell ?_ gz _)
    exact hbwq
   ·rw [←HR.out];rfl
  | true =>
   have HR:Hid (wi (c::r)=R):=ab (by rw [←hR];simp [hpb]);have HPB:=ab hpb;clear hR hpb;obtain⟨w0,hw0⟩:∃w0,w0=w.alloc (.cells #[.int .i64 0,.string ⟨#[]⟩,.bool false,.slice none 0 0,.int .i64 0,.int .i64 0,.bool false,.slice none 0 0] 25):=⟨_,rfl⟩;obtain⟨hb0,hz0e,hby0⟩:=kB w hw0;have HW0:=ab hw0;have HBY0:=ab hby0;have hz0:w.heap.size+1≤w0.heap.size:=gu;clear hw0 hby0 hz0e;go_enter Tryz.func23,Tryz.ntmps23
   go_wp2_with (go_at_call 43;refine(HSP.out _).mono ?_)
   rintro e w1 hq;obtain⟨a,k,rfl,hsl,hb1⟩:=hq;rw [←HW0.out] at hsl hb1;have hz1:=hb1.size;obtain⟨w2,hw2⟩:∃w2,w2=w1.alloc (.cells #[.slice a (r.length+1) k,.int .i64 0,.int .i64 0] 103):=⟨_,rfl⟩;obtain⟨hb2,hz2e,hbr2⟩:=kB w1 hw2;have hz2:w1.heap.size+1≤w2.heap.size:=gu;have HCH:=ab (hsl.keep (Kept.all hb2));have HRD2:Hid (Rd w2 w1.heap.size (c::r) 0):=ab ⟨a,k,c::r,0,hbr2,(hsl.mono (S':=fun b=>b<w1.heap.size) fun b _ h=>h).keep (Kept.all hb2),hf2,by omega,HF1.out,rfl⟩;have hbw2:Below w.heap.size w w2:=(hb0.trans (hb1.mono gu)).trans (hb2.mono gu);have HBY2:=ab ((hb2.block _ (jO ((hb1.block _ (jO HBY0.out)).trans HBY0.out))).trans ((hb1.block _ (jO HBY0.out)).trans HBY0.out));clear hsl hb1 hz2e hb0;go_upto_region 4 with fail
   rw [←hw2];clear hw2;obtain⟨cb,co,rfl,_,kc⟩:=HCH.out.sl.str (k:=0) (p:=c) rfl;have kc':w2.cell? ⟨cb,co,none⟩=some (.string ⟨c.toArray⟩):=kc;have c0:w2.cell? ⟨w1.heap.size,0,none⟩=some (.slice (some ⟨cb,co,none⟩) (r.length+1) k):=by rw [Cv hbr2];rfl
   have HPR:Hid (Calls Tryz.prog 44 #[.string ⟨c.toArray⟩] w2 fun e w'=>e=.returned (.bool true)∧w2=w'):=ab (HPB.out▸nx c w2 gu);clear kc;go_wp2_with (go_at_call 44;refine HPR.out.mono ?_)
   rintro e wq ⟨rfl,rfl⟩;have HBYq:=HBY2;have hbwq:=hbw2;clear kc' c0 HPR;have HPAT:=ab (xm ((c::r).length+1) w1.heap.size 0 (c::r) w2 HRD2.out gu gu);go_wp2_with (go_at_call 45;refine HPAT.out.mono ?_)
   rintro e w5 hq;clear HPAT;cases hpr:patF ((c::r).length+1) (c::r) 0 with
   | error q =>
    exact ba
   | ok y =>
    exact au
end Go.Proofs.YtjggmmaojklmpaaGreat
namespace Go.Proofs.YtjggmmaojklmpaaGreat
end Go.Proofs.YtjggmmaojklmpaaGreat
namespace Go.Proofs.YtjggmmaojklmpaaGreat
theorem zi:∀(k:Nat) (l:Str),l.length≤k→kN k l=kh l
 | k,l,h=>by
  have key:∀(n k:Nat) (l:Str),l.length≤n→n≤k→kN k l=kN n l:=by
   intro n;induction n with
   | zero=>intro k l h1 h2;obtain rfl:=Cm (Nat.le_zero.1 h1);cases k<;>rfl
   | succ n ih =>
    intro k l h1 h2;obtain⟨k,rfl⟩:∃k',k=k'+1:=⟨k-1,by omega⟩;cases l with
    | nil=>rfl
    | cons c r =>
     have hd:(r.dropWhile j0).length≤r.length:=(List.dropWhile_suffix j0).length_le;simp only [Cr] at h1;simp only [kN];rw [ih k _ gu gu]
  exact key l.length k l (Cp _) h
theorem qG (c:UInt8) (r:Str):kh (c::r)=(c::r.takeWhile j0)::kh (r.dropWhile j0):=by
 have hd:(r.dropWhile j0).length≤r.length:=(List.dropWhile_suffix j0).length_le;show kN (r.length+1) (c::r)=_
 simp only [kN];rw [zi r.length _ hd]
theorem AD {s:Str} (h:s.length≤1000000):okC (kh s):=fun p hp=>by
 have:=(oE s.length s).1 p hp
 exact⟨this.1,by omega⟩
theorem rH:∀(r cur:Str),lV cur r=(cur++r.takeWhile j0)::kh (r.dropWhile j0)
 | [],cur=>by simp [lV,kh,kN]
 | c::r,cur=>by
  simp only [lV];cases h:j0 c with
  | true=>rw [Cl rfl,rH r (cur++[c]),List.takeWhile_cons_of_pos h,List.dropWhile_cons_of_pos h];simp
  | false=>rw [Co gF,rH r [c],List.takeWhile_cons_of_neg (by simp [h]),List.dropWhile_cons_of_neg (by simp [h]),qG];simp
theorem Bz (s:Str):mX s=kh s:=by
 cases s with
 | nil=>rfl
 | cons c r=>simp only [mX];rw [rH,qG];rfl
open Go.RowKit
theorem mD {fn:Func} {p u1 u2 u3:Tmp} {ty t:TypeId} {tmps:Array Value} {w:World} {b:Nat} {cs:Array Value} {f:Nat × Nat} {fs:Array Field} {n:Nat} {v1 v2 v3:Value} (hr:fn.results=#[.cell p ty,.tmp u1,.tmp u2,.tmp u3]) (hu:Tryz.prog.underlying ty=some (.struct fs)) (hi:(Tryz.prog.info? ty).map (·.size)=some n)
  (h:w.heap[b]?=some (.cells cs t f)) (hn:cs.size=n) (hp:tmps.getD p undef=.pointer (some ⟨b,0,none⟩)) (hv1:tmps.getD u1 undef=v1) (hv2:tmps.getD u2 undef=v2) (hv3:tmps.getD u3 undef=v3):(results fn tmps).run Tryz.prog w=.ok (.tuple #[.agg cs,v1,v2,v3]) w:=by
 subst hn;have e:(results fn tmps).run Tryz.prog w=((asAddr (tmps.getD p undef)).run Tryz.prog w).andThen fun a w₁=>((loadVar ty a).run Tryz.prog w₁).andThen fun v w₂=>.ok (.tuple #[v,tmps.getD u1 undef,tmps.getD u2 undef,tmps.getD u3 undef]) w₂:=by
  simp only [results,hr];simp [Sem.run_bind,Result.andThen]
 rw [e,hp,hv1,hv2,hv3];exact ef
open Go.RowKit
theorem Bc (z:Int):((su z:Nat):Int)=min (max z 0) 20000:=by unfold su;omega
structure StartP (D:Nat→Prop) (fold:Bool) (s:Str) (z:Int) (w:World) (R:Vn) (w':World):Prop where
 ok:VnOk R
 C:R.C=rcM fold s
 D:R.D=D
 run:RunV R w' (su z) false
 bel:Below w.heap.size w w'
 new:w.heap.size≤R.r
theorem rcM_ok (D:Nat→Prop) (fold:Bool) (s:Str) (hs:s.length≤1000000) (r:Nat) (ca:Option Addr) (cc:Nat) (oa:Option Addr) (oc:Nat):VnOk ⟨r,ca,cc,oa,oc,rcM fold s,D⟩:=by
 refine⟨?_,fun c hc=>(AD hs c hc).2,qZ fold s,fun o ho=>?_⟩
 ·show (kh s).length≤1000000
  have:=pZ s;omega
 ·obtain⟨k,hk,he⟩:=List.getElem_of_mem ho
  have hk1:k<(lP (kh s) 0).length:=hk;rw [lH] at hk1;have:=qQ s (k:=k) gu
  have he1:(lP (kh s) 0).getD k 0=o:=by rw [List.getD_eq_getElem?_getD,Cn (by rw [lH];omega)];exact he
  omega
theorem vl (D:Nat→Prop) (fold:Bool) (s:Str) (z:Int) (w:World) (hs:s.length≤1000000) (hD:∀b,D b→b<w.heap.size) :
  Calls Tryz.prog 38 #[.bool fold,.string ⟨s.toArray⟩,.int .i64 z] w fun e w'=>∃R:Vn,e=.returned (.pointer (some ⟨R.r,0,none⟩))∧StartP D fold s z w R w':=by
 obtain⟨F,hF⟩:∃F:Nat,F=su z:=⟨_,rfl⟩;have hFz:(F:Int)=min (max z 0) 20000:=by rw [hF];exact Bc z
 have hF2:F≤20000:=gu;have HF:=ab hF;have HDD:=ab hD;clear hD;have HSP:Hid (∀w,Calls Tryz.prog 51 #[.string ⟨s.toArray⟩] w fun e w'=>∃a c,e=.returned (.slice a (kh s).length c)∧SlS w' (fun b=>w.heap.size≤b) a 1 (kh s).length (kv (kh s))∧Below w.heap.size w w'):=ab fun w=>(sK s w hs).mono (by
  rintro e w' ⟨a,c,h1,h2,h3⟩;rw [Bz] at h1 h2;exact⟨a,c,h1,mQ h2,h3⟩)
 have HFZ:=ab hFz;clear hF hFz;go_enter Tryz.func38,Tryz.ntmps38
 go_wp2_with (go_at_call 51;refine(HSP.out _).mono ?_)
 rintro e w2 ⟨ca,cc,rfl,hs2,hb2⟩;have HS2:=ab hs2;have HB2:=ab hb2;clear hs2 hb2;go_wp2_with (go_at_call 70;refine(xo s _ hs).mono ?_)
 rintro e w3 ⟨oa,oc,rfl,hs3,hb3⟩;have HS3:=ab hs3;have HB3:=ab hb3;clear hs3 hb3;have HEND:Hid (∀v:Int,v=(F:Int)→∃R:Vn,Ending.returned (.pointer (some ⟨w3.heap.size,0,none⟩))=.returned (.pointer (some ⟨R.r,0,none⟩))∧StartP D fold s z w R (w3.alloc (.cells #[.slice ca (kh s).length cc,.slice oa ((kh s).length+1) oc,.bool fold,.int .i64 v,.bool false] 92))):=ab fun v hv=>by
  have hb4:Below w3.heap.size w3 (w3.alloc (.cells #[.slice ca (kh s).length cc,.slice oa ((kh s).length+1) oc,.bool fold,.int .i64 v,.bool false] 92)):=(Below.refl _ _).alloc (Cp _) _;have hb34:=bel2 HB3.out hb4;refine⟨⟨w3.heap.size,ca,cc,oa,oc,rcM fold s,D⟩,rfl,rcM_ok D fold s hs _ _ _ _ _,rfl,rfl,⟨?_,?_,?_,by rw [←HF.out];exact hF2,fun b h=>by have:=HDD.out b h;have:=HB2.out.size;have:=HB3.out.size;have:=hb4.size;omega⟩,bel2 (bel2 HB2.out HB3.out) hb4,by have:=HB2.out.size;have:=HB3.out.size;show w.heap.size≤w3.heap.size;omega⟩
  ·rw [←HF.out,hv];exact heap_alloc_new w3 _
  ·exact(HS2.out.mono fun b hb hl=>⟨by show b≠w3.heap.size;have:=HB3.out.size;omega,fun h=>by have h1:=HDD.out b h;have h2:w.heap.size≤b:=hb;omega⟩).keep (Kept.all hb34)
  ·exact(HS3.out.mono fun b hb hl=>⟨by show b≠w3.heap.size;omega,fun h=>by have h1:=HDD.out b h;have h2:w2.heap.size≤b:=hb;have:=HB2.out.size;omega⟩).keep (Kept.all hb4)
 go_wp2
 ·exact eH
 ·exact eH
 ·exact eH
theorem AR {R:Vn} {w:World} {fu:Nat} {out:Bool} (h:RunV R w fu out) (ia ib:Int) (aa:Option Addr) (nn cc:Nat) (b:Bool) :
  Calls Tryz.prog 41 #[.pointer (some ⟨R.r,0,none⟩),.agg #[.int .i64 ia,.int .i64 ib,.slice aa nn cc],.bool b] w fun e w'=>e=.returned (.tuple (if out=true then #[mzV,.int .i64 0,.bool false,.int .i64 9] else #[.agg #[.int .i64 ia,.int .i64 ib,.slice aa nn cc],.int .i64 (fu:Int),.bool b,.int .i64 0]))∧Below w.heap.size w w':=by
 have hrl:=h.lt;obtain⟨W1,hW1⟩:∃W1,W1=(w.alloc (.cells #[.int .i64 ia,.int .i64 ib,.slice aa nn cc] 60)).alloc (.cells #[.int .i64 0,.int .i64 0,.slice none 0 0] 60):=⟨_,rfl⟩;have hb1:Below w.heap.size w W1:=by rw [hW1];exact((Below.refl _ _).alloc (Cp _) _).alloc gF _
 have hx1:W1.heap[w.heap.size]?=some (.cells #[.int .i64 ia,.int .i64 ib,.slice aa nn cc] 60 (0,0)):=by rw [hW1,Below.heap_alloc _ _ _ gF];exact heap_alloc_new w _
 have HM1:Hid (W1.heap[w.heap.size+1]?=some (.cells #[.int .i64 0,.int .i64 0,.slice none 0 0] 60 (0,0))):=ab (by rw [hW1];have:=heap_alloc_new (w.alloc (.cells #[.int .i64 ia,.int .i64 ib,.slice aa nn cc] 60)) (.cells #[.int .i64 0,.int .i64 0,.slice none 0 0] 60);simpa using this);have hr1:=h.later hb1;have c4:=hr1.c4;have c3:=hr1.c3;have HW1:=ab hW1;have HB1:=ab hb1;have n0:W1.cell? ⟨w.heap.size,0,none⟩=some (.int .i64 ia):=by rw [Cv hx1];rfl
 have n1:W1.cell? ⟨w.heap.size,1,none⟩=some (.int .i64 ib):=by rw [Cv hx1];rfl
 have n2:W1.cell? ⟨w.heap.size,2,none⟩=some (.slice aa nn cc):=by rw [Cv hx1];rfl
 clear h hr1 hW1 hb1 hx1;cases out with
 | true =>
  have HRES:=ab (lC (cs:=#[.int .i64 0,.int .i64 0,.slice none 0 0]) HM1.out);go_enter Tryz.func41,Tryz.ntmps41
  go_upto_region 1 with fail
  rw [←HW1.out];go_wp2_with (refine kE rfl 60 (.tmp 6) (.tmp 14) rfl ((w.heap.size+1)) (#[.int .i64 0,.int .i64 0,.slice none 0 0]) rfl rfl 60 _ (HM1.out) (kl) rfl rfl (gG) (W:=(W1.setRow (w.heap.size+1) #[.int .i64 0,.int .i64 0,.slice none 0 0])) (rfl) ?_)
  refine CJ (mD Tryz.results41 kS kl HRES.out rfl rfl rfl rfl rfl) rfl ?_;exact⟨rfl,below_setRow HB1.out (Nat.le_succ _) _⟩
 | false =>
  have hne:R.r≠w.heap.size+1:=gu;have hne2:w.heap.size+1≠R.r:=Ne.symm hne;have e3:W1.drew.cell? ⟨R.r,3,none⟩=some (.int .i64 (fu:Int)):=c3;have m0:W1.drew.cell? ⟨w.heap.size,0,none⟩=some (.int .i64 ia):=n0;have m1:W1.drew.cell? ⟨w.heap.size,1,none⟩=some (.int .i64 ib):=n1;have m2:W1.drew.cell? ⟨w.heap.size,2,none⟩=some (.slice aa nn cc):=n2;have hyd:W1.drew.heap[w.heap.size+1]?=some (.cells #[.int .i64 0,.int .i64 0,.slice none 0 0] 60 (0,0)):=HM1.out;have b0:W1.drew.cell? ⟨w.heap.size+1,0,none⟩=some (.int .i64 0):=by rw [Cv hyd];rfl
  have b1:W1.drew.cell? ⟨w.heap.size+1,1,none⟩=some (.int .i64 0):=by rw [Cv hyd];rfl
  have b2:W1.drew.cell? ⟨w.heap.size+1,2,none⟩=some (.slice none 0 0):=by rw [Cv hyd];rfl
  have f0:W1.drew.frozen? ⟨w.heap.size+1,0,none⟩=false:=by simp only [World.frozen?,hyd];simp
  have f1:W1.drew.frozen? ⟨w.heap.size+1,1,none⟩=false:=by simp only [World.frozen?,hyd];simp
  have f2:W1.drew.frozen? ⟨w.heap.size+1,2,none⟩=false:=by simp only [World.frozen?,hyd];simp
  have g0:W1.cell? ⟨w.heap.size+1,0,none⟩=some (.int .i64 0):=b0;have g1:W1.cell? ⟨w.heap.size+1,1,none⟩=some (.int .i64 0):=b1;have g2:W1.cell? ⟨w.heap.size+1,2,none⟩=some (.slice none 0 0):=b2;have k0:W1.frozen? ⟨w.heap.size+1,0,none⟩=false:=f0;have k1:W1.frozen? ⟨w.heap.size+1,1,none⟩=false:=f1;have k2:W1.frozen? ⟨w.heap.size+1,2,none⟩=false:=f2;clear hyd;obtain⟨W6,hW6⟩:∃W6,(((W1.setCell ⟨w.heap.size+1,0,none⟩ (.int .i64 ia)).setCell ⟨w.heap.size+1,1,none⟩ (.int .i64 ib)).setCell ⟨w.heap.size+1,2,none⟩ (.slice aa nn cc)).drew=W6:=⟨_,rfl⟩;have y1:(W1.setCell ⟨w.heap.size+1,0,none⟩ (.int .i64 ia)).heap[w.heap.size+1]?=some (.cells #[.int .i64 ia,.int .i64 0,.slice none 0 0] 60 (0,0)):=by rw [heap_setCell_same _ _ _ _ _ _ HM1.out];rfl
  have y2:((W1.setCell ⟨w.heap.size+1,0,none⟩ (.int .i64 ia)).setCell ⟨w.heap.size+1,1,none⟩ (.int .i64 ib)).heap[w.heap.size+1]?=some (.cells #[.int .i64 ia,.int .i64 ib,.slice none 0 0] 60 (0,0)):=by rw [heap_setCell_same _ _ _ _ _ _ y1];rfl
  have y3:W6.heap[w.heap.size+1]?=some (.cells #[.int .i64 ia,.int .i64 ib,.slice aa nn cc] 60 (0,0)):=by
   rw [←hW6];show (((W1.setCell ⟨w.heap.size+1,0,none⟩ (.int .i64 ia)).setCell ⟨w.heap.size+1,1,none⟩ (.int .i64 ib)).setCell ⟨w.heap.size+1,2,none⟩ (.slice aa nn cc)).heap[w.heap.size+1]?=_
   rw [heap_setCell_same _ _ _ _ _ _ y2];rfl
  have HB6:Hid (Below w.heap.size w W6):=ab (by
   rw [←hW6];exact(((HB1.out.setCell (Nat.le_succ _) _).setCell (Nat.le_succ _) _).setCell (Nat.le_succ _) _).drew)
  have HY6:=ab y3;have HW6:=ab hW6;clear y1 y2 y3 hW6;go_enter Tryz.func41,Tryz.ntmps41
  go_upto_region 1 with fail
  rw [←HW1.out];go_upto_region 3 with fail
  go_region_law (fail)
  all_goals
   simp [Act.put]
   rw [HW6.out];go_wp2
   refine CJ (mD Tryz.results41 kS kl HY6.out rfl rfl rfl rfl rfl) rfl ?_;exact⟨rfl,HB6.out⟩
open Go.RowKit
theorem mj {l:Str} {b:Bool} (w:World) (h:kX l=b) (hl:l.length≤1000000) :
  Calls Tryz.prog 104 #[.string ⟨l.toArray⟩] w fun e w'=>e=.returned (.bool b)∧Below w.heap.size w w':=by
 subst h;exact wy l w hl
theorem vp (a:Option Addr) (n c:Nat) (rs:List (Str × Str)) (w:World) (h:Sl w w.heap.size a 2 n (jX rs)) (hn:n≤1000000) (hsz:∀r∈rs,r.1.length≤1000000∧r.2.length≤1000000) :
  Calls Tryz.prog 105 #[.slice a n c] w fun e w'=>e=.returned (.bool (sD rs))∧Below w.heap.size w w':=by
 obtain rfl:=h.row_len;generalize hR:sD rs=R
 have HR:=ab hR;clear hR;have HR0:Hid (pM none (rs.drop 0)=R):=HR;have HSl:=ab h;have HSz:=ab hsz;clear HR h hsz;go_enter Tryz.func105,Tryz.ntmps105
 go_wp2
 go_loopw [3] (fun q wr=>MayRel rs R w q wr) (fun q _=>rs.length-(intOf q).toNat)
 case atStart=>exact⟨0,none,by omega,rfl,Below.refl _ _,ab (.inl ⟨rfl,rfl⟩),HR0⟩
 case round =>
  obtain⟨k,p,hk,rfl,hb,HP,HF⟩:=hrel;clear HR0;have hB:=hb.size;cases hd:rs.drop k with
  | nil =>
   exact df
  | cons r0 r =>
   obtain⟨h2,h3,hr⟩:=j6 hd;have HF':Hid (pM p (r0::r)=R):=ab jy;have Hr:=ab hr;obtain⟨b,o,rfl,hbB,c0,c1⟩:=(HSl.out.keep hb).row h3;obtain⟨z1,z2⟩:=HSz.out r0 (CF h3);have HE3:=ab h3;obtain⟨f,t⟩:=r0;replace z1:f.length≤1000000:=z1;replace z2:t.length≤1000000:=z2;clear hd HF hr h3;have e0:∀x:ExtOf (wr.alloc (.cells #[.string ⟨f.toArray⟩,.string ⟨t.toArray⟩] 72)),x.val.cell? ⟨wr.heap.size,0,none⟩=some (.string ⟨f.toArray⟩):=ExtOf.cell gF;have e1:∀x:ExtOf (wr.alloc (.cells #[.string ⟨f.toArray⟩,.string ⟨t.toArray⟩] 72)),x.val.cell? ⟨wr.heap.size,1,none⟩=some (.string ⟨t.toArray⟩):=ExtOf.cell gF;obtain⟨pf,hpf⟩:∃b,kX f=b:=⟨_,rfl⟩;obtain⟨pt,hpt⟩:∃b,kX t=b:=⟨_,rfl⟩;have HP1:=ab hpf;have HP2:=ab hpt;clear hpf hpt;cases pf with
   | false =>
    have HE:Hid (R=false):=ab (by rw [←HF'.out];simp only [pM];rw [show rowB (f,t)=false from by simp [rowB,HP1.out]];rfl);exact bq
   | true =>
    cases pt with
    | false =>
     have HE:Hid (R=false):=ab (by rw [←HF'.out];simp only [pM];rw [show rowB (f,t)=false from by simp [rowB,HP2.out]];rfl);exact bq
    | true =>
     cases hle:leS f t with
     | false =>
      have HE:Hid (R=false):=ab (by rw [←HF'.out];simp only [pM];rw [show rowB (f,t)=false from by simp [rowB,hle]];rfl);exact bq
     | true =>
      have HB:Hid (rowB (f,t)=true):=ab (by simp [rowB,HP1.out,HP2.out,hle]);rcases HP.out with⟨hk0,hp0⟩|⟨j,r',hkj,hj,hpj⟩
      ·have hk0':decide (0<k)=false:=by rw [decide_eq_false_iff_not];omega
       have HL:Hid (p=none):=ab hp0;clear hk0 hp0;go_wp2
       refine jS gE gE ?_;repeat (go_big_quiet_step (((go_at_call 104;first|exact ku (mj _ HP1.out gu)|exact ku (mj _ HP2.out gu)))))
       exact ci
      ·obtain⟨b',o',hab,_,d0,d1⟩:=(HSl.out.keep hb).row hj
       obtain⟨rfl,rfl⟩:b=b'∧o=o':=by simpa using hab
       obtain⟨f',t'⟩:=r';have HPJ:=ab hpj;subst hkj;clear hj hpj hab;have d2:∀x:ExtOf (wr.alloc (.cells #[.string ⟨f.toArray⟩,.string ⟨t.toArray⟩] 72)),x.val.cell? ⟨b,o+j*2+1,none⟩=some (.string ⟨t'.toArray⟩):=ExtOf.cell (by rw [World.cell?_alloc_lt _ _ _ gH];exact d1);go_wp2
       refine jS gE gE ?_;repeat (go_big_quiet_step (((go_at_call 104;first|exact ku (mj _ HP1.out gu)|exact ku (mj _ HP2.out gu)))))
       exact bB
open Go.RowKit
theorem Bg (k:Int) (c:Str) (ng:Bool) (ra:Option Addr) (rn rc:Nat) (lo hi:Int) (lz:Bool) (ka:Option Addr) (kn kc:Nat) (w:World) :
  Calls Tryz.prog 103 #[.agg #[.int .i64 k,.string ⟨c.toArray⟩,.bool ng,.slice ra rn rc,.int .i64 lo,.int .i64 hi,.bool lz,.slice ka kn kc]] w fun e w'=>e=.returned (.bool (lT c ng rn lo hi lz))∧Below w.heap.size w w':=by
 generalize hR:lT c ng rn lo hi lz=R
 have HR:=ab hR;clear hR;have hbw:∀o:Obj,Below w.heap.size w (w.alloc o):=fun o=>(Below.refl _ _).alloc (Cp _) _
 have HBW:=ab hbw;clear hbw;cases c<;>cases ng<;>cases lz
 all_goals
  go_enter Tryz.func103,Tryz.ntmps103
  exact dV
theorem nN {k:Int} {c:Str} {ng:Bool} {ra:Option Addr} {rn rc:Nat} {lo hi:Int} {lz:Bool} {ka:Option Addr} {kn kc:Nat} {b:Bool} (w:World) (h:lT c ng rn lo hi lz=b) :
  Calls Tryz.prog 103 #[.agg #[.int .i64 k,.string ⟨c.toArray⟩,.bool ng,.slice ra rn rc,.int .i64 lo,.int .i64 hi,.bool lz,.slice ka kn kc]] w fun e w'=>e=.returned (.bool b)∧Below w.heap.size w w'∧∀a u,w.cell? a=some u→w'.cell? a=some u:=by
 subst h;exact(Bg k c ng ra rn rc lo hi lz ka kn kc w).mono fun _ _ ⟨h1,h2⟩=>⟨h1,h2,jP h2⟩
def uR (c:Str) (ng:Bool) (rn:Nat) (lo hi:Int) (ks:List Rx):Bool:=lT c ng rn 0 0 false&&oneB ks&&decide (0≤lo∧lo≤255∧(hi=-1∨lo≤hi∧hi≤255))
theorem vQ (S:Nat→Prop) (K:Int) (c:Str) (ng:Bool) (ra:Option Addr) (rn rc:Nat) (lo hi:Int) (lz:Bool) (ka:Option Addr) (ks:List Rx) (kc:Nat) (w:World)
  (hx:RxSl w S ka ks.length ks) (hkl:ks.length≤1000000) :
  Calls Tryz.prog 106 #[.agg #[.int .i64 K,.string ⟨c.toArray⟩,.bool ng,.slice ra rn rc,.int .i64 lo,.int .i64 hi,.bool lz,.slice ka ks.length kc]] w fun e w'=>e=.returned (.bool (uR c ng rn lo hi ks))∧Below w.heap.size w w':=by
 generalize hR:uR c ng rn lo hi ks=R
 have HR:=ab hR;clear hR;have hq:∀{o:Obj},Below w.heap.size w (w.alloc o):=(Below.refl _ _).alloc (Cp _) _;have HQ:=@ab _ @hq;clear hq;rcases ks with _|⟨x,_|⟨y,ks⟩⟩
 ·have HS:Hid (R=false):=ab (by rw [←HR.out];simp [uR,oneB])
  exact da
 ·by_cases hb:0≤lo∧lo≤255∧(hi=-1∨lo≤hi∧hi≤255)
  ·obtain⟨xk,xc,xn,xr,xl,xh,xz,xs⟩:=x
   obtain⟨b,o,_,_,_,_,rfl,_,hbB,_,_,_,q0,_⟩:=hx.cells (m:=0) rfl;simp only [Nat.zero_mul,Nat.add_zero] at q0;obtain⟨bv,hbv⟩:∃bv,lT c ng rn 0 0 false=bv:=⟨_,rfl⟩;have HB:=ab hbv;have HS:Hid (R=(bv&&repB xk)):=ab (by rw [←HR.out];unfold uR;rw [hbv,CO hb,Ch];rfl);clear hbv hx;obtain⟨g1,g2,g3⟩:=hb;rcases g3 with rfl|⟨g3,g4⟩
   all_goals
    cases bv
    all_goals
     go_enter Tryz.func106,Tryz.ntmps106
     go_wp2_with (go_at_call 103;refine(nN _ HB.out).mono ?_;rintro e w1 ⟨rfl,hb1,_⟩)
     all_goals first
      | (exfalso;omega)
      | (go_ret;refine⟨jU ?_,HQ.out.trans (hb1.mono gF)⟩;rw [HS.out];first|rfl|(clear HS HR;rw [Bool.eq_iff_iff];simp_all [repB]))
  ·have HS:Hid (R=false):=ab (by rw [←HR.out];unfold uR;rw [CP hb,Bool.and_false])
   have hb':lo<0∨(0≤lo∧255<lo)∨(0≤lo∧lo≤255∧hi≠-1∧hi<lo)∨(0≤lo∧lo≤255∧hi≠-1∧lo≤hi∧255<hi):=gu;clear hb hx;rcases hb' with g|⟨g1,g2⟩|⟨g1,g2,g3,g4⟩|⟨g1,g2,g3,g4,g5⟩
   ·exact da
   ·exact da
   ·exact cd
   ·exact cd
 ·have HS:Hid (R=false):=ab (by rw [←HR.out];simp [uR,oneB])
  have e9:((ks.length:Int)+1+1==1)=false:=by rw [CM];omega
  have e8:((ks.length:Int)+1+1 != 1)=true:=by rw [bne_iff_ne];omega
  go_enter Tryz.func106,Tryz.ntmps106
  go_wp2_with fail
  all_goals first
   | (exfalso;omega)
   | (go_ret;exact⟨jU HS.out.symm,HQ.out⟩)
   | go_ways
open Go.RowKit
theorem oQ (S:Nat→Prop):∀(N:Nat) (x:Rx),x.parts≤N→x.parts≤1000000→∀(cc:List Value) (w:World),RxV w S cc x →
  Calls Tryz.prog 66 #[.agg cc.toArray] w fun e w'=>e=.returned (.int .i64 x.parts)∧Below w.heap.size w w'
 | 0,x,h,_,_,_,_=>by have:=Rx.parts_pos x;omega
 | N+1,.mk k c ng rs lo hi lz ks,h,hm,cc,w,hv=>by
  obtain⟨ra,rc,ka,kc,rfl,hrs,hx⟩:=hv.open_;simp only [Rx.parts] at h hm;have hlen:=Rx.len_parts ks;have hdl:=rI ks;have ih:=fun(y:Rx) (hy:y.parts≤Rx.partsL ks)=>oQ S N y gu gu
  have IH:=ab ih;obtain⟨w0,hw0⟩:∃w0,w0=w.alloc (.cells #[.int .i64 k,.string ⟨c.toArray⟩,.bool ng,.slice ra rs.length rc,.int .i64 lo,.int .i64 hi,.bool lz,.slice ka ks.length kc] 25):=⟨_,rfl⟩;have hb0:Below w.heap.size w w0:=by rw [hw0];exact(Below.refl _ _).alloc (Cp _) _
  have HX:=ab (hx.later hb0);have Z0:Hid (w0.cell? ⟨w.heap.size,0,none⟩=some (.int .i64 k)):=ab jH;have Z7:Hid (w0.cell? ⟨w.heap.size,7,none⟩=some (.slice ka ks.length kc)):=ab jH;clear hx hv hrs ih;unfold rxc;obtain⟨R,hR⟩:∃R,(Rx.mk k c ng rs lo hi lz ks).parts=R:=⟨_,rfl⟩;have hR6:R≤1000000:=by rw [←hR];simp only [Rx.parts];omega
  have HR0:Hid (1+Rx.partsL (ks.drop 0)=R):=ab hR;rw [hR];clear hR;go_enter Tryz.func66,Tryz.ntmps66
  go_wp2
  rw [←hw0];clear hw0;go_loopw [3,4] (fun t q wr=>xP ks Rx.partsL (·+·) R w0 t q wr) (fun _ q _=>ks.length-(intOf q).toNat)
  case atStart=>exact⟨0,1,by omega,rfl,rfl,by omega,Below.refl _ _,HR0⟩
  case round =>
   obtain⟨i,d,hi,rfl,rfl,hd9,hb,HF⟩:=hrel;clear HR0;have hB:=hb.size;have z7:=jP hb _ _ Z7.out;cases hd:ks.drop i with
   | nil =>
    have h2:ks.length≤i:=gU;have HE:Hid (d=R):=ab (by rw [←HF.out,hd];simp [Rx.partsL]);exact fU
   | cons y r =>
    obtain⟨h2,h3,hr⟩:=j6 hd;obtain⟨yk,yc,yn,yr,yl,yh,yz,ys⟩:=y;obtain⟨b,o,ya,yrc,yka,ykc,rfl,hS,hbB,_,_,hyv,c0,c1,c2,c3,c4,c5,c6,c7⟩:=(HX.out.later hb).cells h3;have hyp:=Rx.parts_mem (CF h3);have Hr:=ab hr;have HYV:=ab hyv;unfold rxc at HYV;have HE:Hid (d+(Rx.parts (.mk yk yc yn yr yl yh yz ys)+Rx.partsL r)=R):=ab gY;have hle:d+Rx.parts (.mk yk yc yn yr yl yh yz ys)≤1000000:=by have:=HE.out;omega
    clear hd HF hr h3 hyv;go_wp2_with (go_at_call 66;refine(IH.out _ hyp _ _ HYV.out).mono ?_;rintro e w1 ⟨rfl,hb1⟩)
    go_roundw
    case rel=>exact⟨i+1,d+Rx.parts (.mk yk yc yn yr yl yh yz ys),by omega,by go_num,by go_num,by omega,hb.trans (hb1.mono hB),ab (by rw [Hr.out];have h:=HE.out;show d+Rx.parts (.mk yk yc yn yr yl yh yz ys)+Rx.partsL r=R;omega)⟩
    case measure=>simp [intOf];omega
theorem rP (S:Nat→Prop):∀(N:Nat) (x:Rx),x.parts≤N→x.parts≤1000000→∀(cc:List Value) (w:World),RxV w S cc x →
  Calls Tryz.prog 67 #[.agg cc.toArray] w fun e w'=>e=.returned (.int .i64 x.deep)∧Below w.heap.size w w'
 | 0,x,h,_,_,_,_=>by have:=Rx.parts_pos x;omega
 | N+1,.mk k c ng rs lo hi lz ks,h,hm,cc,w,hv=>by
  obtain⟨ra,rc,ka,kc,rfl,hrs,hx⟩:=hv.open_;simp only [Rx.parts] at h hm;have hlen:=Rx.len_parts ks;have hdl:=rI ks;have ih:=fun(y:Rx) (hy:y.parts≤Rx.partsL ks)=>rP S N y gu gu
  have IH:=ab ih;obtain⟨w0,hw0⟩:∃w0,w0=w.alloc (.cells #[.int .i64 k,.string ⟨c.toArray⟩,.bool ng,.slice ra rs.length rc,.int .i64 lo,.int .i64 hi,.bool lz,.slice ka ks.length kc] 25):=⟨_,rfl⟩;have hb0:Below w.heap.size w w0:=by rw [hw0];exact(Below.refl _ _).alloc (Cp _) _
  have HX:=ab (hx.later hb0);have Z0:Hid (w0.cell? ⟨w.heap.size,0,none⟩=some (.int .i64 k)):=ab jH;have Z7:Hid (w0.cell? ⟨w.heap.size,7,none⟩=some (.slice ka ks.length kc)):=ab jH;clear hx hv hrs ih;unfold rxc;obtain⟨R,hR⟩:∃R,Rx.deepL ks=R:=⟨_,rfl⟩;have HR0:Hid (max 0 (Rx.deepL (ks.drop 0))=R):=ab (by simpa using hR);have HD:Hid ((Rx.mk k c ng rs lo hi lz ks).deep=R+if k=5∨k=6 then 1 else 0):=ab (by rw [←hR];rfl);have hR6:R≤1000000:=gu;rw [HD.out];clear hR hdl;go_enter Tryz.func67,Tryz.ntmps67
  go_wp2
  rw [←hw0];clear hw0;go_loopw [3,4] (fun t q wr=>xP ks Rx.deepL max R w0 t q wr) (fun _ q _=>ks.length-(intOf q).toNat)
  case atStart=>exact⟨0,0,by omega,rfl,rfl,by omega,Below.refl _ _,HR0⟩
  case round =>
   obtain⟨i,d,hi,rfl,rfl,hd9,hb,HF⟩:=hrel;clear HR0;have hB:=hb.size;have z7:=jP hb _ _ Z7.out;cases hd:ks.drop i with
   | nil =>
    have h2:ks.length≤i:=gU;have HE:Hid (d=R):=ab (by rw [←HF.out,hd];simp [Rx.deepL]);have z0:=jP hb _ _ Z0.out;clear hd HF;have hbb:=hb0.trans (hb.mono hb0.size);by_cases h5:k=5
    ·subst h5
     go_wp2
     go_ret
     exact⟨lD (by have:=HE.out;simp;omega),hbb⟩
    by_cases h6:k=6
    ·subst h6
     go_wp2
     go_ret
     exact⟨lD (by have:=HE.out;simp;omega),hbb⟩
    ·have e5:(k==5)=false:=by simpa using h5
     have e6:(k==6)=false:=by simpa using h6
     have H56:Hid (¬(k=5∨k=6)):=ab gu;clear h5 h6;go_wp2
     go_ret
     exact⟨lD (by have:=HE.out;omega),hbb⟩
   | cons y r =>
    obtain⟨h2,h3,hr⟩:=j6 hd;obtain⟨yk,yc,yn,yr,yl,yh,yz,ys⟩:=y;obtain⟨b,o,ya,yrc,yka,ykc,rfl,hS,hbB,_,_,hyv,c0,c1,c2,c3,c4,c5,c6,c7⟩:=(HX.out.later hb).cells h3;have hyp:=Rx.parts_mem (CF h3);have Hr:=ab hr;have HYV:=ab hyv;unfold rxc at HYV;have HE:Hid (max d (max (Rx.deep (.mk yk yc yn yr yl yh yz ys)) (Rx.deepL r))=R):=ab gY;have hyd:=Rx.deep_parts (.mk yk yc yn yr yl yh yz ys);clear hd HF hr h3 hyv;go_wp2_with (go_at_call 67;refine(IH.out _ hyp _ _ HYV.out).mono ?_;rintro e w1 ⟨rfl,hb1⟩)
    go_roundw
    case rel=>exact⟨i+1,max d (Rx.deep (.mk yk yc yn yr yl yh yz ys)),by omega,by go_num,by first|(simp;omega)|(simp;split<;>omega),by omega,hb.trans (hb1.mono hB),ab (by rw [Hr.out,←HE.out];omega)⟩
    case measure=>simp [intOf];omega
open Go.RowKit
def WfRel (ks:List Rx) (F R:Bool) (w:World) (q:Value) (wr:World):Prop :=
 ∃k:Nat,k≤ks.length∧q=.int .i64 k∧Below w.heap.size w wr∧Hid ((Rx.wfL (ks.drop k)&&F)=R)
def AllRel (ks:List Rx) (p:Rx→Bool) (F R:Bool) (w:World) (q:Value) (wr:World):Prop :=
 ∃k:Nat,k≤ks.length∧q=.int .i64 k∧Below w.heap.size w wr∧Hid (((ks.drop k).all p&&F)=R)
def p01 (x:Rx):Bool:=decide (x.kind≠0∧x.kind≠1)
def p1 (x:Rx):Bool:=decide (x.kind≠1)
theorem ym (S:Nat→Prop):∀(N:Nat) (x:Rx),x.parts≤N→x.parts≤1000000→x.small→∀(cc:List Value) (w:World),RxV w S cc x →
  Calls Tryz.prog 68 #[.agg cc.toArray] w fun e w'=>e=.returned (.bool x.wf)∧Below w.heap.size w w'
 | 0,x,h,_,_,_,_,_=>by have:=Rx.parts_pos x;omega
 | N+1,.mk k c ng rs lo hi lz ks,h,hm,hsm,cc,w,hv=>by
  obtain⟨ra,rc,ka,kc,rfl,hrs,hx⟩:=hv.open_;obtain⟨⟨s1,s2,s3,s4⟩,hsmL⟩:=hsm;simp only [Rx.parts] at h hm;have hlen:=Rx.len_parts ks;have ih:=fun(y:Rx) (hy:y.parts≤Rx.partsL ks)=>ym S N y gu gu
  have IH:=ab ih;have HSM:=ab hsmL;have HS3:=ab s3;obtain⟨w0,hw0⟩:∃w0,w0=w.alloc (.cells #[.int .i64 k,.string ⟨c.toArray⟩,.bool ng,.slice ra rs.length rc,.int .i64 lo,.int .i64 hi,.bool lz,.slice ka ks.length kc] 25):=⟨_,rfl⟩;have hb0:Below w.heap.size w w0:=by rw [hw0];exact(Below.refl _ _).alloc (Cp _) _
  have hbx0:w0.heap[w.heap.size]?=some (.cells #[.int .i64 k,.string ⟨c.toArray⟩,.bool ng,.slice ra rs.length rc,.int .i64 lo,.int .i64 hi,.bool lz,.slice ka ks.length kc] 25 (0,0)):=by rw [hw0];exact heap_alloc_new w _
  have HX:=ab (hx.later hb0);have HRS:=ab hrs;have HBX:=ab hbx0;obtain⟨R,hR⟩:∃R,(Rx.mk k c ng rs lo hi lz ks).wf=R:=⟨_,rfl⟩;obtain⟨F,hF⟩:∃F,kw (Rx.mk k c ng rs lo hi lz ks)=F:=⟨_,rfl⟩;have HR0:Hid ((Rx.wfL (ks.drop 0)&&F)=R):=ab (by rw [←hR,←hF,Bool.and_comm];rfl);have HF0:=ab hF;rw [hR];clear hx hv hrs ih hsmL s3 hbx0 hR hF;unfold rxc;go_enter Tryz.func68,Tryz.ntmps68
  go_wp2
  rw [←hw0];clear hw0;go_loopw [4] (fun q wr=>WfRel ks F R w0 q wr) (fun q _=>ks.length-(intOf q).toNat)
  case atStart=>exact⟨0,by omega,rfl,Below.refl _ _,HR0⟩
  case round =>
   obtain⟨i,hik,rfl,hb,HL⟩:=hrel;clear HR0;have hB:=hb.size;have hbb:=hb0.trans (hb.mono hb0.size);have hBX1:=(hb.block _ (jO HBX.out)).trans HBX.out;have HBXr:=ab hBX1;cases hd:ks.drop i with
   | cons y r =>
    obtain⟨e0,e1,e2,e3,e4,e5,e6,e7,e8⟩:=jR (hBX1);have hsmy:=fun h3=>lK HSM.out (CF (a:=y) (i:=i) h3)
    have HSY:=ab hsmy;clear hsmy hBX1;obtain⟨h2,h3,hr⟩:=j6 hd;obtain⟨yk,yc,yn,yr,yl,yh,yz,ys⟩:=y;obtain⟨b,o,ya,yrc,yka,ykc,rfl,hS,hbB,_,_,hyv,c0,c1,c2,c3,c4,c5,c6,c7⟩:=(HX.out.later hb).cells h3;have hyp:=Rx.parts_mem (CF h3);have Hr:=ab hr;have HYV:=ab hyv;unfold rxc at HYV;have HSY2:=ab (HSY.out h3);have HE:Hid (R=(Rx.wf (.mk yk yc yn yr yl yh yz ys)&&(Rx.wfL r&&F))):=ab (by rw [←HL.out,hd,←Bool.and_assoc];rfl);obtain⟨yb,hyb⟩:∃yb,Rx.wf (.mk yk yc yn yr yl yh yz ys)=yb:=⟨_,rfl⟩;have HYB:=ab hyb;rw [hyb] at HE;clear hd HL hr h3 hyv hyb HSY;cases yb with
    | false =>
     have HE3:Hid (R=false):=ab (by rw [HE.out];rfl);go_wp2_with (go_at_call 68;refine(IH.out _ hyp HSY2.out _ _ HYV.out).mono ?_;rintro e w1 ⟨rfl,hb1⟩;rw [HYB.out])
     go_ret
     exact⟨jU HE3.out.symm,hbb.trans (hb1.mono hbb.size)⟩
    | true =>
     have HE3:Hid ((Rx.wfL r&&F)=R):=ab (by rw [HE.out];rfl);go_wp2_with (go_at_call 68;refine(IH.out _ hyp HSY2.out _ _ HYV.out).mono ?_;rintro e w1 ⟨rfl,hb1⟩;rw [HYB.out])
     go_roundw
     case rel=>exact⟨i+1,by omega,by go_num,hb.trans (hb1.mono hB),ab jK⟩
     case measure=>simp [intOf];omega
   | nil =>
    have h2:ks.length≤i:=gU;have HFR:Hid (F=R):=ab (by rw [←HL.out,hd];rfl);obtain⟨e0,e1,e2,e3,e4,e5,e6,e7,e8⟩:=jR (hBX1);clear hd HL hBX1;by_cases hk0:k=0
    ·subst hk0
     obtain⟨bb,hbv⟩:∃bb,lT c ng rs.length lo hi lz=bb:=⟨_,rfl⟩;have HB:=ab hbv;have HE:Hid (R=(bb&&decide (ks.length≠1)&&ks.all p01)):=ab (by rw [←HFR.out,←HF0.out,←hbv,←lE 0 c ng rs lo hi lz ks];rfl);clear hbv HFR HF0;obtain⟨F2,hF2⟩:∃b,(bb&&decide (ks.length≠1))=b:=⟨_,rfl⟩;have HF2:=ab hF2;have HK0:Hid (((ks.drop 0).all p01&&F2)=R):=ab jl;clear hF2 HE;have HXr:=ab (HX.out.later hb);obtain⟨wo,rfl⟩:∃wo:World,wo=wr:=⟨_,rfl⟩;go_wp2
     go_loopw [5] (fun q wk=>AllRel ks p01 F2 R wo q wk) (fun q _=>ks.length-(intOf q).toNat)
     case atStart=>exact⟨0,by omega,rfl,Below.refl _ _,HK0⟩
     case round =>
      obtain⟨j,hj,rfl,hbk,HG⟩:=hrel;clear HK0;have hBk:=hbk.size;have hBX2:=(hbk.block _ (jO HBXr.out)).trans HBXr.out;obtain⟨e0,e1,e2,e3,e4,e5,e6,e7,e8⟩:=jR (hBX2);have hbbk:=hbb.trans (hbk.mono hbb.size);clear hBX2;cases hd:ks.drop j with
      | nil =>
       exact bV
      | cons y r =>
       obtain⟨h2,h3,hr⟩:=j6 hd;obtain⟨yk,yc,yn,yr,yl,yh,yz,ys⟩:=y;obtain⟨b,o,ya,yrc,yka,ykc,rfl,hS,hbB,_,_,hyv,c0,c1,c2,c3,c4,c5,c6,c7⟩:=(HXr.out.later hbk).cells h3;have Hr:=ab hr;have HG2:Hid (((Rx.mk yk yc yn yr yl yh yz ys::r).all p01&&F2)=R):=ab (by rw [←HG.out,hd]);clear hd HG hr h3 hyv c1 c2 c3 c4 c5 c6 c7;by_cases hy0:yk=0
       ·subst hy0
        exact dE
       by_cases hy1:yk=1
       ·subst hy1
        exact dE
       have n0:(yk==0)=false:=by rw [CM];exact hy0
       have n1:(yk==1)=false:=by rw [CM];exact hy1
       have HN:=ab (And.intro hy0 hy1);clear hy0 hy1;have HE3:Hid ((r.all p01&&F2)=R):=ab (by rw [←HG2.out];simp [p01,Rx.kind,HN.out.1,HN.out.2]);exact dm
    by_cases hk1:k=1
    ·subst hk1
     obtain⟨bb,hbv⟩:∃bb,lT c ng rs.length lo hi lz=bb:=⟨_,rfl⟩;have HB:=ab hbv;have HE:Hid (R=(bb&&decide (1<ks.length)&&ks.all p1)):=ab (by rw [←HFR.out,←HF0.out,←hbv,←lE 1 c ng rs lo hi lz ks];rfl);clear hbv HFR HF0 hk0;obtain⟨F2,hF2⟩:∃b,(bb&&decide (1<ks.length))=b:=⟨_,rfl⟩;have HF2:=ab hF2;have HK0:Hid (((ks.drop 0).all p1&&F2)=R):=ab jl;clear hF2 HE;have HXr:=ab (HX.out.later hb);obtain⟨wo,rfl⟩:∃wo:World,wo=wr:=⟨_,rfl⟩;go_wp2
     go_loopw [6] (fun q wk=>AllRel ks p1 F2 R wo q wk) (fun q _=>ks.length-(intOf q).toNat)
     case atStart=>exact⟨0,by omega,rfl,Below.refl _ _,HK0⟩
     case round =>
      obtain⟨j,hj,rfl,hbk,HG⟩:=hrel;clear HK0;have hBk:=hbk.size;have hBX2:=(hbk.block _ (jO HBXr.out)).trans HBXr.out;obtain⟨e0,e1,e2,e3,e4,e5,e6,e7,e8⟩:=jR (hBX2);have hbbk:=hbb.trans (hbk.mono hbb.size);clear hBX2;cases hd:ks.drop j with
      | nil =>
       exact bV
      | cons y r =>
       obtain⟨h2,h3,hr⟩:=j6 hd;obtain⟨yk,yc,yn,yr,yl,yh,yz,ys⟩:=y;obtain⟨b,o,ya,yrc,yka,ykc,rfl,hS,hbB,_,_,hyv,c0,c1,c2,c3,c4,c5,c6,c7⟩:=(HXr.out.later hbk).cells h3;have Hr:=ab hr;have HG2:Hid (((Rx.mk yk yc yn yr yl yh yz ys::r).all p1&&F2)=R):=ab (by rw [←HG.out,hd]);clear hd HG hr h3 hyv c1 c2 c3 c4 c5 c6 c7;by_cases hy1:yk=1
       ·subst hy1
        have HE3:Hid (R=false):=ab (by rw [←HG2.out];simp [p1,Rx.kind]);go_wp2
        go_ret
        exact⟨jU HE3.out.symm,hbbk⟩
       have n1:(yk==1)=false:=by rw [CM];exact hy1
       have HN:=ab hy1;clear hy1;have HE3:Hid ((r.all p1&&F2)=R):=ab (by rw [←HG2.out];simp [p1,Rx.kind,HN.out]);exact dm
    by_cases hk2:k=2
    ·subst hk2
     obtain⟨bb,hbv⟩:∃bb,lT [] ng rs.length lo hi lz=bb:=⟨_,rfl⟩;obtain⟨pp,hpv⟩:∃pp,kX c=pp:=⟨_,rfl⟩;have HB:=ab hbv;have HP:=ab hpv;have HE:Hid (R=(bb&&decide (ks.length=0)&&pp)):=ab (by rw [←HFR.out,←HF0.out,←hbv,←hpv,←lE 2 [] ng rs lo hi lz ks];cases ks<;>simp [kw]);clear hbv hpv HFR HF0 hk0 hk1;by_cases hl:ks.length=0
     ·have l0:((ks.length:Int)==0)=true:=by rw [hl];rfl
      have HE2:Hid (R=(bb&&pp)):=ab (by rw [HE.out,hl];simp);clear hl HE;cases bb
      ·exact db
      ·go_wp2_with (first|(go_at_call 103;refine(nN _ HB.out).mono ?_;rintro e w1 ⟨rfl,hb1,_⟩)|(go_at_call 104;refine(mj _ HP.out gu).mono ?_;rintro e w2 ⟨rfl,hb2⟩))
       go_ret
       exact⟨jU HE2.out.symm,bel2 (bel2 (hbb.setCell gF _) hb1) hb2⟩
     ·have l0:((ks.length:Int)==0)=false:=by rw [CM];omega
      have HE2:Hid (R=false):=ab (by rw [HE.out,CP hl];simp);clear hl HE;cases bb
      all_goals
       exact db
    by_cases hk4:k=4
    ·subst hk4
     obtain⟨bb,hbv⟩:∃bb,lT c false 0 lo hi lz=bb:=⟨_,rfl⟩;have HB:=ab hbv;have HE:Hid (R=(bb&&decide (ks.length=0)&&sD rs)):=ab (by rw [←HFR.out,←HF0.out,←hbv,show (0:Nat)=([]:List (Str × Str)).length from rfl,←lE 4 c false [] lo hi lz ks];cases ks<;>simp [kw]);clear hbv HFR HF0 hk0 hk1 hk2;by_cases hl:ks.length=0
     ·have l0:((ks.length:Int)==0)=true:=by rw [hl];rfl
      have HE2:Hid (R=(bb&&sD rs)):=ab (by rw [HE.out,hl];simp);clear hl HE;cases bb
      ·exact cQ
      ·go_wp2_with (first|(((go_at_call 103;refine(nN _ HB.out).mono ?_;rintro e w1 ⟨rfl,hb1,_⟩));have hbq:=bel2 ((hbb.setCell gF _).setCell gF _) hb1;have HR1:=ab (HRS.out.keep (Kept.all hbq)).sl)|(go_at_call 105;refine(vp _ _ _ rs _ HR1.out gu HS3.out).mono ?_;rintro e w2 ⟨rfl,hb2⟩))
       go_ret
       exact⟨jU HE2.out.symm,bel2 hbq hb2⟩
     ·have l0:((ks.length:Int)==0)=false:=by rw [CM];omega
      have HE2:Hid (R=false):=ab (by rw [HE.out,CP hl];simp);clear hl HE;cases bb
      all_goals
       exact cQ
    by_cases hk7:k=7
    ·subst hk7
     have HE:Hid (R=uR c ng rs.length lo hi ks):=ab (by rw [←HFR.out,←HF0.out];unfold uR;rw [←lE 7 c ng rs 0 0 false ks];rfl);have HXr:=ab (HX.out.later hb);clear HFR HF0 hk0 hk1 hk2 hk4;go_wp2_with (go_at_call 106;refine(vQ S _ _ _ _ _ _ _ _ _ _ _ _ _ HXr.out s4).mono ?_;rintro e w1 ⟨rfl,hb1⟩)
     go_ret
     exact⟨jU HE.out.symm,bel2 hbb hb1⟩
    by_cases hk5:k=5∨k=6
    ·obtain⟨bb,hbv⟩:∃bb,lT c ng rs.length lo hi lz=bb:=⟨_,rfl⟩
     have HB:=ab hbv;have HE:Hid (R=(bb&&decide (ks.length=1))):=ab (by rw [←HFR.out,←HF0.out,←hbv,←lE k c ng rs lo hi lz ks];rcases hk5 with rfl|rfl<;>rfl);clear hbv HFR HF0 hk0 hk1 hk2 hk4 hk7;rcases hk5 with rfl|rfl
     all_goals
      exact cu
    by_cases hk3:k=3∨k=8∨k=9∨k=10∨k=11
    ·obtain⟨bb,hbv⟩:∃bb,lT c ng rs.length lo hi lz=bb:=⟨_,rfl⟩
     have HB:=ab hbv;have HE:Hid (R=(bb&&decide (ks.length=0))):=ab (by rw [←HFR.out,←HF0.out,←hbv,←lE k c ng rs lo hi lz ks];rcases hk3 with rfl|rfl|rfl|rfl|rfl<;>cases ks<;>simp [kw]);clear hbv HFR HF0 hk0 hk1 hk2 hk4 hk7 hk5;rcases hk3 with rfl|rfl|rfl|rfl|rfl
     all_goals
      exact cu
    ·have HE:Hid (R=false):=ab (by
      rw [←HFR.out,←HF0.out];simp only [kw];rw [Co hk2,Co hk4,Co hk7,Co hk0,Co hk1,Co hk5,Co hk3])
     have g0:(k==0)=false:=by simpa using hk0
     have g1:(k==1)=false:=by simpa using hk1
     have g2:(k==2)=false:=by simpa using hk2
     have g3:(k==3)=false:=by rw [CM];omega
     have g4:(k==4)=false:=by simpa using hk4
     have g5:(k==5)=false:=by rw [CM];omega
     have g6:(k==6)=false:=by rw [CM];omega
     have g7:(k==7)=false:=by simpa using hk7
     have g8:(k==8)=false:=by rw [CM];omega
     have g9:(k==9)=false:=by rw [CM];omega
     have g10:(k==10)=false:=by rw [CM];omega
     have g11:(k==11)=false:=by rw [CM];omega
     clear hk0 hk1 hk2 hk3 hk4 hk5 hk7;go_wp2
     go_ret
     exact⟨jU HE.out.symm,hbb⟩
end Go.Proofs.YtjggmmaojklmpaaGreat
