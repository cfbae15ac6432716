/- walks of rxread: group -/
import Derived.Test.YtjggmmaojklmpaaGreatLb16
set_option maxRecDepth 100000
set_option maxHeartbeats 4000000
namespace Go.Proofs.YtjggmmaojklmpaaGreat
open Go.RowKit
def qg (res:Res):Prop:=∀q,res=.error q→q≠0
theorem oh {q:Int} (h:q≠0):qg (.error q):=fun _ e=>by injection e with e;rw [←e];exact h
theorem lh (y:Rx × List Str):qg (.ok y):=fun _ e=>by cases e
theorem esc_err (r:List Str):qg (escM r):=by
 cases r with
 | nil=>exact dK
 | cons c r =>
  simp only [escM];cases nC c with
  | some rows=>exact lh _
  | none =>
   cases bigS c with
   | some rows=>exact lh _
   | none =>
    cases l6 c with
    | none=>exact dK
    | some t=>exact lh _
theorem A7 (r:List Str):qg (mN r):=by
 unfold mN;simp only
 generalize lc _ _ _=q
 cases q with
 | none=>exact dK
 | some y=>exact lh _
theorem Bf (x:Rx) (r:List Str):qg (me x r):=by
 cases r with
 | nil=>exact lh _
 | cons c r =>
  simp only [me];by_cases h1:c=[42]
  ·rw [Cl h1];exact lh _
  rw [Co h1];by_cases h2:c=[43]
  ·rw [Cl h2];exact lh _
  rw [Co h2];by_cases h3:c=[63]
  ·rw [Cl h3];exact lh _
  rw [Co h3];by_cases h4:c=[123]
  ·rw [Cl h4]
   cases nV r with
   | none=>exact dK
   | some y=>exact lh _
  ·rw [Co h4];exact lh _
theorem Bb {pat:List Str→Nat→Res} (hp:∀r d,qg (pat r d)) (r:List Str) (d:Nat):qg (pd pat r d):=by
 unfold pd;by_cases hd:16≤d
 ·rw [Cl hd];exact oh gD
 rw [Co hd];cases qC r with
 | none=>exact dK
 | some y =>
  simp only
  cases hx:pat y.2 (d+1) with
  | error e=>exact fun q hq=>hp _ _ _ (hx.trans hq)
  | ok z =>
   simp only
   cases kG [41] z.2 with
   | none=>exact dK
   | some r=>exact lh _
theorem pE {pat:List Str→Nat→Res} (hp:∀r d,qg (pat r d)) (r:List Str) (d:Nat):qg (od pat r d):=by
 cases r with
 | nil=>exact dK
 | cons c r =>
  simp only [od];by_cases h1:c=[46]
  ·rw [Cl h1];exact lh _
  rw [Co h1];by_cases h2:c=[40]
  ·rw [Cl h2];exact Bb hp _ _
  rw [Co h2];by_cases h3:c=[91]
  ·rw [Cl h3];exact A7 _
  rw [Co h3];by_cases h4:c=[92]
  ·rw [Cl h4];exact esc_err _
  rw [Co h4];by_cases h5:xE c=true
  ·rw [Cl h5];exact oh gD
  ·rw [Co h5];exact lh _
theorem yK {pat:List Str→Nat→Res} (hp:∀r d,qg (pat r d)) (r:List Str) (d:Nat):qg (o7 pat r d):=by
 unfold o7;cases tQ r with
 | some y=>exact lh _
 | none =>
  simp only
  cases hx:od pat r d with
  | error e=>exact fun q hq=>pE hp _ _ _ (hx.trans hq)
  | ok y=>exact Bf _ _
theorem tA {trm:List Str→Res} (ht:∀r,qg (trm r)):∀(n:Nat) (alts terms:List Rx) (r:List Str),qg (patL trm n alts terms r)
 | 0,_,_,_=>oh gD
 | n+1,alts,terms,[]=>lh _
 | n+1,alts,terms,c::r=>by
  simp only [patL];by_cases h1:c=[41]
  ·rw [Cl h1];exact lh _
  rw [Co h1];by_cases h2:c=[124]
  ·rw [Cl h2];exact tA ht n _ _ _
  rw [Co h2];cases hx:trm (c::r) with
  | error e=>exact fun q hq=>ht _ _ (hx.trans hq)
  | ok y=>exact tA ht n _ _ _
theorem nf:∀(n:Nat) (r:List Str) (d:Nat),qg (patF n r d)
 | 0,_,_=>oh gD
 | n+1,r,d=>tA (fun r=>yK (nf n) r d) _ _ _ _
def PatC (n:Nat):Prop:=∀(g d:Nat) (r:List Str) (w:World),Rd w g r d→r.length<n→d≤16 →
 Calls Tryz.prog 45 #[.pointer (some ⟨g,0,none⟩)] w fun e w'=>nI g d w.heap.size w (patF n r d) e w'
theorem RdT.setDeep {T:TypeId} {u:Value} {w:World} {g:Nat} {r:List Str} (h:RdT T [u] w g r) (v:Value):RdT T [v] (w.setCell ⟨g,2,none⟩ v) g r:=by
 obtain⟨a,c,l,i,h1,h2,h3⟩:=h;refine⟨a,c,l,i,?_,h2.keep (Kept.setLow _ fun b hb=>Nat.ne_of_lt hb),h3⟩;rw [heap_setCell_same w _ _ _ _ _ h1];rfl
theorem RdT.free2 {T:TypeId} {u:Value} {w:World} {g:Nat} {r:List Str} (h:RdT T [u] w g r):w.frozen? ⟨g,2,none⟩=false:=by
 obtain⟨a,c,l,i,h1,_⟩:=h;unfold World.frozen?;rw [h1];rfl
def set8 (w:World) (b:Nat) (u0 u1 u2 u3 u4 u5 u6 u7:Value):World :=
 (((((((w.setCell ⟨b,0,none⟩ u0).setCell ⟨b,1,none⟩ u1).setCell ⟨b,2,none⟩ u2).setCell ⟨b,3,none⟩ u3).setCell ⟨b,4,none⟩ u4).setCell ⟨b,5,none⟩ u5).setCell ⟨b,6,none⟩ u6).setCell ⟨b,7,none⟩ u7
theorem vw {S:Nat→Prop} (w:World) (b:Nat) {u0 u1 u2 u3 u4 u5 u6 u7:Value} (hS:∀k,S k→k≠b):Kept S w (set8 w b u0 u1 u2 u3 u4 u5 u6 u7):=by
 have h:∀{w':World} (a:Addr) (u:Value),a.block=b→Kept S w w'→Kept S w (w'.setCell a u):=fun a u ha hk=>hk.trans (Kept.setLow u fun k hk=>by rw [ha];exact hS k hk)
 unfold set8;iterate 8 (refine h _ _ rfl ?_)
 exact⟨Cp _,fun _ _ _=>rfl⟩
theorem AM (w:World) (b:Nat) {u0 u1 u2 u3 u4 u5 u6 u7:Value}:(set8 w b u0 u1 u2 u3 u4 u5 u6 u7).heap.size=w.heap.size:=by unfold set8;simp
theorem sF {w0 w:World} {row:Option Nat} {b:Nat} {u0 u1 u2 u3 u4 u5 u6 u7:Value} (h:w0.grownBy w row) (hb:w0.heap.size≤b):w0.grownBy (set8 w b u0 u1 u2 u3 u4 u5 u6 u7) row:=by
 unfold set8;iterate 8 (refine jW ?_ hb _)
 exact h
theorem RdT.set8 {T:TypeId} {x:List Value} {w:World} {g:Nat} {r:List Str} {b:Nat} {u0 u1 u2 u3 u4 u5 u6 u7:Value} (h:RdT T x w g r) (hb:g<b):RdT T x (set8 w b u0 u1 u2 u3 u4 u5 u6 u7) g r:=by
 unfold Go.Proofs.YtjggmmaojklmpaaGreat.set8;iterate 8 (refine RdT.setHi ?_ hb _)
 exact h
theorem ro {w0 w:World} {row:Option Nat} (h:w0.grownBy w row) (o:Obj):w0.grownBy (w.alloc o) row:=jM h (jN ((Below.refl _ _).alloc (Cp _) _) _)
theorem yB (w:World) (b:Nat) {u0 u1 u2 u3 u4 u5 u6 u7:Value} {cs:Array Value} {t:TypeId}:((set8 w b u0 u1 u2 u3 u4 u5 u6 u7).alloc (.cells cs t)).heap[w.heap.size]?=some (.cells cs t (0,0)):=by
 have:=heap_alloc_new (set8 w b u0 u1 u2 u3 u4 u5 u6 u7) (.cells cs t)
 rw [AM] at this;exact this
theorem zt {n:Nat} (hp:PatC n) {g d:Nat} {r:List Str} (w:World) (h:Rd w g r d) (hl:r.length<n) (hd:d≤16) :
  Calls Tryz.prog 139 #[.pointer (some ⟨g,0,none⟩)] w fun e w'=>nI g d w.heap.size w (pd (patF n) r d) e w':=by
 obtain⟨R,hR⟩:∃R,pd (patF n) r d=R:=⟨_,rfl⟩;rw [hR];unfold pd at hR;have HP:=ab hp;clear hp;by_cases hd16:16≤d
 ·rw [Cl hd16] at hR
  have HR:=ab hR;clear hR;have c2:=(h.later ((Below.refl w.heap.size w).alloc (Cp _) (.cells #[.int .i64 0,.string ⟨#[]⟩,.bool false,.slice none 0 0,.int .i64 0,.int .i64 0,.bool false,.slice none 0 0] 25))).cell2;have hd16':d=16:=gu;have hde:decide ((16:Int)≤(d:Int))=true:=by simp;omega
  obtain⟨w0,hw0⟩:∃w0,w0=w.alloc (.cells #[.int .i64 0,.string ⟨#[]⟩,.bool false,.slice none 0 0,.int .i64 0,.int .i64 0,.bool false,.slice none 0 0] 25):=⟨_,rfl⟩;obtain⟨hb0,hz0,hby0⟩:=kB w hw0;have HRD:=ab (h.later hb0);rw [hw0] at HRD;have HW0:=ab hw0;have HBY0:=ab hby0;have hgg:w.grownBy w0 (some g):=jN hb0 _;have hgr:g<w.heap.size:=h.lt;clear hw0 hby0 h;have hby:=HBY0.out;rw [HW0.out] at hby hgg;obtain⟨f0,f1,f2,f3,f4,f5,f6,f7,f8⟩:=jR (c:=[]) hby;clear hby hd16';go_enter Tryz.func139,Tryz.ntmps139
  go_wp2
  refine CJ (v:=.tuple #[.agg #[.int .i64 0,.string ⟨[].toArray⟩,.bool false,.slice none 0 0,.int .i64 0,.int .i64 0,.bool false,.slice none 0 0],.int .i64 8]) ig rfl ?_;refine⟨?_,?_⟩
  ·iterate 0 (refine jW ?_ gz _)
   exact hgg
  ·rw [←HR.out]
   refine⟨rfl,?_⟩;iterate 0 (refine RdE.setHi ?_ gz _)
   exact⟨_,HRD.out⟩
 rw [Co hd16] at hR;cases h1:kG [63] r with
 | none =>
  simp only [qC,h1] at hR;have HR:=ab hR;have H1:=ab h1;clear hR h1;have c2:=(h.later ((Below.refl w.heap.size w).alloc (Cp _) (.cells #[.int .i64 0,.string ⟨#[]⟩,.bool false,.slice none 0 0,.int .i64 0,.int .i64 0,.bool false,.slice none 0 0] 25))).cell2;obtain⟨w0,hw0⟩:∃w0,w0=w.alloc (.cells #[.int .i64 0,.string ⟨#[]⟩,.bool false,.slice none 0 0,.int .i64 0,.int .i64 0,.bool false,.slice none 0 0] 25):=⟨_,rfl⟩;obtain⟨hb0,hz0,hby0⟩:=kB w hw0;have HRD:=ab (h.later hb0);rw [hw0] at HRD;have HW0:=ab hw0;have HBY0:=ab hby0;have hgg:w.grownBy w0 (some g):=jN hb0 _;have hgr:g<w.heap.size:=h.lt;clear hw0 hby0 h;go_enter Tryz.func139,Tryz.ntmps139
  go_wp2_with (go_at_call 143;refine(kj _ HRD.out H1.out gF).mono ?_)
  rintro e w1 ⟨rfl,hrd1,hq1⟩;rw [←HW0.out] at hq1;have hg1:=jM hgg hq1;have HBY1:=ab (jQ HBY0.out hq1 gu);have hz1:=hq1.size;have HRD1:=ab hrd1;clear hrd1 hq1 c2;have c2:=(HRD1.out).cell2;have hf2:=(HRD1.out).free2;have hrdd:Rd ((w1).setCell ⟨g,2,none⟩ (.int .i64 ((d:Int)+1))) g r (d+1):=(HRD1.out).setDeep _;have HRDD:=ab hrdd;have hgd:=j9 hg1 2 (.int .i64 ((d:Int)+1));have hbyd:=kg HBY1.out (a:=⟨g,2,none⟩) gz (.int .i64 ((d:Int)+1));have HBYD:=ab hbyd;have HPAT:=ab (HP.out g (d+1) r _ HRDD.out gu gu);clear hrdd hbyd;go_wp2_with (go_at_call 45;refine HPAT.out.mono ?_)
  rintro e w5 hq;clear c2 hf2 HPAT;cases hpr:patF n r (d+1) with
  | error q =>
   rw [hpr] at hq;obtain⟨hq5,rfl,r9,hrd9⟩:=hq;have hq0:q≠0:=nf n r (d+1) q hpr;exact aS
  | ok y =>
   obtain⟨x,r3⟩:=y;rw [hpr] at hq;obtain⟨hq5,cc,rfl,hxv,hrd5⟩:=hq;have hg5:=jM hgd hq5;have hzd:=hgd.size;have hz5:=hq5.size;have hby5:=jQ HBYD.out hq5 gu;have HBX5:=ab hby5;obtain⟨k,c,ng,rs,lo,hi,lz,ks⟩:=x;have hxv0:=hxv;obtain⟨ra,rc,ka,kc,rfl,hrs,hks⟩:=hxv.open_;clear hrs hks hxv hby5;have HXV:=ab (hxv0.mono (S':=fun b=>w.heap.size≤b∧b≠w.heap.size) fun b hb hlt=>by have:=hgd.size;simp only [World.size_setCell] at hb;constructor<;>omega);clear hxv0;unfold rxc at HXV ⊢;obtain⟨w6,hw6⟩:∃w6,w6=(w5.alloc (.cells #[.int .i64 k,.string ⟨c.toArray⟩,.bool ng,.slice ra rs.length rc,.int .i64 lo,.int .i64 hi,.bool lz,.slice ka ks.length kc] 25)).setCell ⟨g,2,none⟩ (.int .i64 (d:Int)):=⟨_,rfl⟩;have hb6:Below w5.heap.size w5 (w5.alloc (.cells #[.int .i64 k,.string ⟨c.toArray⟩,.bool ng,.slice ra rs.length rc,.int .i64 lo,.int .i64 hi,.bool lz,.slice ka ks.length kc] 25)):=(Below.refl _ _).alloc (Cp _) _;have hrd6:=hrd5.later hb6;have c6:=hrd6.cell2;have hf6:=hrd6.free2;have hrd7:Rd w6 g r3 d:=hw6▸hrd6.setDeep (.int .i64 (d:Int));have hg7:w.grownBy w6 (some g):=hw6▸j9 (jM hg5 (jN hb6 (some g))) 2 (.int .i64 (d:Int));have hby7:w6.heap[w.heap.size]?=some (.cells #[.int .i64 0,.string ⟨#[]⟩,.bool false,.slice none 0 0,.int .i64 0,.int .i64 0,.bool false,.slice none 0 0] 25 (0,0)):=hw6▸kg ((hb6.block _ (jO HBX5.out)).trans HBX5.out) (a:=⟨g,2,none⟩) gz (.int .i64 (d:Int));have hbz7:w6.heap[w5.heap.size]?=some (.cells #[.int .i64 k,.string ⟨c.toArray⟩,.bool ng,.slice ra rs.length rc,.int .i64 lo,.int .i64 hi,.bool lz,.slice ka ks.length kc] 25 (0,0)):=hw6▸kg (heap_alloc_new w5 _) (a:=⟨g,2,none⟩) gz (.int .i64 (d:Int));have hxv7:RxV w6 (fun b=>w.heap.size≤b∧b≠w.heap.size) _ _:=hw6▸(HXV.out.later hb6).keep (Kept.setLow (a:=⟨g,2,none⟩) (.int .i64 (d:Int)) (fun b hb=>by have:w.heap.size≤b∧b≠w.heap.size:=hb;first|omega|(simp;done)|(simp;omega)));have HRD7:=ab hrd7;have HBY7:=ab hby7;have HBZ7:=ab hbz7;have HXV7:=ab hxv7;have hz7:w5.heap.size+1≤w6.heap.size:=by rw [hw6];simp
   have ed:((d+1:Nat):Int)-1=d:=gu;clear hrd5 hrd6 hrd7 hby7 hbz7 hxv7 HXV HBX5 hb6;cases ht:kG [41] r3 with
   | none =>
    exact be
   | some r4 =>
    have HR2:Hid (Except.ok (grpR 5 (.mk k c ng rs lo hi lz ks),r4)=R):=ab jw;have HR:=HR2;have HT:=ab ht;have HRD8:=HRD7;rw [hw6] at HRD8;have HW6:=ab hw6;clear hpr ht hw6;go_wp2_with (go_at_call 143;refine(kI _ HRD8.out HT.out).mono ?_)
    rintro e w9 ⟨rfl,hrd9,hq9⟩;rw [←HW6.out] at hq9;have hg9:=jM hg7 hq9;have hz9:=hq9.size;have hne9:w.heap.size≠w9.heap.size:=gu;have hlt9:w.heap.size<w9.heap.size:=gu;have hby9:=jQ HBY7.out hq9 gu;have HRD9:=ab hrd9;obtain⟨f0,f1,f2,f3,f4,f5,f6,f7,f8⟩:=jR (c:=[]) hby9;obtain⟨e0,e1,e2,e3,e4,e5,e6,e7,e8⟩:=jR (jQ HBZ7.out hq9 gu);have HXV9:=ab (HXV7.out.keep (Kept.grown hq9 fun b hb=>by have:w.heap.size≤b∧b≠w.heap.size:=hb;omega));clear hrd9 hq9 c6 hf6 hby9;go_wp2
    refine CJ (v:=.tuple #[.agg #[.int .i64 5,.string ⟨#[]⟩,.bool false,.slice none 0 0,.int .i64 0,.int .i64 0,.bool false,.slice (some ⟨w9.heap.size,0,none⟩) 1 1],.int .i64 0]) iR rfl ?_;refine⟨ro (sF hg9 (Cp _)) _,?_⟩;rw [←HR.out];refine⟨rxc 5 [] false none ([]:List Row).length 0 0 0 false (some ⟨w9.heap.size,0,none⟩) [Rx.mk k c ng rs lo hi lz ks].length 1,rfl,RxV.mono (S:=fun b=>w.heap.size≤b∧b≠w.heap.size) (fun b hb _=>hb.1) (RxV.close (SlS.none_ _ _ _ _) (RxSl.one ((HXV9.out.keep (vw w9 w.heap.size fun b hb=>hb.2)).later ((Below.refl _ _).alloc (Cp _) _)) (yB w9 w.heap.size) ⟨by omega,by omega⟩)),?_⟩;exact(HRD9.out.set8 hgr).later ((Below.refl _ _).alloc (Cp _) _)
 | some r1 =>
  cases h2:kG [58] r1 with
  | none =>
   simp only [qC,h1,h2] at hR;have HR:=ab hR;have H1:=ab h1;have H2:=ab h2;clear hR h1 h2;have c2:=(h.later ((Below.refl w.heap.size w).alloc (Cp _) (.cells #[.int .i64 0,.string ⟨#[]⟩,.bool false,.slice none 0 0,.int .i64 0,.int .i64 0,.bool false,.slice none 0 0] 25))).cell2;obtain⟨w0,hw0⟩:∃w0,w0=w.alloc (.cells #[.int .i64 0,.string ⟨#[]⟩,.bool false,.slice none 0 0,.int .i64 0,.int .i64 0,.bool false,.slice none 0 0] 25):=⟨_,rfl⟩;obtain⟨hb0,hz0,hby0⟩:=kB w hw0;have HRD:=ab (h.later hb0);rw [hw0] at HRD;have HW0:=ab hw0;have HBY0:=ab hby0;have hgg:w.grownBy w0 (some g):=jN hb0 _;have hgr:g<w.heap.size:=h.lt;clear hw0 hby0 h;go_enter Tryz.func139,Tryz.ntmps139
   go_wp2_with (go_at_call 143;refine(kI _ HRD.out H1.out).mono ?_)
   rintro e w1 ⟨rfl,hrd1,hq1⟩;rw [←HW0.out] at hq1;have hg1:=jM hgg hq1;have HBY1:=ab (jQ HBY0.out hq1 gu);have HRD1:=ab hrd1;clear hrd1 hq1 c2;go_wp2_with (go_at_call 143;refine(kj _ HRD1.out H2.out gF).mono ?_)
   rintro e w2 ⟨rfl,hrd2,hq2⟩;have hg2:=jM hg1 hq2;have HRD2:=ab hrd2;obtain⟨f0,f1,f2,f3,f4,f5,f6,f7,f8⟩:=jR (c:=[]) (jQ HBY1.out hq2 gu);clear hrd2 hq2;go_wp2
   refine CJ (v:=.tuple #[.agg #[.int .i64 0,.string ⟨[].toArray⟩,.bool false,.slice none 0 0,.int .i64 0,.int .i64 0,.bool false,.slice none 0 0],.int .i64 10]) ig rfl ?_;refine⟨?_,?_⟩
   ·exact bU
   ·exact dx
  | some r2 =>
   simp only [qC,h1,h2] at hR;have HR:=ab hR;have H1:=ab h1;have H2:=ab h2;have hl2:r2.length<n:=by
    have e1:=lM h1;have e2:=lM h2;subst e1 e2;simp at hl;omega
   clear hR h1 h2 hl;have c2:=(h.later ((Below.refl w.heap.size w).alloc (Cp _) (.cells #[.int .i64 0,.string ⟨#[]⟩,.bool false,.slice none 0 0,.int .i64 0,.int .i64 0,.bool false,.slice none 0 0] 25))).cell2;obtain⟨w0,hw0⟩:∃w0,w0=w.alloc (.cells #[.int .i64 0,.string ⟨#[]⟩,.bool false,.slice none 0 0,.int .i64 0,.int .i64 0,.bool false,.slice none 0 0] 25):=⟨_,rfl⟩;obtain⟨hb0,hz0,hby0⟩:=kB w hw0;have HRD:=ab (h.later hb0);rw [hw0] at HRD;have HW0:=ab hw0;have HBY0:=ab hby0;have hgg:w.grownBy w0 (some g):=jN hb0 _;have hgr:g<w.heap.size:=h.lt;clear hw0 hby0 h;go_enter Tryz.func139,Tryz.ntmps139
   go_wp2_with (go_at_call 143;refine(kI _ HRD.out H1.out).mono ?_)
   rintro e w1 ⟨rfl,hrd1,hq1⟩;rw [←HW0.out] at hq1;have hg1:=jM hgg hq1;have HBY1:=ab (jQ HBY0.out hq1 gu);have hz1:=hq1.size;have HRD1:=ab hrd1;clear hrd1 hq1 c2;go_wp2_with (go_at_call 143;refine(kI _ HRD1.out H2.out).mono ?_)
   rintro e w2 ⟨rfl,hrd2,hq2⟩;have hg2:=jM hg1 hq2;have HBY2:=ab (jQ HBY1.out hq2 gu);have hz2:=hq2.size;have HRD2:=ab hrd2;clear hrd2 hq2;have c2:=(HRD2.out).cell2;have hf2:=(HRD2.out).free2;have hrdd:Rd ((w2).setCell ⟨g,2,none⟩ (.int .i64 ((d:Int)+1))) g r2 (d+1):=(HRD2.out).setDeep _;have HRDD:=ab hrdd;have hgd:=j9 hg2 2 (.int .i64 ((d:Int)+1));have hbyd:=kg HBY2.out (a:=⟨g,2,none⟩) gz (.int .i64 ((d:Int)+1));have HBYD:=ab hbyd;have HPAT:=ab (HP.out g (d+1) r2 _ HRDD.out gu gu);clear hrdd hbyd;go_wp2_with (go_at_call 45;refine HPAT.out.mono ?_)
   rintro e w5 hq;clear c2 hf2 HPAT;cases hpr:patF n r2 (d+1) with
   | error q =>
    rw [hpr] at hq;obtain⟨hq5,rfl,r9,hrd9⟩:=hq;have hq0:q≠0:=nf n r2 (d+1) q hpr;exact aS
   | ok y =>
    obtain⟨x,r3⟩:=y;rw [hpr] at hq;obtain⟨hq5,cc,rfl,hxv,hrd5⟩:=hq;have hg5:=jM hgd hq5;have hzd:=hgd.size;have hz5:=hq5.size;have hby5:=jQ HBYD.out hq5 gu;have HBX5:=ab hby5;obtain⟨k,c,ng,rs,lo,hi,lz,ks⟩:=x;have hxv0:=hxv;obtain⟨ra,rc,ka,kc,rfl,hrs,hks⟩:=hxv.open_;clear hrs hks hxv hby5;have HXV:=ab (hxv0.mono (S':=fun b=>w.heap.size≤b∧b≠w.heap.size) fun b hb hlt=>by have:=hgd.size;simp only [World.size_setCell] at hb;constructor<;>omega);clear hxv0;unfold rxc at HXV ⊢;obtain⟨w6,hw6⟩:∃w6,w6=(w5.alloc (.cells #[.int .i64 k,.string ⟨c.toArray⟩,.bool ng,.slice ra rs.length rc,.int .i64 lo,.int .i64 hi,.bool lz,.slice ka ks.length kc] 25)).setCell ⟨g,2,none⟩ (.int .i64 (d:Int)):=⟨_,rfl⟩;have hb6:Below w5.heap.size w5 (w5.alloc (.cells #[.int .i64 k,.string ⟨c.toArray⟩,.bool ng,.slice ra rs.length rc,.int .i64 lo,.int .i64 hi,.bool lz,.slice ka ks.length kc] 25)):=(Below.refl _ _).alloc (Cp _) _;have hrd6:=hrd5.later hb6;have c6:=hrd6.cell2;have hf6:=hrd6.free2;have hrd7:Rd w6 g r3 d:=hw6▸hrd6.setDeep (.int .i64 (d:Int));have hg7:w.grownBy w6 (some g):=hw6▸j9 (jM hg5 (jN hb6 (some g))) 2 (.int .i64 (d:Int));have hby7:w6.heap[w.heap.size]?=some (.cells #[.int .i64 0,.string ⟨#[]⟩,.bool false,.slice none 0 0,.int .i64 0,.int .i64 0,.bool false,.slice none 0 0] 25 (0,0)):=hw6▸kg ((hb6.block _ (jO HBX5.out)).trans HBX5.out) (a:=⟨g,2,none⟩) gz (.int .i64 (d:Int));have hbz7:w6.heap[w5.heap.size]?=some (.cells #[.int .i64 k,.string ⟨c.toArray⟩,.bool ng,.slice ra rs.length rc,.int .i64 lo,.int .i64 hi,.bool lz,.slice ka ks.length kc] 25 (0,0)):=hw6▸kg (heap_alloc_new w5 _) (a:=⟨g,2,none⟩) gz (.int .i64 (d:Int));have hxv7:RxV w6 (fun b=>w.heap.size≤b∧b≠w.heap.size) _ _:=hw6▸(HXV.out.later hb6).keep (Kept.setLow (a:=⟨g,2,none⟩) (.int .i64 (d:Int)) (fun b hb=>by have:w.heap.size≤b∧b≠w.heap.size:=hb;first|omega|(simp;done)|(simp;omega)));have HRD7:=ab hrd7;have HBY7:=ab hby7;have HBZ7:=ab hbz7;have HXV7:=ab hxv7;have hz7:w5.heap.size+1≤w6.heap.size:=by rw [hw6];simp
    have ed:((d+1:Nat):Int)-1=d:=gu;clear hrd5 hrd6 hrd7 hby7 hbz7 hxv7 HXV HBX5 hb6;cases ht:kG [41] r3 with
    | none =>
     exact be
    | some r4 =>
     have HR2:Hid (Except.ok (grpR 6 (.mk k c ng rs lo hi lz ks),r4)=R):=ab jw;have HR:=HR2;have HT:=ab ht;have HRD8:=HRD7;rw [hw6] at HRD8;have HW6:=ab hw6;clear hpr ht hw6;go_wp2_with (go_at_call 143;refine(kI _ HRD8.out HT.out).mono ?_)
     rintro e w9 ⟨rfl,hrd9,hq9⟩;rw [←HW6.out] at hq9;have hg9:=jM hg7 hq9;have hz9:=hq9.size;have hne9:w.heap.size≠w9.heap.size:=gu;have hlt9:w.heap.size<w9.heap.size:=gu;have hby9:=jQ HBY7.out hq9 gu;have HRD9:=ab hrd9;obtain⟨f0,f1,f2,f3,f4,f5,f6,f7,f8⟩:=jR (c:=[]) hby9;obtain⟨e0,e1,e2,e3,e4,e5,e6,e7,e8⟩:=jR (jQ HBZ7.out hq9 gu);have HXV9:=ab (HXV7.out.keep (Kept.grown hq9 fun b hb=>by have:w.heap.size≤b∧b≠w.heap.size:=hb;omega));clear hrd9 hq9 c6 hf6 hby9;go_wp2
     refine CJ (v:=.tuple #[.agg #[.int .i64 6,.string ⟨#[]⟩,.bool false,.slice none 0 0,.int .i64 0,.int .i64 0,.bool false,.slice (some ⟨w9.heap.size,0,none⟩) 1 1],.int .i64 0]) iR rfl ?_;refine⟨ro (sF hg9 (Cp _)) _,?_⟩;rw [←HR.out];refine⟨rxc 6 [] false none ([]:List Row).length 0 0 0 false (some ⟨w9.heap.size,0,none⟩) [Rx.mk k c ng rs lo hi lz ks].length 1,rfl,RxV.mono (S:=fun b=>w.heap.size≤b∧b≠w.heap.size) (fun b hb _=>hb.1) (RxV.close (SlS.none_ _ _ _ _) (RxSl.one ((HXV9.out.keep (vw w9 w.heap.size fun b hb=>hb.2)).later ((Below.refl _ _).alloc (Cp _) _)) (yB w9 w.heap.size) ⟨by omega,by omega⟩)),?_⟩;exact(HRD9.out.set8 hgr).later ((Below.refl _ _).alloc (Cp _) _)
theorem qW {n:Nat} (hp:PatC n) {g d:Nat} {r:List Str} (w:World) (h:Rd w g r d) (hl:r.length≤n) (hd:d≤16) :
  Calls Tryz.prog 113 #[.pointer (some ⟨g,0,none⟩)] w fun e w'=>nI g d w.heap.size w (od (patF n) r d) e w':=by
 obtain⟨R,hR⟩:∃R,od (patF n) r d=R:=⟨_,rfl⟩;rw [hR];cases r with
 | nil =>
  have HR:Hid (Except.error 10=R):=ab hR;clear hR hp;obtain⟨w0,hw0⟩:∃w0,w0=w.alloc (.cells #[.int .i64 0,.string ⟨#[]⟩,.bool false,.slice none 0 0,.int .i64 0,.int .i64 0,.bool false,.slice none 0 0] 25):=⟨_,rfl⟩;obtain⟨hb0,hz0,hby0⟩:=kB w hw0;have HRD:=ab (h.later hb0);rw [hw0] at HRD;have HW0:=ab hw0;have HBY0:=ab hby0;have hgg:w.grownBy w0 (some g):=jN hb0 _;have hgr:g<w.heap.size:=h.lt;clear hw0 hby0 h;go_enter Tryz.func113,Tryz.ntmps113
  go_wp2_with (go_at_call 138;refine(pO _ HRD.out).mono ?_)
  rintro e w1 ⟨rfl,hrd1,hq1⟩;rw [←HW0.out] at hq1;have hg1:=jM hgg hq1;have HRD1:=ab hrd1;have HBY1:=ab (jQ HBY0.out hq1 gu);have hz1:=hq1.size;clear hrd1 hq1;obtain⟨f0,f1,f2,f3,f4,f5,f6,f7,f8⟩:=jR (c:=[]) HBY1.out;go_wp2
  refine CJ (v:=.tuple #[.agg #[.int .i64 0,.string ⟨[].toArray⟩,.bool false,.slice none 0 0,.int .i64 0,.int .i64 0,.bool false,.slice none 0 0],.int .i64 10]) gT rfl ?_;refine⟨?_,?_⟩
  ·exact fx
  ·rw [←HR.out]
   exact fA
 | cons c r1 =>
  have hc:=h.pos.1;have hcl:=h.pos.2;simp only [Cr] at hl;by_cases h46:c=[46]
  ·subst h46
   have HR:Hid (Except.ok (rxK 3,r1)=R):=ab hR;clear hR hp;obtain⟨w0,hw0⟩:∃w0,w0=w.alloc (.cells #[.int .i64 0,.string ⟨#[]⟩,.bool false,.slice none 0 0,.int .i64 0,.int .i64 0,.bool false,.slice none 0 0] 25):=⟨_,rfl⟩;obtain⟨hb0,hz0,hby0⟩:=kB w hw0;have HRD:=ab (h.later hb0);rw [hw0] at HRD;have HW0:=ab hw0;have HBY0:=ab hby0;have hgg:w.grownBy w0 (some g):=jN hb0 _;have hgr:g<w.heap.size:=h.lt;clear hw0 hby0 h;go_enter Tryz.func113,Tryz.ntmps113
   go_wp2_with (go_at_call 138;refine(km _ HRD.out).mono ?_)
   rintro e w1 ⟨rfl,hrd1,hq1⟩;rw [←HW0.out] at hq1;have hg1:=jM hgg hq1;have HRD1:=ab hrd1;have HBY1:=ab (jQ HBY0.out hq1 gu);have hz1:=hq1.size;clear hrd1 hq1;obtain⟨f0,f1,f2,f3,f4,f5,f6,f7,f8⟩:=jR (c:=[]) HBY1.out;go_wp2
   refine CJ (v:=.tuple #[.agg #[.int .i64 3,.string ⟨[].toArray⟩,.bool false,.slice none ([]:List Row).length 0,.int .i64 0,.int .i64 0,.bool false,.slice none ([]:List Rx).length 0],.int .i64 0]) gT rfl ?_;refine⟨?_,?_⟩
   ·exact fx
   rw [←HR.out];refine⟨rxc 3 [] false none ([]:List Row).length 0 0 0 false none ([]:List Rx).length 0,rfl,RxV.mono (S:=fun b=>w.heap.size≤b∧b≠w.heap.size) (fun b hb _=>hb.1) ?_,?_⟩
   ·exact aR
   ·exact fG
  by_cases h40:c=[40]
  ·subst h40
   have HR:Hid (pd (patF n) r1 d=R):=ab hR;have HP:=ab hp;clear hR hp;obtain⟨w0,hw0⟩:∃w0,w0=w.alloc (.cells #[.int .i64 0,.string ⟨#[]⟩,.bool false,.slice none 0 0,.int .i64 0,.int .i64 0,.bool false,.slice none 0 0] 25):=⟨_,rfl⟩;obtain⟨hb0,hz0,hby0⟩:=kB w hw0;have HRD:=ab (h.later hb0);rw [hw0] at HRD;have HW0:=ab hw0;have HBY0:=ab hby0;have hgg:w.grownBy w0 (some g):=jN hb0 _;have hgr:g<w.heap.size:=h.lt;clear hw0 hby0 h;go_enter Tryz.func113,Tryz.ntmps113
   go_wp2_with (go_at_call 138;refine(km _ HRD.out).mono ?_)
   rintro e w1 ⟨rfl,hrd1,hq1⟩;rw [←HW0.out] at hq1;have hg1:=jM hgg hq1;have HRD1:=ab hrd1;have HBY1:=ab (jQ HBY0.out hq1 gu);have hz1:=hq1.size;clear hrd1 hq1;go_wp2_with (go_at_call 139;refine(zt HP.out _ HRD1.out gu hd).mono ?_)
   rintro e w2 hq;cases hres:pd (patF n) r1 d with
   | error q =>
    exact aP
   | ok y =>
    exact ay
  by_cases h91:c=[91]
  ·subst h91
   have HR:Hid (mN r1=R):=ab hR;clear hR hp;obtain⟨w0,hw0⟩:∃w0,w0=w.alloc (.cells #[.int .i64 0,.string ⟨#[]⟩,.bool false,.slice none 0 0,.int .i64 0,.int .i64 0,.bool false,.slice none 0 0] 25):=⟨_,rfl⟩;obtain⟨hb0,hz0,hby0⟩:=kB w hw0;have HRD:=ab (h.later hb0);rw [hw0] at HRD;have HW0:=ab hw0;have HBY0:=ab hby0;have hgg:w.grownBy w0 (some g):=jN hb0 _;have hgr:g<w.heap.size:=h.lt;clear hw0 hby0 h;go_enter Tryz.func113,Tryz.ntmps113
   go_wp2_with (go_at_call 138;refine(km _ HRD.out).mono ?_)
   rintro e w1 ⟨rfl,hrd1,hq1⟩;rw [←HW0.out] at hq1;have hg1:=jM hgg hq1;have HRD1:=ab hrd1;have HBY1:=ab (jQ HBY0.out hq1 gu);have hz1:=hq1.size;clear hrd1 hq1;go_wp2_with (go_at_call 140;refine(Cd _ HRD1.out).mono ?_)
   rintro e w2 hq;cases hres:mN r1 with
   | error q =>
    exact aP
   | ok y =>
    exact ay
  by_cases h92:c=[92]
  ·subst h92
   have HR:Hid (escM r1=R):=ab hR;clear hR hp;obtain⟨w0,hw0⟩:∃w0,w0=w.alloc (.cells #[.int .i64 0,.string ⟨#[]⟩,.bool false,.slice none 0 0,.int .i64 0,.int .i64 0,.bool false,.slice none 0 0] 25):=⟨_,rfl⟩;obtain⟨hb0,hz0,hby0⟩:=kB w hw0;have HRD:=ab (h.later hb0);rw [hw0] at HRD;have HW0:=ab hw0;have HBY0:=ab hby0;have hgg:w.grownBy w0 (some g):=jN hb0 _;have hgr:g<w.heap.size:=h.lt;clear hw0 hby0 h;go_enter Tryz.func113,Tryz.ntmps113
   go_wp2_with (go_at_call 138;refine(km _ HRD.out).mono ?_)
   rintro e w1 ⟨rfl,hrd1,hq1⟩;rw [←HW0.out] at hq1;have hg1:=jM hgg hq1;have HRD1:=ab hrd1;have HBY1:=ab (jQ HBY0.out hq1 gu);have hz1:=hq1.size;clear hrd1 hq1;go_wp2_with (go_at_call 141;refine(vY _ HRD1.out).mono ?_)
   rintro e w2 hq;cases hres:escM r1 with
   | error q =>
    exact aP
   | ok y =>
    exact ay
  have g46:(c==[46])=false:=CM.2 h46;have g40:(c==[40])=false:=CM.2 h40;have g91:(c==[91])=false:=CM.2 h91;have g92:(c==[92])=false:=CM.2 h92;have g0:List.isEmpty c=false:=by cases c<;>simp at hc ⊢
  by_cases h42:c=[42]
  ·subst h42
   exact ah
  have g42:(c==[42])=false:=CM.2 h42;by_cases h43:c=[43]
  ·subst h43
   exact ah
  have g43:(c==[43])=false:=CM.2 h43;by_cases h63:c=[63]
  ·subst h63
   exact ah
  have g63:(c==[63])=false:=CM.2 h63;by_cases h41:c=[41]
  ·subst h41
   exact ah
  have g41:(c==[41])=false:=CM.2 h41;by_cases h123:c=[123]
  ·subst h123
   exact ah
  have g123:(c==[123])=false:=CM.2 h123;by_cases h124:c=[124]
  ·subst h124
   exact ah
  have g124:(c==[124])=false:=CM.2 h124;by_cases h94:c=[94]
  ·subst h94
   exact ah
  have g94:(c==[94])=false:=CM.2 h94;by_cases h36:c=[36]
  ·subst h36
   exact ah
  have g36:(c==[36])=false:=CM.2 h36;have HR:Hid (Except.ok (chrR c,r1)=R):=ab (by rw [←hR];simp [od,xE,h46,h40,h91,h92,h42,h43,h63,h41,h123,h124,h94,h36]);clear hR hp hl h46 h40 h91 h92 h42 h43 h63 h41 h123 h124 h94 h36 hc;obtain⟨w0,hw0⟩:∃w0,w0=w.alloc (.cells #[.int .i64 0,.string ⟨#[]⟩,.bool false,.slice none 0 0,.int .i64 0,.int .i64 0,.bool false,.slice none 0 0] 25):=⟨_,rfl⟩;obtain⟨hb0,hz0,hby0⟩:=kB w hw0;have HRD:=ab (h.later hb0);rw [hw0] at HRD;have HW0:=ab hw0;have HBY0:=ab hby0;have hgg:w.grownBy w0 (some g):=jN hb0 _;have hgr:g<w.heap.size:=h.lt;clear hw0 hby0 h;go_enter Tryz.func113,Tryz.ntmps113
  go_wp2_with (go_at_call 138;refine(km _ HRD.out).mono ?_)
  rintro e w1 ⟨rfl,hrd1,hq1⟩;rw [←HW0.out] at hq1;have hg1:=jM hgg hq1;have HRD1:=ab hrd1;have HBY1:=ab (jQ HBY0.out hq1 gu);have hz1:=hq1.size;clear hrd1 hq1;obtain⟨f0,f1,f2,f3,f4,f5,f6,f7,f8⟩:=jR (c:=[]) HBY1.out;go_wp2
  refine CJ (v:=.tuple #[.agg #[.int .i64 2,.string ⟨c.toArray⟩,.bool false,.slice none ([]:List Row).length 0,.int .i64 0,.int .i64 0,.bool false,.slice none ([]:List Rx).length 0],.int .i64 0]) gT rfl ?_;refine⟨?_,?_⟩
  ·exact fx
  rw [←HR.out];refine⟨rxc 2 c false none ([]:List Row).length 0 0 0 false none ([]:List Rx).length 0,rfl,RxV.mono (S:=fun b=>w.heap.size≤b∧b≠w.heap.size) (fun b hb _=>hb.1) ?_,?_⟩
  ·exact aR
  ·exact fG
end Go.Proofs.YtjggmmaojklmpaaGreat
