/- walk of gimletref13.Same: of equal trees -/
import Derived.Test.YtjggmmaojklmpaaGreatDoorKb26
import Derived.Test.YtjggmmaojklmpaaGreatDoorKb20
set_option maxRecDepth 100000
set_option maxHeartbeats 4000000
namespace Go.Proofs.YtjggmmaojklmpaaGreatDoor
open Go.RowKit
def Same13 (y:Rx):Prop:=∀(S S':Nat→Prop) (cc cc':List Value) (w:World),RxV w S cc y→RxV w S' cc' y →
 Calls Tryz.prog 29 #[.agg cc.toArray,.agg cc'.toArray] w fun e w'=>e=.returned (.bool true)∧Below w.heap.size w w'
theorem rF:∀(N:Nat) (x:Rx),x.parts≤N→x.small→Same13 x
 | 0,x,h,_=>by have:=Rx.parts_pos x;omega
 | N+1,.mk k c ng rs lo hi lz ks,h,hsm=>by
  intro S S' cc cc' w hv hv';obtain⟨ra,rc,ka,kc,rfl,hrs,hks⟩:=hv.box';obtain⟨ra',rc',ka',kc',rfl,hrs',hks'⟩:=hv'.box';obtain⟨⟨s1,s2,s3,s4⟩,hsmL⟩:=hsm;simp only [Rx.parts] at h;have ih:∀y∈ks,Same13 y:=fun y hy=>rF N y gS (kV hsmL hy)
  have HIH:=ab ih;have hbn:Below w.heap.size w ((w.alloc (.cells (rxc k c ng ra rs.length rc lo hi lz ka ks.length kc).toArray 25)).alloc (.cells (rxc k c ng ra' rs.length rc' lo hi lz ka' ks.length kc').toArray 25)):=((Below.refl _ _).alloc (Dv _) _).alloc fX _;obtain⟨w0,hw0⟩:∃w0,w0=(w.alloc (.cells (rxc k c ng ra rs.length rc lo hi lz ka ks.length kc).toArray 25)).alloc (.cells (rxc k c ng ra' rs.length rc' lo hi lz ka' ks.length kc').toArray 25):=⟨_,rfl⟩;rw [←hw0] at hbn;have hz0:=hbn.size;have hx1:w0.heap[w.heap.size]?=some (.cells (rxc k c ng ra rs.length rc lo hi lz ka ks.length kc).toArray 25 (0,0)):=by rw [hw0,Below.heap_alloc _ _ _ fX];exact heap_alloc_new w _
  have hx2:w0.heap[w.heap.size+1]?=some (.cells (rxc k c ng ra' rs.length rc' lo hi lz ka' ks.length kc').toArray 25 (0,0)):=by
   rw [hw0];have:=heap_alloc_new (w.alloc (.cells (rxc k c ng ra rs.length rc lo hi lz ka ks.length kc).toArray 25)) (.cells (rxc k c ng ra' rs.length rc' lo hi lz ka' ks.length kc').toArray 25);simpa using this
  have HX1:=ab hx1;have HX2:=ab hx2;have HR1:=ab ((hrs.keep hbn).mono hz0);have HR2:=ab ((hrs'.keep hbn).mono hz0);have HK:=ab (hks.later hbn);have HK':=ab (hks'.later hbn);have HBN:=ab hbn;clear hks hks' hrs hrs' hv hv' ih hx1 hx2 hbn hsmL;unfold rxc at hw0 HX1 HX2 ⊢;go_enter Tryz.func29,Tryz.ntmps29
  go_upto_region 1 with fail
  rw [←hw0];clear hw0;obtain⟨e0,e1,e2,e3,e4,e5,e6,e7,e8⟩:=jD HX1.out;obtain⟨d0,d1,d2,d3,d4,d5,d6,d7,d8⟩:=jD HX2.out;go_wp2
  clear e0 e1 e2 e3 e4 e5 e6 e7 e8 d0 d1 d2 d3 d4 d5 d6 d7 d8;go_loopw [5] (fun q wr=>EqRel rs.length w0 q wr) (fun q _=>rs.length-(intOf q).toNat)
  case atStart=>exact⟨0,by omega,rfl,Below.refl _ _⟩
  case round =>
   obtain⟨i,hi,rfl,hb⟩:=hrel;obtain⟨e0,e1,e2,e3,e4,e5,e6,e7,e8⟩:=jD ((hb.block _ (jA HX1.out)).trans HX1.out);obtain⟨d0,d1,d2,d3,d4,d5,d6,d7,d8⟩:=jD ((hb.block _ (jA HX2.out)).trans HX2.out);clear e0 e1 e2 e4 e5 e6 e8 d0 d1 d2 d4 d5 d6 d8;cases hd:rs[i]? with
   | some r =>
    have h2:=(Dw.1 hd).1;obtain⟨b,o,rfl,hb1,c0,c1⟩:=(HR1.out.keep hb).row hd;obtain⟨b',o',rfl,hb1',c0',c1'⟩:=(HR2.out.keep hb).row hd;obtain⟨x,y⟩:=r;simp only at c0 c1 c0' c1'
    clear hd e7 d7;exact dZ
   | none =>
    have h2:rs.length≤i:=gm;have h3:decide (i<rs.length)=false:=by simp;omega
    clear hd;go_wp2
    have HB:=ab hb;clear hb e3 e7 d3 d7;go_loopw [6] (fun q wr2=>EqRel ks.length w0 q wr2) (fun q _=>ks.length-(intOf q).toNat)
    case atStart=>exact⟨0,by omega,rfl,HB.out⟩
    case round =>
     obtain⟨j,hj,rfl,hb⟩:=hrel;obtain⟨e0,e1,e2,e3,e4,e5,e6,e7,e8⟩:=jD ((hb.block _ (jA HX1.out)).trans HX1.out);obtain⟨d0,d1,d2,d3,d4,d5,d6,d7,d8⟩:=jD ((hb.block _ (jA HX2.out)).trans HX2.out);clear e0 e1 e2 e3 e4 e5 e6 e8 d0 d1 d2 d3 d4 d5 d6 d8;cases hd:ks[j]? with
     | none =>
      have h2:ks.length≤j:=gm;clear hd;go_wp2
      go_ret
      exact⟨rfl,bel2 HBN.out hb⟩
     | some y =>
      have h2:=(Dw.1 hd).1;have HY:=ab (HIH.out y (DL hd));obtain⟨yk,ych,yng,yrs,ylo,yhi,ylz,yks⟩:=y;obtain⟨b,o,yra,yrc,yka,ykc,rfl,_,hb1,_,_,hv1,c0,c1,c2,c3,c4,c5,c6,c7⟩:=(HK.out.later hb).cells hd;obtain⟨b',o',yra',yrc',yka',ykc',rfl,_,hb1',_,_,hv1',c0',c1',c2',c3',c4',c5',c6',c7'⟩:=(HK'.out.later hb).cells hd;have HC:=ab (fun n=>HY.out S S' _ _ (wr.drewN n) (hv1.later (below_drewN (Below.refl _ _) n)) (hv1'.later (below_drewN (Below.refl _ _) n)));unfold rxc at HC;clear hd hv1 hv1' HY;go_wp2
      go_still_tail 10,fW
      go_wp2_with (go_at_call 29;refine(HC.out _).mono ?_)
      rintro e w2 ⟨rfl,hb2⟩;have hb3:Below w0.heap.size w0 w2:=bel2 (below_drewN hb _) hb2;clear hb2 HC;go_wp2
      exact⟨⟨j+1,by omega,by go_num,hb3⟩,by simp [intOf];omega⟩
theorem tm {v:Nat} (hv:v<10) (r:Str) {k m:Nat} (hk:k<4):nu (UInt8.ofNat (48+v)::r) k m=nu r (k+1) (10*m+v):=by
 have h:(UInt8.ofNat (48+v)).toNat=48+v:=by rw [UInt8.toNat_ofNat'];omega
 conv=>lhs;unfold nu
 rw [h,Dr fR,Du fR];congr 2;omega
theorem Cs (u:Nat):∀(r:Str) (k m:Nat),k+Lib.nDigits u≤4→nu (Lib.decDigits u++r) k m=nu r (k+Lib.nDigits u) (m*10 ^ Lib.nDigits u+u):=by
 induction u using Nat.strongRecOn with
 | _ u ih =>
  intro r k m hk;by_cases a:u<10
  ·rw [Lib.decDigits,dif_pos a,Lib.nDigits,dif_pos a]
   rw [Lib.nDigits,dif_pos a] at hk;rw [Ec,tm a r fR];congr 1;omega
  ·rw [Lib.decDigits,dif_neg a,Lib.nDigits,dif_neg a]
   rw [Lib.nDigits,dif_neg a] at hk;rw [D6,ih (u / 10) fR _ k m fR,Ec,tm fR r fR];congr 1
   rw [Nat.pow_succ,←Nat.mul_assoc,Nat.mul_add,Eb,show 10*(u / 10)+u % 10=u by omega,Nat.mul_comm]
theorem numR_dec {n:Int} (h0:0≤n) (h1:n≤9999) {d:UInt8} (hd:¬(48≤d.toNat∧d.toNat≤57)) (r:Str):n6 (dec n++d::r)=some (n.toNat,d::r):=by
 obtain⟨h2,h3⟩:=s7 (u:=n.toNat) fR;unfold n6 dec;rw [Cs _ _ _ _ fR];unfold nu;rw [Du hd,Dr fR];simp
theorem five_mem {c:UInt8}:five.contains c=true↔c.toNat=36∨c.toNat=125∨c.toNat=92∨c.toNat=47∨c.toNat=58:=by
 simp [five,←Dq]
theorem four_mem {c:UInt8}:four.contains c=true↔c.toNat=36∨c.toNat=125∨c.toNat=92∨c.toNat=47:=by
 simp [four,←Dq]
theorem nB {one:Int} (ho:one=125∨one=58) (d:UInt8) (hd:d.toNat=one.toNat):∀(t acc s:Str),j7 one (quot five t++d::s) acc=some (acc++t,d::s)
 | [],acc,s=>by
  simp only [quot,D4];cases s with
  | nil=>simp only [j7];rw [Dr hd];simp
  | cons x s=>simp only [j7];rw [Dr hd];simp
 | c::r,acc,s=>by
  have ih:=nB ho d hd r (acc++[c]) s;by_cases hc:five.contains c=true
  ·simp only [quot];rw [Dr hc]
   simp only [D5,D4,j7];rw [Du (by rcases ho with rfl|rfl<;>simp),Dr ⟨rfl,hc⟩,ih];simp
  ·have hn:=fun h=>hc (five_mem.2 h)
   simp only [quot];rw [Du hc];simp only [D5,D4];obtain⟨x,y,hxy⟩:∃x y,quot five r++d::s=x::y:=by
    cases h:quot five r++d::s with
    | nil=>simp at h
    | cons x y=>exact⟨x,y,rfl⟩
   rw [hxy] at ih ⊢;simp only [j7];rw [Du (by intro h;apply hn;rcases ho with rfl|rfl<;>simp at h<;>omega),Du (by intro h;apply hn;omega),ih];simp
theorem way_name {w:Int} (h:lv w≠[]):oY (lv w)=w∧w≠0∧∀c∈lv w,lg c=true:=by
 have hw:w=1∨w=2∨w=3∨w=4∨w=5:=by
  unfold lv at h;by_cases a:w=1
  ·exact .inl a
  by_cases b:w=2
  ·exact .inr (.inl b)
  by_cases c:w=3
  ·exact .inr (.inr (.inl c))
  by_cases d:w=4
  ·exact .inr (.inr (.inr (.inl d)))
  by_cases e:w=5
  ·exact .inr (.inr (.inr (.inr e)))
  rw [Du a,Du b,Du c,Du d,Du e] at h;exact absurd rfl h
 rcases hw with rfl|rfl|rfl|rfl|rfl<;>decide +kernel
theorem zt {l:Str} (h:∀c∈l,lg c=true) (r:Str):(l++125::r).takeWhile lg=l∧(l++125::r).dropWhile lg=125::r:=by
 induction l with
 | nil=>exact⟨rfl,rfl⟩
 | cons c l ih =>
  have hc:=h c (DH ..);obtain⟨h1,h2⟩:=ih (fun d hd=>h d (DI _ hd));rw [D5,List.takeWhile_cons_of_pos hc,List.dropWhile_cons_of_pos hc,h1,h2];exact⟨rfl,rfl⟩
theorem CX (f:Fm) (hm:mayF f=true) (hk:f.kind≠0) (s:Str):∃r,lH f++s=36::r∧nZ r=some (f,s):=by
 obtain⟨kind,n,cse,thn,els⟩:=f;simp only at hk
 unfold mayF at hm;rw [Dy] at hm;obtain⟨hn,hm⟩:=hm;obtain⟨h0,h1⟩:0≤n∧n≤9999:=by simpa using hn
 have hnn:((n.toNat:Nat):Int)=n:=fR;have h123:∀r:Str,n6 (123::r)=none:=fun r=>by unfold n6 nu;rw [Du fU,Du fR]
 have hpart:∀(d:UInt8) (r:Str),¬(48≤d.toNat∧d.toNat≤57)→nZ (123::(dec n++d::r))=sX n.toNat (d::r):=fun d r hd=>by
  unfold nZ;rw [h123];simp only [partB];rw [Dr fU,numR_dec h0 h1 hd]
 simp only [Du hk] at hm;by_cases k1:kind=1
 ·subst k1
  simp [kJ] at hm
  obtain⟨⟨rfl,rfl⟩,rfl⟩:=hm;refine⟨123::(dec n++125::s),by simp [lH],?_⟩;rw [hpart _ _ fU];simp [sX,hnn]
 by_cases k2:kind=2
 ·subst k2
  simp [kJ] at hm
  obtain⟨⟨rfl,rfl⟩,hc⟩:=hm;obtain⟨w1,w2,w3⟩:=way_name hc;obtain⟨s1,s2⟩:=zt w3 s;refine⟨123::(dec n++58::47::(lv cse++125::s)),by simp [lH],?_⟩;rw [hpart _ _ fU];simp only [sX];rw [Du fU,Dr fU];simp only [lc];rw [Dr fU,s1,s2,w1];simp [w2,hnn]
 by_cases k3:kind=3
 ·subst k3
  simp [kJ] at hm
  obtain⟨rfl,rfl⟩:=hm;refine⟨123::(dec n++58::43::(quot five thn++125::s)),by simp [lH],?_⟩;rw [hpart _ _ fU];simp only [sX];rw [Du fU,Dr fU];simp only [lc];rw [Du fU,Dr fU,nB (.inl rfl) 125 rfl];simp [hnn]
 by_cases k4:kind=4
 ·subst k4
  simp [kJ] at hm
  obtain⟨rfl,rfl⟩:=hm;refine⟨123::(dec n++58::45::(quot five els++125::s)),by simp [lH],?_⟩;rw [hpart _ _ fU];simp only [sX];rw [Du fU,Dr fU];simp only [lc];rw [Du fU,Du fU,Du fU,Dr fU,nB (.inl rfl) 125 rfl];simp [hnn]
 by_cases k5:kind=5
 ·subst k5
  simp [kJ] at hm
  subst hm;refine⟨123::(dec n++58::63::(quot five thn++58::(quot five els++125::s))),by simp [lH],?_⟩;rw [hpart _ _ fU];simp only [sX];rw [Du fU,Dr fU];simp only [lc];rw [Du fU,Du fU,Dr fU,nB (.inr rfl) 58 rfl];simp only [D4];rw [nB (.inl rfl) 125 rfl];simp [hnn]
 ·simp only [Du k1,Du k2,Du k3,Du k4,Du k5] at hm;cases hm
theorem wH (s:Str) (fs:List Fm):∀(t tx:Str),mu (quot four t++s) tx fs=mu s (tx++t) fs
 | [],tx=>by simp [quot]
 | c::r,tx=>by
  have ih:=wH s fs r (tx++[c]);by_cases hc:four.contains c=true
  ·simp only [quot];rw [Dr hc]
   simp only [D5,D4];rw [lh,Du fU,Du fU,Dr ⟨by decide,hc⟩];simp only [List.drop_one,List.tail_cons,List.take_one,List.head?_cons,Option.toList_some];rw [ih];simp
  ·have hn:=fun h=>hc (four_mem.2 h)
   simp only [quot];rw [Du hc];simp only [D5,D4];rw [lh,Du (fun h=>hn fR),Du (fun h=>hn fR),Du (fun h=>hn fR),ih];simp
theorem sL (b:Str):∀(fs acc:List Fm) (pt:Bool) (tx:Str),mayL pt fs=true→(pt=false→tx=[])→mu (lQ fs++47::b) tx acc=some (l7 tx acc++fs,47::b)
 | [],acc,pt,tx,_,_=>by simp [lQ,lh]
 | f::r,acc,pt,tx,hm,ht=>by
  simp only [mayL,Dy] at hm;obtain⟨⟨h1,h2⟩,h3⟩:=hm;have hs:lQ (f::r)++47::b=lH f++(lQ r++47::b):=by simp [lQ]
  rw [hs];by_cases hk:f.kind=0
  ·have hpt:pt=false:=by simpa [hk] using h2
   have htx:=ht hpt;subst htx;obtain⟨kind,n,cse,thn,els⟩:=f;simp only at hk;subst hk
   unfold mayF at h1;rw [Dy] at h1;have h4:=h1.2;simp [kJ] at h4
   obtain⟨⟨⟨rfl,rfl⟩,rfl⟩,hthn⟩:=h4;have hp:lH ⟨0,0,0,thn,[]⟩=quot four thn:=by simp [lH]
   rw [hp,wH,D4,sL b r acc true thn (by simpa using h3) fX];simp [l7,hthn]
  ·obtain⟨r',e1,e2⟩:=CX f h1 hk (lQ r++47::b)
   rw [e1,lh,Du fU,Dr fU,e2];simp only [];rw [sL b r _ false [] (by simpa [hk] using h3) (fun _=>rfl)];simp [l7]
open Go.RowKit
theorem tF {P:Program} {ops:Array Oper} {rest:List Oper} {op:Oper} {a:Act} {w:World} {Q:Exit→Act→World→Prop} (hw:Region.wanted op (yielded ops a.tmps)=true) (ty:TypeId) (x:Operand) (ho:op.op=.load ty x)
  (b o:Nat) (hx:a.eval x=.pointer (some ⟨b,o,none⟩)) (cs:List Value) (d:TypeDesc) (hc:w.rangeAt b o cs)
  (hu:P.underlying ty=some d) (hd:d.isRow=true) (hi:(P.info? ty).map (·.size)=some cs.length)
  (h:wpList P ops Q rest (a.put op.dst (.agg cs.toArray)) w):wpList P ops Q (op::rest) a w:=by
 unfold wpList;rw [Dr hw];refine .inl ?_;unfold Oper.wp execOp;simp only [ho,hx,Instr.loadAt,Instr.sureAddr,Sem.run_bind,Sem.run_pure,Result.andThen_ok,run_loadVar_mid w b o ty cs d hc hu hd hi];exact h
def isD (d:UInt8):Prop:=48≤d.toNat∧d.toNat≤57
theorem BQ {d:UInt8} (h:isD d):digS [d]=some (d.toNat-48):=by unfold digS;exact Dr h
def dval (a:Nat) (d:UInt8):Nat:=10*a+(d.toNat-48)
theorem wM:∀(ds:Str) (k acc:Nat) (z:List Str),(∀d∈ds,isD d)→k+ds.length≤3→numL k acc (sgl ds++z)=numL (k+ds.length) (ds.foldl dval acc) z
 | [],k,acc,z,_,_=>rfl
 | d::ds,k,acc,z,h,hk=>by
  simp only [Dx] at hk;have e:sgl (d::ds)++z=[d]::(sgl ds++z):=rfl;rw [e,numL];simp only [BQ (h d (DH ..))];rw [Du fR,wM ds (k+1) _ z (fun x hx=>h x (DI _ hx)) fR];rw [D1,Dx,show k+1+ds.length=k+(ds.length+1) by omega];rfl
theorem vF:∀(ds:Str) (k acc:Nat) (z:List Str),(∀d∈ds,isD d)→k≤3→3<k+ds.length→numL k acc (sgl ds++z)=none
 | [],k,acc,z,_,h1,h2=>by simp at h2;omega
 | d::ds,k,acc,z,h,h1,h2=>by
  simp only [Dx] at h2;have e:sgl (d::ds)++z=[d]::(sgl ds++z):=rfl;rw [e,numL];simp only [BQ (h d (DH ..))];by_cases h3:k=3
  ·rw [Dr h3]
  ·rw [Du h3];exact vF ds (k+1) _ z (fun x hx=>h x (DI _ hx)) fR fR
theorem decD (n:Nat):(∀d∈Lib.decDigits n,isD d)∧(Lib.decDigits n).foldl dval 0=n∧(n≤999→(Lib.decDigits n).length≤3)∧(1000≤n→4≤(Lib.decDigits n).length)∧1≤(Lib.decDigits n).length:=by
 have one:∀m,m<10→isD (UInt8.ofNat (48+m))∧(UInt8.ofNat (48+m)).toNat-48=m:=by
  intro m hm;have e:(UInt8.ofNat (48+m)).toNat=48+m:=by simp;omega
  exact⟨by unfold isD;omega,by omega⟩
 have st:∀m,Lib.decDigits m=if m<10 then [UInt8.ofNat (48+m)] else Lib.decDigits (m / 10)++[UInt8.ofNat (48+m % 10)]:=by
  intro m;rw [Lib.decDigits.eq_1 m];by_cases h:m<10
  ·rw [Dr h,dif_pos h]
  ·rw [Du h,dif_neg h]
 have key:∀N n,n≤N→(∀d∈Lib.decDigits n,isD d)∧(Lib.decDigits n).foldl dval 0=n∧1≤(Lib.decDigits n).length:=by
  intro N;induction N with
  | zero =>
   intro n hn;obtain rfl:n=0:=fR;rw [st 0,Dr fR];refine⟨fun d hd=>?_,rfl,by simp⟩;rw [D7] at hd;rw [hd];exact(one 0 fR).1
  | succ N ih =>
   intro n hn;rw [st n];by_cases h:n<10
   ·rw [Dr h]
    refine⟨fun d hd=>?_,?_,by simp⟩
    ·rw [D7] at hd;rw [hd];exact(one n h).1
    ·simp only [List.foldl,dval];have:=(one n h).2;omega
   ·rw [Du h]
    obtain⟨i1,i2,i3⟩:=ih (n / 10) fR;refine⟨fun d hd=>?_,?_,by simp⟩
    ·rcases DZ.1 hd with hd|hd
     ·exact i1 d hd
     ·rw [D7] at hd;rw [hd];exact(one (n % 10) fR).1
    ·rw [List.foldl_append,i2];simp only [List.foldl,dval];have:=(one (n % 10) fR).2;omega
 obtain⟨k1,k2,k3⟩:=key n n (Dv _);have len:∀m,(Lib.decDigits m).length=if m<10 then 1 else(Lib.decDigits (m / 10)).length+1:=by
  intro m;rw [st m];by_cases h:m<10
  ·rw [Dr h,Dr h];rfl
  ·rw [Du h,Du h];simp
 refine⟨k1,k2,fun h=>?_,fun h=>?_,k3⟩
 ·rw [len n];split
  ·omega
  ·rw [len (n / 10)];split
   ·omega
   ·rw [len (n / 10 / 10),Dr fR];omega
 ·rw [len n,Du fR,len (n / 10),Du fR,len (n / 10 / 10),Du fR]
  have:=(key (n / 10 / 10 / 10) _ (Dv _)).2.2
  omega
theorem qT (n:Nat) {c:Str} (z:List Str) (hc:digS c=none):numL 0 0 (sgl (Lib.decDigits n)++c::z)=if n≤255 then some (n,c::z) else none:=by
 obtain⟨d1,d2,d3,d4,d5⟩:=decD n;by_cases h:n≤999
 ·rw [wM _ 0 0 _ d1 (by have:=d3 h;omega),d2,numL]
  simp only [hc];by_cases h2:n≤255
  ·rw [Dr ⟨by omega,h2⟩,Dr h2]
  ·rw [Du fR,Du h2]
 ·rw [vF _ 0 0 _ d1 fR (by have:=d4 fR;omega),Du fR]
theorem bounds_a (a:Nat) (z:List Str):ld (sgl (Lib.decDigits a++[125])++z)=if a≤255 then some ((a:Int),(a:Int),z) else none:=by
 have e:sgl (Lib.decDigits a++[125])++z=sgl (Lib.decDigits a)++[125]::z:=by simp [sgl]
 unfold ld;rw [e,qT a z rfl];by_cases h:a≤255
 ·rw [Dr h,Dr h];simp only [jQ,if_true]
 ·rw [Du h,Du h]
theorem bounds_b (a:Nat) (z:List Str):ld (sgl (Lib.decDigits a++[44,125])++z)=if a≤255 then some ((a:Int),-1,z) else none:=by
 have e:sgl (Lib.decDigits a++[44,125])++z=sgl (Lib.decDigits a)++[44]::[125]::z:=by simp [sgl]
 unfold ld;rw [e,qT a _ rfl];by_cases h:a≤255
 ·rw [Dr h,Dr h];simp only [jQ,if_true,Du (show ¬([44]:Str)=[125] by decide)]
 ·rw [Du h,Du h]
theorem bounds_c (a b:Nat) (z:List Str):ld (sgl (Lib.decDigits a++44::(Lib.decDigits b++[125]))++z)=if a≤255∧b≤255∧a≤b then some ((a:Int),(b:Int),z) else none:=by
 have e:sgl (Lib.decDigits a++44::(Lib.decDigits b++[125]))++z=sgl (Lib.decDigits a)++[44]::(sgl (Lib.decDigits b)++[125]::z):=by simp [sgl]
 obtain⟨d1,_,_,_,d5⟩:=decD b;have ht:jQ [125] (sgl (Lib.decDigits b)++[125]::z)=none:=by
  cases hb:Lib.decDigits b with
  | nil=>rw [hb] at d5;simp at d5
  | cons d ds =>
   have:=d1 d (by rw [hb];exact DH ..)
   unfold isD at this;have hne:¬[d]=([125]:Str):=by intro e;injection e with e;subst e;revert this;decide
   show (if [d]=([125]:Str) then _ else none)=none
   rw [Du hne]
 unfold ld;rw [e,qT a _ rfl];by_cases h:a≤255
 ·rw [Dr h]
  simp only [jQ,if_true,Du (show ¬([44]:Str)=[125] by decide)] at ht ⊢;simp only [ht,qT b z (show digS [125]=none from rfl)];by_cases h2:b≤255
  ·rw [Dr h2]
   by_cases h3:a≤b
   ·rw [Dr ⟨h,h2,h3⟩];simp only [if_true];rw [Dr h3]
   ·rw [Du (fun q=>h3 q.2.2)];simp only [if_true];rw [Du h3]
  ·rw [Du h2,Du (fun q=>h2 q.2.1)]
 ·rw [Du h,Du (fun q=>h q.1)]
theorem BP (a:Nat):∀c∈Lib.decDigits a,jE c=false:=fun c hc=>by
 have:=(decD a).1 c hc
 unfold isD at this;simp [jE];omega
theorem BV:∀{r:Str},(∀x∈r,jE x=true)→r.takeWhile jE=r∧r.dropWhile jE=[]
 | [],_=>⟨rfl,rfl⟩
 | x::r,h=>by
  obtain⟨i1,i2⟩:=BV (r:=r) (fun y hy=>h y (DI _ hy));have hx:=h x (DH ..);rw [List.takeWhile_cons_of_pos hx,List.dropWhile_cons_of_pos hx,i1,i2];exact⟨rfl,rfl⟩
theorem qf {c:Str} (h:kj c=true):jL c=[c]:=by
 cases c with
 | nil=>cases h
 | cons b r =>
  have h2:r.all jE=true:=by
   have:(!jE b&&r.all jE)=true:=h
   exact(Bool.and_eq_true_iff.1 this).2
  have h3:∀x∈r,jE x=true:=List.all_eq_true.1 h2;rw [mS,(BV h3).1,(BV h3).2];rfl
theorem o9 {c:Str} (h:kj c=true):mb c∧c≠[]:=by
 cases c with
 | nil=>cases h
 | cons b r =>
  have h1:(!jE b&&r.all jE)=true:=h;exact⟨by show jE b=false;have:=(Bool.and_eq_true_iff.1 h1).1;simpa using this,by simp⟩
def escC (th c:Str):List Str :=
 if c=[10] then [[92],[110]] else if c=[13] then [[92],[114]] else if c=[9] then [[92],[116]] else if c=[12] then [[92],[102]] else if c=[11] then [[92],[118]]
 else if th.contains (c.headD 0)=true then [[92],c] else [c]
theorem sE (th:Str) {c:Str} (h:kj c=true):jL (escL th c)=escC th c∧mb (escL th c):=by
 obtain⟨h1,h2⟩:=o9 h;unfold escL escC;iterate 5 (split;· exact⟨rfl,show jE 92=false by decide⟩)
 split
 ·refine⟨?_,show jE 92=false by decide⟩
  rw [show (92:UInt8)::c=[92]++c from rfl,kw _ [92] c (Dv _) h1,qf h];rfl
 ·exact⟨qf h,h1⟩
theorem escC_ok (th:Str) {c:Str} (h:c≠[]) (hl:c.length≤1000000):okC (escC th c):=by
 unfold escC;intro p hp
 (repeat' split at hp)<;>simp at hp<;>(try rcases hp with rfl|rfl)<;>(try subst hp)<;>first|exact⟨by simp,by simp⟩|exact⟨h,hl⟩
theorem mF {r:Row} (h:rowB r=true):kj r.1=true∧kj r.2=true∧leS r.1 r.2=true:=by
 unfold rowB at h;simp only [Dy] at h;exact⟨h.1.1,h.1.2,h.2⟩
theorem oF:∀{rs:List Row} {p:Option Str},mC p rs=true→∀r∈rs,rowB r=true
 | [],_,_,r,h=>by cases h
 | r0::rs,p,h,r,hr=>by
  simp only [mC,Dy] at h;rcases DF.1 hr with rfl|hr
  ·exact h.1.1
  ·exact oF h.2 r hr
theorem CA {a b:Str} (h:leS a b=false):Op.bytesLess b a=true:=by
 unfold leS at h;simp only [Bool.or_eq_false_iff,DV] at h;rcases mI a b with h1|h1|h1
 ·rw [h1] at h;exact absurd h.1 fU
 ·exact absurd h1 h.2
 ·exact h1
theorem leS_ltS {a b c:Str} (h1:leS a b=true) (h2:Op.bytesLess b c=true):Op.bytesLess a c=true:=by
 unfold leS at h1;rw [DC,Do] at h1;rcases h1 with h1|rfl
 ·exact ma h1 h2
 ·exact h2
theorem uG {a b c:Str} (h1:Op.bytesLess a b=true) (h2:leS b c=true):Op.bytesLess a c=true:=by
 unfold leS at h2;rw [DC,Do] at h2;rcases h2 with h2|rfl
 ·exact ma h1 h2
 ·exact h1
theorem yG:∀{rs:List Row} {t:Str},mC (some t) rs=true→∀r∈rs,Op.bytesLess t r.1=true
 | [],_,_,r,h=>by cases h
 | r0::rs,t,h,r,hr=>by
  simp only [mC,Dy,Ed] at h;obtain⟨⟨h1,h2⟩,h3⟩:=h;have h4:=CA h2;rcases DF.1 hr with rfl|hr
  ·exact h4
  ·exact ma (uG h4 (mF h1).2.2) (yG h3 r hr)
theorem uU:∀{rs:List Row} {p:Option Str},mC p rs=true→Srt rs
 | [],_,_=>List.Pairwise.nil
 | r0::rs,p,h=>by
  simp only [mC,Dy] at h;obtain⟨⟨h1,_⟩,h3⟩:=h;refine List.Pairwise.cons (fun r hr=>om ?_) (uU h3);unfold ltR;rw [sw];exact .inl (leS_ltS (mF h1).2.2 (yG h3 r hr))
theorem Dn:∀(rs out:List Row) (p:Option Str),mC p rs=true→(p=out.getLast?.map (·.2))→rs.foldl mrgS out=out++rs
 | [],out,_,_,_=>by simp
 | r::rs,out,p,h,hp=>by
  simp only [mC,Dy] at h;obtain⟨⟨h1,h2⟩,h3⟩:=h;have e:mrgS out r=out++[r]:=by
   rcases List.eq_nil_or_concat out with rfl|⟨B,q,rfl⟩
   ·rfl
   ·rw [List.concat_eq_append] at hp ⊢
    rw [List.getLast?_concat,Option.map_some] at hp;subst hp;simp only [Ed] at h2;exact xM h2
  rw [D1,e,Dn rs (out++[r]) (some r.2) h3 (by rw [List.getLast?_concat];rfl)];simp
theorem vz {rs:List Row} (h:ox rs=true):lG rs=rs:=by
 have h1:filR rs=rs:=List.filter_eq_self.2 (oF h);obtain⟨p1,s1⟩:=s5 (filR rs);rw [h1] at p1 s1;have h2:stL rs=rs:=AW p1 s1 (uU h);unfold lG mrgL;rw [h1,h2,Dn rs [] none h rfl];rfl
theorem ug (th:Str) (h0:th.contains 93=true∧th.contains 94=true∧th.contains 45=true) {c:Str} (h:kj c=true):∃f r,escC th c=f::r∧f≠[93]∧f≠[94]∧f≠[45]:=by
 unfold escC;iterate 5 (split;· exact⟨_,_,rfl,by decide,by decide,by decide⟩)
 split
 ·exact⟨_,_,rfl,by decide,by decide,by decide⟩
 ·rename_i hn
  refine⟨_,_,rfl,?_,?_,?_⟩<;>rintro rfl
  ·exact hn h0.1
  ·exact hn h0.2.1
  ·exact hn h0.2.2
theorem AR {c:Str} (h:nj c=true):∃b,c=[b]∧((97≤b.toNat∧b.toNat≤122)∨(65≤b.toNat∧b.toNat≤90)∨(48≤b.toNat∧b.toNat≤57)∨b.toNat=95):=by
 match c,h with
 | [b],h =>
  simp only [nj,DC,Dp] at h;exact⟨b,rfl,by rcases h with((h|h)|h)|h<;>simp [h]⟩
def noWd (b:UInt8):Prop:=¬((97≤b.toNat∧b.toNat≤122)∨(65≤b.toNat∧b.toNat≤90)∨(48≤b.toNat∧b.toNat≤57)∨b.toNat=95)
theorem tM {c:Str} (h0:c≠[]) (h:noWd (c.headD 0)):l8 c=none∧bigS c=none∧lr c=some c∧c≠[98]∧c≠[66]:=by
 have ne:∀b:UInt8,¬noWd b→c≠[b]:=by rintro b hb rfl;exact hb h
 have l:∀b:UInt8,(97≤b.toNat∧b.toNat≤122)∨(65≤b.toNat∧b.toNat≤90)∨(48≤b.toNat∧b.toNat≤57)∨b.toNat=95→c≠[b]:=fun b hb=>ne b (fun q=>q hb)
 have hw:nj c=false:=by
  cases hw:nj c with
  | false=>rfl
  | true=>obtain⟨b,rfl,hb⟩:=AR hw;exact absurd hb h
 refine⟨?_,?_,?_,l 98 fU,l 66 fU⟩
 ·unfold l8
  split
  ·rename_i b
   have:mw b=false:=by
    unfold mw;simp only [Bool.or_eq_false_iff,DV];refine⟨⟨?_,?_⟩,?_⟩<;>rintro rfl
    ·exact l 100 fU rfl
    ·exact l 119 fU rfl
    ·exact l 115 fU rfl
   rw [this];rfl
  ·rfl
 ·unfold bigS
  rw [Du (l 68 fU),Du (l 87 fU),Du (l 83 fU)]
 ·unfold lr
  rw [Du h0,Du (l 110 fU),Du (l 114 fU),Du (l 116 fU),Du (l 102 fU),Du (l 118 fU),Dr (.inr hw)]
def okTh (th:Str):Prop:=(∀b∈th,noWd b)∧th.contains 92=true∧th.contains 93=true
theorem qL {th:Str} {b:UInt8} (h:th.contains b=true):b∈th:=by simpa using h
theorem yU {th:Str} (ht:okTh th) {c:Str} (h:kj c=true) (z:List Str):mh (escC th c++z)=some (c,[],z):=by
 obtain⟨_,h0⟩:=o9 h;unfold escC;iterate 5 (split;· rename_i hc;rw [hc];rfl)
 split
 ·rename_i hs
  obtain⟨a1,a2,a3,_,_⟩:=tM h0 (ht.1 _ (qL hs));show mh ([92]::c::z)=_
  simp only [mh,Du (show ¬([92]:Str)=[93] by decide),if_true,a1,a3]
 ·rename_i hs
  have h1:c≠[93]:=by rintro rfl;exact hs ht.2.2
  have h2:c≠[92]:=by rintro rfl;exact hs ht.2.1
  show mh (c::z)=_
  simp only [mh,Du h1,Du h2]
theorem zi {th:Str} (h:(th.all fun b=>!(decide (97≤b.toNat∧b.toNat≤122)||decide (65≤b.toNat∧b.toNat≤90)||decide (48≤b.toNat∧b.toNat≤57)||decide (b.toNat=95)))=true):∀b∈th,noWd b:=by
 intro b hb;have:=List.all_eq_true.1 h b hb
 simp only [Ed,Bool.or_eq_false_iff,DM] at this;unfold noWd;rintro(h|h|h|h)
 ·exact this.1.1.1 h
 ·exact this.1.1.2 h
 ·exact this.1.2 h
 ·exact this.2 h
theorem qV {c f:Str} {s:List Str} (h:f≠c):jQ c (f::s)=none:=by simp only [jQ,Du h]
theorem Aj {r z:List Str} {rows:List Row} (h:kp (r.length+1) [] r=some (rows,z)):lq ([94]::r)=.ok (setR (lG rows) true,z):=by
 unfold lq;have t:jQ [94] ([94]::r)=some r:=rfl;simp only [t,Option.isSome,Option.getD,h]
theorem CK {r z:List Str} {rows:List Row} (t:jQ [94] r=none) (h:kp (r.length+1) [] r=some (rows,z)):lq r=.ok (setR (lG rows) false,z):=by
 unfold lq;simp only [t,Option.isSome,Option.getD,h]
def At (l:List Str) (y:Rx):Prop:=okC l∧(∃c r,l=c::r∧c≠[41]∧c≠[124])∧∀n z,okC z→(l++z).length≤n→n≤200000→ku (patF n) (l++z) 0=kz y z
def Rd0 (l:List Str) (x:Rx):Prop:=okC l∧patF (l.length+1) l 0=.ok (x,[])
theorem term_rd {l:List Str} {x:Rx} {c:Str} {r:List Str} (e:l=c::r) (h1:c≠[41]) (h2:c≠[124]) (ho:okC l) (ht:ku (patF l.length) l 0=.ok (x,[])) (hk:x.kind≠0∧x.kind≠1):Rd0 l x:=by
 subst e;refine⟨ho,?_⟩;have hT:InvT [x]:=fun y hy=>by rw [D7] at hy;rw [hy];exact hk
 have hseq:seqR [x]=x:=by unfold seqR;rw [lB (fun y hy=>(hT y hy).1)]
 show patL (fun r'=>ku (patF (c::r).length) r' 0) (r.length+1+1) [] [] (c::r)=_
 simp only [patL,Du h1,Du h2,ht];rw [D4,D4,hseq,mN hk.2]
theorem At.quant {l q:List Str} {y x:Rx} (h:At l y) (ho:okC q) (hq:kz y q=.ok (x,[])) (hk:x.kind≠0∧x.kind≠1) (hl:(l++q).length≤200000):Rd0 (l++q) x:=by
 obtain⟨h1,⟨c,r,rfl,h2,h3⟩,h4⟩:=h;exact term_rd (c:=c) (r:=r++q) rfl h2 h3 (sj h1 ho) (by rw [h4 _ q ho (Dv _) hl,hq]) hk
theorem At.rd {l:List Str} {y:Rx} (h:At l y) (hk:y.kind≠0∧y.kind≠1) (hl:l.length≤200000):Rd0 l y:=by
 have:=h.quant (q:=[]) (fun p hp=>by cases hp) rfl hk jv
 simpa using this
theorem okC_one {c:Str} (h:c≠[]) (hl:c.length≤1000000):okC [c]:=fun p hp=>by rw [D7] at hp;rw [hp];exact⟨h,hl⟩
theorem qd {pat:List Str→Nat→Res} {l z:List Str} {y:Rx} (he:lD (l++z)=none) (ha:kI pat (l++z) 0=.ok (y,z)):ku pat (l++z) 0=kz y z:=by
 unfold ku;simp only [he,ha]
theorem At.any:At [[46]] (rxK 3) :=
 ⟨okC_one fU fU,⟨_,_,rfl,by decide,by decide⟩,fun n z _ _ _=>qd (l:=[[46]]) (by simp [lD]) (by simp [kI])⟩
theorem At.grp {l:List Str} {x:Rx} (h:Rd0 l x) (bare:Bool) (hd:x.deep+1≤16):At (wrp bare l) (grpR (gk bare) x):=by
 have hr:Rdg l x:=Rdg.of h.1 h.2;obtain⟨ro,hro⟩:=yg bare;refine⟨(hr.wrap bare).1,?_,fun n z hz h1 h2=>?_⟩
 ·unfold wrp;rw [hro];exact⟨_,_,rfl,by decide,by decide⟩
 ·have e1:wrp bare l++z=opn bare++(l++[41]::z):=by simp [wrp]
  rw [e1,hr.term (z:=z) bare n 0 hz fR (by rw [e1,hro] at h1;simp only [D5,Dx,DE] at h1 ⊢;omega) h2,Dr fR]
theorem Dd {lo hi:Int} (lz:Bool) (y:Rx) (h:0≤lo∧lo≤255∧(hi=-1∨lo≤hi∧hi≤255)) :
  kz y (jL (oftS lo hi++lzS lz))=.ok (repR lo hi lz y,[])∧mb (oftS lo hi++lzS lz):=by
 obtain⟨h1,h2,h3⟩:=h;have br:∀(B:Str) (a b:Int),(∀c∈B,jE c=false)→(∀z,ld (sgl B++z)=some (a,b,z))→kz y (jL (123::(B++lzS lz)))=.ok (repR a b lz y,[])∧mb (123::(B++lzS lz)):=by
  intro B a b hB hb;refine⟨?_,show jE 123=false by decide⟩;have e:jL (123::(B++lzS lz))=[123]::(sgl B++sgl (lzS lz)):=by
   rw [A5]
   ·simp [sgl]
   ·intro c hc
    rcases DF.1 hc with rfl|hc
    ·decide
    rcases DZ.1 hc with hc|hc
    ·exact hB c hc
    ·cases lz
     ·simp [lzS] at hc
     ·simp [lzS] at hc;subst hc;decide
  rw [e];simp only [kz,Du (show ¬([123]:Str)=[42] by decide),Du (show ¬([123]:Str)=[43] by decide),Du (show ¬([123]:Str)=[63] by decide),if_true,hb];cases lz<;>rfl
 unfold oftS;by_cases c1:lo=0∧hi=-1
 ·rw [Dr c1,c1.1,c1.2];cases lz<;>exact⟨rfl,show jE 42=false by decide⟩
 rw [Du c1];by_cases c2:lo=1∧hi=-1
 ·rw [Dr c2,c2.1,c2.2];cases lz<;>exact⟨rfl,show jE 43=false by decide⟩
 rw [Du c2];by_cases c3:lo=0∧hi=1
 ·rw [Dr c3,c3.1,c3.2];cases lz<;>exact⟨rfl,show jE 63=false by decide⟩
 rw [Du c3];have da:=BP lo.toNat;have asc:∀(t:Str),(t.all fun c=>!jE c)=true→∀c∈Lib.decDigits lo.toNat++t,jE c=false:=by
  intro t ht c hc;rcases DZ.1 hc with hc|hc
  ·exact da c hc
  ·have:=List.all_eq_true.1 ht c hc;simpa using this
 by_cases c4:lo=hi
 ·rw [Dr c4]
  exact br (Lib.decDigits lo.toNat++[125]) lo hi (asc _ fU) (fun z=>by rw [bounds_a,Dr fR,←c4,Int.toNat_of_nonneg h1])
 rw [Du c4];by_cases c5:hi=-1
 ·rw [Dr c5]
  have:=br (Lib.decDigits lo.toNat++[44,125]) lo (-1) (asc _ fU) (fun z=>by rw [bounds_b,Dr fR,Int.toNat_of_nonneg h1])
  rw [c5];exact this
 rw [Du c5];have hasc:∀c∈Lib.decDigits lo.toNat++44::(Lib.decDigits hi.toNat++[125]),jE c=false:=by
  intro c hc;rcases DZ.1 hc with hc|hc
  ·exact da c hc
  rcases DF.1 hc with rfl|hc
  ·decide
  rcases DZ.1 hc with hc|hc
  ·exact BP _ c hc
  ·rw [D7] at hc;subst hc;decide
 exact br (Lib.decDigits lo.toNat++44::(Lib.decDigits hi.toNat++[125])) lo hi hasc (fun z=>by
  rw [bounds_c,Dr ⟨by omega,by omega,by omega⟩,Int.toNat_of_nonneg h1,Int.toNat_of_nonneg fR])
theorem rd_nil:Rd0 [] (mB []):=⟨fun p hp=>(by cases hp),rfl⟩
theorem Cq {x:Rx} {ks:List Rx} (hx:x.kind≠0∧x.kind≠1) (hk:InvT ks):seqR [x,seqR ks]=seqR (x::ks):=by
 have h1:InvT [x]:=fun y hy=>by rw [D7] at hy;rw [hy];exact hx
 have:=zP h1 hk
 have e:seqR [x]=x:=by unfold seqR;rw [lB (fun y hy=>(h1 y hy).1)]
 rw [e] at this;exact this
theorem mD {k:Int} {c:Str} {ng:Bool} {rs:List Row} {lo hi:Int} {lz:Bool} {ks:List Rx} (h:sY (.mk k c ng rs lo hi lz ks)=true):c=[]∧ng=false∧rs=[]∧lo=0∧hi=0∧lz=false:=by
 simp only [sY,Dy,Ed,Rx.chr,Rx.neg,Rx.rows,Rx.lo,Rx.hi,Rx.lazy] at h;obtain⟨⟨⟨⟨⟨h1,h2⟩,h3⟩,h4⟩,h5⟩,h6⟩:=h;exact⟨of_decide_eq_true h1,h2,of_decide_eq_true h3,of_decide_eq_true h4,of_decide_eq_true h5,h6⟩
theorem wg:∀{ks:List Rx} {x:Rx},x∈ks→x.deep≤Rx.deepL ks
 | [],_,h=>by cases h
 | y::r,x,h=>by
  simp only [Rx.deepL];rcases DF.1 h with rfl|h
  ·omega
  ·have:=wg h;omega
def th1N:Str:=[94,36,92,46,42,43,63,40,41,91,93,123,125,124]
def th2N:Str:=[94,45,92,91,93]
def rC (r:Str × Str):Str:=escL th2N r.1++(if r.2=r.1 then [] else 45::escL th2N r.2)
def wB (ng:Bool) (rs:List (Str × Str)):Str:=91::((if ng=true then [94] else [])++(rs.flatMap rC++[93]))
namespace Rx
mutual
def tellN:Rx→Str
 | mk k c ng rs lo hi lz ks =>
  if k=0 then tellNL ks
  else if k=1 then tellNA false ks
  else if k=2 then escL th1N c
  else if k=3 then [46]
  else if k=8 then [94]
  else if k=9 then [36]
  else if k=10 then [92,98]
  else if k=11 then [92,66]
  else if k=4 then wB ng rs
  else if k=5 then 40::(tellNL ks++[41])
  else if k=6 then 40::63::58::(tellNL ks++[41])
  else tellNL ks++(oftS lo hi++(if lz=true then [63] else []))
def tellNL:List Rx→Str
 | []=>[]
 | x::r=>tellN x++tellNL r
def tellNA:Bool→List Rx→Str
 | _,[]=>[]
 | b,x::r=>(if b=true then [124] else [])++(tellN x++tellNA true r)
end
end Rx
def nI (r:Row):List Str:=escC th2N r.1++(if r.2=r.1 then [] else [45]::escC th2N r.2)
theorem Da:okTh th2N:=⟨zi fU,by decide,by decide⟩
theorem th1_okN:okTh th1N:=⟨zi fU,by decide,by decide⟩
theorem tz {r:Row} (h:rowB r=true):∃f s,nI r=f::s∧f≠[93]∧f≠[94]∧f≠[45]:=by
 obtain⟨f,s,e,h1⟩:=ug th2N fU (mF h).1;unfold nI;rw [e];exact⟨f,_,rfl,h1⟩
theorem tl:∀(rs:List Row) (z:List Str),(∀r∈rs,rowB r=true)→∃f s,rs.flatMap nI++[93]::z=f::s∧(f=[93]∨f≠[93]∧f≠[94]∧f≠[45])
 | [],z,_=>⟨[93],z,rfl,.inl rfl⟩
 | r::rs,z,h=>by
  obtain⟨f,s,e,h1⟩:=tz (h r (DH ..));rw [DD,e];exact⟨f,_,rfl,.inr h1⟩
theorem qO:∀(rs:List Row) (n:Nat) (acc:List Row) (z:List Str),(∀r∈rs,rowB r=true)→rs.length<n→kp n acc (rs.flatMap nI++[93]::z)=some (acc++rs,z)
 | [],n,acc,z,_,hn=>by
  obtain⟨n,rfl⟩:∃m,n=m+1:=⟨n-1,by simp at hn;omega⟩;rw [D8];simp only [List.flatMap_nil,D4,kp,jQ,if_true]
 | r::rs,n,acc,z,h,hn=>by
  obtain⟨n,rfl⟩:∃m,n=m+1:=⟨n-1,by simp at hn;omega⟩;simp only [Dx] at hn;have hr:=h r (DH ..);have hrs:∀q∈rs,rowB q=true:=fun q hq=>h q (DI _ hq)
  obtain⟨p1,p2,p3⟩:=mF hr;have ih:=fun acc=>qO rs n acc z hrs fR
  obtain⟨g,t,ge,gh⟩:=tl rs z hrs;obtain⟨f,s,fe,f1,f2,f3⟩:=ug th2N fU p1;obtain⟨f',s',fe',f1',f2',f3'⟩:=ug th2N fU p2;have i1:=fun z=>yU Da p1 z
  have i2:=fun z=>yU Da p2 z
  have t1:∀z,jQ [93] (escC th2N r.1++z)=none:=fun z=>by rw [fe];exact qV f1
  have t2:∀z,jQ [93] (escC th2N r.2++z)=none:=fun z=>by rw [fe'];exact qV f1'
  by_cases he:r.2=r.1
  ·have e:(r::rs).flatMap nI++[93]::z=escC th2N r.1++(rs.flatMap nI++[93]::z):=by
    rw [DD];unfold nI;rw [Dr he];simp
   have t45:jQ [45] (rs.flatMap nI++[93]::z)=none:=by
    rw [ge];refine qV ?_;rcases gh with rfl|gh
    ·decide
    ·exact gh.2.2
   rw [e];simp only [kp,t1,i1,t45,ne_eq,not_true_eq_false,if_false];rw [ih,D6];have:((r.1,r.1):Row)=r:=by rw [←he];rw [he];exact Prod.ext rfl he.symm
   rw [this];rfl
  ·have e:(r::rs).flatMap nI++[93]::z=escC th2N r.1++[45]::(escC th2N r.2++(rs.flatMap nI++[93]::z)):=by
    rw [DD];unfold nI;rw [Du he];simp
   have t45:∀z:List Str,jQ [45] ([45]::z)=some z:=fun z=>by simp only [jQ,if_true]
   have hless:¬(Op.bytesLess r.2 r.1=true):=by
    intro hl;unfold leS at p3;rw [DC,Do] at p3;rcases p3 with p3|p3
    ·rw [nA p3] at hl;cases hl
    ·exact he p3.symm
   rw [e];simp only [kp,t1,i1,t45,t2,i2,ne_eq,not_true_eq_false,if_false,if_true,false_or,Du hless];rw [ih,D6];rfl
def ye (ng:Bool) (rs:List Row):List Str:=[91]::((if ng=true then [[94]] else [])++(rs.flatMap nI++[[93]]))
theorem AL {r:Row} (h:rowB r=true) (t:Str) (ht:mb t):jL (rC r++t)=nI r++jL t∧mb (rC r++t):=by
 obtain⟨p1,p2,p3⟩:=mF h;obtain⟨a1,a2⟩:=sE th2N p1;obtain⟨b1,b2⟩:=sE th2N p2;unfold rC nI;by_cases he:r.2=r.1
 ·rw [Dr he,Dr he,D8,D8]
  exact⟨by rw [kw _ _ _ (Dv _) ht,a1],mM a2 ht⟩
 ·rw [Du he,Du he]
  have h45:mb (45::(escL th2N r.2++t)):=show jE 45=false by decide
  refine⟨?_,?_⟩
  ·rw [D6,D5,kw _ _ _ (Dv _) h45,a1,show (45:UInt8)::(escL th2N r.2++t)=[45]++(escL th2N r.2++t) from rfl,kw _ [45] _ (Dv _) (mM b2 ht),kw _ _ _ (Dv _) ht,b1]
   simp [show jL [45]=[[45]] from rfl]
  ·rw [D6];exact mM a2 h45
theorem rz:∀(rs:List Row),(∀r∈rs,rowB r=true)→∀t:Str,mb t→jL (rs.flatMap rC++t)=rs.flatMap nI++jL t∧mb (rs.flatMap rC++t)
 | [],_,t,ht=>⟨rfl,ht⟩
 | r::rs,h,t,ht=>by
  obtain⟨i1,i2⟩:=rz rs (fun q hq=>h q (DI _ hq)) t ht;obtain⟨j1,j2⟩:=AL (h r (DH ..)) _ i2;rw [DD,DD,D6,D6,j1,i1];exact⟨rfl,j2⟩
theorem AZ {ng:Bool} {rs:List Row} (h:ox rs=true):jL (wB ng rs)=ye ng rs∧mb (wB ng rs):=by
 obtain⟨i1,i2⟩:=rz rs (oF h) [93] (show jE 93=false by decide);refine⟨?_,show jE 91=false by decide⟩;unfold wB ye;cases ng with
 | true =>
  show jL ([91,94]++(rs.flatMap rC++[93]))=_
  rw [kw _ [91,94] _ (Dv _) i2,i1];rfl
 | false =>
  show jL ([91]++(rs.flatMap rC++[93]))=_
  rw [kw _ [91] _ (Dv _) i2,i1];rfl
theorem zV {ng:Bool} {rs:List Row} (h:ox rs=true) (z:List Str) (pat:List Str→Nat→Res) (d:Nat):kI pat (ye ng rs++z) d=.ok (setR rs ng,z):=by
 have hal:=oF h;have e:ye ng rs++z=[91]::((if ng=true then [[94]] else [])++(rs.flatMap nI++[93]::z)):=by unfold ye;simp
 rw [e];have ha:∀r:List Str,kI pat ([91]::r) d=lq r:=fun r=>by simp [kI]
 rw [ha];obtain⟨f,s,fe,fh⟩:=tl rs z hal;have t94:jQ [94] (rs.flatMap nI++[93]::z)=none:=by
  rw [fe];refine qV ?_;rcases fh with rfl|fh
  ·decide
  ·exact fh.2.1
 have hl:rs.length≤(rs.flatMap nI++[93]::z).length:=by
  clear fe fh t94 e h;induction rs with
  | nil=>simp
  | cons r rs ih =>
   obtain⟨f,s,fe,_⟩:=tz (hal r (DH ..));have:=ih (fun q hq=>hal q (DI _ hq))
   rw [DD,fe];simp only [DE,Dx] at this ⊢;omega
 have run:∀k,rs.length<k→kp k [] (rs.flatMap nI++[93]::z)=some (rs,z):=fun k hk=>by rw [qO rs k [] z hal hk,D4]
 have hrun:=run _ (Nat.lt_succ_of_le hl);cases ng with
 | true =>
  have:=Aj hrun
  rw [vz h] at this;exact this
 | false =>
  have:=CK t94 hrun
  rw [vz h] at this;exact this
theorem At.charN {c:Str} (h:kj c=true) (hl:c.length≤1000000):At (escC th1N c) (chrR c):=by
 obtain⟨_,h0⟩:=o9 h;refine⟨escC_ok th1N h0 hl,?_,fun n z hz h1 h2=>?_⟩
 ·unfold escC
  iterate 5 (split;· exact⟨_,_,rfl,by decide,by decide⟩)
  split
  ·exact⟨_,_,rfl,by decide,by decide⟩
  ·rename_i hs
   exact⟨_,_,rfl,by rintro rfl;exact hs fU,by rintro rfl;exact hs fU⟩
 ·have esc:∀(c2:Str) (y:Rx),c2≠[98]→c2≠[66]→escM (c2::z)=.ok (y,z)→ku (patF n) ([[92],c2]++z) 0=kz y z:=by
   intro c2 y h98 h66 he;refine qd ?_ ?_
   ·show lD ([92]::c2::z)=none
    simp [lD,jQ,h98,h66]
   ·show kI (patF n) ([92]::c2::z) 0=_
    rw [←he];simp [kI]
  unfold escC;iterate 5 (split;· rename_i hc;rw [hc];exact esc _ _ fU fU rfl)
  split
  ·rename_i hs
   obtain⟨a1,a2,a3,a4,a5⟩:=tM h0 (th1_okN.1 _ (qL hs));exact esc c (chrR c) a4 a5 (by simp only [escM,a1,a2,a3])
  ·rename_i hs
   have ne:∀b:UInt8,th1N.contains b=true→c≠[b]:=by rintro b hb rfl;exact hs hb
   refine qd ?_ ?_
   ·show lD (c::z)=none
    simp only [lD,Du (ne 94 fU),Du (ne 36 fU),Du (ne 92 fU)]
   ·show kI (patF n) (c::z) 0=_
    have hn:o6 c=false:=by
     unfold o6;simp only [Bool.or_eq_false_iff,DM];exact⟨⟨⟨⟨⟨⟨⟨ne 42 fU,ne 43 fU⟩,ne 63 fU⟩,ne 41 fU⟩,ne 123 fU⟩,ne 124 fU⟩,ne 94 fU⟩,ne 36 fU⟩
    simp only [kI,Du (ne 46 fU),Du (ne 40 fU),Du (ne 91 fU),Du (ne 92 fU),hn];rfl
theorem At.setN {ng:Bool} {rs:List Row} (h:ox rs=true) (ho:okC (ye ng rs)):At (ye ng rs) (setR rs ng):=by
 refine⟨ho,⟨_,_,rfl,by decide,by decide⟩,fun n z _ _ _=>qd ?_ (zV h z _ 0)⟩;show lD ([91]::(_++z))=none
 simp [lD]
theorem vA:∀(ks:List Rx),(∀x∈ks,mb x.tellN∧Rd0 (jL x.tellN) x∧x.kind≠0∧x.kind≠1)→(Rx.tellNL ks).length≤100000→mb (Rx.tellNL ks)∧Rd0 (jL (Rx.tellNL ks)) (seqR ks)
 | [],_,_=>⟨trivial,rd_nil⟩
 | x::r,h,hl=>by
  simp only [Rx.tellNL,DE] at hl ⊢;obtain⟨a1,a2,a3⟩:=h x (DH ..);have hr:=fun y hy=>h y (DI x hy)
  obtain⟨b1,b2⟩:=vA r hr fR;have hT:InvT r:=fun y hy=>(hr y hy).2.2
  have l1:=ns x.tellN;have l2:=ns (Rx.tellNL r);refine⟨mM a1 b1,?_⟩;rw [kw _ _ _ (Dv _) b1,←Cq a3 hT];exact⟨sj a2.1 b2.1,B9 a2.1 b2.1 fR a2.2 b2.2 a3.2 (lF hT).1⟩
theorem vq:∀(r:List Rx) (x:Rx),(∀y∈x::r,mb y.tellN∧Rd0 (jL y.tellN) y∧y.kind≠1)→(x.tellN++Rx.tellNA true r).length≤100000→mb (x.tellN++Rx.tellNA true r)∧Rd0 (jL (x.tellN++Rx.tellNA true r)) (altR (x::r))
 | [],x,h,_=>by
  obtain⟨a1,a2,a3⟩:=h x (DH ..);simp only [Rx.tellNA,D8];rw [mN a3];exact⟨a1,a2⟩
 | y::r,x,h,hl=>by
  obtain⟨a1,a2,a3⟩:=h x (DH ..);have hr:=fun z hz=>h z (DI x hz)
  have e:x.tellN++Rx.tellNA true (y::r)=x.tellN++124::(y.tellN++Rx.tellNA true r):=by simp [Rx.tellNA]
  rw [e] at hl ⊢;simp only [DE,Dx] at hl;obtain⟨b1,b2⟩:=vq r y hr iq;have h124:mb (124::(y.tellN++Rx.tellNA true r)):=show jE 124=false by decide
  have l1:=ns x.tellN;have l2:=ns (y.tellN++Rx.tellNA true r);rw [DE] at l2;refine⟨mM a1 h124,?_⟩;have hA:InvA (y::r):=fun z hz=>(hr z hz).2.2
  have h1:InvA [x]:=fun z hz=>by rw [D7] at hz;rw [hz];exact a3
  have e2:altR [x,altR (y::r)]=altR (x::y::r):=by
   have:=zE h1 hA fX fX
   rw [mN a3] at this;exact this
  rw [kw _ _ _ (Dv _) h124,show (124:UInt8)::(y.tellN++Rx.tellNA true r)=[124]++(y.tellN++Rx.tellNA true r) from rfl,kw _ [124] _ (Dv _) b1,←e2];have e3:jL x.tellN++(jL [124]++jL (y.tellN++Rx.tellNA true r))=jL x.tellN++[124]::jL (y.tellN++Rx.tellNA true r):=rfl;rw [e3];refine⟨sj a2.1 ?_,BI a2.1 b2.1 fR a2.2 b2.2⟩;intro p hp;rcases DF.1 hp with rfl|hp
  ·exact⟨by simp,by simp⟩
  ·exact b2.1 p hp
theorem qS {k:Int} (h:k=8∨k=9∨k=10∨k=11):mb (rxK k).tellN∧Rd0 (jL (rxK k).tellN) (rxK k):=by
 have ok1:∀l:List Str,(l.all fun p=>decide (p≠[]∧p.length≤1000))=true→okC l:=by
  intro l h p hp;have:=List.all_eq_true.1 h p hp
  simp only [Dp] at this;exact⟨this.1,by omega⟩
 rcases h with rfl|rfl|rfl|rfl
 ·exact⟨show jE 94=false by decide,ok1 [[94]] fU,rfl⟩
 ·exact⟨show jE 36=false by decide,ok1 [[36]] fU,rfl⟩
 ·exact⟨show jE 92=false by decide,ok1 [[92],[98]] fU,rfl⟩
 ·exact⟨show jE 92=false by decide,ok1 [[92],[66]] fU,rfl⟩
theorem tQ:∀{ks:List Rx} {x:Rx},x∈ks→x.tellN.length≤(Rx.tellNL ks).length
 | [],_,h=>by cases h
 | y::r,x,h=>by
  simp only [Rx.tellNL,DE];rcases DF.1 h with rfl|h
  ·omega
  ·have:=tQ h;omega
theorem td:∀{ks:List Rx} {b:Bool} {x:Rx},x∈ks→x.tellN.length≤(Rx.tellNA b ks).length
 | [],_,_,h=>by cases h
 | y::r,b,x,h=>by
  simp only [Rx.tellNA,DE];rcases DF.1 h with rfl|h
  ·omega
  ·have:=td (b:=true) h;omega
theorem yN:∀(N:Nat) (x:Rx),x.parts≤N→x.wf=true→x.deep≤16→x.tellN.length≤100000→mb x.tellN∧Rd0 (jL x.tellN) x∧(repB x.kind=true→At (jL x.tellN) x)
 | 0,x,h,_,_,_=>by have:=Rx.parts_pos x;omega
 | N+1,.mk k c ng rs lo hi lz ks,hp,hw,hd,hl=>by
  obtain⟨hf,hks⟩:=BE hw;simp only [Rx.parts] at hp;have hdk:Rx.deepL ks≤16:=by simp only [Rx.deep] at hd;omega
  have IH:∀y∈ks,y.tellN.length≤100000→mb y.tellN∧Rd0 (jL y.tellN) y∧(repB y.kind=true→At (jL y.tellN) y):=fun y hy hyl=>by
   have:=Rx.parts_mem hy
   have:=wg hy
   exact yN N y fR (sJ hks hy) fR hyl
  have fin:∀{l:List Str} {y:Rx},At l y→(y.kind≠0∧y.kind≠1)→l.length≤100000→Rd0 l y∧(repB y.kind=true→At l y):=fun h1 h2 h3=>⟨h1.rd h2 fR,fun _=>h1⟩
  have hsl:=ns (Rx.mk k c ng rs lo hi lz ks).tellN;rcases uD hf with rfl|rfl|rfl|rfl|rfl|rfl|rfl|rfl|rfl|rfl|rfl|rfl
  ·-- a sequence
   simp only [jT,Du (show ¬(0:Int)=2 by decide),Du (show ¬(0:Int)=4 by decide),Du (show ¬(0:Int)=7 by decide),if_true,Dy,Dp] at hf;obtain⟨⟨hb,hn⟩,ha⟩:=hf;obtain⟨rfl,rfl,rfl,rfl,rfl,rfl⟩:=mD hb;have hT:InvT ks:=fun y hy=>by have:=List.all_eq_true.1 ha y hy;simpa using this
   have e:(Rx.mk 0 [] false [] 0 0 false ks).tellN=Rx.tellNL ks:=by simp only [Rx.tellN,if_true]
   rw [e] at hl ⊢;obtain⟨g1,g2⟩:=vA ks (fun y hy=>by obtain⟨i1,i2,_⟩:=IH y hy (by have:=tQ hy;omega);exact⟨i1,i2,hT y hy⟩) hl;have e2:seqR ks=.mk 0 [] false [] 0 0 false ks:=by
    unfold seqR;rw [lB (fun y hy=>(hT y hy).1)];rcases ks with _|⟨a,_|⟨b,l⟩⟩
    ·rfl
    ·simp at hn
    ·rfl
   rw [e2] at g2;exact⟨g1,g2,fun h=>by cases h⟩
  ·-- alternatives
   simp only [jT,Du (show ¬(1:Int)=2 by decide),Du (show ¬(1:Int)=4 by decide),Du (show ¬(1:Int)=7 by decide),Du (show ¬(1:Int)=0 by decide),if_true,Dy,Dp] at hf;obtain⟨⟨hb,hn⟩,ha⟩:=hf;obtain⟨rfl,rfl,rfl,rfl,rfl,rfl⟩:=mD hb;have hA:InvA ks:=fun y hy=>by have:=List.all_eq_true.1 ha y hy;simpa using this
   rcases ks with _|⟨a,_|⟨b,l⟩⟩
   ·simp at hn
   ·simp at hn
   ·have e:(Rx.mk 1 [] false [] 0 0 false (a::b::l)).tellN=a.tellN++Rx.tellNA true (b::l):=by simp only [Rx.tellN,Du (show ¬(1:Int)=0 by decide),if_true,Rx.tellNA];simp
    have e0:(Rx.tellNA false (a::b::l)).length=(a.tellN++Rx.tellNA true (b::l)).length:=by simp only [Rx.tellNA];simp
    rw [e] at hl ⊢;obtain⟨g1,g2⟩:=vq (b::l) a (fun y hy=>by obtain⟨i1,i2,_⟩:=IH y hy (by have:=td (b:=false) hy;omega);exact⟨i1,i2,hA y hy⟩) hl;have e2:altR (a::b::l)=.mk 1 [] false [] 0 0 false (a::b::l):=by
     unfold altR;rw [lB hA];rfl
    rw [e2] at g2;exact⟨g1,g2,fun h=>by cases h⟩
  ·-- a character
   simp only [jT,if_true,Dy,Dp] at hf;obtain⟨⟨hb,rfl⟩,hc⟩:=hf;obtain⟨_,rfl,rfl,rfl,rfl,rfl⟩:=mD hb;have e:(Rx.mk 2 c false [] 0 0 false []).tellN=escL th1N c:=by simp only [Rx.tellN,Du (show ¬(2:Int)=0 by decide),Du (show ¬(2:Int)=1 by decide),if_true]
   rw [e] at hl hsl ⊢;obtain⟨s1,s2⟩:=sE th1N hc;rw [s1] at hsl ⊢;have hcl:c.length≤1000000:=by
    have:c.length≤(escL th1N c).length+1:=by unfold escL;(repeat' split)<;>simp_all<;>omega
    omega
   exact⟨s2,fin (At.charN hc hcl) ⟨by show (2:Int)≠0;decide,by show (2:Int)≠1;decide⟩ fR⟩
  ·-- any
   simp [jT] at hf
   obtain⟨hb,rfl⟩:=hf;obtain⟨rfl,rfl,rfl,rfl,rfl,rfl⟩:=mD hb;exact⟨show jE 46=false by decide,fin At.any ⟨by show (3:Int)≠0;decide,by show (3:Int)≠1;decide⟩ fU⟩
  ·-- a class
   simp only [jT,Du (show ¬(4:Int)=2 by decide),if_true,Dy,Dp] at hf;obtain⟨⟨hb,rfl⟩,hr⟩:=hf;obtain⟨rfl,_,_,rfl,rfl,rfl⟩:=mD hb;have e:(Rx.mk 4 [] ng rs 0 0 false []).tellN=wB ng rs:=by simp [Rx.tellN]
   rw [e] at hl hsl ⊢;obtain⟨s1,s2⟩:=AZ (ng:=ng) hr;have ho:okC (jL (wB ng rs)):=wK fR;rw [s1] at hsl ho ⊢;exact⟨s2,fin (At.setN hr ho) ⟨by show (4:Int)≠0;decide,by show (4:Int)≠1;decide⟩ fR⟩
  ·-- a group
   simp [jT] at hf
   obtain⟨hb,hn⟩:=hf;obtain⟨rfl,rfl,rfl,rfl,rfl,rfl⟩:=mD hb;rcases ks with _|⟨y,_|⟨b,l⟩⟩
   ·simp at hn
   ·have e:(Rx.mk 5 [] false [] 0 0 false [y]).tellN=opS false++(y.tellN++41::[]):=by simp [Rx.tellN,Rx.tellNL,opS]
    rw [e] at hl hsl ⊢;obtain⟨i1,i2,_⟩:=IH y (DH ..) iB;have s:=s6 false i1 (t:=[]) trivial;rw [s] at hsl ⊢;have hyd:y.deep+1≤16:=by simp [Rx.deep,Rx.deepL] at hd;omega
    have hq:(wrp false (jL y.tellN)).length≤100000:=by
     have:(wrp false (jL y.tellN)).length=(opn false++(jL y.tellN++[41]::jL [])).length:=rfl
     rw [this];omega
    exact⟨show jE 40=false by decide,fin (At.grp i2 false hyd) ⟨by show (5:Int)≠0;decide,by show (5:Int)≠1;decide⟩ hq⟩
   ·simp at hn
  ·-- a bare group
   simp [jT] at hf
   obtain⟨hb,hn⟩:=hf;obtain⟨rfl,rfl,rfl,rfl,rfl,rfl⟩:=mD hb;rcases ks with _|⟨y,_|⟨b,l⟩⟩
   ·simp at hn
   ·have e:(Rx.mk 6 [] false [] 0 0 false [y]).tellN=opS true++(y.tellN++41::[]):=by simp [Rx.tellN,Rx.tellNL,opS]
    rw [e] at hl hsl ⊢;obtain⟨i1,i2,_⟩:=IH y (DH ..) iB;have s:=s6 true i1 (t:=[]) trivial;rw [s] at hsl ⊢;have hyd:y.deep+1≤16:=by simp [Rx.deep,Rx.deepL] at hd;omega
    have hq:(wrp true (jL y.tellN)).length≤100000:=by
     have:(wrp true (jL y.tellN)).length=(opn true++(jL y.tellN++[41]::jL [])).length:=rfl
     rw [this];omega
    exact⟨show jE 40=false by decide,fin (At.grp i2 true hyd) ⟨by show (6:Int)≠0;decide,by show (6:Int)≠1;decide⟩ hq⟩
   ·simp at hn
  ·-- a repeat
   simp only [jT,Du (show ¬(7:Int)=2 by decide),Du (show ¬(7:Int)=4 by decide),if_true,Dy,Dp] at hf;obtain⟨⟨hb,hk⟩,hbd⟩:=hf;obtain⟨rfl,rfl,rfl,_,_,_⟩:=mD hb;rcases ks with _|⟨y,_|⟨b,l⟩⟩
   ·cases hk
   ·have e:(Rx.mk 7 [] false [] lo hi lz [y]).tellN=y.tellN++(oftS lo hi++lzS lz):=by simp [Rx.tellN,Rx.tellNL,lzS]
    rw [e] at hl hsl ⊢;obtain⟨i1,i2,i3⟩:=IH y (DH ..) iB;obtain⟨q1,q2⟩:=Dd lz y hbd;have s:=kw _ y.tellN (oftS lo hi++lzS lz) (Dv _) q2;rw [s] at hsl ⊢;have ho:okC (jL (oftS lo hi++lzS lz)):=wK (by rw [DE] at hl;omega);exact⟨mM i1 q2,(i3 hk).quant ho q1 ⟨by show (7:Int)≠0;decide,by show (7:Int)≠1;decide⟩ fR,fun h=>by cases h⟩
   ·cases hk
  all_goals
   simp [jT] at hf
   obtain⟨hb,rfl⟩:=hf;obtain⟨rfl,rfl,rfl,rfl,rfl,rfl⟩:=mD hb
  ·obtain⟨g1,g2⟩:=qS (k:=8) fU;exact⟨g1,g2,fun h=>by cases h⟩
  ·obtain⟨g1,g2⟩:=qS (k:=9) fU;exact⟨g1,g2,fun h=>by cases h⟩
  ·obtain⟨g1,g2⟩:=qS (k:=10) fU;exact⟨g1,g2,fun h=>by cases h⟩
  ·obtain⟨g1,g2⟩:=qS (k:=11) fU;exact⟨g1,g2,fun h=>by cases h⟩
theorem Ar {x:Rx} (hm:mayB x=true) (hl:x.tellN.length≤256):ql x.tellN=.ok x:=by
 simp only [mayB,okB,Dy,Dp] at hm;obtain⟨g1,g2,_⟩:=yN _ x (Dv _) hm.1.1 fR fR;exact readM_ok.2 ⟨hl,g1,g2.2⟩
def Sp (p q:Str):Prop:=∀z a,rxSp (p++z) a=rxSp z (a++q)
theorem qK:Sp [] []:=fun z a=>by simp
theorem kR {p q p' q':Str} (h:Sp p q) (h':Sp p' q'):Sp (p++p') (q++q'):=fun z a=>by
 rw [D6,h,h',D6]
theorem qM {c:UInt8} (h1:c.toNat≠47) (h2:c.toNat≠92):Sp [c] [c]:=fun z a=>by
 cases z with
 | nil=>simp [rxSp,h1]
 | cons d r=>simp [rxSp,h1,h2]
theorem vu (d:UInt8):Sp [92,d] (if d.toNat=47 then [d] else [92,d]):=fun z a=>by
 show rxSp (92::d::z) a=_
 simp only [rxSp];rw [Du fU,Dr fU];split<;>rfl
theorem rh:∀{p:Str},(∀c∈p,c.toNat≠47∧c.toNat≠92)→Sp p p
 | [],_=>qK
 | c::_,h=>kR (p:=[c]) (q:=[c]) (qM (h c (DH ..)).1 (h c (DH ..)).2) (rh fun d hd=>h d (DI _ hd))
theorem wS {th thN:Str} (h0:∀b:UInt8,th.contains b=(thN.contains b||decide (b.toNat=47))) (h1:thN.contains 47=false) (h2:thN.contains 92=true) {c:Str} (hc:kj c=true):Sp (escL th c) (escL thN c):=by
 cases c with
 | nil=>cases hc
 | cons b r =>
  have hr:∀x∈r,jE x=true:=by
   have:(!jE b&&r.all jE)=true:=hc
   exact List.all_eq_true.1 (Bool.and_eq_true_iff.1 this).2
  have pr:Sp r r:=rh fun x hx=>by
   have:=hr x hx
   simp only [jE,Dp] at this;omega
  unfold escL;iterate 5 (split;· exact vu _)
  by_cases h47:b.toNat=47
  ·have hb:b=47:=Dq.1 h47
   subst hb;have e1:th.contains (List.headD (47::r) 0)=true:=by rw [h0];simp
   have e2:¬thN.contains (List.headD (47::r) 0)=true:=fun e=>by rw [show List.headD (47::r) 0=(47:UInt8) from rfl,h1] at e;cases e
   rw [Dr e1,Du e2];exact kR (vu 47) pr
  ·by_cases hN:thN.contains (List.headD (b::r) 0)=true
   ·have e1:th.contains (List.headD (b::r) 0)=true:=by rw [h0,hN];rfl
    rw [Dr e1,Dr hN];have:=vu b
    rw [Du h47] at this;exact kR this pr
   ·have hN':thN.contains b=false:=Bool.eq_false_iff.2 hN
    have e1:¬th.contains (List.headD (b::r) 0)=true:=fun e=>by rw [show List.headD (b::r) 0=b from rfl,h0,hN',DU h47] at e;cases e
    rw [Du e1,Du hN];refine kR (p:=[b]) (q:=[b]) (qM h47 fun e=>?_) pr;rw [show b=92 from Dq.1 e,h2] at hN';cases hN'
theorem C9 (b:UInt8):th1.contains b=(th1N.contains b||decide (b.toNat=47)):=by
 rw [Bool.eq_iff_iff];simp only [th1,th1N,List.contains_cons,DC,Do,Dp,←Dq,List.contains_nil,DW,or_false];simp;omega
theorem vW (b:UInt8):th2.contains b=(th2N.contains b||decide (b.toNat=47)):=by
 rw [Bool.eq_iff_iff];simp only [th2,th2N,List.contains_cons,DC,Do,Dp,←Dq,List.contains_nil,DW,or_false];simp;omega
theorem sp_row {r:Row} (h:rowB r=true):Sp (rowS r) (rC r):=by
 obtain⟨h1,h2,_⟩:=mF h;unfold rowS rC;refine kR (wS vW fU fU h1) ?_;split
 ·exact qK
 ·exact kR (p:=[45]) (q:=[45]) (qM fU fU) (wS vW fU fU h2)
theorem BL:∀{rs:List Row},(∀r∈rs,rowB r=true)→Sp (rs.flatMap rowS) (rs.flatMap rC)
 | [],_=>qK
 | r::rs,h=>by
  simp only [DD];exact kR (sp_row (h r (DH ..))) (BL fun x hx=>h x (DI _ hx))
theorem sp_set {ng:Bool} {rs:List Row} (h:ox rs=true):Sp (setS ng rs) (wB ng rs):=by
 unfold setS wB;refine kR (p:=[91]) (q:=[91]) (qM fU fU) (kR ?_ (kR (BL (oF h)) (qM fU fU)));split
 ·exact qM fU fU
 ·exact qK
theorem yp (n:Int):Sp (dec n) (dec n):=rh fun c hc=>by
 have h1:isD c:=(decD n.toNat).1 c hc;unfold isD at h1;omega
theorem sp_oft (lo hi:Int):Sp (oftS lo hi) (oftS lo hi):=by
 have o:∀c:UInt8,c.toNat≠47∧c.toNat≠92→Sp [c] [c]:=fun c h=>qM h.1 h.2
 unfold oftS;split;· exact o _ fU
 split;· exact o _ fU
 split;· exact o _ fU
 split;· exact kR (o 123 fU) (kR (yp _) (o 125 fU))
 split;· exact kR (o 123 fU) (kR (yp _) (kR (p:=[44]) (q:=[44]) (o 44 fU) (o 125 fU)))
 exact kR (o 123 fU) (kR (yp _) (kR (p:=[44]) (q:=[44]) (o 44 fU) (kR (yp _) (o 125 fU))))
theorem Bj:∀(N:Nat) (x:Rx),x.parts≤N→x.wf=true→Sp x.tell x.tellN
 | 0,x,h,_=>by have:=Rx.parts_pos x;omega
 | N+1,.mk k c ng rs lo hi lz ks,hp,hw=>by
  have o:∀c:UInt8,c.toNat≠47∧c.toNat≠92→Sp [c] [c]:=fun c h=>qM h.1 h.2
  obtain⟨hf,hks⟩:=BE hw;simp only [Rx.parts] at hp;have IH:∀y∈ks,Sp y.tell y.tellN:=fun y hy=>by
   have:=Rx.parts_mem hy
   exact Bj N y fR (sJ hks hy)
  have L:∀l:List Rx,(∀y∈l,Sp y.tell y.tellN)→Sp (Rx.tellL l) (Rx.tellNL l):=by
   intro l;induction l with
   | nil=>intro _;simp only [Rx.tellL,Rx.tellNL];exact qK
   | cons y l ih =>
    intro h;simp only [Rx.tellL,Rx.tellNL];exact kR (h y (DH ..)) (ih fun z hz=>h z (DI _ hz))
  have A:∀(l:List Rx) (b:Bool),(∀y∈l,Sp y.tell y.tellN)→Sp (Rx.tellA b l) (Rx.tellNA b l):=by
   intro l;induction l with
   | nil=>intro _ _;simp only [Rx.tellA,Rx.tellNA];exact qK
   | cons y l ih =>
    intro b h;simp only [Rx.tellA,Rx.tellNA];refine kR ?_ (kR (h y (DH ..)) (ih true fun z hz=>h z (DI _ hz)));split
    ·exact o _ fU
    ·exact qK
  have lL:=L ks IH;rw [Rx.tell,Rx.tellN];by_cases k0:k=0
  ·rw [Dr k0,Dr k0];exact lL
  rw [Du k0,Du k0];by_cases k1:k=1
  ·rw [Dr k1,Dr k1];exact A ks false IH
  rw [Du k1,Du k1];by_cases k2:k=2
  ·rw [Dr k2,Dr k2]
   subst k2;simp only [jT,if_true,Dy,Dp] at hf;exact wS C9 fU fU hf.2
  rw [Du k2,Du k2];by_cases k3:k=3
  ·rw [Dr k3,Dr k3];exact o _ fU
  rw [Du k3,Du k3];by_cases k8:k=8
  ·rw [Dr k8,Dr k8];exact o _ fU
  rw [Du k8,Du k8];by_cases k9:k=9
  ·rw [Dr k9,Dr k9];exact o _ fU
  rw [Du k9,Du k9];by_cases k10:k=10
  ·rw [Dr k10,Dr k10];have:=vu 98;rwa [Du fU] at this
  rw [Du k10,Du k10];by_cases k11:k=11
  ·rw [Dr k11,Dr k11];have:=vu 66;rwa [Du fU] at this
  rw [Du k11,Du k11];by_cases k4:k=4
  ·rw [Dr k4,Dr k4]
   subst k4;simp only [jT,Du (show ¬(4:Int)=2 by decide),if_true,Dy,Dp] at hf;exact sp_set hf.2
  rw [Du k4,Du k4];by_cases k5:k=5
  ·rw [Dr k5,Dr k5];exact kR (p:=[40]) (q:=[40]) (o 40 fU) (kR lL (o 41 fU))
  rw [Du k5,Du k5];by_cases k6:k=6
  ·rw [Dr k6,Dr k6];exact kR (p:=[40,63,58]) (q:=[40,63,58]) (rh fU) (kR lL (o 41 fU))
  rw [Du k6,Du k6];refine kR lL (kR (sp_oft _ _) ?_);split
  ·exact o _ fU
  ·exact qK
theorem rU:∀(r a:Str),(rxSp r a).1.length≤a.length+r.length
 | [],a=>by simp [rxSp]
 | [c],a=>by simp only [rxSp];split<;>simp
 | c::d::r,a=>by
  simp only [rxSp];split
  ·simp
  ·split
   ·have:=rU r (if d.toNat=47 then a++[d] else a++[92,d])
    have e:(if d.toNat=47 then a++[d] else a++[92,d]).length≤a.length+2:=by split<;>simp
    simp only [Dx];omega
   ·have:=rU (d::r) (a++[c])
    simp only [DE,Dx,DP] at this ⊢;omega
theorem Sp.len {p q:Str} (h:Sp p q):q.length≤p.length:=by
 have h1:=h [] [];have h2:=rU (p++[]) [];rw [h1] at h2;simpa [rxSp] using h2
theorem sp_slash {p q:Str} (h:Sp p q) (z:Str):rxSp (p++47::z) []=(q,47::z):=by
 rw [h];cases z with
 | nil=>simp [rxSp]
 | cons d r=>simp [rxSp]
theorem BY (f:Tf) (r:Str):xo f.rx f.fs (yd f++125::r)=some (f,r):=by
 obtain⟨x,fs,fd,al⟩:=f;unfold xo yd;have e:∀l:Str,(∀c∈l,lg c=true)→(l++125::r).takeWhile lg=l∧(l++125::r).dropWhile lg=125::r:=fun l h=>zt h r
 cases al<;>cases fd
 ·obtain⟨a,b⟩:=e [] fU;simp only [DW,if_false,D8];rw [a,b];rfl
 ·obtain⟨a,b⟩:=e [105] fU;simp only [DW,if_false,if_true,D4];rw [a,b];rfl
 ·obtain⟨a,b⟩:=e [103] fU;simp only [DW,if_false,if_true,D8];rw [a,b];rfl
 ·obtain⟨a,b⟩:=e [103,105] fU;simp only [if_true,D5,D4] at a b ⊢;rw [a,b];rfl
theorem BS {f:Tf} (hm:mP f=true) (hl:f.rx.tell.length≤256) (r:Str):pS (oD f++125::r)=some (f,r):=by
 unfold mP at hm;rw [Dy] at hm;have hw:=hm.1;unfold mayB okB at hw;simp only [Dy,Dp] at hw;have hsp:=Bj _ f.rx (Dv _) hw.1.1;have e:oD f++125::r=47::(f.rx.tell++47::(lQ f.fs++47::(yd f++125::r))):=by unfold oD;simp
 have h2:=sL (yd f++125::r) f.fs [] false [] hm.2 (fun _=>rfl);rw [e];simp only [pS];rw [Dr fU,sp_slash hsp];simp only [Ar hm.1 (Dz hsp.len hl)];rw [h2];simp only [l7,if_true,D4];exact BY f r
namespace Sn
end Sn
end Go.Proofs.YtjggmmaojklmpaaGreatDoor
