/- The plain law of the sort: swaps, turns. · The plain law of the sort: the order of rows; what a search finds. · The plain law of the sort: symM puts two sorted rows together. · The plain law of the sort: symM, whole. · The plain law of the sort, whole: what SortStableFunc leaves is sorted and a permutation. -/
import Derived.Test.YtbnkaecmgfolpaaGreatHb10
set_option maxRecDepth 100000
namespace Go.Proofs.YtbnkaecmgfolpaaGreat
theorem o0 (P:List Row) (x:Row) (S:List Row):(P++x::S)[P.length]?=some x:=by
 rw [Aa (zP _),Nat.sub_self];rfl
theorem xD (P:List Row) (x y:Row) (S:List Row):(P++x::S).set P.length y=P++y::S:=by
 rw [List.set_append_right _ _ (zP _),Nat.sub_self];rfl
theorem nZ (P Q S:List Row) (x y:Row) (i j:Nat) (hi:i=P.length) (hj:j=P.length+1+Q.length):kO (P++x::(Q++y::S)) i j=P++y::(Q++x::S):=by
 subst hi hj;have h2:P++x::(Q++y::S)=(P++x::Q)++y::S:=fq;have hl:(P++x::Q).length=P.length+1+Q.length:=by simp;omega
 have g1:(P++x::(Q++y::S))[P.length]?=some x:=o0 _ _ _;have g2:(P++x::(Q++y::S))[P.length+1+Q.length]?=some y:=by rw [h2,←hl];exact o0 _ _ _
 rw [vw g1 g2,xD];have h3:P++y::(Q++y::S)=(P++y::Q)++y::S:=fq;have hl2:(P++y::Q).length=P.length+1+Q.length:=by simp;omega
 rw [h3,←hl2,xD];simp
theorem qf {rs:List Row} {i j:Nat} (h:i≠j):kO rs i j=kO rs j i:=by
 unfold kO;cases h1:rs[i]? with
 | none=>cases h2:rs[j]?<;>rfl
 | some x =>
  cases h2:rs[j]? with
  | none=>rfl
  | some y=>exact List.set_comm _ _ h
theorem tA (a b:Nat):∀(X Y P Q S:List Row) (i:Nat),X.length=Y.length→a+i=P.length→b+i=P.length+X.length+Q.length →
  (List.range' i X.length).foldl (fun l k=>kO l (a+k) (b+k)) (P++(X++(Q++(Y++S))))=P++(Y++(Q++(X++S)))
 | [],[],P,Q,S,i,_,_,_=>by simp
 | [],_::_,_,_,_,_,h,_,_=>by simp at h
 | _::_,[],_,_,_,_,h,_,_=>by simp at h
 | x::X,y::Y,P,Q,S,i,hl,ha,hb=>by
  simp only [zW] at hl hb;rw [zW,List.range'_succ,Au];have h1:P++(x::X++(Q++(y::Y++S)))=P++x::((X++Q)++y::(Y++S)):=fq;rw [h1,nZ P (X++Q) (Y++S) x y (a+i) (b+i) ha gj];have h2:P++y::((X++Q)++x::(Y++S))=(P++[y])++(X++((Q++[x])++(Y++S))):=fq;rw [h2,tA a b X Y (P++[y]) (Q++[x]) S (i+1) fg fr fr];simp
theorem qC (X Y P Q S:List Row) (a b n:Nat) (hl:X.length=Y.length) (ha:a=P.length) (hb:b=P.length+X.length+Q.length) (hn:n=X.length) :
  pV (P++(X++(Q++(Y++S)))) a b n=P++(Y++(Q++(X++S))):=by
 subst hn;exact tA a b X Y P Q S 0 hl fg fg
theorem mm (l:List Row) {n:Nat} (h:n≤l.length):∃a b,l=a++b∧a.length=n∧b.length=l.length-n :=
 ⟨l.take n,l.drop n,(List.take_append_drop n l).symm,by rw [Ac];omega,by rw [Aw]⟩
theorem rK:∀(k:Nat) (P A B S:List Row) (m i j:Nat),m=P.length+A.length→i=A.length→j=B.length→0<i→0<j→i+j≤k →
  rotL k (P++(A++(B++S))) m i j=P++(B++(A++S))
 | 0,P,A,B,S,m,i,j,_,_,_,h1,_,h=>by omega
 | k+1,P,A,B,S,m,i,j,hm,hi,hj,h1,h2,hk=>by
  simp only [rotL];by_cases hij:i=j
  ·rw [zL hij]
   have:=qC A B P [] S (m-i) m i fg fg fr hi
   simpa using this
  ·rw [zO hij]
   by_cases hlt:j<i
   ·rw [zL hlt]
    obtain⟨A1,A2,rfl,l1,l2⟩:=mm A (n:=j) fg;rw [zX] at hm hi;have e1:P++(A1++A2++(B++S))=P++(A1++(A2++(B++S))):=fq;rw [e1,qC A1 B P A2 S (m-i) m j fg fg fg l1.symm];have e2:P++(B++(A2++(A1++S)))=(P++B)++(A2++(A1++S)):=fq;rw [e2,rK k (P++B) A2 A1 S m (i-j) j fr fg fg fg h2 fg];simp
   ·rw [zO hlt]
    obtain⟨B1,B2,rfl,l1,l2⟩:=mm B (n:=j-i) fg;rw [zX] at hj l2;have e1:P++(A++(B1++B2++S))=P++(A++(B1++(B2++S))):=fq;rw [e1,qC A B2 P B1 S (m-i) (m+j-i) i fg fg fg hi];have e2:P++(B2++(B1++(A++S)))=P++(B2++(B1++(A++S))):=rfl;rw [rK k P B2 B1 (A++S) m i (j-i) fg fg fg h1 fg fg];simp
theorem uU (x:Row):∀(B P S:List Row) (a n:Nat),a=P.length→n=B.length→upSw (P++x::(B++S)) a n=P++(B++x::S)
 | [],P,S,a,n,_,hn=>by simp at hn;subst hn;simp [upSw]
 | b::B,P,S,a,n,ha,hn=>by
  subst hn;have ih:=uU x B (P++[b]) S (a+1) B.length fr rfl;unfold upSw at ih ⊢;rw [zW,List.range'_succ,Au];have h1:=nZ P [] (B++S) x b a (a+1) ha fr;rw [Ax,Ax] at h1;rw [show P++x::(b::B++S)=P++x::b::(B++S) by simp,h1];simpa using ih
theorem uZ (x:Row):∀(n:Nat) (B P S:List Row) (m:Nat),n=B.length→m=P.length+B.length→dnSw n (P++(B++x::S)) m=P++x::(B++S)
 | 0,B,P,S,m,hn,_=>by
  have hB:B=[]:=zM hn.symm;subst hB;simp [dnSw]
 | n+1,B,P,S,m,hn,hm=>by
  have hne:B≠[]:=by rintro rfl;simp at hn
  obtain⟨C,b,rfl⟩:∃C b,B=C++[b]:=⟨B.dropLast,B.getLast hne,(List.dropLast_concat_getLast hne).symm⟩;simp only [zX,zW,zY] at hn hm;simp only [dnSw];have h1:=nZ (P++C) [] S b x (m-1) m fr fr;rw [Ax,Ax] at h1;rw [qf fg,show P++(C++[b]++x::S)=P++C++b::x::S by simp,h1];have ih:=uZ x n C P (b::S) (m-1) fg fg;rw [show P++C++x::b::S=P++(C++x::b::S) by simp,ih];simp
theorem r7 {a b:Row}:cmpR a b<0↔Op.bytesLess a.1 b.1=true∨(a.1=b.1∧Op.bytesLess a.2 b.2=true):=by
 unfold cmpR;rcases oX a.1 b.1 with⟨h1,h2⟩|⟨h1,h2⟩|⟨h1,h2⟩
 ·rw [h1];simp [h2]
 ·rw [h1,zL rfl]
  have hn:Op.bytesLess a.1 b.1=false:=by rw [h2];exact jK _
  rcases oX a.2 b.2 with⟨g1,g2⟩|⟨g1,g2⟩|⟨g1,g2⟩
  ·rw [g1];simp [h2,g2]
  ·rw [g1];simp [hn,g2,jK]
  ·rw [g1];simp [hn,nl g2]
 ·rw [h1,zO fo]
  have hn:=nl h2;have hne:a.1≠b.1:=by intro e;rw [e,jK] at h2;cases h2
  simp [hn,hne]
def ltR (a b:Row):Prop:=cmpR a b<0
def leR (a b:Row):Prop:=¬ltR b a
instance (a b:Row):Decidable (ltR a b):=inferInstanceAs (Decidable (_<_))
theorem ru (a:Row):¬ltR a a:=by unfold ltR;rw [r7];simp [jK]
theorem pX {a b c:Row} (h1:ltR a b) (h2:ltR b c):ltR a c:=by
 unfold ltR at *;rw [r7] at *;rcases h1 with h1|⟨e1,h1⟩<;>rcases h2 with h2|⟨e2,h2⟩
 ·exact .inl (lR h1 h2)
 ·exact .inl (e2▸h1)
 ·exact .inl (e1▸h2)
 ·exact .inr ⟨e1.trans e2,lR h1 h2⟩
theorem qk (a b:Row):ltR a b∨a=b∨ltR b a:=by
 unfold ltR;rw [r7,r7];obtain⟨a1,a2⟩:=a;obtain⟨b1,b2⟩:=b;rcases lZ a1 b1 with h|rfl|h
 ·exact .inl (.inl h)
 ·rcases lZ a2 b2 with h|rfl|h
  ·exact .inl (.inr ⟨rfl,h⟩)
  ·exact .inr (.inl rfl)
  ·exact .inr (.inr (.inr ⟨rfl,h⟩))
 ·exact .inr (.inr (.inl h))
theorem vp (a:Row):leR a a:=ru a
theorem nV {a b:Row} (h:ltR a b):leR a b:=fun h2=>ru a (pX h h2)
theorem kR {a b c:Row} (h1:leR a b) (h2:leR b c):leR a c:=fun h=>by
 rcases qk b a with h3|rfl|h3
 ·exact h1 h3
 ·exact h2 h
 ·exact h2 (pX h h3)
theorem tg (a b:Row):leR a b∨leR b a:=by
 rcases qk a b with h|rfl|h
 ·exact .inl (nV h)
 ·exact .inl (vp a)
 ·exact .inr (nV h)
abbrev Srt (l:List Row):Prop:=l.Pairwise leR
theorem mS {l:List Row} (h:Srt l) {i j:Nat} {x y:Row} (hij:i≤j) (hi:l[i]?=some x) (hj:l[j]?=some y):leR x y:=by
 rcases Nat.eq_or_lt_of_le hij with rfl|hlt
 ·rw [hi] at hj;injection hj with hj;subst hj;exact vp _
 ·obtain⟨hi',rfl⟩:=zQ.1 hi
  obtain⟨hj',rfl⟩:=zQ.1 hj;exact List.pairwise_iff_getElem.1 h i j hi' hj' hlt
theorem pY (p:Nat→Bool):∀(k i j:Nat),i≤j→j-i≤k→(∀x y,i≤x→x≤y→y<j→p y=true→p x=true) →
  (∀x,i≤x→x<bs p k i j→p x=true)∧(∀x,bs p k i j≤x→x<j→p x=false)
 | 0,i,j,h,hk,_=>by
  simp only [bs];exact⟨fun x h1 h2=>by omega,fun x h1 h2=>by omega⟩
 | k+1,i,j,h,hk,hm=>by
  simp only [bs];by_cases hlt:i<j
  ·rw [zL hlt]
   generalize hH:(i+j) / 2=H
   have hHb:i≤H∧H<j:=fg;cases hp:p H with
   | true =>
    rw [zL rfl];obtain⟨g1,g2⟩:=pY p k (H+1) j fg fg (fun x y a b c d=>hm x y fg b c d);refine⟨fun x h1 h2=>?_,g2⟩;by_cases hx:x≤H
    ·exact hm x H h1 hx hHb.2 hp
    ·exact g1 x fg h2
   | false =>
    rw [zO fq];obtain⟨g1,g2⟩:=pY p k i H hHb.1 fg (fun x y a b c d=>hm x y a b fg d);have hbd:=sg p k i H hHb.1;refine⟨g1,fun x h1 h2=>?_⟩;by_cases hx:x<H
    ·exact g2 x h1 hx
    ·cases hq:p x with
     | false=>rfl
     | true=>rw [hm H x hHb.1 fg h2 hq] at hp;cases hp
  ·rw [zO hlt]
   exact⟨fun x h1 h2=>by omega,fun x h1 h2=>by omega⟩
theorem sC (P B S:List Row) {t:Nat} (h:t<B.length):(P++(B++S))[P.length+t]?=B[t]?:=by
 rw [Aa fg,Nat.add_sub_cancel_left,zZ h]
theorem srt_app {l r:List Row}:Srt (l++r)↔Srt l∧Srt r∧∀x∈l,∀y∈r,leR x y:=List.pairwise_append
theorem sn {rs:List Row} {i j:Nat} {x y:Row} (h1:rs[i]?=some x) (h2:rs[j]?=some y):ltAt rs i j=true↔ltR x y:=by
 rw [sN h1 h2,zJ];rfl
theorem sym_one (P B S:List Row) (x:Row) (a b:Nat) (ha:a=P.length) (hb:b=a+1+B.length) (hs:Srt B) :
  ∃M,upSw (P++([x]++(B++S))) a (bs (fun h=>ltAt (P++([x]++(B++S))) h a) b (a+1) b-1-a)=P++(M++S)∧M.Perm ([x]++B)∧Srt M:=by
 obtain⟨rs,hrs⟩:∃rs,P++([x]++(B++S))=rs:=⟨_,rfl⟩;rw [hrs];have hx:rs[a]?=some x:=by rw [←hrs,ha];exact o0 _ _ _
 have hget:∀t,t<B.length→rs[a+1+t]?=B[t]?:=fun t ht=>by
  rw [←hrs,show P++([x]++(B++S))=(P++[x])++(B++S) by simp];have:=sC (P++[x]) B S ht
  rw [←this,zX];simp [ha]
 have hval:∀t,t<B.length→∃y,B[t]?=some y:=fun t ht=>⟨_,zN ht⟩
 have hp:∀t y,B[t]?=some y→(ltAt rs (a+1+t) a=true↔ltR y x):=fun t y hy=>by
  have ht:=(zQ.1 hy).1;exact sn (by rw [hget t ht];exact hy) hx
 have hbd:=sg (fun h=>ltAt rs h a) b (a+1) b fg;obtain⟨g1,g2⟩:=pY (fun h=>ltAt rs h a) b (a+1) b fg fg (fun u v h1 h2 h3 h4=>by
  obtain⟨yu,hu⟩:=hval (u-(a+1)) fg;obtain⟨yv,hv⟩:=hval (v-(a+1)) fg;have q1:=hp _ _ hu;have q2:=hp _ _ hv;rw [show a+1+(u-(a+1))=u by omega] at q1;rw [show a+1+(v-(a+1))=v by omega] at q2;rw [q1];have hle:=mS hs (by omega:u-(a+1)≤v-(a+1)) hu hv;have hlt:=q2.1 h4;rcases qk yu x with h|h|h
  ·exact h
  ·rw [h] at hle;exact absurd hlt hle
  ·exact absurd (pX hlt h) hle)
 generalize bs (fun h=>ltAt rs h a) b (a+1) b=s at *
 obtain⟨B1,B2,rfl,l1,l2⟩:=mm B (n:=s-1-a) fg;rw [zX] at hb hval hget;refine⟨B1++x::B2,?_,?_,?_⟩
 ·rw [←hrs]
  have:=uU x B1 P (B2++S) a (s-1-a) ha l1.symm
  simpa using this
 ·simp
 ·obtain⟨h1,h2,h3⟩:=srt_app.1 hs
  have k1:∀y∈B1,leR y x:=fun y hy=>by
   obtain⟨t,ht⟩:=List.getElem?_of_mem hy;have htl:=(zQ.1 ht).1;exact nV ((hp t y (by rw [zZ htl];exact ht)).1 (g1 _ fg fg))
  have k2:∀y∈B2,leR x y:=fun y hy=>by
   obtain⟨t,ht⟩:=List.getElem?_of_mem hy;have htl:=(zQ.1 ht).1;intro hlt;have:=(hp (B1.length+t) y (by rw [Aa fg,Nat.add_sub_cancel_left];exact ht)).2 hlt
   rw [g2 _ fg fg] at this;cases this
  exact cQ
theorem sym_last (P A S:List Row) (x:Row) (a m:Nat) (ha:a=P.length) (hm:m=a+A.length) (hs:Srt A) :
  ∃M,dnSw (m-bs (fun h=>!ltAt (P++(A++([x]++S))) m h) m a m) (P++(A++([x]++S))) m=P++(M++S)∧M.Perm (A++[x])∧Srt M:=by
 obtain⟨rs,hrs⟩:∃rs,P++(A++([x]++S))=rs:=⟨_,rfl⟩;rw [hrs];have hx:rs[m]?=some x:=by
  rw [←hrs,show P++(A++([x]++S))=(P++A)++x::S by simp,show m=(P++A).length by simp;omega];exact o0 _ _ _
 have hget:∀t,t<A.length→rs[a+t]?=A[t]?:=fun t ht=>by rw [←hrs,ha];exact sC P A _ ht
 have hval:∀t,t<A.length→∃y,A[t]?=some y:=fun t ht=>⟨_,zN ht⟩
 have hp:∀t y,A[t]?=some y→((!ltAt rs m (a+t))=true↔leR y x):=fun t y hy=>by
  have ht:=(zQ.1 hy).1;have:=sn hx (show rs[a+t]?=some y by rw [hget t ht];exact hy)
  unfold leR;rw [←this];simp
 have hbd:=sg (fun h=>!ltAt rs m h) m a m fg;obtain⟨g1,g2⟩:=pY (fun h=>!ltAt rs m h) m a m fg fg (fun u v h1 h2 h3 h4=>by
  obtain⟨yu,hu⟩:=hval (u-a) fg;obtain⟨yv,hv⟩:=hval (v-a) fg;have q1:=hp _ _ hu;have q2:=hp _ _ hv;rw [show a+(u-a)=u by omega] at q1;rw [show a+(v-a)=v by omega] at q2;rw [q1];exact kR (mS hs (by omega:u-a≤v-a) hu hv) (q2.1 h4))
 generalize bs (fun h=>!ltAt rs m h) m a m=s at *
 obtain⟨A1,A2,rfl,l1,l2⟩:=mm A (n:=s-a) fg;rw [zX] at hm hval hget l2;refine⟨A1++x::A2,?_,?_,?_⟩
 ·rw [←hrs]
  have:=uZ x (m-s) A2 (P++A1) S m fg fr
  simpa using this
 ·have:=List.perm_middle (l₁:=A1) (l₂:=A2) (a:=x)
  exact this.trans ((List.perm_append_singleton x (A1++A2)).symm)
 ·obtain⟨h1,h2,h3⟩:=srt_app.1 hs
  have k1:∀y∈A1,leR y x:=fun y hy=>by
   obtain⟨t,ht⟩:=List.getElem?_of_mem hy;have htl:=(zQ.1 ht).1;exact(hp t y (by rw [zZ htl];exact ht)).1 (g1 _ fg fg)
  have k2:∀y∈A2,leR x y:=fun y hy=>by
   obtain⟨t,ht⟩:=List.getElem?_of_mem hy;have htl:=(zQ.1 ht).1;have hb:=g2 (a+(A1.length+t)) fg fg;have hq:=hp (A1.length+t) y (by rw [Aa fg,Nat.add_sub_cancel_left];exact ht);rw [hb] at hq;exact(tg x y).resolve_right (fun h=>by have:=hq.2 h;cases this)
  exact cQ
theorem kz {l:List Row} (h:l.length=0):l=[]:=zM h
theorem mD:∀(f:Nat) (P A B S:List Row) (a m b:Nat),a=P.length→m=a+A.length→b=m+B.length→0<A.length→0<B.length→A.length+B.length≤f→Srt A→Srt B →
  ∃M,symM f (P++(A++(B++S))) a m b=P++(M++S)∧M.Perm (A++B)∧Srt M
 | 0,P,A,B,S,a,m,b,_,_,_,h1,h2,h,_,_=>by omega
 | f+1,P,A,B,S,a,m,b,ha,hm,hb,h1,h2,hf,hA,hB=>by
  by_cases c1:m=a+1
  ·match A,hm,hA with
   | [x],hm,_ =>
    subst c1;rw [vA];exact sym_one P B S x a b ha hb hB
   | [],hm,_=>simp at h1
   | _::_::_,hm,_=>simp at hm;omega
  by_cases c2:b=m+1
  ·match B,hb,hB with
   | [x],hb,_ =>
    subst c2;rw [tU c1];exact sym_last P A S x a m ha hm hA
   | [],hb,_=>simp at h2
   | _::_::_,hb,_=>simp at hb;omega
  rw [vP c1 c2];obtain⟨rs,hrs⟩:∃rs,P++(A++(B++S))=rs:=⟨_,rfl⟩;rw [hrs];obtain⟨Mi,hMi⟩:∃M,(a+b) / 2=M:=⟨_,rfl⟩;obtain⟨LO,hLO⟩:∃LO,sLo a m b=LO:=⟨_,rfl⟩;obtain⟨HI,hHI⟩:∃HI,sHi a m b=HI:=⟨_,rfl⟩;rw [hMi,hLO,hHI];have hlohi:a≤LO∧LO≤HI∧HI≤Mi∧HI≤m∧Mi+m≤LO+b∧(LO=a∨LO=Mi+m-b)∧(HI=m∨HI=Mi):=by
   unfold sLo at hLO;unfold sHi at hHI;rw [hMi] at hLO hHI;by_cases hc:Mi<m
   ·rw [zL hc] at hLO hHI;omega
   ·rw [zO hc] at hLO hHI;omega
  obtain⟨q1,q2,q3,q4,q5,q6,q7⟩:=hlohi;have gA:∀c,a≤c→c<m→∃x,A[c-a]?=some x∧rs[c]?=some x:=fun c u v=>by
   obtain⟨x,hx⟩:∃x,A[c-a]?=some x:=⟨_,zN fg⟩;refine⟨x,hx,?_⟩;rw [←hrs,←hx];have:=sC P A (B++S) (t:=c-a) fg
   rw [show P.length+(c-a)=c by omega] at this;exact this
  have gB:∀c,m≤c→c<b→∃x,B[c-m]?=some x∧rs[c]?=some x:=fun c u v=>by
   obtain⟨x,hx⟩:∃x,B[c-m]?=some x:=⟨_,zN fg⟩;refine⟨x,hx,?_⟩;rw [←hrs,←hx,show P++(A++(B++S))=(P++A)++(B++S) by simp];have:=sC (P++A) B S (t:=c-m) fg
   rw [show (P++A).length+(c-m)=c by simp;omega] at this;exact this
  have hp:∀c x y,LO≤c→c<HI→A[c-a]?=some x→B[Mi+m-1-c-m]?=some y→((!ltAt rs (Mi+m-1-c) c)=true↔leR x y):=fun c x y u v hx hy=>by
   obtain⟨x',hx1,hx2⟩:=gA c fg fg;obtain⟨y',hy1,hy2⟩:=gB (Mi+m-1-c) fg fg;obtain rfl:=Option.some.inj (hx.symm.trans hx1);obtain rfl:=Option.some.inj (hy.symm.trans hy1);have:=sn hy2 hx2
   unfold leR;rw [←this];simp
  have hbd:=sg (fun c=>!ltAt rs (Mi+m-1-c) c) b LO HI q2;obtain⟨g1,g2⟩:=pY (fun c=>!ltAt rs (Mi+m-1-c) c) b LO HI q2 fg (fun u v k1 k2 k3 k4=>by
   obtain⟨xu,hxu,_⟩:=gA u fg fg;obtain⟨xv,hxv,_⟩:=gA v fg fg;obtain⟨yu,hyu,_⟩:=gB (Mi+m-1-u) fg fg;obtain⟨yv,hyv,_⟩:=gB (Mi+m-1-v) fg fg;rw [hp u xu yu k1 fg hxu hyu];have:=(hp v xv yv fg k3 hxv hyv).1 k4
   exact kR (kR (mS hA fg hxu hxv) this) (mS hB fg hyv hyu))
  generalize bs (fun c=>!ltAt rs (Mi+m-1-c) c) b LO HI=s at *
  obtain⟨E,hE⟩:∃E,Mi+m-s=E:=⟨_,rfl⟩;rw [hE];obtain⟨A1,A2,rfl,l1,l2⟩:=mm A (n:=s-a) fg;obtain⟨B1,B2,rfl,l3,l4⟩:=mm B (n:=E-m) fg;simp only [zX] at hm hb h1 h2 hf l2 l4;obtain⟨sA1,sA2,sA⟩:=srt_app.1 hA;obtain⟨sB1,sB2,sB⟩:=srt_app.1 hB;have hcross:∀x∈A1++B1,∀y∈A2++B2,leR x y:=by
   intro x hx y hy;rcases Aq.1 hx with hx|hx<;>rcases Aq.1 hy with hy|hy
   ·exact sA x hx y hy
   ·obtain⟨t,ht⟩:=List.getElem?_of_mem hx
    obtain⟨v,hv⟩:=List.getElem?_of_mem hy;have htl:=(zQ.1 ht).1;have hvl:=(zQ.1 hv).1;have hLs:LO<s:=fg;obtain⟨x',hx1,_⟩:=gA (s-1) fg fg;obtain⟨y',hy1,_⟩:=gB (Mi+m-1-(s-1)) fg fg;have:=(hp (s-1) x' y' fg fg hx1 hy1).1 (g1 (s-1) fg fg)
    exact kR (kR (mS hA (show t≤s-1-a by omega) (by rw [zZ htl];exact ht) hx1) this)
     (mS hB (show Mi+m-1-(s-1)-m≤B1.length+v by omega) hy1 (by rw [Aa fg,Nat.add_sub_cancel_left];exact hv))
   ·obtain⟨t,ht⟩:=List.getElem?_of_mem hx
    obtain⟨v,hv⟩:=List.getElem?_of_mem hy;have htl:=(zQ.1 ht).1;have hvl:=(zQ.1 hv).1;have hsH:s<HI:=fg;obtain⟨x',hx1,_⟩:=gA s fg fg;obtain⟨y',hy1,_⟩:=gB (Mi+m-1-s) fg fg;have hn:=g2 s (zP _) hsH;have hq:=hp s x' y' hbd.1 hsH hx1 hy1;have hle:leR y' x':=(tg x' y').resolve_left (fun h=>by have:=hq.2 h;rw [hn] at this;cases this);exact kR (kR (mS hB (show t≤Mi+m-1-s-m by omega) (by rw [zZ htl];exact ht) hy1) hle)
     (mS hA (show s-a≤A1.length+v by omega) hx1 (by rw [Aa fg,Nat.add_sub_cancel_left];exact hv))
   ·exact sB x hx y hy
  have hr1:(if s<m∧m<E then rotL (E-s) rs m (m-s) (E-m) else rs)=P++(A1++(B1++(A2++(B2++S)))):=by
   by_cases hc:s<m∧m<E
   ·rw [zL hc,←hrs]
    have:=rK (E-s) (P++A1) A2 B1 (B2++S) m (m-s) (E-m) fr fg fg fg fg fg
    simpa using this
   ·rw [zO hc,←hrs]
    by_cases hs:s<m
    ·have:B1=[]:=kz fg
     subst this;simp
    ·have:A2=[]:=kz fg
     subst this;simp
  rw [hr1];have hr2:∃M1,(if a<s∧s<Mi then symM f (P++(A1++(B1++(A2++(B2++S))))) a s Mi else P++(A1++(B1++(A2++(B2++S)))))=P++(M1++(A2++(B2++S)))∧M1.Perm (A1++B1)∧Srt M1:=by
   by_cases hc:a<s∧s<Mi
   ·rw [zL hc]
    exact mD f P A1 B1 (A2++(B2++S)) a s Mi ha fg fg fg fg fg sA1 sB1
   ·rw [zO hc]
    by_cases hs:a<s
    ·have:B1=[]:=kz fg
     subst this;exact⟨A1,by simp,by simp,sA1⟩
    ·have:A1=[]:=kz fg
     subst this;exact⟨B1,by simp,by simp,sB1⟩
  obtain⟨M1,e1,p1,s1⟩:=hr2;unfold symT;rw [e1];have hl1:M1.length=Mi-a:=by rw [p1.length_eq,zX];omega
  have hr3:∃M2,(if Mi<E∧E<b then symM f (P++(M1++(A2++(B2++S)))) Mi E b else P++(M1++(A2++(B2++S))))=P++(M1++(M2++S))∧M2.Perm (A2++B2)∧Srt M2:=by
   by_cases hc:Mi<E∧E<b
   ·rw [zL hc]
    obtain⟨M2,e2,p2,s2⟩:=mD f (P++M1) A2 B2 S Mi E b fr fg fg fg fg fg sA2 sB2;exact⟨M2,by simpa using e2,p2,s2⟩
   ·rw [zO hc]
    by_cases hs:Mi<E
    ·have:B2=[]:=kz fg
     subst this;exact⟨A2,by simp,by simp,sA2⟩
    ·have:A2=[]:=kz fg
     subst this;exact⟨B2,by simp,by simp,sB2⟩
  obtain⟨M2,e2,p2,s2⟩:=hr3;refine⟨M1++M2,by rw [e2];simp,?_,?_⟩
  ·refine(p1.append p2).trans ?_
   have h1:((A1++B1)++(A2++B2)).Perm ((A1++A2)++(B1++B2)):=by
    rw [Az,Az];refine List.Perm.append_left A1 ?_;rw [←Az,←Az];exact List.Perm.append_right B2 List.perm_append_comm
   exact h1
  ·rw [srt_app]
   exact⟨s1,s2,fun x hx y hy=>hcross x (p1.mem_iff.1 hx) y (p2.mem_iff.1 hy)⟩
theorem vW (a:Nat) (rs:List Row):oz a a rs=rs:=by
 cases a with
 | zero=>rfl
 | succ j =>
  simp only [oz];split
  ·rw [zO fg]
  ·rfl
theorem uY {A:List Row} {x:Row} (h:Srt A) (hx:∀y∈A,leR y x):Srt (A++[x]):=by
 refine List.pairwise_append.2 ⟨h,List.pairwise_singleton _ _,fun y hy z hz=>?_⟩;rw [AA] at hz;subst hz;exact hx y hy
theorem tC (P:List Row) (x:Row):∀(n:Nat) (A S:List Row) (a j:Nat),n=A.length→a=P.length→j=a+A.length→Srt A →
  ∃M,oz a j (P++(A++x::S))=P++(M++S)∧M.Perm (A++[x])∧Srt M
 | 0,A,S,a,j,hn,ha,hj,hA=>by
  obtain rfl:=kz hn.symm;obtain rfl:j=a:=by simpa using hj
  exact⟨[x],by rw [vW];simp,by simp,List.pairwise_singleton _ _⟩
 | n+1,A,S,a,j,hn,ha,hj,hA=>by
  rcases rm A with rfl|⟨B,y,rfl⟩
  ·simp at hn
  simp only [zX,List.length_singleton] at hn hj;obtain⟨j,rfl⟩:∃j',j=j'+1:=⟨a+B.length,by omega⟩;obtain⟨hB,_,hy⟩:=List.pairwise_append.1 hA;have hy:∀z∈B,leR z y:=fun z hz=>hy z hz y fq
  have e1:P++((B++[y])++x::S)=(P++B)++y::([]++x::S):=fq;have hl:(P++B).length=j:=by rw [zX];omega
  have g1:((P++B)++y::([]++x::S))[j]?=some y:=by rw [←hl];exact o0 _ _ _
  have g2:((P++B)++y::([]++x::S))[j+1]?=some x:=by
   rw [show (P++B)++y::([]++x::S)=(P++B++[y])++x::S by simp,show j+1=(P++B++[y]).length by rw [zX,hl];rfl];exact o0 _ _ _
  rw [e1];simp only [oz,g1,g2];by_cases hc:cmpR x y<0
  ·rw [zL ⟨by omega,hc⟩,qf fg,nZ (P++B) [] S y x j (j+1) hl.symm (by rw [hl];simp)]
   obtain⟨M,h1,h2,h3⟩:=tC P x n B (y::S) a j fg ha fg hB;refine⟨M++[y],?_,?_,?_⟩
   ·rw [show (P++B)++x::([]++y::S)=P++(B++x::y::S) by simp,h1];simp
   ·have:=h2.append_right [y]
    refine this.trans ?_;rw [Az,Az];exact List.Perm.append_left B (List.Perm.swap _ _ _)
   ·refine uY h3 (fun z hz=>?_)
    have hz:=h2.mem_iff.1 hz;rw [Aq,AA] at hz;rcases hz with hz|rfl
    ·exact hy z hz
    ·exact nV hc
  ·rw [zO (by intro h;exact hc h.2)]
   refine⟨B++[y]++[x],by simp,.refl _,uY hA (fun z hz=>?_)⟩;rw [Aq,AA] at hz;rcases hz with hz|rfl
   ·exact kR (hy z hz) hc
   ·exact hc
theorem oS (P:List Row):∀(B A S:List Row) (a k i:Nat),k=B.length→a=P.length→i=a+A.length→Srt A →
  ∃M,kZ a k i (P++(A++(B++S)))=P++(M++S)∧M.Perm (A++B)∧Srt M
 | [],A,S,a,k,i,hk,ha,hi,hA=>by
  subst hk;exact⟨A,by simp [kZ],by simp,hA⟩
 | x::B,A,S,a,k,i,hk,ha,hi,hA=>by
  subst hk;obtain⟨M,h1,h2,h3⟩:=tC P x A.length A (B++S) a i rfl ha hi hA;have hl:M.length=A.length+1:=by rw [h2.length_eq];simp
  obtain⟨M2,g1,g2,g3⟩:=oS P B M S a B.length (i+1) rfl ha fg h3;refine⟨M2,?_,?_,g3⟩
  ·simp only [zW,kZ,Ay];rw [h1,g1]
  ·refine g2.trans ((h2.append_right B).trans ?_)
   simp
inductive Blk (s:Nat):List Row→Prop
 | last {l:List Row}:l.length<s→Srt l→Blk s l
 | cons {A l:List Row}:A.length=s→Srt A→Blk s l→Blk s (A++l)
theorem Blk.take {s:Nat} {l:List Row} (h:Blk s l) (hl:s≤l.length):∃A T,l=A++T∧A.length=s∧Srt A∧Blk s T:=by
 cases h with
 | last h1 _=>omega
 | cons h1 h2 h3=>exact⟨_,_,rfl,h1,h2,h3⟩
theorem Blk.short {s:Nat} {l:List Row} (h:Blk s l) (hl:l.length<s):Srt l:=by
 cases h with
 | last _ h2=>exact h2
 | cons h1 h2 h3=>rw [zX] at hl;omega
theorem Blk.whole {s:Nat} {l:List Row} (h:Blk s l) (hl:l.length≤s):Srt l:=by
 rcases Nat.eq_or_lt_of_le hl with e|e
 ·obtain⟨A,T,rfl,h1,h2,h3⟩:=h.take fg
  obtain rfl:T=[]:=kz (by rw [zX] at e;omega);simpa using h2
 ·exact h.short e
theorem zt:∀(k:Nat) (P S:List Row) (a n:Nat),a=P.length→n=a+S.length→n<a+k→∃M,stA k (P++S) a n=P++M∧M.Perm S∧Blk 20 M
 | 0,P,S,a,n,_,_,h=>by omega
 | k+1,P,S,a,n,ha,hn,hk=>by
  simp only [stA];by_cases hc:a+20≤n
  ·rw [zL hc]
   obtain⟨A,T,rfl,hA,hT⟩:=mm S (n:=20) fg;match A,hA,hn,hT with
   | x::A,hA,hn,hT =>
    simp only [zW] at hA;obtain⟨M,h1,h2,h3⟩:=oS P A [x] T a (a+20-(a+1)) (a+1) fg ha rfl (List.pairwise_singleton _ _);have hl:M.length=20:=by rw [h2.length_eq];simp;omega
    obtain⟨M2,g1,g2,g3⟩:=zt k (P++M) T (a+20) n gj (by simp at hn;omega) fg;refine⟨M++M2,?_,?_,.cons hl h3 g3⟩
    ·rw [show P++((x::A)++T)=P++([x]++(A++T)) by simp,h1,←Az,g1,Az]
    ·exact(h2.append_right M2).trans (g2.append_left _)
   | [],hA,_,_=>simp at hA
  ·rw [zO hc]
   match S,hn with
   | [],hn =>
    obtain rfl:n=a:=by simpa using hn
    refine⟨[],?_,.refl _,.last fq List.Pairwise.nil⟩;rw [show n-(n+1)=0 by omega];rfl
   | x::S,hn =>
    simp only [zW] at hn;obtain⟨M,h1,h2,h3⟩:=oS P S [x] [] a (n-(a+1)) (a+1) fg ha rfl (List.pairwise_singleton _ _);have hl:M.length=S.length+1:=by rw [h2.length_eq];simp
    refine⟨M,?_,h2,.last fg h3⟩;rw [AB,AB] at h1;exact h1
theorem yY (s:Nat) (hs:0<s):∀(k:Nat) (P S:List Row) (a n:Nat),a=P.length→n=a+S.length→n<a+k→Blk s S→∃M,stB k (P++S) a s n=P++M∧M.Perm S∧Blk (2*s) M
 | 0,P,S,a,n,_,_,h,_=>by omega
 | k+1,P,S,a,n,ha,hn,hk,hB=>by
  simp only [stB];by_cases hc:a+2*s≤n
  ·rw [zL hc]
   obtain⟨A,T,rfl,hA,hsA,hT⟩:=hB.take fg;rw [zX] at hn;obtain⟨B,T,rfl,hB2,hsB,hT2⟩:=hT.take fg;rw [zX] at hn;obtain⟨M,h1,h2,h3⟩:=mD (2*s) P A B T a (a+s) (a+2*s) ha fg fg fg fg fg hsA hsB;have hl:M.length=2*s:=by rw [h2.length_eq,zX];omega
   obtain⟨M2,g1,g2,g3⟩:=yY s hs k (P++M) T (a+2*s) n gj fg fg hT2;refine⟨M++M2,?_,?_,.cons hl h3 g3⟩
   ·rw [h1,←Az,g1,Az]
   ·rw [←Az];exact(h2.append_right M2).trans (g2.append_left _)
  ·rw [zO hc]
   by_cases hd:a+s<n
   ·rw [zL hd]
    obtain⟨A,T,rfl,hA,hsA,hT⟩:=hB.take fg;rw [zX] at hn;obtain⟨M,h1,h2,h3⟩:=mD (n-a) P A T [] a (a+s) n ha fg fg fg fg fg hsA (hT.short fg);have hl:M.length=n-a:=by rw [h2.length_eq,zX];omega
    rw [AB,AB] at h1;exact⟨M,h1,h2,.last fg h3⟩
   ·rw [zO hd]
    exact⟨S,rfl,.refl _,.last fg (hB.whole fg)⟩
theorem xW:∀(k:Nat) (S:List Row) (s n:Nat),0<s→n=S.length→n<s+k→Blk s S→(stC k S s n).Perm S∧Srt (stC k S s n)
 | 0,S,s,n,_,hn,hk,hB=>⟨.refl _,hB.whole fg⟩
 | k+1,S,s,n,hs,hn,hk,hB=>by
  simp only [stC];by_cases hc:s<n
  ·rw [zL hc]
   obtain⟨M,h1,h2,h3⟩:=yY s hs (n+1) [] S 0 n rfl fg fg hB;rw [Ax,Ax] at h1;rw [h1];obtain⟨g1,g2⟩:=xW k M (2*s) n fg (by rw [h2.length_eq];exact hn) fg h3;exact⟨g1.trans h2,g2⟩
  ·rw [zO hc]
   exact⟨.refl _,hB.whole fg⟩
theorem rq (rs:List Row):(stL rs).Perm rs∧Srt (stL rs):=by
 obtain⟨M,h1,h2,h3⟩:=zt (rs.length+1) [] rs 0 rs.length rfl fq fg;rw [Ax,Ax] at h1;unfold stL;rw [h1];obtain⟨g1,g2⟩:=xW (rs.length+1) M 20 rs.length fg (by rw [h2.length_eq]) fg h3;exact⟨g1.trans h2,g2⟩
theorem o8 {r r1:List Str} (h:r1 <:+ r) (ho:okC r):okC r1:=fun p hp=>ho p (h.subset hp)
theorem lF {c:Str} {r r1:List Str} (h:r1 <:+ r):r1 <:+ c::r:=h.trans (AC _ _)
theorem jM {c:Str} {r r1:List Str} (h:jk c r=some r1):r1 <:+ r:=by rw [j8 h];exact AC _ _
theorem vO {r r1:List Str} {c:Str} {nm:List Row} (h:oh r=some (c,nm,r1)):r1 <:+ r:=by
 cases r with
 | nil=>cases h
 | cons p r =>
  simp only [oh] at h;by_cases h1:p=[93]
  ·rw [zL h1] at h;cases h
  rw [zO h1] at h;by_cases h2:p=[92]
  ·rw [zL h2] at h
   cases r with
   | nil=>cases h
   | cons c2 r2 =>
    simp only at h
    cases hn:kU c2 with
    | some rows =>
     simp only [hn] at h;exact dr
    | none =>
     simp only [hn] at h;cases hpm:kg c2 with
     | none=>exact dR
     | some t =>
      simp only [hpm] at h;exact dr
  ·rw [zO h2] at h
   injection h with h;injection h with h3 h;injection h with h4 h5
   subst h5;exact AC _ _
def kN (rows:List Row):Prop:=∀q∈rows,q.1.length≤1000000∧q.2.length≤1000000
theorem l6 {c t:Str} (h1:c.length≤1000000) (h2:t.length≤1000000):kN [(c,t)]:=by
 intro q hq;rw [AA] at hq;subst hq;exact⟨h1,h2⟩
theorem l9 {a b:List Row} (h1:kN a) (h2:kN b):kN (a++b):=by
 intro q hq;rcases Aq.1 hq with h|h
 ·exact h1 q h
 ·exact h2 q h
theorem kT:∀(n:Nat) (rows:List Row) (r:List Str) {rows':List Row} {r1:List Str},jO n rows r=some (rows',r1)→okC r→kN rows →
  r1 <:+ r∧r1.length<r.length∧rows'.length≤rows.length+4*r.length∧kN rows'
 | 0,_,_,_,_,h,_,_=>by cases h
 | n+1,rows,r,rows',r1,h,ho,hr=>by
  simp only [jO] at h;cases ht:jk [93] r with
  | some r0 =>
   simp only [ht] at h;injection h with h;injection h with h1 h2
   subst h1 h2;have e:=j8 ht;exact⟨jM ht,by rw [e];simp,by omega,hr⟩
  | none =>
   simp only [ht] at h;cases hi:oh r with
   | none=>simp only [hi] at h;cases h
   | some y =>
    obtain⟨c,nm,r2⟩:=y;simp only [hi] at h;obtain⟨f1,f2,f3,f4,f5⟩:=nA hi ho;have fs:=vO hi;by_cases hnm:nm≠[]
    ·rw [zL hnm] at h
     obtain⟨g1,g2,g3,g4⟩:=kT n _ _ h f5 (l9 hr f4);rw [zX] at g3;exact⟨g1.trans fs,by omega,by omega,g4⟩
    ·rw [zO hnm] at h
     have one:∀{rr:List Str},jO n (rows++[(c,c)]) rr=some (rows',r1)→okC rr→rr <:+ r→rr.length<r.length→r1 <:+ r∧r1.length<r.length∧rows'.length≤rows.length+4*r.length∧kN rows':=by
      intro rr h hoo hs hl;obtain⟨g1,g2,g3,g4⟩:=kT n _ _ h hoo (l9 hr (l6 f3 f3));rw [zX,List.length_singleton] at g3;exact⟨g1.trans hs,by omega,by omega,g4⟩
     cases ht2:jk [45] r2 with
     | none=>simp only [ht2] at h;exact one h f5 fs f1
     | some r3 =>
      simp only [ht2] at h;by_cases ht3:jk [93] r3=none
      ·rw [zL ht3] at h
       cases hi2:oh r3 with
       | none=>simp only [hi2] at h;cases h
       | some y =>
        obtain⟨t,nm2,r4⟩:=y;simp only [hi2] at h;have hs3:=jM ht2;have e3:=j8 ht2;obtain⟨k1,k2,k3,k4,k5⟩:=nA hi2 (o8 hs3 f5);have ks:=vO hi2;by_cases hb:nm2≠[]∨Op.bytesLess t c=true
        ·rw [zL hb] at h;cases h
        ·rw [zO hb] at h
         obtain⟨g1,g2,g3,g4⟩:=kT n _ _ h k5 (l9 hr (l6 f3 k3));rw [zX,List.length_singleton] at g3;have:r3.length<r2.length:=by rw [e3];simp
         exact⟨((g1.trans ks).trans hs3).trans fs,by omega,by omega,g4⟩
      ·rw [zO ht3] at h;exact one h f5 fs f1
theorem mrgS_ok {out:List Row} {r:Row} (h1:kN out) (h2:r.1.length≤1000000∧r.2.length≤1000000):kN (mrgS out r):=by
 rcases List.eq_nil_or_concat out with rfl|⟨B,q,rfl⟩
 ·rw [sK];exact l6 h2.1 h2.2
 ·rw [List.concat_eq_append] at h1 ⊢
  have hB:kN B:=fun x hx=>h1 x (List.mem_append_left _ hx)
  have hq:=h1 q fq;cases hl:leS r.1 q.2 with
  | true =>
   rw [uI hl];refine l9 hB (l6 hq.1 ?_);unfold mxS;by_cases hm:Op.bytesLess q.2 r.2=true
   ·rw [zL hm];exact h2.2
   ·rw [zO hm];exact hq.2
  | false =>
   rw [ux hl];exact l9 h1 (l6 h2.1 h2.2)
theorem union_ok {rows:List Row} (h:kN rows):kN (kG rows)∧(kG rows).length≤rows.length:=by
 have h1:kN (stL (filR rows)):=fun q hq=>h q ((List.mem_filter.1 ((rq _).1.mem_iff.1 hq)).1)
 refine⟨?_,?_⟩
 ·unfold kG mrgL
  have key:∀(l out:List Row),kN l→kN out→kN (l.foldl mrgS out):=by
   intro l;induction l with
   | nil=>intro out _ h;exact h
   | cons r l ih =>
    intro out h1 h2;exact ih _ (fun q hq=>h1 q (Ap _ hq)) (mrgS_ok h2 (h1 r (Ao ..)))
  exact key _ _ h1 (by intro q hq;cases hq)
 ·unfold kG
  have e1:=vJ (stL (filR rows));have e2:=xK (filR rows);have e3:=rO rows;omega
def Fct (b:Nat) (r:List Str) (x:Rx) (r1:List Str):Prop :=
 x.small∧x.parts+2*r1.length≤2*r.length+b∧x.groups+r1.count [40]≤r.count [40]∧r1 <:+ r
theorem lN {r r1:List Str} (h:r1 <:+ r) (c:Str):r1.count c≤r.count c:=h.sublist.count_le c
theorem ku {r r1:List Str} (h:r1 <:+ r):r1.length≤r.length:=h.length_le
theorem wQ {k:Int} {c:Str} {ng:Bool} {rs:List Row} {lo hi:Int} {lz:Bool} (h1:c.length≤1000000) (h2:rs.length≤1000000) (h3:kN rs):(Rx.mk k c ng rs lo hi lz []).small:=by
 simp only [Rx.small,Rx.small1,Rx.smallL];exact⟨⟨h1,h2,h3,by simp⟩,trivial⟩
theorem Fct.leaf {k:Int} {c:Str} {ng:Bool} {rs:List Row} {lo hi:Int} {lz:Bool} {b:Nat} {r r1:List Str} (h1:c.length≤1000000) (h2:rs.length≤1000000) (h3:kN rs) (hk:k≠5) (hs:r1 <:+ r) (hl:r1.length<r.length):Fct b r (.mk k c ng rs lo hi lz []) r1:=by
 refine⟨wQ h1 h2 h3,?_,?_,hs⟩
 ·simp only [Rx.parts,Rx.partsL];omega
 ·simp only [Rx.groups,Rx.groupsL,zO hk];have:=lN hs [40];omega
theorem lp:kN []:=fun _ h=>by cases h
theorem xe {r r1:List Str} {x:Rx} (h:escM r=.ok (x,r1)) (ho:okC r):Fct 0 r x r1:=by
 cases r with
 | nil=>cases h
 | cons c r =>
  have hc:=ho c (Ao ..);have big:∀b,Fct 0 (c::r) (setR (jz b) true) r:=fun b=>Fct.leaf fq (by have:=(ls b).1;omega) (ls b).2 fo (AC _ _) fq
  simp only [escM] at h;cases hn:kU c with
  | some rows =>
   obtain⟨b,rfl,_,rfl⟩:=nQ hn;simp only [hn] at h;injection h with h;injection h with h1 h2;subst h1 h2
   exact Fct.leaf fq (by have:=(ls b).1;omega) (ls b).2 fo (AC _ _) fq
  | none =>
   simp only [hn] at h;cases hb:bigS c with
   | some rows =>
    simp only [hb] at h;injection h with h;injection h with h1 h2;subst h1 h2
    unfold bigS at hb;by_cases g1:c=[68]
    ·rw [zL g1] at hb;injection hb with hb;rw [←hb];exact big _
    rw [zO g1] at hb;by_cases g2:c=[87]
    ·rw [zL g2] at hb;injection hb with hb;rw [←hb];exact big _
    rw [zO g2] at hb;by_cases g3:c=[83]
    ·rw [zL g3] at hb;injection hb with hb;rw [←hb];exact big _
    rw [zO g3] at hb;cases hb
   | none =>
    simp only [hb] at h;cases hp:kg c with
    | none=>simp only [hp] at h;cases h
    | some t =>
     simp only [hp] at h;injection h with h;injection h with h1 h2;subst h1 h2
     exact Fct.leaf (by have:=rE hp;omega) fq lp fo (AC _ _) fq
theorem uw {r r1:List Str} {x:Rx} (h:kP r=.ok (x,r1)) (ho:okC r) (hl:r.length≤200000):Fct 0 r x r1:=by
 have hsx:((jk [94] r).getD r) <:+ r:=by
  exact dN
 unfold kP at h;generalize (jk [94] r).isSome=ng at h
 generalize (jk [94] r).getD r=r0 at h hsx
 simp only at h
 cases hc:jO (r0.length+1) [] r0 with
 | none=>simp only [hc] at h;cases h
 | some y =>
  obtain⟨rows,r2⟩:=y;simp only [hc] at h;injection h with h;injection h with h1 h2;subst h1 h2
  obtain⟨g1,g2,g3,g4⟩:=kT _ _ _ hc (o8 hsx ho) lp;have hl0:=ku hsx;have hu:=union_ok g4;exact Fct.leaf fq (by simp at g3;omega) hu.1 fo (g1.trans hsx) fg
theorem rN:∀(r:List Str) (k n:Nat) {m:Nat} {r1:List Str},numL k n r=some (m,r1)→r1 <:+ r
 | [],k,n,m,r1,h=>by
  unfold numL at h;exact dE
 | c::r,k,n,m,r1,h=>by
  unfold numL at h;split at h
  ·split at h
   ·cases h
   ·exact lF (rN r _ _ h)
  ·exact dE
theorem rD {r r1:List Str} {lo hi:Int} (h:kY r=some (lo,hi,r1)):r1 <:+ r:=by
 unfold kY at h;cases h1:numL 0 0 r with
 | none=>simp only [h1] at h;cases h
 | some y =>
  obtain⟨a,s1⟩:=y;have e1:=rN _ _ _ h1;simp only [h1] at h;cases h2:jk [125] s1 with
  | some s2 =>
   simp only [h2] at h;injection h with h;injection h with _ h;injection h with _ h;subst h
   exact(jM h2).trans e1
  | none =>
   simp only [h2] at h;cases h3:jk [44] s1 with
   | none=>simp only [h3] at h;cases h
   | some s2 =>
    simp only [h3] at h;have e2:=(jM h3).trans e1;cases h4:jk [125] s2 with
    | some s3 =>
     simp only [h4] at h;injection h with h;injection h with _ h;injection h with _ h;subst h
     exact(jM h4).trans e2
    | none =>
     simp only [h4] at h;cases h5:numL 0 0 s2 with
     | none=>simp only [h5] at h;cases h
     | some y =>
      obtain⟨b,s3⟩:=y;have e3:=(rN _ _ _ h5).trans e2;simp only [h5] at h;split at h
      ·cases h6:jk [125] s3 with
       | none=>simp only [h6] at h;cases h
       | some s4 =>
        simp only [h6] at h;injection h with h;injection h with _ h;injection h with _ h;subst h
        exact(jM h6).trans e3
      ·cases h
theorem yf {lo hi:Int} {lz:Bool} {x:Rx} (h:x.small):(repR lo hi lz x).small:=by
 simp only [repR,Rx.small,Rx.small1,Rx.smallL];exact⟨⟨by simp,by simp,by simp,by simp⟩,h,trivial⟩
theorem ry {x y:Rx} {lo hi:Int} {r r1:List Str} (h:oU x lo hi r=(y,r1)):(∃lz,y=repR lo hi lz x)∧r1 <:+ r:=by
 unfold oU at h;cases ht:jk [63] r with
 | some r2=>simp only [ht] at h;injection h with h1 h2;subst h1 h2;exact⟨⟨_,rfl⟩,jM ht⟩
 | none=>simp only [ht] at h;injection h with h1 h2;subst h1 h2;exact⟨⟨_,rfl⟩,AD _⟩
theorem pW {x y:Rx} {r r1:List Str} (h:kj x r=.ok (y,r1)):(y=x∧r1=r)∨((∃lo hi lz,y=repR lo hi lz x)∧r1 <:+ r∧r1.length<r.length):=by
 cases r with
 | nil=>simp only [kj] at h;injection h with h;injection h with h1 h2;exact .inl ⟨h1.symm,h2.symm⟩
 | cons c r =>
  simp only [kj] at h;have key:∀{lo hi:Int} {r2:List Str},Except.ok (oU x lo hi r2)=(Except.ok (y,r1):Res)→r2 <:+ r→(y=x∧r1=c::r)∨((∃lo hi lz,y=repR lo hi lz x)∧r1 <:+ c::r∧r1.length<(c::r).length):=by
   intro lo hi r2 h hs;injection h with h
   obtain⟨⟨lz,h1⟩,h2⟩:=ry h;have h3:=h2.trans hs;have:=ku h3
   exact .inr ⟨⟨lo,hi,lz,h1⟩,lF h3,by simp;omega⟩
  by_cases h1:c=[42]
  ·rw [zL h1] at h;exact key h (AD _)
  rw [zO h1] at h;by_cases h2:c=[43]
  ·rw [zL h2] at h;exact key h (AD _)
  rw [zO h2] at h;by_cases h3:c=[63]
  ·rw [zL h3] at h;exact key h (AD _)
  rw [zO h3] at h;by_cases h4:c=[123]
  ·rw [zL h4] at h
   cases hb:kY r with
   | none=>simp only [hb] at h;cases h
   | some z =>
    obtain⟨lo,hi,r2⟩:=z;simp only [hb] at h;exact key h (rD hb)
  ·rw [zO h4] at h
   injection h with h;injection h with h5 h6
   exact .inl ⟨h5.symm,h6.symm⟩
theorem jR:∀(a b:List Rx),Rx.partsL (a++b)=Rx.partsL a+Rx.partsL b
 | [],b=>by simp [Rx.partsL]
 | x::a,b=>by simp only [Ay,Rx.partsL,jR a b];omega
theorem mh:∀(a b:List Rx),Rx.groupsL (a++b)=Rx.groupsL a+Rx.groupsL b
 | [],b=>by simp [Rx.groupsL]
 | x::a,b=>by simp only [Ay,Rx.groupsL,mh a b];omega
theorem kv:∀{a b:List Rx},Rx.smallL a→Rx.smallL b→Rx.smallL (a++b)
 | [],_,_,h=>h
 | _::_,_,h1,h2=>⟨h1.1,kv h1.2 h2⟩
theorem no (kd:Int) (x:Rx) (xs:List Rx):jT kd (x::xs)=(if x.kind=kd then x.kids else [x])++jT kd xs:=by simp [jT]
theorem rC (x:Rx) (hs:x.small):Rx.partsL x.kids+1=x.parts∧Rx.groupsL x.kids≤x.groups∧Rx.smallL x.kids:=by
 obtain⟨k,c,ng,rs,lo,hi,lz,ks⟩:=x;simp only [Rx.kids,Rx.parts,Rx.groups];exact⟨by omega,by omega,hs.2⟩
theorem oK (kd:Int):∀{xs:List Rx},Rx.smallL xs→Rx.smallL (jT kd xs)∧Rx.partsL (jT kd xs)≤Rx.partsL xs∧Rx.groupsL (jT kd xs)≤Rx.groupsL xs
 | [],_=>⟨trivial,zP _,zP _⟩
 | x::xs,h=>by
  obtain⟨i1,i2,i3⟩:=oK kd h.2;obtain⟨k1,k2,k3⟩:=rC x h.1;rw [no,jR,mh];simp only [Rx.partsL,Rx.groupsL];by_cases hk:x.kind=kd
  ·rw [zL hk];exact⟨kv k3 i1,by omega,by omega⟩
  ·rw [zO hk];exact⟨kv ⟨h.1,trivial⟩ i1,by simp only [Rx.partsL];omega,by simp only [Rx.groupsL];omega⟩
theorem lQ {k:Int} (hk:k≠5) {l:List Rx} (h:Rx.smallL l) (hl:l.length≤1000000):(Rx.mk k [] false [] 0 0 false l).small∧(Rx.mk k [] false [] 0 0 false l).parts=1+Rx.partsL l∧(Rx.mk k [] false [] 0 0 false l).groups=Rx.groupsL l:=by
 simp only [Rx.small,Rx.small1,Rx.parts,Rx.groups,zO hk];exact⟨⟨⟨by simp,by simp,by simp,hl⟩,h⟩,trivial,by omega⟩
theorem oN {xs:List Rx} (h:Rx.smallL xs) (hp:Rx.partsL xs≤1000000):(seqR xs).small∧(seqR xs).parts≤1+Rx.partsL xs∧(seqR xs).groups≤Rx.groupsL xs:=by
 obtain⟨f1,f2,f3⟩:=oK 0 h;have hl:=Rx.len_parts (jT 0 xs);have gen:∀l:List Rx,jT 0 xs=l→(mE l).small∧(mE l).parts≤1+Rx.partsL xs∧(mE l).groups≤Rx.groupsL xs:=by
  rintro l rfl;obtain⟨s1,s2,s3⟩:=lQ (k:=0) fo f1 fg;exact⟨s1,by unfold mE;omega,by unfold mE;omega⟩
 unfold seqR;split
 ·exact du
 ·rename_i l hl;exact gen _ rfl
theorem wG {xs:List Rx} (h:Rx.smallL xs) (hp:Rx.partsL xs≤1000000):(altR xs).small∧(altR xs).parts≤1+Rx.partsL xs∧(altR xs).groups≤Rx.groupsL xs:=by
 obtain⟨f1,f2,f3⟩:=oK 1 h;have hl:=Rx.len_parts (jT 1 xs);unfold altR;split
 ·obtain⟨s1,s2,s3⟩:=lQ (k:=0) (l:=[]) fo trivial fq
  exact⟨s1,by unfold mE;simp only [Rx.partsL] at s2;omega,by unfold mE;simp only [Rx.groupsL] at s3;omega⟩
 ·exact du
 ·obtain⟨s1,s2,s3⟩:=lQ (k:=1) fo f1 fg
  exact⟨s1,by unfold pZ;omega,by unfold pZ;omega⟩
theorem altR_one {x:Rx} (hs:x.small):(altR [x]).small∧(altR [x]).parts≤x.parts∧(altR [x]).groups≤x.groups:=by
 obtain⟨k1,k2,k3⟩:=rC x hs;obtain⟨k,c,ng,rs,lo,hi,lz,ks⟩:=x;have hks:=hs.1.2.2.2;have hfl:jT 1 [Rx.mk k c ng rs lo hi lz ks]=if k=1 then ks else [.mk k c ng rs lo hi lz ks]:=by by_cases hk:k=1<;>simp [jT,Rx.kind,Rx.kids,hk]
 simp only [Rx.kids] at k1 k2 k3;unfold altR;rw [hfl];by_cases h1:k=1
 ·rw [zL h1]
  rcases ks with _|⟨y,_|⟨z,l⟩⟩
  ·obtain⟨s1,s2,s3⟩:=lQ (k:=0) (l:=[]) fo trivial fq
   exact⟨s1,by show (mE []).parts≤_;unfold mE;simp only [Rx.partsL] at s2 k1;omega,by show (mE []).groups≤_;unfold mE;simp only [Rx.groupsL] at s3 k2;omega⟩
  ·simp only [Rx.partsL,Rx.groupsL] at k1 k2
   exact⟨k3.1,by show y.parts≤_;omega,by show y.groups≤_;omega⟩
  ·obtain⟨s1,s2,s3⟩:=lQ (k:=1) (l:=y::z::l) fo k3 hks
   exact⟨s1,by show (pZ (y::z::l)).parts≤_;unfold pZ;omega,by show (pZ (y::z::l)).groups≤_;unfold pZ;omega⟩
 ·rw [zO h1]
  exact⟨hs,zP _,zP _⟩
theorem oO {r r0:List Str} {k:Int} (h:nH r=some (k,r0)):r0 <:+ r∧(k=5∨k=6):=by
 unfold nH at h;cases h1:jk [63] r with
 | none=>simp only [h1] at h;injection h with h;injection h with ha hb;subst ha hb;exact⟨AD _,.inl rfl⟩
 | some r1 =>
  simp only [h1] at h;cases h2:jk [58] r1 with
  | none=>simp only [h2] at h;cases h
  | some r2 =>
   simp only [h2] at h;injection h with h;injection h with ha hb;subst ha hb
   exact⟨(jM h2).trans (jM h1),.inr rfl⟩
def pu (pat:List Str→Nat→Res) (N:Nat):Prop:=∀(r:List Str) (d:Nat) (x:Rx) (r1:List Str),r.length≤N→pat r d=.ok (x,r1)→okC r→Fct 1 r x r1
theorem uv {pat:List Str→Nat→Res} {N:Nat} (hp:pu pat N) {r r1:List Str} {d:Nat} {x:Rx} (h:lO pat r d=.ok (x,r1)) (ho:okC r) (hN:r.length≤N) :
  x.small∧x.parts+2*r1.length≤2*r.length∧x.groups+r1.count [40]≤1+r.count [40]∧r1 <:+ r:=by
 unfold lO at h;by_cases hd:16≤d
 ·rw [zL hd] at h;cases h
 rw [zO hd] at h;cases hk:nH r with
 | none=>simp only [hk] at h;cases h
 | some y =>
  obtain⟨k,r0⟩:=y;obtain⟨k1,k2⟩:=oO hk;simp only [hk] at h;cases hx:pat r0 (d+1) with
  | error e=>simp only [hx] at h;cases h
  | ok y =>
   obtain⟨z,r2⟩:=y;simp only [hx] at h;have hl0:=ku k1;obtain⟨f1,f2,f3,f4⟩:=hp r0 (d+1) z r2 fg hx (o8 k1 ho);cases ht:jk [41] r2 with
   | none=>simp only [ht] at h;cases h
   | some r3 =>
    simp only [ht] at h;injection h with h;injection h with h1 h2;subst h1 h2
    have e:=j8 ht;have s3:=jM ht;have c1:=lN s3 [40];have c2:=lN k1 [40];refine⟨?_,?_,?_,(s3.trans f4).trans k1⟩
    ·simp only [grpR,Rx.small,Rx.small1,Rx.smallL];exact⟨⟨by simp,by simp,by simp,by simp⟩,f1,trivial⟩
    ·simp only [grpR,Rx.parts,Rx.partsL];rw [e,zW] at f2;omega
    ·simp only [grpR,Rx.groups,Rx.groupsL];split<;>omega
theorem wR {pat:List Str→Nat→Res} {N:Nat} (hp:pu pat N) {r r1:List Str} {d:Nat} {x:Rx} (h:lh pat r d=.ok (x,r1)) (ho:okC r) (hN:r.length≤N+1) (hN2:N≤200000) :
  x.small∧x.parts+2*r1.length≤2*r.length∧x.groups+r1.count [40]≤r.count [40]∧r1 <:+ r∧r1.length<r.length∧x.parts+2*r1.length+(if x.parts=1 then 1 else 2)≤2*r.length:=by
 cases r with
 | nil=>cases h
 | cons c r =>
  have hc:=ho c (Ao ..);simp only [zW] at hN;have leaf:∀{y:Rx} {r2:List Str},Fct 0 (c::r) y r2→y.parts=1→r2.length<(c::r).length→y.small∧y.parts+2*r2.length≤2*(c::r).length∧y.groups+r2.count [40]≤(c::r).count [40]∧r2 <:+ c::r∧r2.length<(c::r).length∧y.parts+2*r2.length+(if y.parts=1 then 1 else 2)≤2*(c::r).length :=
   fun hf h1 hl=>⟨hf.1,by have:=hf.2.1;omega,hf.2.2.1,hf.2.2.2,hl,by rw [zL h1,h1];omega⟩
  have lift:∀{y:Rx} {r2:List Str},Fct 0 r y r2→y.parts=1→r2.length≤r.length→y.small∧y.parts+2*r2.length≤2*(c::r).length∧y.groups+r2.count [40]≤(c::r).count [40]∧r2 <:+ c::r∧r2.length<(c::r).length∧y.parts+2*r2.length+(if y.parts=1 then 1 else 2)≤2*(c::r).length :=
   fun hf h1 hl=>leaf ⟨hf.1,by simp only [zW];have:=hf.2.1;omega,by have:=hf.2.2.1;have:=lN (AC c r) [40];omega,lF hf.2.2.2⟩ h1 fr
  simp only [lh] at h;by_cases h1:c=[46]
  ·rw [zL h1] at h;injection h with h;injection h with ha hb;subst ha hb
   exact leaf (Fct.leaf fq fq lp fo (AC _ _) fq) rfl fq
  rw [zO h1] at h;by_cases h2:c=[40]
  ·rw [zL h2] at h
   obtain⟨f1,f2,f3,f4⟩:=uv hp h ho.tail fg;have hlen:=ku f4;refine⟨f1,by simp;omega,?_,lF f4,by simp;omega,by simp only [zW];split<;>omega⟩;rw [h2,List.count_cons_self];omega
  rw [zO h2] at h;by_cases h3:c=[91]
  ·rw [zL h3] at h
   have hf:=uw h ho.tail fg;have hp1:x.parts=1:=by
    unfold kP at h;simp only at h
    generalize jO _ _ _=q at h
    cases q with
    | none=>simp only at h;cases h
    | some y=>simp only at h;injection h with h;injection h with ha _;subst ha;rfl
   exact lift hf hp1 (ku hf.2.2.2)
  rw [zO h3] at h;by_cases h4:c=[92]
  ·rw [zL h4] at h
   have hf:=xe h ho.tail;have hp1:x.parts=1:=by
    cases r with
    | nil=>cases h
    | cons c2 r2 =>
     simp only [escM] at h;cases hn:kU c2 with
     | some rows=>simp only [hn] at h;injection h with h;injection h with ha _;subst ha;rfl
     | none =>
      simp only [hn] at h;cases hb:bigS c2 with
      | some rows=>simp only [hb] at h;injection h with h;injection h with ha _;subst ha;rfl
      | none =>
       simp only [hb] at h;cases hpm:kg c2 with
       | none=>exact dR
       | some t=>simp only [hpm] at h;injection h with h;injection h with ha _;subst ha;rfl
   exact lift hf hp1 (ku hf.2.2.2)
  rw [zO h4] at h;by_cases h5:rG c=true
  ·rw [zL h5] at h;cases h
  ·rw [zO h5] at h;injection h with h;injection h with ha hb;subst ha hb
   exact leaf (Fct.leaf hc.2 fq lp fo (AC _ _) fq) rfl fq
theorem wh {r r1:List Str} {x:Rx} (h:oi r=some (x,r1)):Fct 0 r x r1∧r1.length<r.length:=by
 cases r with
 | nil=>cases h
 | cons c r =>
  have leaf:∀(k:Int) (r2:List Str),k≠5→r2 <:+ r→Fct 0 (c::r) (rxK k) r2∧r2.length<(c::r).length:=fun k r2 hk hs =>
   ⟨Fct.leaf fq fq lp hk (lF hs) (by have:=ku hs;simp;omega),by have:=ku hs;simp;omega⟩
  simp only [oi] at h;by_cases h1:c=[94]
  ·rw [zL h1] at h;injection h with h;injection h with ha hb;subst ha hb;exact leaf 8 r fo (AD _)
  rw [zO h1] at h;by_cases h2:c=[36]
  ·rw [zL h2] at h;injection h with h;injection h with ha hb;subst ha hb;exact leaf 9 r fo (AD _)
  rw [zO h2] at h;by_cases h3:c=[92]
  ·rw [zL h3] at h
   cases h4:jk [98] r with
   | some r2=>simp only [h4] at h;injection h with h;injection h with ha hb;subst ha hb;exact leaf 10 r2 fo (jM h4)
   | none =>
    simp only [h4] at h;cases h5:jk [66] r with
    | some r2=>simp only [h5] at h;injection h with h;injection h with ha hb;subst ha hb;exact leaf 11 r2 fo (jM h5)
    | none=>simp only [h5] at h;cases h
  ·rw [zO h3] at h;cases h
theorem oL {pat:List Str→Nat→Res} {N:Nat} (hp:pu pat N) {r r1:List Str} {d:Nat} {x:Rx} (h:lB pat r d=.ok (x,r1)) (ho:okC r) (hN:r.length≤N+1) (hN2:N≤200000):Fct 0 r x r1∧r1.length<r.length:=by
 unfold lB at h;cases he:oi r with
 | some y=>simp only [he] at h;injection h with h;subst h;exact wh he
 | none =>
  simp only [he] at h;cases ha:lh pat r d with
  | error e=>simp only [ha] at h;cases h
  | ok y =>
   obtain⟨z,r2⟩:=y;simp only [ha] at h;obtain⟨f1,f2,f3,f4,f5,f6⟩:=wR hp ha ho hN hN2;rcases pW h with⟨rfl,rfl⟩|⟨⟨lo,hi,lz,rfl⟩,q2,q3⟩
   ·exact⟨⟨f1,by omega,f3,f4⟩,f5⟩
   ·have c1:=lN q2 [40]
    refine⟨⟨yf f1,?_,?_,q2.trans f4⟩,by omega⟩
    ·simp only [repR,Rx.parts,Rx.partsL];omega
    ·simp only [repR,Rx.groups,Rx.groupsL];simp;omega
theorem oP {trm:List Str→Res} {N:Nat} (ht:∀(r:List Str) (x:Rx) (r1:List Str),r.length≤N→trm r=.ok (x,r1)→okC r→Fct 0 r x r1∧r1.length<r.length) (hN2:N≤200000) :
  ∀(n:Nat) (alts terms:List Rx) (r:List Str) {x:Rx} {r1:List Str},patL trm n alts terms r=.ok (x,r1)→okC r→r.length≤N→Rx.smallL alts→Rx.smallL terms→Rx.partsL alts+Rx.partsL terms+2*r.length≤450000 →
   x.small∧x.parts+2*r1.length≤2*r.length+(if alts=[] then 1+Rx.partsL terms else Rx.partsL alts+Rx.partsL terms+2)∧x.groups+r1.count [40]≤r.count [40]+Rx.groupsL alts+Rx.groupsL terms∧r1 <:+ r
 | 0,_,_,_,_,_,h,_,_,_,_,_=>by cases h
 | n+1,alts,terms,r,x,r1,h,ho,hr,ha,hm,hb=>by
  obtain⟨s1,s2,s3⟩:=oN hm fg;have hap:=kv ha (show Rx.smallL [seqR terms] from⟨s1,trivial⟩);have hpp:Rx.partsL (alts++[seqR terms])=Rx.partsL alts+(seqR terms).parts:=by rw [jR];simp only [Rx.partsL];omega
  have hgg:Rx.groupsL (alts++[seqR terms])=Rx.groupsL alts+(seqR terms).groups:=by rw [mh];simp only [Rx.groupsL];omega
  have fin:(altR (alts++[seqR terms])).small∧(altR (alts++[seqR terms])).parts≤(if alts=[] then 1+Rx.partsL terms else Rx.partsL alts+Rx.partsL terms+2)∧(altR (alts++[seqR terms])).groups≤Rx.groupsL alts+Rx.groupsL terms:=by
   by_cases hn:alts=[]
   ·subst hn
    obtain⟨o1,o2,o3⟩:=altR_one s1;rw [zL rfl];exact⟨o1,by show (altR [seqR terms]).parts≤_;omega,by show (altR [seqR terms]).groups≤_;simp only [Rx.groupsL];omega⟩
   ·rw [zO hn]
    obtain⟨o1,o2,o3⟩:=wG hap fg;exact⟨o1,by omega,by omega⟩
  simp only [patL] at h;cases r with
  | nil =>
   simp only at h
   injection h with h;injection h with h1 h2;subst h1 h2
   exact⟨fin.1,by have:=fin.2.1;simp;omega,by have:=fin.2.2;simp;omega,AD _⟩
  | cons c r =>
   simp only at h
   simp only [zW] at hr hb;by_cases h1:c=[41]
   ·rw [zL h1] at h
    injection h with h;injection h with h2 h3;subst h2 h3
    exact⟨fin.1,by have:=fin.2.1;omega,by have:=fin.2.2;omega,AD _⟩
   rw [zO h1] at h;by_cases h2:c=[124]
   ·rw [zL h2] at h
    obtain⟨i1,i2,i3,i4⟩:=oP ht hN2 n _ _ _ h ho.tail fg hap trivial (by rw [hpp];simp only [Rx.partsL];omega);have c1:=lN (AC c r) [40];rw [zO fq,hpp] at i2;rw [hgg] at i3;simp only [Rx.partsL,Rx.groupsL] at i2 i3;refine⟨i1,?_,by omega,lF i4⟩;simp only [zW];by_cases hn:alts=[]
    ·subst hn;rw [zL rfl];simp only [Rx.partsL] at i2;omega
    ·rw [zO hn];omega
   ·rw [zO h2] at h
    cases hx:trm (c::r) with
    | error e=>simp only [hx] at h;cases h
    | ok y =>
     obtain⟨z,r2⟩:=y;simp only [hx] at h;obtain⟨⟨f1,f2,f3,f4⟩,f5⟩:=ht _ _ _ fr hx ho;simp only [zW] at f2 f5;have hpt:Rx.partsL (terms++[z])=Rx.partsL terms+z.parts:=by rw [jR];simp only [Rx.partsL];omega
     have hgt:Rx.groupsL (terms++[z])=Rx.groupsL terms+z.groups:=by rw [mh];simp only [Rx.groupsL];omega
     obtain⟨i1,i2,i3,i4⟩:=oP ht hN2 n _ _ _ h (o8 f4 ho) fg ha (kv hm ⟨f1,trivial⟩) (by rw [hpt];omega);rw [hpt] at i2;rw [hgt] at i3;refine⟨i1,?_,by omega,i4.trans f4⟩;simp only [zW];split at i2
     ·rename_i hn;rw [zL hn];omega
     ·rename_i hn;rw [zO hn];omega
theorem nd:∀(n:Nat),pu (patF n) 200000
 | 0=>fun r d x r1 _ h _=>by cases h
 | n+1=>fun r d x r1 hr h ho=>by
  have ih:=nd n;have ht:∀(r:List Str) (x:Rx) (r1:List Str),r.length≤200000→lB (patF n) r d=.ok (x,r1)→okC r→Fct 0 r x r1∧r1.length<r.length:=fun r x r1 hr h ho=>oL ih h ho fg fg
  obtain⟨i1,i2,i3,i4⟩:=oP ht fg _ [] [] r h ho hr trivial trivial (by simp only [Rx.partsL];omega);rw [zL rfl] at i2;simp only [Rx.partsL,Rx.groupsL] at i2 i3;exact⟨i1,by omega,by omega,i4⟩
end Go.Proofs.YtbnkaecmgfolpaaGreat
