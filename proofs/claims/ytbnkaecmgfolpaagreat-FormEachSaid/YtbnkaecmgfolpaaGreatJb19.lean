/- The plain law of the sort: swaps, turns. · The plain law of the sort: the order of rows; what a search finds. · The plain law of the sort: symM puts two sorted rows together. · The plain law of the sort: symM, whole. · The plain law of the sort, whole: what SortStableFunc leaves is sorted and a permutation. -/
import Derived.Test.YtbnkaecmgfolpaaGreatJb15
set_option maxRecDepth 100000
namespace Go.Proofs.YtbnkaecmgfolpaaGreat
theorem mN (P:List Row) (x:Row) (S:List Row):(P++x::S)[P.length]?=some x:=by
 rw [xx (wY _),Nat.sub_self];rfl
theorem vw (P:List Row) (x y:Row) (S:List Row):(P++x::S).set P.length y=P++y::S:=by
 rw [List.set_append_right _ _ (wY _),Nat.sub_self];rfl
theorem mc (P Q S:List Row) (x y:Row) (i j:Nat) (hi:i=P.length) (hj:j=P.length+1+Q.length):jF (P++x::(Q++y::S)) i j=P++y::(Q++x::S):=by
 subst hi hj;have h2:P++x::(Q++y::S)=(P++x::Q)++y::S:=eB;have hl:(P++x::Q).length=P.length+1+Q.length:=by simp;omega
 have g1:(P++x::(Q++y::S))[P.length]?=some x:=mN _ _ _;have g2:(P++x::(Q++y::S))[P.length+1+Q.length]?=some y:=by rw [h2,←hl];exact mN _ _ _
 rw [tg g1 g2,vw];have h3:P++y::(Q++y::S)=(P++y::Q)++y::S:=eB;have hl2:(P++y::Q).length=P.length+1+Q.length:=by simp;omega
 rw [h3,←hl2,vw];simp
theorem n9 {rs:List Row} {i j:Nat} (h:i≠j):jF rs i j=jF rs j i:=by
 unfold jF;cases h1:rs[i]? with
 | none=>cases h2:rs[j]?<;>rfl
 | some x =>
  cases h2:rs[j]? with
  | none=>rfl
  | some y=>exact List.set_comm _ _ h
theorem re (a b:Nat):∀(X Y P Q S:List Row) (i:Nat),X.length=Y.length→a+i=P.length→b+i=P.length+X.length+Q.length →
  (List.range' i X.length).foldl (fun l k=>jF l (a+k) (b+k)) (P++(X++(Q++(Y++S))))=P++(Y++(Q++(X++S)))
 | [],[],P,Q,S,i,_,_,_=>by simp
 | [],_::_,_,_,_,_,h,_,_=>by simp at h
 | _::_,[],_,_,_,_,h,_,_=>by simp at h
 | x::X,y::Y,P,Q,S,i,hl,ha,hb=>by
  simp only [xg] at hl hb;rw [xg,List.range'_succ,xI];have h1:P++(x::X++(Q++(y::Y++S)))=P++x::((X++Q)++y::(Y++S)):=eB;rw [h1,mc P (X++Q) (Y++S) x y (a+i) (b+i) ha fo];have h2:P++y::((X++Q)++x::(Y++S))=(P++[y])++(X++((Q++[x])++(Y++S))):=eB;rw [h2,re a b X Y (P++[y]) (Q++[x]) S (i+1) eu eC eC];simp
theorem nT (X Y P Q S:List Row) (a b n:Nat) (hl:X.length=Y.length) (ha:a=P.length) (hb:b=P.length+X.length+Q.length) (hn:n=X.length) :
  oB (P++(X++(Q++(Y++S)))) a b n=P++(Y++(Q++(X++S))):=by
 subst hn;exact re a b X Y P Q S 0 hl eu eu
theorem kD (l:List Row) {n:Nat} (h:n≤l.length):∃a b,l=a++b∧a.length=n∧b.length=l.length-n :=
 ⟨l.take n,l.drop n,(List.take_append_drop n l).symm,by rw [xF];omega,by rw [xN]⟩
theorem po:∀(k:Nat) (P A B S:List Row) (m i j:Nat),m=P.length+A.length→i=A.length→j=B.length→0<i→0<j→i+j≤k →
  rotL k (P++(A++(B++S))) m i j=P++(B++(A++S))
 | 0,P,A,B,S,m,i,j,_,_,_,h1,_,h=>by omega
 | k+1,P,A,B,S,m,i,j,hm,hi,hj,h1,h2,hk=>by
  simp only [rotL];by_cases hij:i=j
  ·rw [wU hij]
   have:=nT A B P [] S (m-i) m i eu eu eC hi
   simpa using this
  ·rw [wX hij]
   by_cases hlt:j<i
   ·rw [wU hlt]
    obtain⟨A1,A2,rfl,l1,l2⟩:=kD A (n:=j) eu;rw [xm] at hm hi;have e1:P++(A1++A2++(B++S))=P++(A1++(A2++(B++S))):=eB;rw [e1,nT A1 B P A2 S (m-i) m j eu eu eu l1.symm];have e2:P++(B++(A2++(A1++S)))=(P++B)++(A2++(A1++S)):=eB;rw [e2,po k (P++B) A2 A1 S m (i-j) j eC eu eu eu h2 eu];simp
   ·rw [wX hlt]
    obtain⟨B1,B2,rfl,l1,l2⟩:=kD B (n:=j-i) eu;rw [xm] at hj l2;have e1:P++(A++(B1++B2++S))=P++(A++(B1++(B2++S))):=eB;rw [e1,nT A B2 P B1 S (m-i) (m+j-i) i eu eu eu hi];have e2:P++(B2++(B1++(A++S)))=P++(B2++(B1++(A++S))):=rfl;rw [po k P B2 B1 (A++S) m i (j-i) eu eu eu h1 eu eu];simp
theorem tn (x:Row):∀(B P S:List Row) (a n:Nat),a=P.length→n=B.length→upSw (P++x::(B++S)) a n=P++(B++x::S)
 | [],P,S,a,n,_,hn=>by simp at hn;subst hn;simp [upSw]
 | b::B,P,S,a,n,ha,hn=>by
  subst hn;have ih:=tn x B (P++[b]) S (a+1) B.length eC rfl;unfold upSw at ih ⊢;rw [xg,List.range'_succ,xI];have h1:=mc P [] (B++S) x b a (a+1) ha eC;rw [xO,xO] at h1;rw [show P++x::(b::B++S)=P++x::b::(B++S) by simp,h1];simpa using ih
theorem tt (x:Row):∀(n:Nat) (B P S:List Row) (m:Nat),n=B.length→m=P.length+B.length→dnSw n (P++(B++x::S)) m=P++x::(B++S)
 | 0,B,P,S,m,hn,_=>by
  have hB:B=[]:=wV hn.symm;subst hB;simp [dnSw]
 | n+1,B,P,S,m,hn,hm=>by
  have hne:B≠[]:=by rintro rfl;simp at hn
  obtain⟨C,b,rfl⟩:∃C b,B=C++[b]:=⟨B.dropLast,B.getLast hne,(List.dropLast_concat_getLast hne).symm⟩;simp only [xm,xg,xR] at hn hm;simp only [dnSw];have h1:=mc (P++C) [] S b x (m-1) m eC eC;rw [xO,xO] at h1;rw [n9 eu,show P++(C++[b]++x::S)=P++C++b::x::S by simp,h1];have ih:=tt x n C P (b::S) (m-1) eu eu;rw [show P++C++x::b::S=P++(C++x::b::S) by simp,ih];simp
theorem pQ {a b:Row}:cmpR a b<0↔Op.bytesLess a.1 b.1=true∨(a.1=b.1∧Op.bytesLess a.2 b.2=true):=by
 unfold cmpR;rcases mT a.1 b.1 with⟨h1,h2⟩|⟨h1,h2⟩|⟨h1,h2⟩
 ·rw [h1];simp [h2]
 ·rw [h1,wU rfl]
  have hn:Op.bytesLess a.1 b.1=false:=by rw [h2];exact iG _
  rcases mT a.2 b.2 with⟨g1,g2⟩|⟨g1,g2⟩|⟨g1,g2⟩
  ·rw [g1];simp [h2,g2]
  ·rw [g1];simp [hn,g2,iG]
  ·rw [g1];simp [hn,lI g2]
 ·rw [h1,wX ez]
  have hn:=lI h2;have hne:a.1≠b.1:=by intro e;rw [e,iG] at h2;cases h2
  simp [hn,hne]
def ltR (a b:Row):Prop:=cmpR a b<0
def leR (a b:Row):Prop:=¬ltR b a
instance (a b:Row):Decidable (ltR a b):=inferInstanceAs (Decidable (_<_))
theorem ph (a:Row):¬ltR a a:=by unfold ltR;rw [pQ];simp [iG]
theorem nC {a b c:Row} (h1:ltR a b) (h2:ltR b c):ltR a c:=by
 unfold ltR at *;rw [pQ] at *;rcases h1 with h1|⟨e1,h1⟩<;>rcases h2 with h2|⟨e2,h2⟩
 ·exact .inl (lH h1 h2)
 ·exact .inl (e2▸h1)
 ·exact .inl (e1▸h2)
 ·exact .inr ⟨e1.trans e2,lH h1 h2⟩
theorem oe (a b:Row):ltR a b∨a=b∨ltR b a:=by
 unfold ltR;rw [pQ,pQ];obtain⟨a1,a2⟩:=a;obtain⟨b1,b2⟩:=b;rcases ko a1 b1 with h|rfl|h
 ·exact .inl (.inl h)
 ·rcases ko a2 b2 with h|rfl|h
  ·exact .inl (.inr ⟨rfl,h⟩)
  ·exact .inr (.inl rfl)
  ·exact .inr (.inr (.inr ⟨rfl,h⟩))
 ·exact .inr (.inr (.inl h))
theorem sM (a:Row):leR a a:=ph a
theorem mi {a b:Row} (h:ltR a b):leR a b:=fun h2=>ph a (nC h h2)
theorem jM {a b c:Row} (h1:leR a b) (h2:leR b c):leR a c:=fun h=>by
 rcases oe b a with h3|rfl|h3
 ·exact h1 h3
 ·exact h2 h
 ·exact h2 (nC h h3)
theorem qO (a b:Row):leR a b∨leR b a:=by
 rcases oe a b with h|rfl|h
 ·exact .inl (mi h)
 ·exact .inl (sM a)
 ·exact .inr (mi h)
abbrev Srt (l:List Row):Prop:=l.Pairwise leR
theorem ll {l:List Row} (h:Srt l) {i j:Nat} {x y:Row} (hij:i≤j) (hi:l[i]?=some x) (hj:l[j]?=some y):leR x y:=by
 rcases Nat.eq_or_lt_of_le hij with rfl|hlt
 ·rw [hi] at hj;injection hj with hj;subst hj;exact sM _
 ·obtain⟨hi',rfl⟩:=wZ.1 hi
  obtain⟨hj',rfl⟩:=wZ.1 hj;exact List.pairwise_iff_getElem.1 h i j hi' hj' hlt
theorem ol (p:Nat→Bool):∀(k i j:Nat),i≤j→j-i≤k→(∀x y,i≤x→x≤y→y<j→p y=true→p x=true) →
  (∀x,i≤x→x<bs p k i j→p x=true)∧(∀x,bs p k i j≤x→x<j→p x=false)
 | 0,i,j,h,hk,_=>by
  simp only [bs];exact⟨fun x h1 h2=>by omega,fun x h1 h2=>by omega⟩
 | k+1,i,j,h,hk,hm=>by
  simp only [bs];by_cases hlt:i<j
  ·rw [wU hlt]
   generalize hH:(i+j) / 2=H
   have hHb:i≤H∧H<j:=eu;cases hp:p H with
   | true =>
    rw [wU rfl];obtain⟨g1,g2⟩:=ol p k (H+1) j eu eu (fun x y a b c d=>hm x y eu b c d);refine⟨fun x h1 h2=>?_,g2⟩;by_cases hx:x≤H
    ·exact hm x H h1 hx hHb.2 hp
    ·exact g1 x eu h2
   | false =>
    rw [wX eB];obtain⟨g1,g2⟩:=ol p k i H hHb.1 eu (fun x y a b c d=>hm x y a b eu d);have hbd:=pF p k i H hHb.1;refine⟨g1,fun x h1 h2=>?_⟩;by_cases hx:x<H
    ·exact g2 x h1 hx
    ·cases hq:p x with
     | false=>rfl
     | true=>rw [hm H x hHb.1 eu h2 hq] at hp;cases hp
  ·rw [wX hlt]
   exact⟨fun x h1 h2=>by omega,fun x h1 h2=>by omega⟩
theorem qe (P B S:List Row) {t:Nat} (h:t<B.length):(P++(B++S))[P.length+t]?=B[t]?:=by
 rw [xx eu,Nat.add_sub_cancel_left,xp h]
theorem srt_app {l r:List Row}:Srt (l++r)↔Srt l∧Srt r∧∀x∈l,∀y∈r,leR x y:=List.pairwise_append
theorem pJ {rs:List Row} {i j:Nat} {x y:Row} (h1:rs[i]?=some x) (h2:rs[j]?=some y):ltAt rs i j=true↔ltR x y:=by
 rw [qi h1 h2,wS];rfl
theorem sym_one (P B S:List Row) (x:Row) (a b:Nat) (ha:a=P.length) (hb:b=a+1+B.length) (hs:Srt B) :
  ∃M,upSw (P++([x]++(B++S))) a (bs (fun h=>ltAt (P++([x]++(B++S))) h a) b (a+1) b-1-a)=P++(M++S)∧M.Perm ([x]++B)∧Srt M:=by
 obtain⟨rs,hrs⟩:∃rs,P++([x]++(B++S))=rs:=⟨_,rfl⟩;rw [hrs];have hx:rs[a]?=some x:=by rw [←hrs,ha];exact mN _ _ _
 have hget:∀t,t<B.length→rs[a+1+t]?=B[t]?:=fun t ht=>by
  rw [←hrs,show P++([x]++(B++S))=(P++[x])++(B++S) by simp];have:=qe (P++[x]) B S ht
  rw [←this,xm];simp [ha]
 have hval:∀t,t<B.length→∃y,B[t]?=some y:=fun t ht=>⟨_,wW ht⟩
 have hp:∀t y,B[t]?=some y→(ltAt rs (a+1+t) a=true↔ltR y x):=fun t y hy=>by
  have ht:=(wZ.1 hy).1;exact pJ (by rw [hget t ht];exact hy) hx
 have hbd:=pF (fun h=>ltAt rs h a) b (a+1) b eu;obtain⟨g1,g2⟩:=ol (fun h=>ltAt rs h a) b (a+1) b eu eu (fun u v h1 h2 h3 h4=>by
  obtain⟨yu,hu⟩:=hval (u-(a+1)) eu;obtain⟨yv,hv⟩:=hval (v-(a+1)) eu;have q1:=hp _ _ hu;have q2:=hp _ _ hv;rw [show a+1+(u-(a+1))=u by omega] at q1;rw [show a+1+(v-(a+1))=v by omega] at q2;rw [q1];have hle:=ll hs (by omega:u-(a+1)≤v-(a+1)) hu hv;have hlt:=q2.1 h4;rcases oe yu x with h|h|h
  ·exact h
  ·rw [h] at hle;exact absurd hlt hle
  ·exact absurd (nC hlt h) hle)
 generalize bs (fun h=>ltAt rs h a) b (a+1) b=s at *
 obtain⟨B1,B2,rfl,l1,l2⟩:=kD B (n:=s-1-a) eu;rw [xm] at hb hval hget;refine⟨B1++x::B2,?_,?_,?_⟩
 ·rw [←hrs]
  have:=tn x B1 P (B2++S) a (s-1-a) ha l1.symm
  simpa using this
 ·simp
 ·obtain⟨h1,h2,h3⟩:=srt_app.1 hs
  have k1:∀y∈B1,leR y x:=fun y hy=>by
   obtain⟨t,ht⟩:=List.getElem?_of_mem hy;have htl:=(wZ.1 ht).1;exact mi ((hp t y (by rw [xp htl];exact ht)).1 (g1 _ eu eu))
  have k2:∀y∈B2,leR x y:=fun y hy=>by
   obtain⟨t,ht⟩:=List.getElem?_of_mem hy;have htl:=(wZ.1 ht).1;intro hlt;have:=(hp (B1.length+t) y (by rw [xx eu,Nat.add_sub_cancel_left];exact ht)).2 hlt
   rw [g2 _ eu eu] at this;cases this
  exact cu
theorem sym_last (P A S:List Row) (x:Row) (a m:Nat) (ha:a=P.length) (hm:m=a+A.length) (hs:Srt A) :
  ∃M,dnSw (m-bs (fun h=>!ltAt (P++(A++([x]++S))) m h) m a m) (P++(A++([x]++S))) m=P++(M++S)∧M.Perm (A++[x])∧Srt M:=by
 obtain⟨rs,hrs⟩:∃rs,P++(A++([x]++S))=rs:=⟨_,rfl⟩;rw [hrs];have hx:rs[m]?=some x:=by
  rw [←hrs,show P++(A++([x]++S))=(P++A)++x::S by simp,show m=(P++A).length by simp;omega];exact mN _ _ _
 have hget:∀t,t<A.length→rs[a+t]?=A[t]?:=fun t ht=>by rw [←hrs,ha];exact qe P A _ ht
 have hval:∀t,t<A.length→∃y,A[t]?=some y:=fun t ht=>⟨_,wW ht⟩
 have hp:∀t y,A[t]?=some y→((!ltAt rs m (a+t))=true↔leR y x):=fun t y hy=>by
  have ht:=(wZ.1 hy).1;have:=pJ hx (show rs[a+t]?=some y by rw [hget t ht];exact hy)
  unfold leR;rw [←this];simp
 have hbd:=pF (fun h=>!ltAt rs m h) m a m eu;obtain⟨g1,g2⟩:=ol (fun h=>!ltAt rs m h) m a m eu eu (fun u v h1 h2 h3 h4=>by
  obtain⟨yu,hu⟩:=hval (u-a) eu;obtain⟨yv,hv⟩:=hval (v-a) eu;have q1:=hp _ _ hu;have q2:=hp _ _ hv;rw [show a+(u-a)=u by omega] at q1;rw [show a+(v-a)=v by omega] at q2;rw [q1];exact jM (ll hs (by omega:u-a≤v-a) hu hv) (q2.1 h4))
 generalize bs (fun h=>!ltAt rs m h) m a m=s at *
 obtain⟨A1,A2,rfl,l1,l2⟩:=kD A (n:=s-a) eu;rw [xm] at hm hval hget l2;refine⟨A1++x::A2,?_,?_,?_⟩
 ·rw [←hrs]
  have:=tt x (m-s) A2 (P++A1) S m eu eC
  simpa using this
 ·have:=List.perm_middle (l₁:=A1) (l₂:=A2) (a:=x)
  exact this.trans ((List.perm_append_singleton x (A1++A2)).symm)
 ·obtain⟨h1,h2,h3⟩:=srt_app.1 hs
  have k1:∀y∈A1,leR y x:=fun y hy=>by
   obtain⟨t,ht⟩:=List.getElem?_of_mem hy;have htl:=(wZ.1 ht).1;exact(hp t y (by rw [xp htl];exact ht)).1 (g1 _ eu eu)
  have k2:∀y∈A2,leR x y:=fun y hy=>by
   obtain⟨t,ht⟩:=List.getElem?_of_mem hy;have htl:=(wZ.1 ht).1;have hb:=g2 (a+(A1.length+t)) eu eu;have hq:=hp (A1.length+t) y (by rw [xx eu,Nat.add_sub_cancel_left];exact ht);rw [hb] at hq;exact(qO x y).resolve_right (fun h=>by have:=hq.2 h;cases this)
  exact cu
theorem ju {l:List Row} (h:l.length=0):l=[]:=wV h
theorem kI:∀(f:Nat) (P A B S:List Row) (a m b:Nat),a=P.length→m=a+A.length→b=m+B.length→0<A.length→0<B.length→A.length+B.length≤f→Srt A→Srt B →
  ∃M,symM f (P++(A++(B++S))) a m b=P++(M++S)∧M.Perm (A++B)∧Srt M
 | 0,P,A,B,S,a,m,b,_,_,_,h1,h2,h,_,_=>by omega
 | f+1,P,A,B,S,a,m,b,ha,hm,hb,h1,h2,hf,hA,hB=>by
  by_cases c1:m=a+1
  ·match A,hm,hA with
   | [x],hm,_ =>
    subst c1;rw [sE];exact sym_one P B S x a b ha hb hB
   | [],hm,_=>simp at h1
   | _::_::_,hm,_=>simp at hm;omega
  by_cases c2:b=m+1
  ·match B,hb,hB with
   | [x],hb,_ =>
    subst c2;rw [qX c1];exact sym_last P A S x a m ha hm hA
   | [],hb,_=>simp at h2
   | _::_::_,hb,_=>simp at hb;omega
  rw [sG c1 c2];obtain⟨rs,hrs⟩:∃rs,P++(A++(B++S))=rs:=⟨_,rfl⟩;rw [hrs];obtain⟨Mi,hMi⟩:∃M,(a+b) / 2=M:=⟨_,rfl⟩;obtain⟨LO,hLO⟩:∃LO,sLo a m b=LO:=⟨_,rfl⟩;obtain⟨HI,hHI⟩:∃HI,sHi a m b=HI:=⟨_,rfl⟩;rw [hMi,hLO,hHI];have hlohi:a≤LO∧LO≤HI∧HI≤Mi∧HI≤m∧Mi+m≤LO+b∧(LO=a∨LO=Mi+m-b)∧(HI=m∨HI=Mi):=by
   unfold sLo at hLO;unfold sHi at hHI;rw [hMi] at hLO hHI;by_cases hc:Mi<m
   ·rw [wU hc] at hLO hHI;omega
   ·rw [wX hc] at hLO hHI;omega
  obtain⟨q1,q2,q3,q4,q5,q6,q7⟩:=hlohi;have gA:∀c,a≤c→c<m→∃x,A[c-a]?=some x∧rs[c]?=some x:=fun c u v=>by
   obtain⟨x,hx⟩:∃x,A[c-a]?=some x:=⟨_,wW eu⟩;refine⟨x,hx,?_⟩;rw [←hrs,←hx];have:=qe P A (B++S) (t:=c-a) eu
   rw [show P.length+(c-a)=c by omega] at this;exact this
  have gB:∀c,m≤c→c<b→∃x,B[c-m]?=some x∧rs[c]?=some x:=fun c u v=>by
   obtain⟨x,hx⟩:∃x,B[c-m]?=some x:=⟨_,wW eu⟩;refine⟨x,hx,?_⟩;rw [←hrs,←hx,show P++(A++(B++S))=(P++A)++(B++S) by simp];have:=qe (P++A) B S (t:=c-m) eu
   rw [show (P++A).length+(c-m)=c by simp;omega] at this;exact this
  have hp:∀c x y,LO≤c→c<HI→A[c-a]?=some x→B[Mi+m-1-c-m]?=some y→((!ltAt rs (Mi+m-1-c) c)=true↔leR x y):=fun c x y u v hx hy=>by
   obtain⟨x',hx1,hx2⟩:=gA c eu eu;obtain⟨y',hy1,hy2⟩:=gB (Mi+m-1-c) eu eu;obtain rfl:=Option.some.inj (hx.symm.trans hx1);obtain rfl:=Option.some.inj (hy.symm.trans hy1);have:=pJ hy2 hx2
   unfold leR;rw [←this];simp
  have hbd:=pF (fun c=>!ltAt rs (Mi+m-1-c) c) b LO HI q2;obtain⟨g1,g2⟩:=ol (fun c=>!ltAt rs (Mi+m-1-c) c) b LO HI q2 eu (fun u v k1 k2 k3 k4=>by
   obtain⟨xu,hxu,_⟩:=gA u eu eu;obtain⟨xv,hxv,_⟩:=gA v eu eu;obtain⟨yu,hyu,_⟩:=gB (Mi+m-1-u) eu eu;obtain⟨yv,hyv,_⟩:=gB (Mi+m-1-v) eu eu;rw [hp u xu yu k1 eu hxu hyu];have:=(hp v xv yv eu k3 hxv hyv).1 k4
   exact jM (jM (ll hA eu hxu hxv) this) (ll hB eu hyv hyu))
  generalize bs (fun c=>!ltAt rs (Mi+m-1-c) c) b LO HI=s at *
  obtain⟨E,hE⟩:∃E,Mi+m-s=E:=⟨_,rfl⟩;rw [hE];obtain⟨A1,A2,rfl,l1,l2⟩:=kD A (n:=s-a) eu;obtain⟨B1,B2,rfl,l3,l4⟩:=kD B (n:=E-m) eu;simp only [xm] at hm hb h1 h2 hf l2 l4;obtain⟨sA1,sA2,sA⟩:=srt_app.1 hA;obtain⟨sB1,sB2,sB⟩:=srt_app.1 hB;have hcross:∀x∈A1++B1,∀y∈A2++B2,leR x y:=by
   intro x hx y hy;rcases xD.1 hx with hx|hx<;>rcases xD.1 hy with hy|hy
   ·exact sA x hx y hy
   ·obtain⟨t,ht⟩:=List.getElem?_of_mem hx
    obtain⟨v,hv⟩:=List.getElem?_of_mem hy;have htl:=(wZ.1 ht).1;have hvl:=(wZ.1 hv).1;have hLs:LO<s:=eu;obtain⟨x',hx1,_⟩:=gA (s-1) eu eu;obtain⟨y',hy1,_⟩:=gB (Mi+m-1-(s-1)) eu eu;have:=(hp (s-1) x' y' eu eu hx1 hy1).1 (g1 (s-1) eu eu)
    exact jM (jM (ll hA (show t≤s-1-a by omega) (by rw [xp htl];exact ht) hx1) this)
     (ll hB (show Mi+m-1-(s-1)-m≤B1.length+v by omega) hy1 (by rw [xx eu,Nat.add_sub_cancel_left];exact hv))
   ·obtain⟨t,ht⟩:=List.getElem?_of_mem hx
    obtain⟨v,hv⟩:=List.getElem?_of_mem hy;have htl:=(wZ.1 ht).1;have hvl:=(wZ.1 hv).1;have hsH:s<HI:=eu;obtain⟨x',hx1,_⟩:=gA s eu eu;obtain⟨y',hy1,_⟩:=gB (Mi+m-1-s) eu eu;have hn:=g2 s (wY _) hsH;have hq:=hp s x' y' hbd.1 hsH hx1 hy1;have hle:leR y' x':=(qO x' y').resolve_left (fun h=>by have:=hq.2 h;rw [hn] at this;cases this);exact jM (jM (ll hB (show t≤Mi+m-1-s-m by omega) (by rw [xp htl];exact ht) hy1) hle)
     (ll hA (show s-a≤A1.length+v by omega) hx1 (by rw [xx eu,Nat.add_sub_cancel_left];exact hv))
   ·exact sB x hx y hy
  have hr1:(if s<m∧m<E then rotL (E-s) rs m (m-s) (E-m) else rs)=P++(A1++(B1++(A2++(B2++S)))):=by
   by_cases hc:s<m∧m<E
   ·rw [wU hc,←hrs]
    have:=po (E-s) (P++A1) A2 B1 (B2++S) m (m-s) (E-m) eC eu eu eu eu eu
    simpa using this
   ·rw [wX hc,←hrs]
    by_cases hs:s<m
    ·have:B1=[]:=ju eu
     subst this;simp
    ·have:A2=[]:=ju eu
     subst this;simp
  rw [hr1];have hr2:∃M1,(if a<s∧s<Mi then symM f (P++(A1++(B1++(A2++(B2++S))))) a s Mi else P++(A1++(B1++(A2++(B2++S)))))=P++(M1++(A2++(B2++S)))∧M1.Perm (A1++B1)∧Srt M1:=by
   by_cases hc:a<s∧s<Mi
   ·rw [wU hc]
    exact kI f P A1 B1 (A2++(B2++S)) a s Mi ha eu eu eu eu eu sA1 sB1
   ·rw [wX hc]
    by_cases hs:a<s
    ·have:B1=[]:=ju eu
     subst this;exact⟨A1,by simp,by simp,sA1⟩
    ·have:A1=[]:=ju eu
     subst this;exact⟨B1,by simp,by simp,sB1⟩
  obtain⟨M1,e1,p1,s1⟩:=hr2;unfold symT;rw [e1];have hl1:M1.length=Mi-a:=by rw [p1.length_eq,xm];omega
  have hr3:∃M2,(if Mi<E∧E<b then symM f (P++(M1++(A2++(B2++S)))) Mi E b else P++(M1++(A2++(B2++S))))=P++(M1++(M2++S))∧M2.Perm (A2++B2)∧Srt M2:=by
   by_cases hc:Mi<E∧E<b
   ·rw [wU hc]
    obtain⟨M2,e2,p2,s2⟩:=kI f (P++M1) A2 B2 S Mi E b eC eu eu eu eu eu sA2 sB2;exact⟨M2,by simpa using e2,p2,s2⟩
   ·rw [wX hc]
    by_cases hs:Mi<E
    ·have:B2=[]:=ju eu
     subst this;exact⟨A2,by simp,by simp,sA2⟩
    ·have:A2=[]:=ju eu
     subst this;exact⟨B2,by simp,by simp,sB2⟩
  obtain⟨M2,e2,p2,s2⟩:=hr3;refine⟨M1++M2,by rw [e2];simp,?_,?_⟩
  ·refine(p1.append p2).trans ?_
   have h1:((A1++B1)++(A2++B2)).Perm ((A1++A2)++(B1++B2)):=by
    rw [xU,xU];refine List.Perm.append_left A1 ?_;rw [←xU,←xU];exact List.Perm.append_right B2 List.perm_append_comm
   exact h1
  ·rw [srt_app]
   exact⟨s1,s2,fun x hx y hy=>hcross x (p1.mem_iff.1 hx) y (p2.mem_iff.1 hy)⟩
theorem tC (a:Nat) (rs:List Row):me a a rs=rs:=by
 cases a with
 | zero=>rfl
 | succ j =>
  simp only [me];split
  ·rw [wX eu]
  ·rfl
theorem tm {A:List Row} {x:Row} (h:Srt A) (hx:∀y∈A,leR y x):Srt (A++[x]):=by
 refine List.pairwise_append.2 ⟨h,List.pairwise_singleton _ _,fun y hy z hz=>?_⟩;rw [xV] at hz;subst hz;exact hx y hy
theorem q9 (P:List Row) (x:Row):∀(n:Nat) (A S:List Row) (a j:Nat),n=A.length→a=P.length→j=a+A.length→Srt A →
  ∃M,me a j (P++(A++x::S))=P++(M++S)∧M.Perm (A++[x])∧Srt M
 | 0,A,S,a,j,hn,ha,hj,hA=>by
  obtain rfl:=ju hn.symm;obtain rfl:j=a:=by simpa using hj
  exact⟨[x],by rw [tC];simp,by simp,List.pairwise_singleton _ _⟩
 | n+1,A,S,a,j,hn,ha,hj,hA=>by
  rcases o0 A with rfl|⟨B,y,rfl⟩
  ·simp at hn
  simp only [xm,List.length_singleton] at hn hj;obtain⟨j,rfl⟩:∃j',j=j'+1:=⟨a+B.length,by omega⟩;obtain⟨hB,_,hy⟩:=List.pairwise_append.1 hA;have hy:∀z∈B,leR z y:=fun z hz=>hy z hz y eB
  have e1:P++((B++[y])++x::S)=(P++B)++y::([]++x::S):=eB;have hl:(P++B).length=j:=by rw [xm];omega
  have g1:((P++B)++y::([]++x::S))[j]?=some y:=by rw [←hl];exact mN _ _ _
  have g2:((P++B)++y::([]++x::S))[j+1]?=some x:=by
   rw [show (P++B)++y::([]++x::S)=(P++B++[y])++x::S by simp,show j+1=(P++B++[y]).length by rw [xm,hl];rfl];exact mN _ _ _
  rw [e1];simp only [me,g1,g2];by_cases hc:cmpR x y<0
  ·rw [wU ⟨by omega,hc⟩,n9 eu,mc (P++B) [] S y x j (j+1) hl.symm (by rw [hl];simp)]
   obtain⟨M,h1,h2,h3⟩:=q9 P x n B (y::S) a j eu ha eu hB;refine⟨M++[y],?_,?_,?_⟩
   ·rw [show (P++B)++x::([]++y::S)=P++(B++x::y::S) by simp,h1];simp
   ·have:=h2.append_right [y]
    refine this.trans ?_;rw [xU,xU];exact List.Perm.append_left B (List.Perm.swap _ _ _)
   ·refine tm h3 (fun z hz=>?_)
    have hz:=h2.mem_iff.1 hz;rw [xD,xV] at hz;rcases hz with hz|rfl
    ·exact hy z hz
    ·exact mi hc
  ·rw [wX (by intro h;exact hc h.2)]
   refine⟨B++[y]++[x],by simp,.refl _,tm hA (fun z hz=>?_)⟩;rw [xD,xV] at hz;rcases hz with hz|rfl
   ·exact jM (hy z hz) hc
   ·exact hc
theorem mS (P:List Row):∀(B A S:List Row) (a k i:Nat),k=B.length→a=P.length→i=a+A.length→Srt A →
  ∃M,jP a k i (P++(A++(B++S)))=P++(M++S)∧M.Perm (A++B)∧Srt M
 | [],A,S,a,k,i,hk,ha,hi,hA=>by
  subst hk;exact⟨A,by simp [jP],by simp,hA⟩
 | x::B,A,S,a,k,i,hk,ha,hi,hA=>by
  subst hk;obtain⟨M,h1,h2,h3⟩:=q9 P x A.length A (B++S) a i rfl ha hi hA;have hl:M.length=A.length+1:=by rw [h2.length_eq];simp
  obtain⟨M2,g1,g2,g3⟩:=mS P B M S a B.length (i+1) rfl ha eu h3;refine⟨M2,?_,?_,g3⟩
  ·simp only [xg,jP,xQ];rw [h1,g1]
  ·refine g2.trans ((h2.append_right B).trans ?_)
   simp
inductive Blk (s:Nat):List Row→Prop
 | last {l:List Row}:l.length<s→Srt l→Blk s l
 | cons {A l:List Row}:A.length=s→Srt A→Blk s l→Blk s (A++l)
theorem Blk.take {s:Nat} {l:List Row} (h:Blk s l) (hl:s≤l.length):∃A T,l=A++T∧A.length=s∧Srt A∧Blk s T:=by
 cases h with
 | last h1 _=>omega
 | cons h1 h2 h3=>exact⟨_,_,rfl,h1,h2,h3⟩
theorem Blk.short {s:Nat} {l:List Row} (h:Blk s l) (hl:l.length<s):Srt l:=by
 cases h with
 | last _ h2=>exact h2
 | cons h1 h2 h3=>rw [xm] at hl;omega
theorem Blk.whole {s:Nat} {l:List Row} (h:Blk s l) (hl:l.length≤s):Srt l:=by
 rcases Nat.eq_or_lt_of_le hl with e|e
 ·obtain⟨A,T,rfl,h1,h2,h3⟩:=h.take eu
  obtain rfl:T=[]:=ju (by rw [xm] at e;omega);simpa using h2
 ·exact h.short e
theorem vU:∀(k:Nat) (P S:List Row) (a n:Nat),a=P.length→n=a+S.length→n<a+k→∃M,stA k (P++S) a n=P++M∧M.Perm S∧Blk 20 M
 | 0,P,S,a,n,_,_,h=>by omega
 | k+1,P,S,a,n,ha,hn,hk=>by
  simp only [stA];by_cases hc:a+20≤n
  ·rw [wU hc]
   obtain⟨A,T,rfl,hA,hT⟩:=kD S (n:=20) eu;match A,hA,hn,hT with
   | x::A,hA,hn,hT =>
    simp only [xg] at hA;obtain⟨M,h1,h2,h3⟩:=mS P A [x] T a (a+20-(a+1)) (a+1) eu ha rfl (List.pairwise_singleton _ _);have hl:M.length=20:=by rw [h2.length_eq];simp;omega
    obtain⟨M2,g1,g2,g3⟩:=vU k (P++M) T (a+20) n fo (by simp at hn;omega) eu;refine⟨M++M2,?_,?_,.cons hl h3 g3⟩
    ·rw [show P++((x::A)++T)=P++([x]++(A++T)) by simp,h1,←xU,g1,xU]
    ·exact(h2.append_right M2).trans (g2.append_left _)
   | [],hA,_,_=>simp at hA
  ·rw [wX hc]
   match S,hn with
   | [],hn =>
    obtain rfl:n=a:=by simpa using hn
    refine⟨[],?_,.refl _,.last eB List.Pairwise.nil⟩;rw [show n-(n+1)=0 by omega];rfl
   | x::S,hn =>
    simp only [xg] at hn;obtain⟨M,h1,h2,h3⟩:=mS P S [x] [] a (n-(a+1)) (a+1) eu ha rfl (List.pairwise_singleton _ _);have hl:M.length=S.length+1:=by rw [h2.length_eq];simp
    refine⟨M,?_,h2,.last eu h3⟩;rw [xW,xW] at h1;exact h1
theorem uO (s:Nat) (hs:0<s):∀(k:Nat) (P S:List Row) (a n:Nat),a=P.length→n=a+S.length→n<a+k→Blk s S→∃M,stB k (P++S) a s n=P++M∧M.Perm S∧Blk (2*s) M
 | 0,P,S,a,n,_,_,h,_=>by omega
 | k+1,P,S,a,n,ha,hn,hk,hB=>by
  simp only [stB];by_cases hc:a+2*s≤n
  ·rw [wU hc]
   obtain⟨A,T,rfl,hA,hsA,hT⟩:=hB.take eu;rw [xm] at hn;obtain⟨B,T,rfl,hB2,hsB,hT2⟩:=hT.take eu;rw [xm] at hn;obtain⟨M,h1,h2,h3⟩:=kI (2*s) P A B T a (a+s) (a+2*s) ha eu eu eu eu eu hsA hsB;have hl:M.length=2*s:=by rw [h2.length_eq,xm];omega
   obtain⟨M2,g1,g2,g3⟩:=uO s hs k (P++M) T (a+2*s) n fo eu eu hT2;refine⟨M++M2,?_,?_,.cons hl h3 g3⟩
   ·rw [h1,←xU,g1,xU]
   ·rw [←xU];exact(h2.append_right M2).trans (g2.append_left _)
  ·rw [wX hc]
   by_cases hd:a+s<n
   ·rw [wU hd]
    obtain⟨A,T,rfl,hA,hsA,hT⟩:=hB.take eu;rw [xm] at hn;obtain⟨M,h1,h2,h3⟩:=kI (n-a) P A T [] a (a+s) n ha eu eu eu eu eu hsA (hT.short eu);have hl:M.length=n-a:=by rw [h2.length_eq,xm];omega
    rw [xW,xW] at h1;exact⟨M,h1,h2,.last eu h3⟩
   ·rw [wX hd]
    exact⟨S,rfl,.refl _,.last eu (hB.whole eu)⟩
theorem uE:∀(k:Nat) (S:List Row) (s n:Nat),0<s→n=S.length→n<s+k→Blk s S→(stC k S s n).Perm S∧Srt (stC k S s n)
 | 0,S,s,n,_,hn,hk,hB=>⟨.refl _,hB.whole eu⟩
 | k+1,S,s,n,hs,hn,hk,hB=>by
  simp only [stC];by_cases hc:s<n
  ·rw [wU hc]
   obtain⟨M,h1,h2,h3⟩:=uO s hs (n+1) [] S 0 n rfl eu eu hB;rw [xO,xO] at h1;rw [h1];obtain⟨g1,g2⟩:=uE k M (2*s) n eu (by rw [h2.length_eq];exact hn) eu h3;exact⟨g1.trans h2,g2⟩
  ·rw [wX hc]
   exact⟨.refl _,hB.whole eu⟩
theorem tV (rs:List Row):(stL rs).Perm rs∧Srt (stL rs):=by
 obtain⟨M,h1,h2,h3⟩:=vU (rs.length+1) [] rs 0 rs.length rfl eB eu;rw [xO,xO] at h1;unfold stL;rw [h1];obtain⟨g1,g2⟩:=uE (rs.length+1) M 20 rs.length eu (by rw [h2.length_eq]) eu h3;exact⟨g1.trans h2,g2⟩
theorem sJ {r r1:List Str} (h:r1 <:+ r) (ho:okC r):okC r1:=fun p hp=>ho p (h.subset hp)
theorem kG {c:Str} {r r1:List Str} (h:r1 <:+ r):r1 <:+ c::r:=h.trans (xY _ _)
theorem iQ {c:Str} {r r1:List Str} (h:io c r=some r1):r1 <:+ r:=by rw [jd h];exact xY _ _
theorem te {r r1:List Str} {c:Str} {nm:List Row} (h:mq r=some (c,nm,r1)):r1 <:+ r:=by
 cases r with
 | nil=>cases h
 | cons p r =>
  simp only [mq] at h;by_cases h1:p=[93]
  ·rw [wU h1] at h;cases h
  rw [wX h1] at h;by_cases h2:p=[92]
  ·rw [wU h2] at h
   cases r with
   | nil=>cases h
   | cons c2 r2 =>
    simp only at h
    cases hn:kl c2 with
    | some rows =>
     simp only [hn] at h;exact cQ
    | none =>
     simp only [hn] at h;cases hpm:jx c2 with
     | none=>simp only [hpm] at h;cases h
     | some t =>
      simp only [hpm] at h;exact cQ
  ·rw [wX h2] at h
   injection h with h;injection h with h3 h;injection h with h4 h5
   subst h5;exact xY _ _
def jt (rows:List Row):Prop:=∀q∈rows,q.1.length≤1000000∧q.2.length≤1000000
theorem kt {c t:Str} (h1:c.length≤1000000) (h2:t.length≤1000000):jt [(c,t)]:=by
 intro q hq;rw [xV] at hq;subst hq;exact⟨h1,h2⟩
theorem km {a b:List Row} (h1:jt a) (h2:jt b):jt (a++b):=by
 intro q hq;rcases xD.1 hq with h|h
 ·exact h1 q h
 ·exact h2 q h
theorem j8:∀(n:Nat) (rows:List Row) (r:List Str) {rows':List Row} {r1:List Str},iL n rows r=some (rows',r1)→okC r→jt rows →
  r1 <:+ r∧r1.length<r.length∧rows'.length≤rows.length+4*r.length∧jt rows'
 | 0,_,_,_,_,h,_,_=>by cases h
 | n+1,rows,r,rows',r1,h,ho,hr=>by
  simp only [iL] at h;cases ht:io [93] r with
  | some r0 =>
   simp only [ht] at h;injection h with h;injection h with h1 h2
   subst h1 h2;have e:=jd ht;exact⟨iQ ht,by rw [e];simp,by omega,hr⟩
  | none =>
   simp only [ht] at h;cases hi:mq r with
   | none=>simp only [hi] at h;cases h
   | some y =>
    obtain⟨c,nm,r2⟩:=y;simp only [hi] at h;obtain⟨f1,f2,f3,f4,f5⟩:=lK hi ho;have fs:=te hi;by_cases hnm:nm≠[]
    ·rw [wU hnm] at h
     obtain⟨g1,g2,g3,g4⟩:=j8 n _ _ h f5 (km hr f4);rw [xm] at g3;exact⟨g1.trans fs,by omega,by omega,g4⟩
    ·rw [wX hnm] at h
     have one:∀{rr:List Str},iL n (rows++[(c,c)]) rr=some (rows',r1)→okC rr→rr <:+ r→rr.length<r.length→r1 <:+ r∧r1.length<r.length∧rows'.length≤rows.length+4*r.length∧jt rows':=by
      intro rr h hoo hs hl;obtain⟨g1,g2,g3,g4⟩:=j8 n _ _ h hoo (km hr (kt f3 f3));rw [xm,List.length_singleton] at g3;exact⟨g1.trans hs,by omega,by omega,g4⟩
     cases ht2:io [45] r2 with
     | none=>simp only [ht2] at h;exact one h f5 fs f1
     | some r3 =>
      simp only [ht2] at h;by_cases ht3:io [93] r3=none
      ·rw [wU ht3] at h
       cases hi2:mq r3 with
       | none=>simp only [hi2] at h;cases h
       | some y =>
        obtain⟨t,nm2,r4⟩:=y;simp only [hi2] at h;have hs3:=iQ ht2;have e3:=jd ht2;obtain⟨k1,k2,k3,k4,k5⟩:=lK hi2 (sJ hs3 f5);have ks:=te hi2;by_cases hb:nm2≠[]∨Op.bytesLess t c=true
        ·rw [wU hb] at h;cases h
        ·rw [wX hb] at h
         obtain⟨g1,g2,g3,g4⟩:=j8 n _ _ h k5 (km hr (kt f3 k3));rw [xm,List.length_singleton] at g3;have:r3.length<r2.length:=by rw [e3];simp
         exact⟨((g1.trans ks).trans hs3).trans fs,by omega,by omega,g4⟩
      ·rw [wX ht3] at h;exact one h f5 fs f1
theorem mrgS_ok {out:List Row} {r:Row} (h1:jt out) (h2:r.1.length≤1000000∧r.2.length≤1000000):jt (mrgS out r):=by
 rcases List.eq_nil_or_concat out with rfl|⟨B,q,rfl⟩
 ·rw [sP];exact kt h2.1 h2.2
 ·rw [List.concat_eq_append] at h1 ⊢
  have hB:jt B:=fun x hx=>h1 x (List.mem_append_left _ hx)
  have hq:=h1 q eB;cases hl:leS r.1 q.2 with
  | true =>
   rw [uD hl];refine km hB (kt hq.1 ?_);unfold mxS;by_cases hm:Op.bytesLess q.2 r.2=true
   ·rw [wU hm];exact h2.2
   ·rw [wX hm];exact hq.2
  | false =>
   rw [vF hl];exact km h1 (kt h2.1 h2.2)
theorem tw {rows:List Row} (h:jt rows):jt (jb rows)∧(jb rows).length≤rows.length:=by
 have h1:jt (stL (filR rows)):=fun q hq=>h q ((List.mem_filter.1 ((tV _).1.mem_iff.1 hq)).1)
 refine⟨?_,?_⟩
 ·unfold jb mrgL
  have key:∀(l out:List Row),jt l→jt out→jt (l.foldl mrgS out):=by
   intro l;induction l with
   | nil=>intro out _ h;exact h
   | cons r l ih =>
    intro out h1 h2;exact ih _ (fun q hq=>h1 q (xw _ hq)) (mrgS_ok h2 (h1 r (xt ..)))
  exact key _ _ h1 (by intro q hq;cases hq)
 ·unfold jb
  have e1:=sD (stL (filR rows));have e2:=vf (filR rows);have e3:=qf rows;omega
def Fct (b:Nat) (r:List Str) (x:Rx) (r1:List Str):Prop :=
 x.small∧x.parts+2*r1.length≤2*r.length+b∧x.groups+r1.count [40]≤r.count [40]∧r1 <:+ r
theorem ky {r r1:List Str} (h:r1 <:+ r) (c:Str):r1.count c≤r.count c:=h.sublist.count_le c
theorem lr {r r1:List Str} (h:r1 <:+ r):r1.length≤r.length:=h.length_le
theorem tE {k:Int} {c:Str} {ng:Bool} {rs:List Row} {lo hi:Int} {lz:Bool} (h1:c.length≤1000000) (h2:rs.length≤1000000) (h3:jt rs):(Rx.mk k c ng rs lo hi lz []).small:=by
 simp only [Rx.small,Rx.small1,Rx.smallL];exact⟨⟨h1,h2,h3,by simp⟩,trivial⟩
theorem Fct.leaf {k:Int} {c:Str} {ng:Bool} {rs:List Row} {lo hi:Int} {lz:Bool} {b:Nat} {r r1:List Str} (h1:c.length≤1000000) (h2:rs.length≤1000000) (h3:jt rs) (hk:k≠5) (hs:r1 <:+ r) (hl:r1.length<r.length):Fct b r (.mk k c ng rs lo hi lz []) r1:=by
 refine⟨tE h1 h2 h3,?_,?_,hs⟩
 ·simp only [Rx.parts,Rx.partsL];omega
 ·simp only [Rx.groups,Rx.groupsL,wX hk];have:=ky hs [40];omega
theorem ki:jt []:=fun _ h=>by cases h
theorem uW {r r1:List Str} {x:Rx} (h:escM r=.ok (x,r1)) (ho:okC r):Fct 0 r x r1:=by
 cases r with
 | nil=>cases h
 | cons c r =>
  have hc:=ho c (xt ..);have big:∀b,Fct 0 (c::r) (setR (iz b) true) r:=fun b=>Fct.leaf eB (by have:=(jV b).1;omega) (jV b).2 ez (xY _ _) eB
  simp only [escM] at h;cases hn:kl c with
  | some rows =>
   obtain⟨b,rfl,_,rfl⟩:=lZ hn;simp only [hn] at h;injection h with h;injection h with h1 h2;subst h1 h2
   exact Fct.leaf eB (by have:=(jV b).1;omega) (jV b).2 ez (xY _ _) eB
  | none =>
   simp only [hn] at h;cases hb:bigS c with
   | some rows =>
    simp only [hb] at h;injection h with h;injection h with h1 h2;subst h1 h2
    unfold bigS at hb;by_cases g1:c=[68]
    ·rw [wU g1] at hb;injection hb with hb;rw [←hb];exact big _
    rw [wX g1] at hb;by_cases g2:c=[87]
    ·rw [wU g2] at hb;injection hb with hb;rw [←hb];exact big _
    rw [wX g2] at hb;by_cases g3:c=[83]
    ·rw [wU g3] at hb;injection hb with hb;rw [←hb];exact big _
    rw [wX g3] at hb;cases hb
   | none =>
    simp only [hb] at h;cases hp:jx c with
    | none=>simp only [hp] at h;cases h
    | some t =>
     simp only [hp] at h;injection h with h;injection h with h1 h2;subst h1 h2
     exact Fct.leaf (by have:=oT hp;omega) eB ki ez (xY _ _) eB
theorem su {r r1:List Str} {x:Rx} (h:jW r=.ok (x,r1)) (ho:okC r) (hl:r.length≤200000):Fct 0 r x r1:=by
 have hsx:((io [94] r).getD r) <:+ r:=by
  cases ht:io [94] r with
  | none=>exact xZ _
  | some r2=>exact iQ ht
 unfold jW at h;generalize (io [94] r).isSome=ng at h
 generalize (io [94] r).getD r=r0 at h hsx
 simp only at h
 cases hc:iL (r0.length+1) [] r0 with
 | none=>simp only [hc] at h;cases h
 | some y =>
  obtain⟨rows,r2⟩:=y;simp only [hc] at h;injection h with h;injection h with h1 h2;subst h1 h2
  obtain⟨g1,g2,g3,g4⟩:=j8 _ _ _ hc (sJ hsx ho) ki;have hl0:=lr hsx;have hu:=tw g4;exact Fct.leaf eB (by simp at g3;omega) hu.1 ez (g1.trans hsx) eu
theorem pC:∀(r:List Str) (k n:Nat) {m:Nat} {r1:List Str},numL k n r=some (m,r1)→r1 <:+ r
 | [],k,n,m,r1,h=>by
  unfold numL at h;exact da
 | c::r,k,n,m,r1,h=>by
  unfold numL at h;split at h
  ·split at h
   ·cases h
   ·exact kG (pC r _ _ h)
  ·exact da
theorem tN {r r1:List Str} {lo hi:Int} (h:kA r=some (lo,hi,r1)):r1 <:+ r:=by
 unfold kA at h;cases h1:numL 0 0 r with
 | none=>simp only [h1] at h;cases h
 | some y =>
  obtain⟨a,s1⟩:=y;have e1:=pC _ _ _ h1;simp only [h1] at h;cases h2:io [125] s1 with
  | some s2 =>
   simp only [h2] at h;injection h with h;injection h with _ h;injection h with _ h;subst h
   exact(iQ h2).trans e1
  | none =>
   simp only [h2] at h;cases h3:io [44] s1 with
   | none=>simp only [h3] at h;cases h
   | some s2 =>
    simp only [h3] at h;have e2:=(iQ h3).trans e1;cases h4:io [125] s2 with
    | some s3 =>
     simp only [h4] at h;injection h with h;injection h with _ h;injection h with _ h;subst h
     exact(iQ h4).trans e2
    | none =>
     simp only [h4] at h;cases h5:numL 0 0 s2 with
     | none=>simp only [h5] at h;cases h
     | some y =>
      obtain⟨b,s3⟩:=y;have e3:=(pC _ _ _ h5).trans e2;simp only [h5] at h;split at h
      ·cases h6:io [125] s3 with
       | none=>simp only [h6] at h;cases h
       | some s4 =>
        simp only [h6] at h;injection h with h;injection h with _ h;injection h with _ h;subst h
        exact(iQ h6).trans e3
      ·cases h
theorem vR {lo hi:Int} {lz:Bool} {x:Rx} (h:x.small):(repR lo hi lz x).small:=by
 simp only [repR,Rx.small,Rx.small1,Rx.smallL];exact⟨⟨by simp,by simp,by simp,by simp⟩,h,trivial⟩
theorem tH {x y:Rx} {lo hi:Int} {r r1:List Str} (h:nl x lo hi r=(y,r1)):(∃lz,y=repR lo hi lz x)∧r1 <:+ r:=by
 unfold nl at h;cases ht:io [63] r with
 | some r2=>simp only [ht] at h;injection h with h1 h2;subst h1 h2;exact⟨⟨_,rfl⟩,iQ ht⟩
 | none=>simp only [ht] at h;injection h with h1 h2;subst h1 h2;exact⟨⟨_,rfl⟩,xZ _⟩
theorem rR {x y:Rx} {r r1:List Str} (h:jG x r=.ok (y,r1)):(y=x∧r1=r)∨((∃lo hi lz,y=repR lo hi lz x)∧r1 <:+ r∧r1.length<r.length):=by
 cases r with
 | nil=>simp only [jG] at h;injection h with h;injection h with h1 h2;exact .inl ⟨h1.symm,h2.symm⟩
 | cons c r =>
  simp only [jG] at h;have key:∀{lo hi:Int} {r2:List Str},Except.ok (nl x lo hi r2)=(Except.ok (y,r1):Res)→r2 <:+ r→(y=x∧r1=c::r)∨((∃lo hi lz,y=repR lo hi lz x)∧r1 <:+ c::r∧r1.length<(c::r).length):=by
   intro lo hi r2 h hs;injection h with h
   obtain⟨⟨lz,h1⟩,h2⟩:=tH h;have h3:=h2.trans hs;have:=lr h3
   exact .inr ⟨⟨lo,hi,lz,h1⟩,kG h3,by simp;omega⟩
  by_cases h1:c=[42]
  ·rw [wU h1] at h;exact key h (xZ _)
  rw [wX h1] at h;by_cases h2:c=[43]
  ·rw [wU h2] at h;exact key h (xZ _)
  rw [wX h2] at h;by_cases h3:c=[63]
  ·rw [wU h3] at h;exact key h (xZ _)
  rw [wX h3] at h;by_cases h4:c=[123]
  ·rw [wU h4] at h
   cases hb:kA r with
   | none=>simp only [hb] at h;cases h
   | some z =>
    obtain⟨lo,hi,r2⟩:=z;simp only [hb] at h;exact key h (tN hb)
  ·rw [wX h4] at h
   injection h with h;injection h with h5 h6
   exact .inl ⟨h5.symm,h6.symm⟩
theorem je:∀(a b:List Rx),Rx.partsL (a++b)=Rx.partsL a+Rx.partsL b
 | [],b=>by simp [Rx.partsL]
 | x::a,b=>by simp only [xQ,Rx.partsL,je a b];omega
theorem kC:∀(a b:List Rx),Rx.groupsL (a++b)=Rx.groupsL a+Rx.groupsL b
 | [],b=>by simp [Rx.groupsL]
 | x::a,b=>by simp only [xQ,Rx.groupsL,kC a b];omega
theorem jq:∀{a b:List Rx},Rx.smallL a→Rx.smallL b→Rx.smallL (a++b)
 | [],_,_,h=>h
 | _::_,_,h1,h2=>⟨h1.1,jq h1.2 h2⟩
theorem tJ (kd:Int) (x:Rx) (xs:List Rx):jf kd (x::xs)=(if x.kind=kd then x.kids else [x])++jf kd xs:=by simp [jf]
theorem pe (x:Rx) (hs:x.small):Rx.partsL x.kids+1=x.parts∧Rx.groupsL x.kids≤x.groups∧Rx.smallL x.kids:=by
 obtain⟨k,c,ng,rs,lo,hi,lz,ks⟩:=x;simp only [Rx.kids,Rx.parts,Rx.groups];exact⟨by omega,by omega,hs.2⟩
theorem mL (kd:Int):∀{xs:List Rx},Rx.smallL xs→Rx.smallL (jf kd xs)∧Rx.partsL (jf kd xs)≤Rx.partsL xs∧Rx.groupsL (jf kd xs)≤Rx.groupsL xs
 | [],_=>⟨trivial,wY _,wY _⟩
 | x::xs,h=>by
  obtain⟨i1,i2,i3⟩:=mL kd h.2;obtain⟨k1,k2,k3⟩:=pe x h.1;rw [tJ,je,kC];simp only [Rx.partsL,Rx.groupsL];by_cases hk:x.kind=kd
  ·rw [wU hk];exact⟨jq k3 i1,by omega,by omega⟩
  ·rw [wX hk];exact⟨jq ⟨h.1,trivial⟩ i1,by simp only [Rx.partsL];omega,by simp only [Rx.groupsL];omega⟩
theorem kx {k:Int} (hk:k≠5) {l:List Rx} (h:Rx.smallL l) (hl:l.length≤1000000):(Rx.mk k [] false [] 0 0 false l).small∧(Rx.mk k [] false [] 0 0 false l).parts=1+Rx.partsL l∧(Rx.mk k [] false [] 0 0 false l).groups=Rx.groupsL l:=by
 simp only [Rx.small,Rx.small1,Rx.parts,Rx.groups,wX hk];exact⟨⟨⟨by simp,by simp,by simp,hl⟩,h⟩,trivial,by omega⟩
theorem mP {xs:List Rx} (h:Rx.smallL xs) (hp:Rx.partsL xs≤1000000):(seqR xs).small∧(seqR xs).parts≤1+Rx.partsL xs∧(seqR xs).groups≤Rx.groupsL xs:=by
 obtain⟨f1,f2,f3⟩:=mL 0 h;have hl:=Rx.len_parts (jf 0 xs);have gen:∀l:List Rx,jf 0 xs=l→(mM l).small∧(mM l).parts≤1+Rx.partsL xs∧(mM l).groups≤Rx.groupsL xs:=by
  rintro l rfl;obtain⟨s1,s2,s3⟩:=kx (k:=0) ez f1 eu;exact⟨s1,by unfold mM;omega,by unfold mM;omega⟩
 unfold seqR;split
 ·exact cS
 ·rename_i l hl;exact gen _ rfl
theorem t9 {xs:List Rx} (h:Rx.smallL xs) (hp:Rx.partsL xs≤1000000):(altR xs).small∧(altR xs).parts≤1+Rx.partsL xs∧(altR xs).groups≤Rx.groupsL xs:=by
 obtain⟨f1,f2,f3⟩:=mL 1 h;have hl:=Rx.len_parts (jf 1 xs);unfold altR;split
 ·obtain⟨s1,s2,s3⟩:=kx (k:=0) (l:=[]) ez trivial eB
  exact⟨s1,by unfold mM;simp only [Rx.partsL] at s2;omega,by unfold mM;simp only [Rx.groupsL] at s3;omega⟩
 ·exact cS
 ·obtain⟨s1,s2,s3⟩:=kx (k:=1) ez f1 eu
  exact⟨s1,by unfold rT;omega,by unfold rT;omega⟩
theorem altR_one {x:Rx} (hs:x.small):(altR [x]).small∧(altR [x]).parts≤x.parts∧(altR [x]).groups≤x.groups:=by
 obtain⟨k1,k2,k3⟩:=pe x hs;obtain⟨k,c,ng,rs,lo,hi,lz,ks⟩:=x;have hks:=hs.1.2.2.2;have hfl:jf 1 [Rx.mk k c ng rs lo hi lz ks]=if k=1 then ks else [.mk k c ng rs lo hi lz ks]:=by by_cases hk:k=1<;>simp [jf,Rx.kind,Rx.kids,hk]
 simp only [Rx.kids] at k1 k2 k3;unfold altR;rw [hfl];by_cases h1:k=1
 ·rw [wU h1]
  rcases ks with _|⟨y,_|⟨z,l⟩⟩
  ·obtain⟨s1,s2,s3⟩:=kx (k:=0) (l:=[]) ez trivial eB
   exact⟨s1,by show (mM []).parts≤_;unfold mM;simp only [Rx.partsL] at s2 k1;omega,by show (mM []).groups≤_;unfold mM;simp only [Rx.groupsL] at s3 k2;omega⟩
  ·simp only [Rx.partsL,Rx.groupsL] at k1 k2
   exact⟨k3.1,by show y.parts≤_;omega,by show y.groups≤_;omega⟩
  ·obtain⟨s1,s2,s3⟩:=kx (k:=1) (l:=y::z::l) ez k3 hks
   exact⟨s1,by show (rT (y::z::l)).parts≤_;unfold rT;omega,by show (rT (y::z::l)).groups≤_;unfold rT;omega⟩
 ·rw [wX h1]
  exact⟨hs,wY _,wY _⟩
theorem tF {r r0:List Str} {k:Int} (h:nj r=some (k,r0)):r0 <:+ r∧(k=5∨k=6):=by
 unfold nj at h;cases h1:io [63] r with
 | none=>simp only [h1] at h;injection h with h;injection h with ha hb;subst ha hb;exact⟨xZ _,.inl rfl⟩
 | some r1 =>
  simp only [h1] at h;cases h2:io [58] r1 with
  | none=>simp only [h2] at h;cases h
  | some r2 =>
   simp only [h2] at h;injection h with h;injection h with ha hb;subst ha hb
   exact⟨(iQ h2).trans (iQ h1),.inr rfl⟩
def no (pat:List Str→Nat→Res) (N:Nat):Prop:=∀(r:List Str) (d:Nat) (x:Rx) (r1:List Str),r.length≤N→pat r d=.ok (x,r1)→okC r→Fct 1 r x r1
theorem rz {pat:List Str→Nat→Res} {N:Nat} (hp:no pat N) {r r1:List Str} {d:Nat} {x:Rx} (h:lS pat r d=.ok (x,r1)) (ho:okC r) (hN:r.length≤N) :
  x.small∧x.parts+2*r1.length≤2*r.length∧x.groups+r1.count [40]≤1+r.count [40]∧r1 <:+ r:=by
 unfold lS at h;by_cases hd:16≤d
 ·rw [wU hd] at h;cases h
 rw [wX hd] at h;cases hk:nj r with
 | none=>simp only [hk] at h;cases h
 | some y =>
  obtain⟨k,r0⟩:=y;obtain⟨k1,k2⟩:=tF hk;simp only [hk] at h;cases hx:pat r0 (d+1) with
  | error e=>simp only [hx] at h;cases h
  | ok y =>
   obtain⟨z,r2⟩:=y;simp only [hx] at h;have hl0:=lr k1;obtain⟨f1,f2,f3,f4⟩:=hp r0 (d+1) z r2 eu hx (sJ k1 ho);cases ht:io [41] r2 with
   | none=>simp only [ht] at h;cases h
   | some r3 =>
    simp only [ht] at h;injection h with h;injection h with h1 h2;subst h1 h2
    have e:=jd ht;have s3:=iQ ht;have c1:=ky s3 [40];have c2:=ky k1 [40];refine⟨?_,?_,?_,(s3.trans f4).trans k1⟩
    ·simp only [grpR,Rx.small,Rx.small1,Rx.smallL];exact⟨⟨by simp,by simp,by simp,by simp⟩,f1,trivial⟩
    ·simp only [grpR,Rx.parts,Rx.partsL];rw [e,xg] at f2;omega
    ·simp only [grpR,Rx.groups,Rx.groupsL];split<;>omega
theorem tR {pat:List Str→Nat→Res} {N:Nat} (hp:no pat N) {r r1:List Str} {d:Nat} {x:Rx} (h:kU pat r d=.ok (x,r1)) (ho:okC r) (hN:r.length≤N+1) (hN2:N≤200000) :
  x.small∧x.parts+2*r1.length≤2*r.length∧x.groups+r1.count [40]≤r.count [40]∧r1 <:+ r∧r1.length<r.length∧x.parts+2*r1.length+(if x.parts=1 then 1 else 2)≤2*r.length:=by
 cases r with
 | nil=>cases h
 | cons c r =>
  have hc:=ho c (xt ..);simp only [xg] at hN;have leaf:∀{y:Rx} {r2:List Str},Fct 0 (c::r) y r2→y.parts=1→r2.length<(c::r).length→y.small∧y.parts+2*r2.length≤2*(c::r).length∧y.groups+r2.count [40]≤(c::r).count [40]∧r2 <:+ c::r∧r2.length<(c::r).length∧y.parts+2*r2.length+(if y.parts=1 then 1 else 2)≤2*(c::r).length :=
   fun hf h1 hl=>⟨hf.1,by have:=hf.2.1;omega,hf.2.2.1,hf.2.2.2,hl,by rw [wU h1,h1];omega⟩
  have lift:∀{y:Rx} {r2:List Str},Fct 0 r y r2→y.parts=1→r2.length≤r.length→y.small∧y.parts+2*r2.length≤2*(c::r).length∧y.groups+r2.count [40]≤(c::r).count [40]∧r2 <:+ c::r∧r2.length<(c::r).length∧y.parts+2*r2.length+(if y.parts=1 then 1 else 2)≤2*(c::r).length :=
   fun hf h1 hl=>leaf ⟨hf.1,by simp only [xg];have:=hf.2.1;omega,by have:=hf.2.2.1;have:=ky (xY c r) [40];omega,kG hf.2.2.2⟩ h1 eC
  simp only [kU] at h;by_cases h1:c=[46]
  ·rw [wU h1] at h;injection h with h;injection h with ha hb;subst ha hb
   exact leaf (Fct.leaf eB eB ki ez (xY _ _) eB) rfl eB
  rw [wX h1] at h;by_cases h2:c=[40]
  ·rw [wU h2] at h
   obtain⟨f1,f2,f3,f4⟩:=rz hp h ho.tail eu;have hlen:=lr f4;refine⟨f1,by simp;omega,?_,kG f4,by simp;omega,by simp only [xg];split<;>omega⟩;rw [h2,List.count_cons_self];omega
  rw [wX h2] at h;by_cases h3:c=[91]
  ·rw [wU h3] at h
   have hf:=su h ho.tail eu;have hp1:x.parts=1:=by
    unfold jW at h;simp only at h
    generalize iL _ _ _=q at h
    cases q with
    | none=>simp only at h;cases h
    | some y=>simp only at h;injection h with h;injection h with ha _;subst ha;rfl
   exact lift hf hp1 (lr hf.2.2.2)
  rw [wX h3] at h;by_cases h4:c=[92]
  ·rw [wU h4] at h
   have hf:=uW h ho.tail;have hp1:x.parts=1:=by
    cases r with
    | nil=>cases h
    | cons c2 r2 =>
     simp only [escM] at h;cases hn:kl c2 with
     | some rows=>simp only [hn] at h;injection h with h;injection h with ha _;subst ha;rfl
     | none =>
      simp only [hn] at h;cases hb:bigS c2 with
      | some rows=>simp only [hb] at h;injection h with h;injection h with ha _;subst ha;rfl
      | none =>
       simp only [hb] at h;cases hpm:jx c2 with
       | none=>simp only [hpm] at h;cases h
       | some t=>simp only [hpm] at h;injection h with h;injection h with ha _;subst ha;rfl
   exact lift hf hp1 (lr hf.2.2.2)
  rw [wX h4] at h;by_cases h5:sO c=true
  ·rw [wU h5] at h;cases h
  ·rw [wX h5] at h;injection h with h;injection h with ha hb;subst ha hb
   exact leaf (Fct.leaf hc.2 eB ki ez (xY _ _) eB) rfl eB
theorem tT {r r1:List Str} {x:Rx} (h:qj r=some (x,r1)):Fct 0 r x r1∧r1.length<r.length:=by
 cases r with
 | nil=>cases h
 | cons c r =>
  have leaf:∀(k:Int) (r2:List Str),k≠5→r2 <:+ r→Fct 0 (c::r) (rxK k) r2∧r2.length<(c::r).length:=fun k r2 hk hs =>
   ⟨Fct.leaf eB eB ki hk (kG hs) (by have:=lr hs;simp;omega),by have:=lr hs;simp;omega⟩
  simp only [qj] at h;by_cases h1:c=[94]
  ·rw [wU h1] at h;injection h with h;injection h with ha hb;subst ha hb;exact leaf 8 r ez (xZ _)
  rw [wX h1] at h;by_cases h2:c=[36]
  ·rw [wU h2] at h;injection h with h;injection h with ha hb;subst ha hb;exact leaf 9 r ez (xZ _)
  rw [wX h2] at h;by_cases h3:c=[92]
  ·rw [wU h3] at h
   cases h4:io [98] r with
   | some r2=>simp only [h4] at h;injection h with h;injection h with ha hb;subst ha hb;exact leaf 10 r2 ez (iQ h4)
   | none =>
    simp only [h4] at h;cases h5:io [66] r with
    | some r2=>simp only [h5] at h;injection h with h;injection h with ha hb;subst ha hb;exact leaf 11 r2 ez (iQ h5)
    | none=>simp only [h5] at h;cases h
  ·rw [wX h3] at h;cases h
theorem oX {pat:List Str→Nat→Res} {N:Nat} (hp:no pat N) {r r1:List Str} {d:Nat} {x:Rx} (h:lM pat r d=.ok (x,r1)) (ho:okC r) (hN:r.length≤N+1) (hN2:N≤200000):Fct 0 r x r1∧r1.length<r.length:=by
 unfold lM at h;cases he:qj r with
 | some y=>simp only [he] at h;injection h with h;subst h;exact tT he
 | none =>
  simp only [he] at h;cases ha:kU pat r d with
  | error e=>simp only [ha] at h;cases h
  | ok y =>
   obtain⟨z,r2⟩:=y;simp only [ha] at h;obtain⟨f1,f2,f3,f4,f5,f6⟩:=tR hp ha ho hN hN2;rcases rR h with⟨rfl,rfl⟩|⟨⟨lo,hi,lz,rfl⟩,q2,q3⟩
   ·exact⟨⟨f1,by omega,f3,f4⟩,f5⟩
   ·have c1:=ky q2 [40]
    refine⟨⟨vR f1,?_,?_,q2.trans f4⟩,by omega⟩
    ·simp only [repR,Rx.parts,Rx.partsL];omega
    ·simp only [repR,Rx.groups,Rx.groupsL];simp;omega
theorem mH {trm:List Str→Res} {N:Nat} (ht:∀(r:List Str) (x:Rx) (r1:List Str),r.length≤N→trm r=.ok (x,r1)→okC r→Fct 0 r x r1∧r1.length<r.length) (hN2:N≤200000) :
  ∀(n:Nat) (alts terms:List Rx) (r:List Str) {x:Rx} {r1:List Str},patL trm n alts terms r=.ok (x,r1)→okC r→r.length≤N→Rx.smallL alts→Rx.smallL terms→Rx.partsL alts+Rx.partsL terms+2*r.length≤450000 →
   x.small∧x.parts+2*r1.length≤2*r.length+(if alts=[] then 1+Rx.partsL terms else Rx.partsL alts+Rx.partsL terms+2)∧x.groups+r1.count [40]≤r.count [40]+Rx.groupsL alts+Rx.groupsL terms∧r1 <:+ r
 | 0,_,_,_,_,_,h,_,_,_,_,_=>by cases h
 | n+1,alts,terms,r,x,r1,h,ho,hr,ha,hm,hb=>by
  obtain⟨s1,s2,s3⟩:=mP hm eu;have hap:=jq ha (show Rx.smallL [seqR terms] from⟨s1,trivial⟩);have hpp:Rx.partsL (alts++[seqR terms])=Rx.partsL alts+(seqR terms).parts:=by rw [je];simp only [Rx.partsL];omega
  have hgg:Rx.groupsL (alts++[seqR terms])=Rx.groupsL alts+(seqR terms).groups:=by rw [kC];simp only [Rx.groupsL];omega
  have fin:(altR (alts++[seqR terms])).small∧(altR (alts++[seqR terms])).parts≤(if alts=[] then 1+Rx.partsL terms else Rx.partsL alts+Rx.partsL terms+2)∧(altR (alts++[seqR terms])).groups≤Rx.groupsL alts+Rx.groupsL terms:=by
   by_cases hn:alts=[]
   ·subst hn
    obtain⟨o1,o2,o3⟩:=altR_one s1;rw [wU rfl];exact⟨o1,by show (altR [seqR terms]).parts≤_;omega,by show (altR [seqR terms]).groups≤_;simp only [Rx.groupsL];omega⟩
   ·rw [wX hn]
    obtain⟨o1,o2,o3⟩:=t9 hap eu;exact⟨o1,by omega,by omega⟩
  simp only [patL] at h;cases r with
  | nil =>
   simp only at h
   injection h with h;injection h with h1 h2;subst h1 h2
   exact⟨fin.1,by have:=fin.2.1;simp;omega,by have:=fin.2.2;simp;omega,xZ _⟩
  | cons c r =>
   simp only at h
   simp only [xg] at hr hb;by_cases h1:c=[41]
   ·rw [wU h1] at h
    injection h with h;injection h with h2 h3;subst h2 h3
    exact⟨fin.1,by have:=fin.2.1;omega,by have:=fin.2.2;omega,xZ _⟩
   rw [wX h1] at h;by_cases h2:c=[124]
   ·rw [wU h2] at h
    obtain⟨i1,i2,i3,i4⟩:=mH ht hN2 n _ _ _ h ho.tail eu hap trivial (by rw [hpp];simp only [Rx.partsL];omega);have c1:=ky (xY c r) [40];rw [wX eB,hpp] at i2;rw [hgg] at i3;simp only [Rx.partsL,Rx.groupsL] at i2 i3;refine⟨i1,?_,by omega,kG i4⟩;simp only [xg];by_cases hn:alts=[]
    ·subst hn;rw [wU rfl];simp only [Rx.partsL] at i2;omega
    ·rw [wX hn];omega
   ·rw [wX h2] at h
    cases hx:trm (c::r) with
    | error e=>simp only [hx] at h;cases h
    | ok y =>
     obtain⟨z,r2⟩:=y;simp only [hx] at h;obtain⟨⟨f1,f2,f3,f4⟩,f5⟩:=ht _ _ _ eC hx ho;simp only [xg] at f2 f5;have hpt:Rx.partsL (terms++[z])=Rx.partsL terms+z.parts:=by rw [je];simp only [Rx.partsL];omega
     have hgt:Rx.groupsL (terms++[z])=Rx.groupsL terms+z.groups:=by rw [kC];simp only [Rx.groupsL];omega
     obtain⟨i1,i2,i3,i4⟩:=mH ht hN2 n _ _ _ h (sJ f4 ho) eu ha (jq hm ⟨f1,trivial⟩) (by rw [hpt];omega);rw [hpt] at i2;rw [hgt] at i3;refine⟨i1,?_,by omega,i4.trans f4⟩;simp only [xg];split at i2
     ·rename_i hn;rw [wU hn];omega
     ·rename_i hn;rw [wX hn];omega
theorem qZ:∀(n:Nat),no (patF n) 200000
 | 0=>fun r d x r1 _ h _=>by cases h
 | n+1=>fun r d x r1 hr h ho=>by
  have ih:=qZ n;have ht:∀(r:List Str) (x:Rx) (r1:List Str),r.length≤200000→lM (patF n) r d=.ok (x,r1)→okC r→Fct 0 r x r1∧r1.length<r.length:=fun r x r1 hr h ho=>oX ih h ho eu eu
  obtain⟨i1,i2,i3,i4⟩:=mH ht eu _ [] [] r h ho hr trivial trivial (by simp only [Rx.partsL];omega);rw [wU rfl] at i2;simp only [Rx.partsL,Rx.groupsL] at i2 i3;exact⟨i1,by omega,by omega,i4⟩
end Go.Proofs.YtbnkaecmgfolpaaGreat
