/- The plain law of the sort: swaps, turns. · The plain law of the sort: the order of rows; what a search finds. · The plain law of the sort: symM puts two sorted rows together. · The plain law of the sort: symM, whole. · The plain law of the sort, whole: what SortStableFunc leaves is sorted and a permutation. -/
import Derived.Test.YtjggmmaojklmpaaGreatDoorKb10
set_option maxRecDepth 100000
namespace Go.Proofs.YtjggmmaojklmpaaGreatDoor
theorem qt (P:List Row) (x:Row) (S:List Row):(P++x::S)[P.length]?=some x:=by
 rw [DJ (Dv _),Nat.sub_self];rfl
theorem Bk (P:List Row) (x y:Row) (S:List Row):(P++x::S).set P.length y=P++y::S:=by
 rw [List.set_append_right _ _ (Dv _),Nat.sub_self];rfl
theorem pQ (P Q S:List Row) (x y:Row) (i j:Nat) (hi:i=P.length) (hj:j=P.length+1+Q.length):l5 (P++x::(Q++y::S)) i j=P++y::(Q++x::S):=by
 subst hi hj;have h2:P++x::(Q++y::S)=(P++x::Q)++y::S:=fX;have hl:(P++x::Q).length=P.length+1+Q.length:=by simp;omega
 have g1:(P++x::(Q++y::S))[P.length]?=some x:=qt _ _ _;have g2:(P++x::(Q++y::S))[P.length+1+Q.length]?=some y:=by rw [h2,←hl];exact qt _ _ _
 rw [zy g1 g2,Bk];have h3:P++y::(Q++y::S)=(P++y::Q)++y::S:=fX;have hl2:(P++y::Q).length=P.length+1+Q.length:=by simp;omega
 rw [h3,←hl2,Bk];simp
theorem rR {rs:List Row} {i j:Nat} (h:i≠j):l5 rs i j=l5 rs j i:=by
 unfold l5;cases h1:rs[i]? with
 | none=>cases h2:rs[j]?<;>rfl
 | some x =>
  cases h2:rs[j]? with
  | none=>rfl
  | some y=>exact List.set_comm _ _ h
theorem vi (a b:Nat):∀(X Y P Q S:List Row) (i:Nat),X.length=Y.length→a+i=P.length→b+i=P.length+X.length+Q.length →
  (List.range' i X.length).foldl (fun l k=>l5 l (a+k) (b+k)) (P++(X++(Q++(Y++S))))=P++(Y++(Q++(X++S)))
 | [],[],P,Q,S,i,_,_,_=>by simp
 | [],_::_,_,_,_,_,h,_,_=>by simp at h
 | _::_,[],_,_,_,_,h,_,_=>by simp at h
 | x::X,y::Y,P,Q,S,i,hl,ha,hb=>by
  simp only [Dx] at hl hb;rw [Dx,List.range'_succ,D1];have h1:P++(x::X++(Q++(y::Y++S)))=P++x::((X++Q)++y::(Y++S)):=fX;rw [h1,pQ P (X++Q) (Y++S) x y (a+i) (b+i) ha iq];have h2:P++y::((X++Q)++x::(Y++S))=(P++[y])++(X++((Q++[x])++(Y++S))):=fX;rw [h2,vi a b X Y (P++[y]) (Q++[x]) S (i+1) fR fY fY];simp
theorem sq (X Y P Q S:List Row) (a b n:Nat) (hl:X.length=Y.length) (ha:a=P.length) (hb:b=P.length+X.length+Q.length) (hn:n=X.length) :
  sC (P++(X++(Q++(Y++S)))) a b n=P++(Y++(Q++(X++S))):=by
 subst hn;exact vi a b X Y P Q S 0 hl fR fR
theorem nM (l:List Row) {n:Nat} (h:n≤l.length):∃a b,l=a++b∧a.length=n∧b.length=l.length-n :=
 ⟨l.take n,l.drop n,(List.take_append_drop n l).symm,by rw [DT];omega,by rw [D3]⟩
theorem uJ:∀(k:Nat) (P A B S:List Row) (m i j:Nat),m=P.length+A.length→i=A.length→j=B.length→0<i→0<j→i+j≤k →
  rotL k (P++(A++(B++S))) m i j=P++(B++(A++S))
 | 0,P,A,B,S,m,i,j,_,_,_,h1,_,h=>by omega
 | k+1,P,A,B,S,m,i,j,hm,hi,hj,h1,h2,hk=>by
  simp only [rotL];by_cases hij:i=j
  ·rw [Dr hij]
   have:=sq A B P [] S (m-i) m i fR fR fY hi
   simpa using this
  ·rw [Du hij]
   by_cases hlt:j<i
   ·rw [Dr hlt]
    obtain⟨A1,A2,rfl,l1,l2⟩:=nM A (n:=j) fR;rw [DE] at hm hi;have e1:P++(A1++A2++(B++S))=P++(A1++(A2++(B++S))):=fX;rw [e1,sq A1 B P A2 S (m-i) m j fR fR fR l1.symm];have e2:P++(B++(A2++(A1++S)))=(P++B)++(A2++(A1++S)):=fX;rw [e2,uJ k (P++B) A2 A1 S m (i-j) j fY fR fR fR h2 fR];simp
   ·rw [Du hlt]
    obtain⟨B1,B2,rfl,l1,l2⟩:=nM B (n:=j-i) fR;rw [DE] at hj l2;have e1:P++(A++(B1++B2++S))=P++(A++(B1++(B2++S))):=fX;rw [e1,sq A B2 P B1 S (m-i) (m+j-i) i fR fR fR hi];have e2:P++(B2++(B1++(A++S)))=P++(B2++(B1++(A++S))):=rfl;rw [uJ k P B2 B1 (A++S) m i (j-i) fR fR fR h1 fR fR];simp
theorem zR (x:Row):∀(B P S:List Row) (a n:Nat),a=P.length→n=B.length→upSw (P++x::(B++S)) a n=P++(B++x::S)
 | [],P,S,a,n,_,hn=>by simp at hn;subst hn;simp [upSw]
 | b::B,P,S,a,n,ha,hn=>by
  subst hn;have ih:=zR x B (P++[b]) S (a+1) B.length fY rfl;unfold upSw at ih ⊢;rw [Dx,List.range'_succ,D1];have h1:=pQ P [] (B++S) x b a (a+1) ha fY;rw [D4,D4] at h1;rw [show P++x::(b::B++S)=P++x::b::(B++S) by simp,h1];simpa using ih
theorem yR (x:Row):∀(n:Nat) (B P S:List Row) (m:Nat),n=B.length→m=P.length+B.length→dnSw n (P++(B++x::S)) m=P++x::(B++S)
 | 0,B,P,S,m,hn,_=>by
  have hB:B=[]:=Ds hn.symm;subst hB;simp [dnSw]
 | n+1,B,P,S,m,hn,hm=>by
  have hne:B≠[]:=by rintro rfl;simp at hn
  obtain⟨C,b,rfl⟩:∃C b,B=C++[b]:=⟨B.dropLast,B.getLast hne,(List.dropLast_concat_getLast hne).symm⟩;simp only [DE,Dx,DP] at hn hm;simp only [dnSw];have h1:=pQ (P++C) [] S b x (m-1) m fY fY;rw [D4,D4] at h1;rw [rR fR,show P++(C++[b]++x::S)=P++C++b::x::S by simp,h1];have ih:=yR x n C P (b::S) (m-1) fR fR;rw [show P++C++x::b::S=P++(C++x::b::S) by simp,ih];simp
theorem sw {a b:Row}:cmpR a b<0↔Op.bytesLess a.1 b.1=true∨(a.1=b.1∧Op.bytesLess a.2 b.2=true):=by
 unfold cmpR;rcases qx a.1 b.1 with⟨h1,h2⟩|⟨h1,h2⟩|⟨h1,h2⟩
 ·rw [h1];simp [h2]
 ·rw [h1,Dr rfl]
  have hn:Op.bytesLess a.1 b.1=false:=by rw [h2];exact kK _
  rcases qx a.2 b.2 with⟨g1,g2⟩|⟨g1,g2⟩|⟨g1,g2⟩
  ·rw [g1];simp [h2,g2]
  ·rw [g1];simp [hn,g2,kK]
  ·rw [g1];simp [hn,nA g2]
 ·rw [h1,Du fU]
  have hn:=nA h2;have hne:a.1≠b.1:=by intro e;rw [e,kK] at h2;cases h2
  simp [hn,hne]
def ltR (a b:Row):Prop:=cmpR a b<0
def leR (a b:Row):Prop:=¬ltR b a
instance (a b:Row):Decidable (ltR a b):=inferInstanceAs (Decidable (_<_))
theorem ti (a:Row):¬ltR a a:=by unfold ltR;rw [sw];simp [kK]
theorem rZ {a b c:Row} (h1:ltR a b) (h2:ltR b c):ltR a c:=by
 unfold ltR at *;rw [sw] at *;rcases h1 with h1|⟨e1,h1⟩<;>rcases h2 with h2|⟨e2,h2⟩
 ·exact .inl (ma h1 h2)
 ·exact .inl (e2▸h1)
 ·exact .inl (e1▸h2)
 ·exact .inr ⟨e1.trans e2,ma h1 h2⟩
theorem pM (a b:Row):ltR a b∨a=b∨ltR b a:=by
 unfold ltR;rw [sw,sw];obtain⟨a1,a2⟩:=a;obtain⟨b1,b2⟩:=b;rcases mI a1 b1 with h|rfl|h
 ·exact .inl (.inl h)
 ·rcases mI a2 b2 with h|rfl|h
  ·exact .inl (.inr ⟨rfl,h⟩)
  ·exact .inr (.inl rfl)
  ·exact .inr (.inr (.inr ⟨rfl,h⟩))
 ·exact .inr (.inr (.inl h))
theorem zg (a:Row):leR a a:=ti a
theorem om {a b:Row} (h:ltR a b):leR a b:=fun h2=>ti a (rZ h h2)
theorem mm {a b c:Row} (h1:leR a b) (h2:leR b c):leR a c:=fun h=>by
 rcases pM b a with h3|rfl|h3
 ·exact h1 h3
 ·exact h2 h
 ·exact h2 (rZ h h3)
theorem vd (a b:Row):leR a b∨leR b a:=by
 rcases pM a b with h|rfl|h
 ·exact .inl (om h)
 ·exact .inl (zg a)
 ·exact .inr (om h)
abbrev Srt (l:List Row):Prop:=l.Pairwise leR
theorem oe {l:List Row} (h:Srt l) {i j:Nat} {x y:Row} (hij:i≤j) (hi:l[i]?=some x) (hj:l[j]?=some y):leR x y:=by
 rcases Nat.eq_or_lt_of_le hij with rfl|hlt
 ·rw [hi] at hj;injection hj with hj;subst hj;exact zg _
 ·obtain⟨hi',rfl⟩:=Dw.1 hi
  obtain⟨hj',rfl⟩:=Dw.1 hj;exact List.pairwise_iff_getElem.1 h i j hi' hj' hlt
theorem rp (p:Nat→Bool):∀(k i j:Nat),i≤j→j-i≤k→(∀x y,i≤x→x≤y→y<j→p y=true→p x=true) →
  (∀x,i≤x→x<bs p k i j→p x=true)∧(∀x,bs p k i j≤x→x<j→p x=false)
 | 0,i,j,h,hk,_=>by
  simp only [bs];exact⟨fun x h1 h2=>by omega,fun x h1 h2=>by omega⟩
 | k+1,i,j,h,hk,hm=>by
  simp only [bs];by_cases hlt:i<j
  ·rw [Dr hlt]
   generalize hH:(i+j) / 2=H
   have hHb:i≤H∧H<j:=fR;cases hp:p H with
   | true =>
    rw [Dr rfl];obtain⟨g1,g2⟩:=rp p k (H+1) j fR fR (fun x y a b c d=>hm x y fR b c d);refine⟨fun x h1 h2=>?_,g2⟩;by_cases hx:x≤H
    ·exact hm x H h1 hx hHb.2 hp
    ·exact g1 x fR h2
   | false =>
    rw [Du fX];obtain⟨g1,g2⟩:=rp p k i H hHb.1 fR (fun x y a b c d=>hm x y a b fR d);have hbd:=um p k i H hHb.1;refine⟨g1,fun x h1 h2=>?_⟩;by_cases hx:x<H
    ·exact g2 x h1 hx
    ·cases hq:p x with
     | false=>rfl
     | true=>rw [hm H x hHb.1 fR h2 hq] at hp;cases hp
  ·rw [Du hlt]
   exact⟨fun x h1 h2=>by omega,fun x h1 h2=>by omega⟩
theorem tX (P B S:List Row) {t:Nat} (h:t<B.length):(P++(B++S))[P.length+t]?=B[t]?:=by
 rw [DJ fR,Nat.add_sub_cancel_left,DG h]
theorem srt_app {l r:List Row}:Srt (l++r)↔Srt l∧Srt r∧∀x∈l,∀y∈r,leR x y:=List.pairwise_append
theorem ul {rs:List Row} {i j:Nat} {x y:Row} (h1:rs[i]?=some x) (h2:rs[j]?=some y):ltAt rs i j=true↔ltR x y:=by
 rw [uP h1 h2,Dp];rfl
theorem sym_one (P B S:List Row) (x:Row) (a b:Nat) (ha:a=P.length) (hb:b=a+1+B.length) (hs:Srt B) :
  ∃M,upSw (P++([x]++(B++S))) a (bs (fun h=>ltAt (P++([x]++(B++S))) h a) b (a+1) b-1-a)=P++(M++S)∧M.Perm ([x]++B)∧Srt M:=by
 obtain⟨rs,hrs⟩:∃rs,P++([x]++(B++S))=rs:=⟨_,rfl⟩;rw [hrs];have hx:rs[a]?=some x:=by rw [←hrs,ha];exact qt _ _ _
 have hget:∀t,t<B.length→rs[a+1+t]?=B[t]?:=fun t ht=>by
  rw [←hrs,show P++([x]++(B++S))=(P++[x])++(B++S) by simp];have:=tX (P++[x]) B S ht
  rw [←this,DE];simp [ha]
 have hval:∀t,t<B.length→∃y,B[t]?=some y:=fun t ht=>⟨_,Dt ht⟩
 have hp:∀t y,B[t]?=some y→(ltAt rs (a+1+t) a=true↔ltR y x):=fun t y hy=>by
  have ht:=(Dw.1 hy).1;exact ul (by rw [hget t ht];exact hy) hx
 have hbd:=um (fun h=>ltAt rs h a) b (a+1) b fR;obtain⟨g1,g2⟩:=rp (fun h=>ltAt rs h a) b (a+1) b fR fR (fun u v h1 h2 h3 h4=>by
  obtain⟨yu,hu⟩:=hval (u-(a+1)) fR;obtain⟨yv,hv⟩:=hval (v-(a+1)) fR;have q1:=hp _ _ hu;have q2:=hp _ _ hv;rw [show a+1+(u-(a+1))=u by omega] at q1;rw [show a+1+(v-(a+1))=v by omega] at q2;rw [q1];have hle:=oe hs (by omega:u-(a+1)≤v-(a+1)) hu hv;have hlt:=q2.1 h4;rcases pM yu x with h|h|h
  ·exact h
  ·rw [h] at hle;exact absurd hlt hle
  ·exact absurd (rZ hlt h) hle)
 generalize bs (fun h=>ltAt rs h a) b (a+1) b=s at *
 obtain⟨B1,B2,rfl,l1,l2⟩:=nM B (n:=s-1-a) fR;rw [DE] at hb hval hget;refine⟨B1++x::B2,?_,?_,?_⟩
 ·rw [←hrs]
  have:=zR x B1 P (B2++S) a (s-1-a) ha l1.symm
  simpa using this
 ·simp
 ·obtain⟨h1,h2,h3⟩:=srt_app.1 hs
  have k1:∀y∈B1,leR y x:=fun y hy=>by
   obtain⟨t,ht⟩:=List.getElem?_of_mem hy;have htl:=(Dw.1 ht).1;exact om ((hp t y (by rw [DG htl];exact ht)).1 (g1 _ fR fR))
  have k2:∀y∈B2,leR x y:=fun y hy=>by
   obtain⟨t,ht⟩:=List.getElem?_of_mem hy;have htl:=(Dw.1 ht).1;intro hlt;have:=(hp (B1.length+t) y (by rw [DJ fR,Nat.add_sub_cancel_left];exact ht)).2 hlt
   rw [g2 _ fR fR] at this;cases this
  exact du
theorem sym_last (P A S:List Row) (x:Row) (a m:Nat) (ha:a=P.length) (hm:m=a+A.length) (hs:Srt A) :
  ∃M,dnSw (m-bs (fun h=>!ltAt (P++(A++([x]++S))) m h) m a m) (P++(A++([x]++S))) m=P++(M++S)∧M.Perm (A++[x])∧Srt M:=by
 obtain⟨rs,hrs⟩:∃rs,P++(A++([x]++S))=rs:=⟨_,rfl⟩;rw [hrs];have hx:rs[m]?=some x:=by
  rw [←hrs,show P++(A++([x]++S))=(P++A)++x::S by simp,show m=(P++A).length by simp;omega];exact qt _ _ _
 have hget:∀t,t<A.length→rs[a+t]?=A[t]?:=fun t ht=>by rw [←hrs,ha];exact tX P A _ ht
 have hval:∀t,t<A.length→∃y,A[t]?=some y:=fun t ht=>⟨_,Dt ht⟩
 have hp:∀t y,A[t]?=some y→((!ltAt rs m (a+t))=true↔leR y x):=fun t y hy=>by
  have ht:=(Dw.1 hy).1;have:=ul hx (show rs[a+t]?=some y by rw [hget t ht];exact hy)
  unfold leR;rw [←this];simp
 have hbd:=um (fun h=>!ltAt rs m h) m a m fR;obtain⟨g1,g2⟩:=rp (fun h=>!ltAt rs m h) m a m fR fR (fun u v h1 h2 h3 h4=>by
  obtain⟨yu,hu⟩:=hval (u-a) fR;obtain⟨yv,hv⟩:=hval (v-a) fR;have q1:=hp _ _ hu;have q2:=hp _ _ hv;rw [show a+(u-a)=u by omega] at q1;rw [show a+(v-a)=v by omega] at q2;rw [q1];exact mm (oe hs (by omega:u-a≤v-a) hu hv) (q2.1 h4))
 generalize bs (fun h=>!ltAt rs m h) m a m=s at *
 obtain⟨A1,A2,rfl,l1,l2⟩:=nM A (n:=s-a) fR;rw [DE] at hm hval hget l2;refine⟨A1++x::A2,?_,?_,?_⟩
 ·rw [←hrs]
  have:=yR x (m-s) A2 (P++A1) S m fR fY
  simpa using this
 ·have:=List.perm_middle (l₁:=A1) (l₂:=A2) (a:=x)
  exact this.trans ((List.perm_append_singleton x (A1++A2)).symm)
 ·obtain⟨h1,h2,h3⟩:=srt_app.1 hs
  have k1:∀y∈A1,leR y x:=fun y hy=>by
   obtain⟨t,ht⟩:=List.getElem?_of_mem hy;have htl:=(Dw.1 ht).1;exact(hp t y (by rw [DG htl];exact ht)).1 (g1 _ fR fR)
  have k2:∀y∈A2,leR x y:=fun y hy=>by
   obtain⟨t,ht⟩:=List.getElem?_of_mem hy;have htl:=(Dw.1 ht).1;have hb:=g2 (a+(A1.length+t)) fR fR;have hq:=hp (A1.length+t) y (by rw [DJ fR,Nat.add_sub_cancel_left];exact ht);rw [hb] at hq;exact(vd x y).resolve_right (fun h=>by have:=hq.2 h;cases this)
  exact du
theorem lP {l:List Row} (h:l.length=0):l=[]:=Ds h
theorem nT:∀(f:Nat) (P A B S:List Row) (a m b:Nat),a=P.length→m=a+A.length→b=m+B.length→0<A.length→0<B.length→A.length+B.length≤f→Srt A→Srt B →
  ∃M,symM f (P++(A++(B++S))) a m b=P++(M++S)∧M.Perm (A++B)∧Srt M
 | 0,P,A,B,S,a,m,b,_,_,_,h1,h2,h,_,_=>by omega
 | f+1,P,A,B,S,a,m,b,ha,hm,hb,h1,h2,hf,hA,hB=>by
  by_cases c1:m=a+1
  ·match A,hm,hA with
   | [x],hm,_ =>
    subst c1;rw [zp];exact sym_one P B S x a b ha hb hB
   | [],hm,_=>simp at h1
   | _::_::_,hm,_=>simp at hm;omega
  by_cases c2:b=m+1
  ·match B,hb,hB with
   | [x],hb,_ =>
    subst c2;rw [vX c1];exact sym_last P A S x a m ha hm hA
   | [],hb,_=>simp at h2
   | _::_::_,hb,_=>simp at hb;omega
  rw [zH c1 c2];obtain⟨rs,hrs⟩:∃rs,P++(A++(B++S))=rs:=⟨_,rfl⟩;rw [hrs];obtain⟨Mi,hMi⟩:∃M,(a+b) / 2=M:=⟨_,rfl⟩;obtain⟨LO,hLO⟩:∃LO,sLo a m b=LO:=⟨_,rfl⟩;obtain⟨HI,hHI⟩:∃HI,sHi a m b=HI:=⟨_,rfl⟩;rw [hMi,hLO,hHI];have hlohi:a≤LO∧LO≤HI∧HI≤Mi∧HI≤m∧Mi+m≤LO+b∧(LO=a∨LO=Mi+m-b)∧(HI=m∨HI=Mi):=by
   unfold sLo at hLO;unfold sHi at hHI;rw [hMi] at hLO hHI;by_cases hc:Mi<m
   ·rw [Dr hc] at hLO hHI;omega
   ·rw [Du hc] at hLO hHI;omega
  obtain⟨q1,q2,q3,q4,q5,q6,q7⟩:=hlohi;have gA:∀c,a≤c→c<m→∃x,A[c-a]?=some x∧rs[c]?=some x:=fun c u v=>by
   obtain⟨x,hx⟩:∃x,A[c-a]?=some x:=⟨_,Dt fR⟩;refine⟨x,hx,?_⟩;rw [←hrs,←hx];have:=tX P A (B++S) (t:=c-a) fR
   rw [show P.length+(c-a)=c by omega] at this;exact this
  have gB:∀c,m≤c→c<b→∃x,B[c-m]?=some x∧rs[c]?=some x:=fun c u v=>by
   obtain⟨x,hx⟩:∃x,B[c-m]?=some x:=⟨_,Dt fR⟩;refine⟨x,hx,?_⟩;rw [←hrs,←hx,show P++(A++(B++S))=(P++A)++(B++S) by simp];have:=tX (P++A) B S (t:=c-m) fR
   rw [show (P++A).length+(c-m)=c by simp;omega] at this;exact this
  have hp:∀c x y,LO≤c→c<HI→A[c-a]?=some x→B[Mi+m-1-c-m]?=some y→((!ltAt rs (Mi+m-1-c) c)=true↔leR x y):=fun c x y u v hx hy=>by
   obtain⟨x',hx1,hx2⟩:=gA c fR fR;obtain⟨y',hy1,hy2⟩:=gB (Mi+m-1-c) fR fR;obtain rfl:=Option.some.inj (hx.symm.trans hx1);obtain rfl:=Option.some.inj (hy.symm.trans hy1);have:=ul hy2 hx2
   unfold leR;rw [←this];simp
  have hbd:=um (fun c=>!ltAt rs (Mi+m-1-c) c) b LO HI q2;obtain⟨g1,g2⟩:=rp (fun c=>!ltAt rs (Mi+m-1-c) c) b LO HI q2 fR (fun u v k1 k2 k3 k4=>by
   obtain⟨xu,hxu,_⟩:=gA u fR fR;obtain⟨xv,hxv,_⟩:=gA v fR fR;obtain⟨yu,hyu,_⟩:=gB (Mi+m-1-u) fR fR;obtain⟨yv,hyv,_⟩:=gB (Mi+m-1-v) fR fR;rw [hp u xu yu k1 fR hxu hyu];have:=(hp v xv yv fR k3 hxv hyv).1 k4
   exact mm (mm (oe hA fR hxu hxv) this) (oe hB fR hyv hyu))
  generalize bs (fun c=>!ltAt rs (Mi+m-1-c) c) b LO HI=s at *
  obtain⟨E,hE⟩:∃E,Mi+m-s=E:=⟨_,rfl⟩;rw [hE];obtain⟨A1,A2,rfl,l1,l2⟩:=nM A (n:=s-a) fR;obtain⟨B1,B2,rfl,l3,l4⟩:=nM B (n:=E-m) fR;simp only [DE] at hm hb h1 h2 hf l2 l4;obtain⟨sA1,sA2,sA⟩:=srt_app.1 hA;obtain⟨sB1,sB2,sB⟩:=srt_app.1 hB;have hcross:∀x∈A1++B1,∀y∈A2++B2,leR x y:=by
   intro x hx y hy;rcases DZ.1 hx with hx|hx<;>rcases DZ.1 hy with hy|hy
   ·exact sA x hx y hy
   ·obtain⟨t,ht⟩:=List.getElem?_of_mem hx
    obtain⟨v,hv⟩:=List.getElem?_of_mem hy;have htl:=(Dw.1 ht).1;have hvl:=(Dw.1 hv).1;have hLs:LO<s:=fR;obtain⟨x',hx1,_⟩:=gA (s-1) fR fR;obtain⟨y',hy1,_⟩:=gB (Mi+m-1-(s-1)) fR fR;have:=(hp (s-1) x' y' fR fR hx1 hy1).1 (g1 (s-1) fR fR)
    exact mm (mm (oe hA (show t≤s-1-a by omega) (by rw [DG htl];exact ht) hx1) this)
     (oe hB (show Mi+m-1-(s-1)-m≤B1.length+v by omega) hy1 (by rw [DJ fR,Nat.add_sub_cancel_left];exact hv))
   ·obtain⟨t,ht⟩:=List.getElem?_of_mem hx
    obtain⟨v,hv⟩:=List.getElem?_of_mem hy;have htl:=(Dw.1 ht).1;have hvl:=(Dw.1 hv).1;have hsH:s<HI:=fR;obtain⟨x',hx1,_⟩:=gA s fR fR;obtain⟨y',hy1,_⟩:=gB (Mi+m-1-s) fR fR;have hn:=g2 s (Dv _) hsH;have hq:=hp s x' y' hbd.1 hsH hx1 hy1;have hle:leR y' x':=(vd x' y').resolve_left (fun h=>by have:=hq.2 h;rw [hn] at this;cases this);exact mm (mm (oe hB (show t≤Mi+m-1-s-m by omega) (by rw [DG htl];exact ht) hy1) hle)
     (oe hA (show s-a≤A1.length+v by omega) hx1 (by rw [DJ fR,Nat.add_sub_cancel_left];exact hv))
   ·exact sB x hx y hy
  have hr1:(if s<m∧m<E then rotL (E-s) rs m (m-s) (E-m) else rs)=P++(A1++(B1++(A2++(B2++S)))):=by
   by_cases hc:s<m∧m<E
   ·rw [Dr hc,←hrs]
    have:=uJ (E-s) (P++A1) A2 B1 (B2++S) m (m-s) (E-m) fY fR fR fR fR fR
    simpa using this
   ·rw [Du hc,←hrs]
    by_cases hs:s<m
    ·have:B1=[]:=lP fR
     subst this;simp
    ·have:A2=[]:=lP fR
     subst this;simp
  rw [hr1];have hr2:∃M1,(if a<s∧s<Mi then symM f (P++(A1++(B1++(A2++(B2++S))))) a s Mi else P++(A1++(B1++(A2++(B2++S)))))=P++(M1++(A2++(B2++S)))∧M1.Perm (A1++B1)∧Srt M1:=by
   by_cases hc:a<s∧s<Mi
   ·rw [Dr hc]
    exact nT f P A1 B1 (A2++(B2++S)) a s Mi ha fR fR fR fR fR sA1 sB1
   ·rw [Du hc]
    by_cases hs:a<s
    ·have:B1=[]:=lP fR
     subst this;exact⟨A1,by simp,by simp,sA1⟩
    ·have:A1=[]:=lP fR
     subst this;exact⟨B1,by simp,by simp,sB1⟩
  obtain⟨M1,e1,p1,s1⟩:=hr2;unfold symT;rw [e1];have hl1:M1.length=Mi-a:=by rw [p1.length_eq,DE];omega
  have hr3:∃M2,(if Mi<E∧E<b then symM f (P++(M1++(A2++(B2++S)))) Mi E b else P++(M1++(A2++(B2++S))))=P++(M1++(M2++S))∧M2.Perm (A2++B2)∧Srt M2:=by
   by_cases hc:Mi<E∧E<b
   ·rw [Dr hc]
    obtain⟨M2,e2,p2,s2⟩:=nT f (P++M1) A2 B2 S Mi E b fY fR fR fR fR fR sA2 sB2;exact⟨M2,by simpa using e2,p2,s2⟩
   ·rw [Du hc]
    by_cases hs:Mi<E
    ·have:B2=[]:=lP fR
     subst this;exact⟨A2,by simp,by simp,sA2⟩
    ·have:A2=[]:=lP fR
     subst this;exact⟨B2,by simp,by simp,sB2⟩
  obtain⟨M2,e2,p2,s2⟩:=hr3;refine⟨M1++M2,by rw [e2];simp,?_,?_⟩
  ·refine(p1.append p2).trans ?_
   have h1:((A1++B1)++(A2++B2)).Perm ((A1++A2)++(B1++B2)):=by
    rw [D6,D6];refine List.Perm.append_left A1 ?_;rw [←D6,←D6];exact List.Perm.append_right B2 List.perm_append_comm
   exact h1
  ·rw [srt_app]
   exact⟨s1,s2,fun x hx y hy=>hcross x (p1.mem_iff.1 hx) y (p2.mem_iff.1 hy)⟩
theorem Ba (a:Nat) (rs:List Row):py a a rs=rs:=by
 cases a with
 | zero=>rfl
 | succ j =>
  simp only [py];split
  ·rw [Du fR]
  ·rfl
theorem yL {A:List Row} {x:Row} (h:Srt A) (hx:∀y∈A,leR y x):Srt (A++[x]):=by
 refine List.pairwise_append.2 ⟨h,List.pairwise_singleton _ _,fun y hy z hz=>?_⟩;rw [D7] at hz;subst hz;exact hx y hy
theorem vS (P:List Row) (x:Row):∀(n:Nat) (A S:List Row) (a j:Nat),n=A.length→a=P.length→j=a+A.length→Srt A →
  ∃M,py a j (P++(A++x::S))=P++(M++S)∧M.Perm (A++[x])∧Srt M
 | 0,A,S,a,j,hn,ha,hj,hA=>by
  obtain rfl:=lP hn.symm;obtain rfl:j=a:=by simpa using hj
  exact⟨[x],by rw [Ba];simp,by simp,List.pairwise_singleton _ _⟩
 | n+1,A,S,a,j,hn,ha,hj,hA=>by
  rcases tH A with rfl|⟨B,y,rfl⟩
  ·simp at hn
  simp only [DE,List.length_singleton] at hn hj;obtain⟨j,rfl⟩:∃j',j=j'+1:=⟨a+B.length,by omega⟩;obtain⟨hB,_,hy⟩:=List.pairwise_append.1 hA;have hy:∀z∈B,leR z y:=fun z hz=>hy z hz y fX
  have e1:P++((B++[y])++x::S)=(P++B)++y::([]++x::S):=fX;have hl:(P++B).length=j:=by rw [DE];omega
  have g1:((P++B)++y::([]++x::S))[j]?=some y:=by rw [←hl];exact qt _ _ _
  have g2:((P++B)++y::([]++x::S))[j+1]?=some x:=by
   rw [show (P++B)++y::([]++x::S)=(P++B++[y])++x::S by simp,show j+1=(P++B++[y]).length by rw [DE,hl];rfl];exact qt _ _ _
  rw [e1];simp only [py,g1,g2];by_cases hc:cmpR x y<0
  ·rw [Dr ⟨by omega,hc⟩,rR fR,pQ (P++B) [] S y x j (j+1) hl.symm (by rw [hl];simp)]
   obtain⟨M,h1,h2,h3⟩:=vS P x n B (y::S) a j fR ha fR hB;refine⟨M++[y],?_,?_,?_⟩
   ·rw [show (P++B)++x::([]++y::S)=P++(B++x::y::S) by simp,h1];simp
   ·have:=h2.append_right [y]
    refine this.trans ?_;rw [D6,D6];exact List.Perm.append_left B (List.Perm.swap _ _ _)
   ·refine yL h3 (fun z hz=>?_)
    have hz:=h2.mem_iff.1 hz;rw [DZ,D7] at hz;rcases hz with hz|rfl
    ·exact hy z hz
    ·exact om hc
  ·rw [Du (by intro h;exact hc h.2)]
   refine⟨B++[y]++[x],by simp,.refl _,yL hA (fun z hz=>?_)⟩;rw [DZ,D7] at hz;rcases hz with hz|rfl
   ·exact mm (hy z hz) hc
   ·exact hc
theorem qz (P:List Row):∀(B A S:List Row) (a k i:Nat),k=B.length→a=P.length→i=a+A.length→Srt A →
  ∃M,my a k i (P++(A++(B++S)))=P++(M++S)∧M.Perm (A++B)∧Srt M
 | [],A,S,a,k,i,hk,ha,hi,hA=>by
  subst hk;exact⟨A,by simp [my],by simp,hA⟩
 | x::B,A,S,a,k,i,hk,ha,hi,hA=>by
  subst hk;obtain⟨M,h1,h2,h3⟩:=vS P x A.length A (B++S) a i rfl ha hi hA;have hl:M.length=A.length+1:=by rw [h2.length_eq];simp
  obtain⟨M2,g1,g2,g3⟩:=qz P B M S a B.length (i+1) rfl ha fR h3;refine⟨M2,?_,?_,g3⟩
  ·simp only [Dx,my,D5];rw [h1,g1]
  ·refine g2.trans ((h2.append_right B).trans ?_)
   simp
inductive Blk (s:Nat):List Row→Prop
 | last {l:List Row}:l.length<s→Srt l→Blk s l
 | cons {A l:List Row}:A.length=s→Srt A→Blk s l→Blk s (A++l)
theorem Blk.take {s:Nat} {l:List Row} (h:Blk s l) (hl:s≤l.length):∃A T,l=A++T∧A.length=s∧Srt A∧Blk s T:=by
 cases h with
 | last h1 _=>omega
 | cons h1 h2 h3=>exact⟨_,_,rfl,h1,h2,h3⟩
theorem Blk.short {s:Nat} {l:List Row} (h:Blk s l) (hl:l.length<s):Srt l:=by
 cases h with
 | last _ h2=>exact h2
 | cons h1 h2 h3=>rw [DE] at hl;omega
theorem Blk.whole {s:Nat} {l:List Row} (h:Blk s l) (hl:l.length≤s):Srt l:=by
 rcases Nat.eq_or_lt_of_le hl with e|e
 ·obtain⟨A,T,rfl,h1,h2,h3⟩:=h.take fR
  obtain rfl:T=[]:=lP (by rw [DE] at e;omega);simpa using h2
 ·exact h.short e
theorem CF:∀(k:Nat) (P S:List Row) (a n:Nat),a=P.length→n=a+S.length→n<a+k→∃M,stA k (P++S) a n=P++M∧M.Perm S∧Blk 20 M
 | 0,P,S,a,n,_,_,h=>by omega
 | k+1,P,S,a,n,ha,hn,hk=>by
  simp only [stA];by_cases hc:a+20≤n
  ·rw [Dr hc]
   obtain⟨A,T,rfl,hA,hT⟩:=nM S (n:=20) fR;match A,hA,hn,hT with
   | x::A,hA,hn,hT =>
    simp only [Dx] at hA;obtain⟨M,h1,h2,h3⟩:=qz P A [x] T a (a+20-(a+1)) (a+1) fR ha rfl (List.pairwise_singleton _ _);have hl:M.length=20:=by rw [h2.length_eq];simp;omega
    obtain⟨M2,g1,g2,g3⟩:=CF k (P++M) T (a+20) n iq (by simp at hn;omega) fR;refine⟨M++M2,?_,?_,.cons hl h3 g3⟩
    ·rw [show P++((x::A)++T)=P++([x]++(A++T)) by simp,h1,←D6,g1,D6]
    ·exact(h2.append_right M2).trans (g2.append_left _)
   | [],hA,_,_=>simp at hA
  ·rw [Du hc]
   match S,hn with
   | [],hn =>
    obtain rfl:n=a:=by simpa using hn
    refine⟨[],?_,.refl _,.last fX List.Pairwise.nil⟩;rw [show n-(n+1)=0 by omega];rfl
   | x::S,hn =>
    simp only [Dx] at hn;obtain⟨M,h1,h2,h3⟩:=qz P S [x] [] a (n-(a+1)) (a+1) fR ha rfl (List.pairwise_singleton _ _);have hl:M.length=S.length+1:=by rw [h2.length_eq];simp
    refine⟨M,?_,h2,.last fR h3⟩;rw [D8,D8] at h1;exact h1
theorem Cr (s:Nat) (hs:0<s):∀(k:Nat) (P S:List Row) (a n:Nat),a=P.length→n=a+S.length→n<a+k→Blk s S→∃M,stB k (P++S) a s n=P++M∧M.Perm S∧Blk (2*s) M
 | 0,P,S,a,n,_,_,h,_=>by omega
 | k+1,P,S,a,n,ha,hn,hk,hB=>by
  simp only [stB];by_cases hc:a+2*s≤n
  ·rw [Dr hc]
   obtain⟨A,T,rfl,hA,hsA,hT⟩:=hB.take fR;rw [DE] at hn;obtain⟨B,T,rfl,hB2,hsB,hT2⟩:=hT.take fR;rw [DE] at hn;obtain⟨M,h1,h2,h3⟩:=nT (2*s) P A B T a (a+s) (a+2*s) ha fR fR fR fR fR hsA hsB;have hl:M.length=2*s:=by rw [h2.length_eq,DE];omega
   obtain⟨M2,g1,g2,g3⟩:=Cr s hs k (P++M) T (a+2*s) n iq fR fR hT2;refine⟨M++M2,?_,?_,.cons hl h3 g3⟩
   ·rw [h1,←D6,g1,D6]
   ·rw [←D6];exact(h2.append_right M2).trans (g2.append_left _)
  ·rw [Du hc]
   by_cases hd:a+s<n
   ·rw [Dr hd]
    obtain⟨A,T,rfl,hA,hsA,hT⟩:=hB.take fR;rw [DE] at hn;obtain⟨M,h1,h2,h3⟩:=nT (n-a) P A T [] a (a+s) n ha fR fR fR fR fR hsA (hT.short fR);have hl:M.length=n-a:=by rw [h2.length_eq,DE];omega
    rw [D8,D8] at h1;exact⟨M,h1,h2,.last fR h3⟩
   ·rw [Du hd]
    exact⟨S,rfl,.refl _,.last fR (hB.whole fR)⟩
theorem CH:∀(k:Nat) (S:List Row) (s n:Nat),0<s→n=S.length→n<s+k→Blk s S→(stC k S s n).Perm S∧Srt (stC k S s n)
 | 0,S,s,n,_,hn,hk,hB=>⟨.refl _,hB.whole fR⟩
 | k+1,S,s,n,hs,hn,hk,hB=>by
  simp only [stC];by_cases hc:s<n
  ·rw [Dr hc]
   obtain⟨M,h1,h2,h3⟩:=Cr s hs (n+1) [] S 0 n rfl fR fR hB;rw [D4,D4] at h1;rw [h1];obtain⟨g1,g2⟩:=CH k M (2*s) n fR (by rw [h2.length_eq];exact hn) fR h3;exact⟨g1.trans h2,g2⟩
  ·rw [Du hc]
   exact⟨.refl _,hB.whole fR⟩
theorem s5 (rs:List Row):(stL rs).Perm rs∧Srt (stL rs):=by
 obtain⟨M,h1,h2,h3⟩:=CF (rs.length+1) [] rs 0 rs.length rfl fX fR;rw [D4,D4] at h1;unfold stL;rw [h1];obtain⟨g1,g2⟩:=CH (rs.length+1) M 20 rs.length fR (by rw [h2.length_eq]) fR h3;exact⟨g1.trans h2,g2⟩
theorem mp {r r1:List Str} (h:r1 <:+ r) (ho:okC r):okC r1:=fun p hp=>ho p (h.subset hp)
theorem kF {c:Str} {r r1:List Str} (h:r1 <:+ r):r1 <:+ c::r:=h.trans (D9 _ _)
theorem kW {c:Str} {r r1:List Str} (h:jQ c r=some r1):r1 <:+ r:=by rw [ll h];exact D9 _ _
theorem yH {r r1:List Str} {c:Str} {nm:List Row} (h:mh r=some (c,nm,r1)):r1 <:+ r:=by
 cases r with
 | nil=>cases h
 | cons p r =>
  simp only [mh] at h;by_cases h1:p=[93]
  ·rw [Dr h1] at h;cases h
  rw [Du h1] at h;by_cases h2:p=[92]
  ·rw [Dr h2] at h
   cases r with
   | nil=>cases h
   | cons c2 r2 =>
    simp only at h
    cases hn:l8 c2 with
    | some rows =>
     simp only [hn] at h;exact dS
    | none =>
     simp only [hn] at h;cases hpm:lr c2 with
     | none=>exact fO
     | some t =>
      simp only [hpm] at h;exact dS
  ·rw [Du h2] at h
   injection h with h;injection h with h3 h;injection h with h4 h5
   subst h5;exact D9 _ _
def lU (rows:List Row):Prop:=∀q∈rows,q.1.length≤1000000∧q.2.length≤1000000
theorem nC {c t:Str} (h1:c.length≤1000000) (h2:t.length≤1000000):lU [(c,t)]:=by
 intro q hq;rw [D7] at hq;subst hq;exact⟨h1,h2⟩
theorem nt {a b:List Row} (h1:lU a) (h2:lU b):lU (a++b):=by
 intro q hq;rcases DZ.1 hq with h|h
 ·exact h1 q h
 ·exact h2 q h
theorem mR:∀(n:Nat) (rows:List Row) (r:List Str) {rows':List Row} {r1:List Str},kp n rows r=some (rows',r1)→okC r→lU rows →
  r1 <:+ r∧r1.length<r.length∧rows'.length≤rows.length+4*r.length∧lU rows'
 | 0,_,_,_,_,h,_,_=>by cases h
 | n+1,rows,r,rows',r1,h,ho,hr=>by
  simp only [kp] at h;cases ht:jQ [93] r with
  | some r0 =>
   simp only [ht] at h;injection h with h;injection h with h1 h2
   subst h1 h2;have e:=ll ht;exact⟨kW ht,by rw [e];simp,by omega,hr⟩
  | none =>
   simp only [ht] at h;cases hi:mh r with
   | none=>simp only [hi] at h;cases h
   | some y =>
    obtain⟨c,nm,r2⟩:=y;simp only [hi] at h;obtain⟨f1,f2,f3,f4,f5⟩:=oJ hi ho;have fs:=yH hi;by_cases hnm:nm≠[]
    ·rw [Dr hnm] at h
     obtain⟨g1,g2,g3,g4⟩:=mR n _ _ h f5 (nt hr f4);rw [DE] at g3;exact⟨g1.trans fs,by omega,by omega,g4⟩
    ·rw [Du hnm] at h
     have one:∀{rr:List Str},kp n (rows++[(c,c)]) rr=some (rows',r1)→okC rr→rr <:+ r→rr.length<r.length→r1 <:+ r∧r1.length<r.length∧rows'.length≤rows.length+4*r.length∧lU rows':=by
      intro rr h hoo hs hl;obtain⟨g1,g2,g3,g4⟩:=mR n _ _ h hoo (nt hr (nC f3 f3));rw [DE,List.length_singleton] at g3;exact⟨g1.trans hs,by omega,by omega,g4⟩
     cases ht2:jQ [45] r2 with
     | none=>simp only [ht2] at h;exact one h f5 fs f1
     | some r3 =>
      simp only [ht2] at h;by_cases ht3:jQ [93] r3=none
      ·rw [Dr ht3] at h
       cases hi2:mh r3 with
       | none=>simp only [hi2] at h;cases h
       | some y =>
        obtain⟨t,nm2,r4⟩:=y;simp only [hi2] at h;have hs3:=kW ht2;have e3:=ll ht2;obtain⟨k1,k2,k3,k4,k5⟩:=oJ hi2 (mp hs3 f5);have ks:=yH hi2;by_cases hb:nm2≠[]∨Op.bytesLess t c=true
        ·rw [Dr hb] at h;cases h
        ·rw [Du hb] at h
         obtain⟨g1,g2,g3,g4⟩:=mR n _ _ h k5 (nt hr (nC f3 k3));rw [DE,List.length_singleton] at g3;have:r3.length<r2.length:=by rw [e3];simp
         exact⟨((g1.trans ks).trans hs3).trans fs,by omega,by omega,g4⟩
      ·rw [Du ht3] at h;exact one h f5 fs f1
theorem mrgS_ok {out:List Row} {r:Row} (h1:lU out) (h2:r.1.length≤1000000∧r.2.length≤1000000):lU (mrgS out r):=by
 rcases List.eq_nil_or_concat out with rfl|⟨B,q,rfl⟩
 ·rw [zj];exact nC h2.1 h2.2
 ·rw [List.concat_eq_append] at h1 ⊢
  have hB:lU B:=fun x hx=>h1 x (List.mem_append_left _ hx)
  have hq:=h1 q fX;cases hl:leS r.1 q.2 with
  | true =>
   rw [CV hl];refine nt hB (nC hq.1 ?_);unfold mxS;by_cases hm:Op.bytesLess q.2 r.2=true
   ·rw [Dr hm];exact h2.2
   ·rw [Du hm];exact hq.2
  | false =>
   rw [xM hl];exact nt h1 (nC h2.1 h2.2)
theorem union_ok {rows:List Row} (h:lU rows):lU (lG rows)∧(lG rows).length≤rows.length:=by
 have h1:lU (stL (filR rows)):=fun q hq=>h q ((List.mem_filter.1 ((s5 _).1.mem_iff.1 hq)).1)
 refine⟨?_,?_⟩
 ·unfold lG mrgL
  have key:∀(l out:List Row),lU l→lU out→lU (l.foldl mrgS out):=by
   intro l;induction l with
   | nil=>intro out _ h;exact h
   | cons r l ih =>
    intro out h1 h2;exact ih _ (fun q hq=>h1 q (DI _ hq)) (mrgS_ok h2 (h1 r (DH ..)))
  exact key _ _ h1 (by intro q hq;cases hq)
 ·unfold lG
  have e1:=zO (stL (filR rows));have e2:=Bn (filR rows);have e3:=uy rows;omega
def Fct (b:Nat) (r:List Str) (x:Rx) (r1:List Str):Prop :=
 x.small∧x.parts+2*r1.length≤2*r.length+b∧x.groups+r1.count [40]≤r.count [40]∧r1 <:+ r
theorem nx {r r1:List Str} (h:r1 <:+ r) (c:Str):r1.count c≤r.count c:=h.sublist.count_le c
theorem lT {r r1:List Str} (h:r1 <:+ r):r1.length≤r.length:=h.length_le
theorem zZ {k:Int} {c:Str} {ng:Bool} {rs:List Row} {lo hi:Int} {lz:Bool} (h1:c.length≤1000000) (h2:rs.length≤1000000) (h3:lU rs):(Rx.mk k c ng rs lo hi lz []).small:=by
 simp only [Rx.small,Rx.small1,Rx.smallL];exact⟨⟨h1,h2,h3,by simp⟩,trivial⟩
theorem Fct.leaf {k:Int} {c:Str} {ng:Bool} {rs:List Row} {lo hi:Int} {lz:Bool} {b:Nat} {r r1:List Str} (h1:c.length≤1000000) (h2:rs.length≤1000000) (h3:lU rs) (hk:k≠5) (hs:r1 <:+ r) (hl:r1.length<r.length):Fct b r (.mk k c ng rs lo hi lz []) r1:=by
 refine⟨zZ h1 h2 h3,?_,?_,hs⟩
 ·simp only [Rx.parts,Rx.partsL];omega
 ·simp only [Rx.groups,Rx.groupsL,Du hk];have:=nx hs [40];omega
theorem no:lU []:=fun _ h=>by cases h
theorem CW {r r1:List Str} {x:Rx} (h:escM r=.ok (x,r1)) (ho:okC r):Fct 0 r x r1:=by
 cases r with
 | nil=>cases h
 | cons c r =>
  have hc:=ho c (DH ..);have big:∀b,Fct 0 (c::r) (setR (kA b) true) r:=fun b=>Fct.leaf fX (by have:=(mJ b).1;omega) (mJ b).2 fU (D9 _ _) fX
  simp only [escM] at h;cases hn:l8 c with
  | some rows =>
   obtain⟨b,rfl,_,rfl⟩:=pi hn;simp only [hn] at h;injection h with h;injection h with h1 h2;subst h1 h2
   exact Fct.leaf fX (by have:=(mJ b).1;omega) (mJ b).2 fU (D9 _ _) fX
  | none =>
   simp only [hn] at h;cases hb:bigS c with
   | some rows =>
    simp only [hb] at h;injection h with h;injection h with h1 h2;subst h1 h2
    unfold bigS at hb;by_cases g1:c=[68]
    ·rw [Dr g1] at hb;injection hb with hb;rw [←hb];exact big _
    rw [Du g1] at hb;by_cases g2:c=[87]
    ·rw [Dr g2] at hb;injection hb with hb;rw [←hb];exact big _
    rw [Du g2] at hb;by_cases g3:c=[83]
    ·rw [Dr g3] at hb;injection hb with hb;rw [←hb];exact big _
    rw [Du g3] at hb;cases hb
   | none =>
    simp only [hb] at h;cases hp:lr c with
    | none=>simp only [hp] at h;cases h
    | some t =>
     simp only [hp] at h;injection h with h;injection h with h1 h2;subst h1 h2
     exact Fct.leaf (by have:=tG hp;omega) fX no fU (D9 _ _) fX
theorem xN {r r1:List Str} {x:Rx} (h:lq r=.ok (x,r1)) (ho:okC r) (hl:r.length≤200000):Fct 0 r x r1:=by
 have hsx:((jQ [94] r).getD r) <:+ r:=by
  cases ht:jQ [94] r with
  | none=>exact Ea _
  | some r2=>exact kW ht
 unfold lq at h;generalize (jQ [94] r).isSome=ng at h
 generalize (jQ [94] r).getD r=r0 at h hsx
 simp only at h
 cases hc:kp (r0.length+1) [] r0 with
 | none=>simp only [hc] at h;cases h
 | some y =>
  obtain⟨rows,r2⟩:=y;simp only [hc] at h;injection h with h;injection h with h1 h2;subst h1 h2
  obtain⟨g1,g2,g3,g4⟩:=mR _ _ _ hc (mp hsx ho) no;have hl0:=lT hsx;have hu:=union_ok g4;exact Fct.leaf fX (by simp at g3;omega) hu.1 fU (g1.trans hsx) fR
theorem t7:∀(r:List Str) (k n:Nat) {m:Nat} {r1:List Str},numL k n r=some (m,r1)→r1 <:+ r
 | [],k,n,m,r1,h=>by
  unfold numL at h;exact eo
 | c::r,k,n,m,r1,h=>by
  unfold numL at h;split at h
  ·split at h
   ·cases h
   ·exact kF (t7 r _ _ h)
  ·exact eo
theorem A6 {r r1:List Str} {lo hi:Int} (h:ld r=some (lo,hi,r1)):r1 <:+ r:=by
 unfold ld at h;cases h1:numL 0 0 r with
 | none=>simp only [h1] at h;cases h
 | some y =>
  obtain⟨a,s1⟩:=y;have e1:=t7 _ _ _ h1;simp only [h1] at h;cases h2:jQ [125] s1 with
  | some s2 =>
   simp only [h2] at h;injection h with h;injection h with _ h;injection h with _ h;subst h
   exact(kW h2).trans e1
  | none =>
   simp only [h2] at h;cases h3:jQ [44] s1 with
   | none=>simp only [h3] at h;cases h
   | some s2 =>
    simp only [h3] at h;have e2:=(kW h3).trans e1;cases h4:jQ [125] s2 with
    | some s3 =>
     simp only [h4] at h;injection h with h;injection h with _ h;injection h with _ h;subst h
     exact(kW h4).trans e2
    | none =>
     simp only [h4] at h;cases h5:numL 0 0 s2 with
     | none=>exact ei
     | some y =>
      obtain⟨b,s3⟩:=y;have e3:=(t7 _ _ _ h5).trans e2;simp only [h5] at h;split at h
      ·cases h6:jQ [125] s3 with
       | none=>simp only [h6] at h;cases h
       | some s4 =>
        simp only [h6] at h;injection h with h;injection h with _ h;injection h with _ h;subst h
        exact(kW h6).trans e3
      ·cases h
theorem Dl {lo hi:Int} {lz:Bool} {x:Rx} (h:x.small):(repR lo hi lz x).small:=by
 simp only [repR,Rx.small,Rx.small1,Rx.smallL];exact⟨⟨by simp,by simp,by simp,by simp⟩,h,trivial⟩
theorem Ao {x y:Rx} {lo hi:Int} {r r1:List Str} (h:oB x lo hi r=(y,r1)):(∃lz,y=repR lo hi lz x)∧r1 <:+ r:=by
 unfold oB at h;cases ht:jQ [63] r with
 | some r2=>simp only [ht] at h;injection h with h1 h2;subst h1 h2;exact⟨⟨_,rfl⟩,kW ht⟩
 | none=>simp only [ht] at h;injection h with h1 h2;subst h1 h2;exact⟨⟨_,rfl⟩,Ea _⟩
theorem pd {x y:Rx} {r r1:List Str} (h:kz x r=.ok (y,r1)):(y=x∧r1=r)∨((∃lo hi lz,y=repR lo hi lz x)∧r1 <:+ r∧r1.length<r.length):=by
 cases r with
 | nil=>simp only [kz] at h;injection h with h;injection h with h1 h2;exact .inl ⟨h1.symm,h2.symm⟩
 | cons c r =>
  simp only [kz] at h;have key:∀{lo hi:Int} {r2:List Str},Except.ok (oB x lo hi r2)=(Except.ok (y,r1):Res)→r2 <:+ r→(y=x∧r1=c::r)∨((∃lo hi lz,y=repR lo hi lz x)∧r1 <:+ c::r∧r1.length<(c::r).length):=by
   intro lo hi r2 h hs;injection h with h
   obtain⟨⟨lz,h1⟩,h2⟩:=Ao h;have h3:=h2.trans hs;have:=lT h3
   exact .inr ⟨⟨lo,hi,lz,h1⟩,kF h3,by simp;omega⟩
  by_cases h1:c=[42]
  ·rw [Dr h1] at h;exact key h (Ea _)
  rw [Du h1] at h;by_cases h2:c=[43]
  ·rw [Dr h2] at h;exact key h (Ea _)
  rw [Du h2] at h;by_cases h3:c=[63]
  ·rw [Dr h3] at h;exact key h (Ea _)
  rw [Du h3] at h;by_cases h4:c=[123]
  ·rw [Dr h4] at h
   cases hb:ld r with
   | none=>simp only [hb] at h;cases h
   | some z =>
    obtain⟨lo,hi,r2⟩:=z;simp only [hb] at h;exact key h (A6 hb)
  ·rw [Du h4] at h
   injection h with h;injection h with h5 h6
   exact .inl ⟨h5.symm,h6.symm⟩
theorem lA:∀(a b:List Rx),Rx.partsL (a++b)=Rx.partsL a+Rx.partsL b
 | [],b=>by simp [Rx.partsL]
 | x::a,b=>by simp only [D5,Rx.partsL,lA a b];omega
theorem nQ:∀(a b:List Rx),Rx.groupsL (a++b)=Rx.groupsL a+Rx.groupsL b
 | [],b=>by simp [Rx.groupsL]
 | x::a,b=>by simp only [D5,Rx.groupsL,nQ a b];omega
theorem lK:∀{a b:List Rx},Rx.smallL a→Rx.smallL b→Rx.smallL (a++b)
 | [],_,_,h=>h
 | _::_,_,h1,h2=>⟨h1.1,lK h1.2 h2⟩
theorem nf (kd:Int) (x:Rx) (xs:List Rx):kD kd (x::xs)=(if x.kind=kd then x.kids else [x])++kD kd xs:=by simp [kD]
theorem tB (x:Rx) (hs:x.small):Rx.partsL x.kids+1=x.parts∧Rx.groupsL x.kids≤x.groups∧Rx.smallL x.kids:=by
 obtain⟨k,c,ng,rs,lo,hi,lz,ks⟩:=x;simp only [Rx.kids,Rx.parts,Rx.groups];exact⟨by omega,by omega,hs.2⟩
theorem qB (kd:Int):∀{xs:List Rx},Rx.smallL xs→Rx.smallL (kD kd xs)∧Rx.partsL (kD kd xs)≤Rx.partsL xs∧Rx.groupsL (kD kd xs)≤Rx.groupsL xs
 | [],_=>⟨trivial,Dv _,Dv _⟩
 | x::xs,h=>by
  obtain⟨i1,i2,i3⟩:=qB kd h.2;obtain⟨k1,k2,k3⟩:=tB x h.1;rw [nf,lA,nQ];simp only [Rx.partsL,Rx.groupsL];by_cases hk:x.kind=kd
  ·rw [Dr hk];exact⟨lK k3 i1,by omega,by omega⟩
  ·rw [Du hk];exact⟨lK ⟨h.1,trivial⟩ i1,by simp only [Rx.partsL];omega,by simp only [Rx.groupsL];omega⟩
theorem mY {k:Int} (hk:k≠5) {l:List Rx} (h:Rx.smallL l) (hl:l.length≤1000000):(Rx.mk k [] false [] 0 0 false l).small∧(Rx.mk k [] false [] 0 0 false l).parts=1+Rx.partsL l∧(Rx.mk k [] false [] 0 0 false l).groups=Rx.groupsL l:=by
 simp only [Rx.small,Rx.small1,Rx.parts,Rx.groups,Du hk];exact⟨⟨⟨by simp,by simp,by simp,hl⟩,h⟩,trivial,by omega⟩
theorem qw {xs:List Rx} (h:Rx.smallL xs) (hp:Rx.partsL xs≤1000000):(seqR xs).small∧(seqR xs).parts≤1+Rx.partsL xs∧(seqR xs).groups≤Rx.groupsL xs:=by
 obtain⟨f1,f2,f3⟩:=qB 0 h;have hl:=Rx.len_parts (kD 0 xs);have gen:∀l:List Rx,kD 0 xs=l→(mB l).small∧(mB l).parts≤1+Rx.partsL xs∧(mB l).groups≤Rx.groupsL xs:=by
  rintro l rfl;obtain⟨s1,s2,s3⟩:=mY (k:=0) fU f1 fR;exact⟨s1,by unfold mB;omega,by unfold mB;omega⟩
 unfold seqR;split
 ·exact dV
 ·rename_i l hl;exact gen _ rfl
theorem Ai {xs:List Rx} (h:Rx.smallL xs) (hp:Rx.partsL xs≤1000000):(altR xs).small∧(altR xs).parts≤1+Rx.partsL xs∧(altR xs).groups≤Rx.groupsL xs:=by
 obtain⟨f1,f2,f3⟩:=qB 1 h;have hl:=Rx.len_parts (kD 1 xs);unfold altR;split
 ·obtain⟨s1,s2,s3⟩:=mY (k:=0) (l:=[]) fU trivial fX
  exact⟨s1,by unfold mB;simp only [Rx.partsL] at s2;omega,by unfold mB;simp only [Rx.groupsL] at s3;omega⟩
 ·exact dV
 ·obtain⟨s1,s2,s3⟩:=mY (k:=1) fU f1 fR
  exact⟨s1,by unfold sQ;omega,by unfold sQ;omega⟩
theorem altR_one {x:Rx} (hs:x.small):(altR [x]).small∧(altR [x]).parts≤x.parts∧(altR [x]).groups≤x.groups:=by
 obtain⟨k1,k2,k3⟩:=tB x hs;obtain⟨k,c,ng,rs,lo,hi,lz,ks⟩:=x;have hks:=hs.1.2.2.2;have hfl:kD 1 [Rx.mk k c ng rs lo hi lz ks]=if k=1 then ks else [.mk k c ng rs lo hi lz ks]:=by by_cases hk:k=1<;>simp [kD,Rx.kind,Rx.kids,hk]
 simp only [Rx.kids] at k1 k2 k3;unfold altR;rw [hfl];by_cases h1:k=1
 ·rw [Dr h1]
  rcases ks with _|⟨y,_|⟨z,l⟩⟩
  ·obtain⟨s1,s2,s3⟩:=mY (k:=0) (l:=[]) fU trivial fX
   exact⟨s1,by show (mB []).parts≤_;unfold mB;simp only [Rx.partsL] at s2 k1;omega,by show (mB []).groups≤_;unfold mB;simp only [Rx.groupsL] at s3 k2;omega⟩
  ·simp only [Rx.partsL,Rx.groupsL] at k1 k2
   exact⟨k3.1,by show y.parts≤_;omega,by show y.groups≤_;omega⟩
  ·obtain⟨s1,s2,s3⟩:=mY (k:=1) (l:=y::z::l) fU k3 hks
   exact⟨s1,by show (sQ (y::z::l)).parts≤_;unfold sQ;omega,by show (sQ (y::z::l)).groups≤_;unfold sQ;omega⟩
 ·rw [Du h1]
  exact⟨hs,Dv _,Dv _⟩
theorem ny {r r0:List Str} {k:Int} (h:lW r=some (k,r0)):r0 <:+ r∧(k=5∨k=6):=by
 unfold lW at h;cases h1:jQ [63] r with
 | none=>simp only [h1] at h;injection h with h;injection h with ha hb;subst ha hb;exact⟨Ea _,.inl rfl⟩
 | some r1 =>
  simp only [h1] at h;cases h2:jQ [58] r1 with
  | none=>simp only [h2] at h;cases h
  | some r2 =>
   simp only [h2] at h;injection h with h;injection h with ha hb;subst ha hb
   exact⟨(kW h2).trans (kW h1),.inr rfl⟩
def re (pat:List Str→Nat→Res) (N:Nat):Prop:=∀(r:List Str) (d:Nat) (x:Rx) (r1:List Str),r.length≤N→pat r d=.ok (x,r1)→okC r→Fct 1 r x r1
theorem x8 {pat:List Str→Nat→Res} {N:Nat} (hp:re pat N) {r r1:List Str} {d:Nat} {x:Rx} (h:lu pat r d=.ok (x,r1)) (ho:okC r) (hN:r.length≤N) :
  x.small∧x.parts+2*r1.length≤2*r.length∧x.groups+r1.count [40]≤1+r.count [40]∧r1 <:+ r:=by
 unfold lu at h;by_cases hd:16≤d
 ·rw [Dr hd] at h;cases h
 rw [Du hd] at h;cases hk:lW r with
 | none=>simp only [hk] at h;cases h
 | some y =>
  obtain⟨k,r0⟩:=y;obtain⟨k1,k2⟩:=ny hk;simp only [hk] at h;cases hx:pat r0 (d+1) with
  | error e=>exact cR
  | ok y =>
   obtain⟨z,r2⟩:=y;simp only [hx] at h;have hl0:=lT k1;obtain⟨f1,f2,f3,f4⟩:=hp r0 (d+1) z r2 fR hx (mp k1 ho);cases ht:jQ [41] r2 with
   | none=>simp only [ht] at h;cases h
   | some r3 =>
    simp only [ht] at h;injection h with h;injection h with h1 h2;subst h1 h2
    have e:=ll ht;have s3:=kW ht;have c1:=nx s3 [40];have c2:=nx k1 [40];refine⟨?_,?_,?_,(s3.trans f4).trans k1⟩
    ·simp only [grpR,Rx.small,Rx.small1,Rx.smallL];exact⟨⟨by simp,by simp,by simp,by simp⟩,f1,trivial⟩
    ·simp only [grpR,Rx.parts,Rx.partsL];rw [e,Dx] at f2;omega
    ·simp only [grpR,Rx.groups,Rx.groupsL];split<;>omega
theorem AS {pat:List Str→Nat→Res} {N:Nat} (hp:re pat N) {r r1:List Str} {d:Nat} {x:Rx} (h:kI pat r d=.ok (x,r1)) (ho:okC r) (hN:r.length≤N+1) (hN2:N≤200000) :
  x.small∧x.parts+2*r1.length≤2*r.length∧x.groups+r1.count [40]≤r.count [40]∧r1 <:+ r∧r1.length<r.length∧x.parts+2*r1.length+(if x.parts=1 then 1 else 2)≤2*r.length:=by
 cases r with
 | nil=>cases h
 | cons c r =>
  have hc:=ho c (DH ..);simp only [Dx] at hN;have leaf:∀{y:Rx} {r2:List Str},Fct 0 (c::r) y r2→y.parts=1→r2.length<(c::r).length→y.small∧y.parts+2*r2.length≤2*(c::r).length∧y.groups+r2.count [40]≤(c::r).count [40]∧r2 <:+ c::r∧r2.length<(c::r).length∧y.parts+2*r2.length+(if y.parts=1 then 1 else 2)≤2*(c::r).length :=
   fun hf h1 hl=>⟨hf.1,by have:=hf.2.1;omega,hf.2.2.1,hf.2.2.2,hl,by rw [Dr h1,h1];omega⟩
  have lift:∀{y:Rx} {r2:List Str},Fct 0 r y r2→y.parts=1→r2.length≤r.length→y.small∧y.parts+2*r2.length≤2*(c::r).length∧y.groups+r2.count [40]≤(c::r).count [40]∧r2 <:+ c::r∧r2.length<(c::r).length∧y.parts+2*r2.length+(if y.parts=1 then 1 else 2)≤2*(c::r).length :=
   fun hf h1 hl=>leaf ⟨hf.1,by simp only [Dx];have:=hf.2.1;omega,by have:=hf.2.2.1;have:=nx (D9 c r) [40];omega,kF hf.2.2.2⟩ h1 fY
  simp only [kI] at h;by_cases h1:c=[46]
  ·rw [Dr h1] at h;injection h with h;injection h with ha hb;subst ha hb
   exact leaf (Fct.leaf fX fX no fU (D9 _ _) fX) rfl fX
  rw [Du h1] at h;by_cases h2:c=[40]
  ·rw [Dr h2] at h
   obtain⟨f1,f2,f3,f4⟩:=x8 hp h ho.tail fR;have hlen:=lT f4;refine⟨f1,by simp;omega,?_,kF f4,by simp;omega,by simp only [Dx];split<;>omega⟩;rw [h2,List.count_cons_self];omega
  rw [Du h2] at h;by_cases h3:c=[91]
  ·rw [Dr h3] at h
   have hf:=xN h ho.tail fR;have hp1:x.parts=1:=by
    exact cT
   exact lift hf hp1 (lT hf.2.2.2)
  rw [Du h3] at h;by_cases h4:c=[92]
  ·rw [Dr h4] at h
   have hf:=CW h ho.tail;have hp1:x.parts=1:=by
    exact bK
   exact lift hf hp1 (lT hf.2.2.2)
  rw [Du h4] at h;by_cases h5:o6 c=true
  ·rw [Dr h5] at h;cases h
  ·rw [Du h5] at h;injection h with h;injection h with ha hb;subst ha hb
   exact leaf (Fct.leaf hc.2 fX no fU (D9 _ _) fX) rfl fX
theorem Ak {r r1:List Str} {x:Rx} (h:lD r=some (x,r1)):Fct 0 r x r1∧r1.length<r.length:=by
 cases r with
 | nil=>cases h
 | cons c r =>
  have leaf:∀(k:Int) (r2:List Str),k≠5→r2 <:+ r→Fct 0 (c::r) (rxK k) r2∧r2.length<(c::r).length:=fun k r2 hk hs =>
   ⟨Fct.leaf fX fX no hk (kF hs) (by have:=lT hs;simp;omega),by have:=lT hs;simp;omega⟩
  simp only [lD] at h;by_cases h1:c=[94]
  ·rw [Dr h1] at h;injection h with h;injection h with ha hb;subst ha hb;exact leaf 8 r fU (Ea _)
  rw [Du h1] at h;by_cases h2:c=[36]
  ·rw [Dr h2] at h;injection h with h;injection h with ha hb;subst ha hb;exact leaf 9 r fU (Ea _)
  rw [Du h2] at h;by_cases h3:c=[92]
  ·rw [Dr h3] at h
   cases h4:jQ [98] r with
   | some r2=>simp only [h4] at h;injection h with h;injection h with ha hb;subst ha hb;exact leaf 10 r2 fU (kW h4)
   | none =>
    simp only [h4] at h;cases h5:jQ [66] r with
    | some r2=>simp only [h5] at h;injection h with h;injection h with ha hb;subst ha hb;exact leaf 11 r2 fU (kW h5)
    | none=>exact ei
  ·rw [Du h3] at h;cases h
theorem qq {pat:List Str→Nat→Res} {N:Nat} (hp:re pat N) {r r1:List Str} {d:Nat} {x:Rx} (h:ku pat r d=.ok (x,r1)) (ho:okC r) (hN:r.length≤N+1) (hN2:N≤200000):Fct 0 r x r1∧r1.length<r.length:=by
 unfold ku at h;cases he:lD r with
 | some y=>simp only [he] at h;injection h with h;subst h;exact Ak he
 | none =>
  simp only [he] at h;cases ha:kI pat r d with
  | error e=>simp only [ha] at h;cases h
  | ok y =>
   obtain⟨z,r2⟩:=y;simp only [ha] at h;obtain⟨f1,f2,f3,f4,f5,f6⟩:=AS hp ha ho hN hN2;rcases pd h with⟨rfl,rfl⟩|⟨⟨lo,hi,lz,rfl⟩,q2,q3⟩
   ·exact⟨⟨f1,by omega,f3,f4⟩,f5⟩
   ·have c1:=nx q2 [40]
    refine⟨⟨Dl f1,?_,?_,q2.trans f4⟩,by omega⟩
    ·simp only [repR,Rx.parts,Rx.partsL];omega
    ·simp only [repR,Rx.groups,Rx.groupsL];simp;omega
theorem qr {trm:List Str→Res} {N:Nat} (ht:∀(r:List Str) (x:Rx) (r1:List Str),r.length≤N→trm r=.ok (x,r1)→okC r→Fct 0 r x r1∧r1.length<r.length) (hN2:N≤200000) :
  ∀(n:Nat) (alts terms:List Rx) (r:List Str) {x:Rx} {r1:List Str},patL trm n alts terms r=.ok (x,r1)→okC r→r.length≤N→Rx.smallL alts→Rx.smallL terms→Rx.partsL alts+Rx.partsL terms+2*r.length≤450000 →
   x.small∧x.parts+2*r1.length≤2*r.length+(if alts=[] then 1+Rx.partsL terms else Rx.partsL alts+Rx.partsL terms+2)∧x.groups+r1.count [40]≤r.count [40]+Rx.groupsL alts+Rx.groupsL terms∧r1 <:+ r
 | 0,_,_,_,_,_,h,_,_,_,_,_=>by cases h
 | n+1,alts,terms,r,x,r1,h,ho,hr,ha,hm,hb=>by
  obtain⟨s1,s2,s3⟩:=qw hm fR;have hap:=lK ha (show Rx.smallL [seqR terms] from⟨s1,trivial⟩);have hpp:Rx.partsL (alts++[seqR terms])=Rx.partsL alts+(seqR terms).parts:=by rw [lA];simp only [Rx.partsL];omega
  have hgg:Rx.groupsL (alts++[seqR terms])=Rx.groupsL alts+(seqR terms).groups:=by rw [nQ];simp only [Rx.groupsL];omega
  have fin:(altR (alts++[seqR terms])).small∧(altR (alts++[seqR terms])).parts≤(if alts=[] then 1+Rx.partsL terms else Rx.partsL alts+Rx.partsL terms+2)∧(altR (alts++[seqR terms])).groups≤Rx.groupsL alts+Rx.groupsL terms:=by
   by_cases hn:alts=[]
   ·subst hn
    obtain⟨o1,o2,o3⟩:=altR_one s1;rw [Dr rfl];exact⟨o1,by show (altR [seqR terms]).parts≤_;omega,by show (altR [seqR terms]).groups≤_;simp only [Rx.groupsL];omega⟩
   ·rw [Du hn]
    obtain⟨o1,o2,o3⟩:=Ai hap fR;exact⟨o1,by omega,by omega⟩
  simp only [patL] at h;cases r with
  | nil =>
   simp only at h
   injection h with h;injection h with h1 h2;subst h1 h2
   exact⟨fin.1,by have:=fin.2.1;simp;omega,by have:=fin.2.2;simp;omega,Ea _⟩
  | cons c r =>
   simp only at h
   simp only [Dx] at hr hb;by_cases h1:c=[41]
   ·rw [Dr h1] at h
    injection h with h;injection h with h2 h3;subst h2 h3
    exact⟨fin.1,by have:=fin.2.1;omega,by have:=fin.2.2;omega,Ea _⟩
   rw [Du h1] at h;by_cases h2:c=[124]
   ·rw [Dr h2] at h
    obtain⟨i1,i2,i3,i4⟩:=qr ht hN2 n _ _ _ h ho.tail fR hap trivial (by rw [hpp];simp only [Rx.partsL];omega);have c1:=nx (D9 c r) [40];rw [Du fX,hpp] at i2;rw [hgg] at i3;simp only [Rx.partsL,Rx.groupsL] at i2 i3;refine⟨i1,?_,by omega,kF i4⟩;simp only [Dx];by_cases hn:alts=[]
    ·subst hn;rw [Dr rfl];simp only [Rx.partsL] at i2;omega
    ·rw [Du hn];omega
   ·rw [Du h2] at h
    cases hx:trm (c::r) with
    | error e=>exact cR
    | ok y =>
     obtain⟨z,r2⟩:=y;simp only [hx] at h;obtain⟨⟨f1,f2,f3,f4⟩,f5⟩:=ht _ _ _ fY hx ho;simp only [Dx] at f2 f5;have hpt:Rx.partsL (terms++[z])=Rx.partsL terms+z.parts:=by rw [lA];simp only [Rx.partsL];omega
     have hgt:Rx.groupsL (terms++[z])=Rx.groupsL terms+z.groups:=by rw [nQ];simp only [Rx.groupsL];omega
     obtain⟨i1,i2,i3,i4⟩:=qr ht hN2 n _ _ _ h (mp f4 ho) fR ha (lK hm ⟨f1,trivial⟩) (by rw [hpt];omega);rw [hpt] at i2;rw [hgt] at i3;refine⟨i1,?_,by omega,i4.trans f4⟩;simp only [Dx];split at i2
     ·rename_i hn;rw [Dr hn];omega
     ·rename_i hn;rw [Du hn];omega
theorem rE:∀(n:Nat),re (patF n) 200000
 | 0=>fun r d x r1 _ h _=>by cases h
 | n+1=>fun r d x r1 hr h ho=>by
  have ih:=rE n;have ht:∀(r:List Str) (x:Rx) (r1:List Str),r.length≤200000→ku (patF n) r d=.ok (x,r1)→okC r→Fct 0 r x r1∧r1.length<r.length:=fun r x r1 hr h ho=>qq ih h ho fR fR
  obtain⟨i1,i2,i3,i4⟩:=qr ht fR _ [] [] r h ho hr trivial trivial (by simp only [Rx.partsL];omega);rw [Dr rfl] at i2;simp only [Rx.partsL,Rx.groupsL] at i2 i3;exact⟨i1,by omega,by omega,i4⟩
end Go.Proofs.YtjggmmaojklmpaaGreatDoor
