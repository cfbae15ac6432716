/- What rxread reads is of a size that a machine bears; how many parts and groups it has. · What rxread reads: facts of the whole (patF). -/
import Derived.Test.YtdcnncgpomcaaaaGreatDoorRc13
set_option maxRecDepth 100000
set_option maxHeartbeats 4000000
namespace Go.Proofs.YtdcnncgpomcaaaaGreatDoor
theorem nN {r r1:List Str} (h:r1 <:+ r) (ho:okC r):okC r1:=fun p hp=>ho p (h.subset hp)
theorem mq {c:Str} {r r1:List Str} (h:r1 <:+ r):r1 <:+ c::r:=h.trans (J6 _ _)
theorem mI {c:Str} {r r1:List Str} (h:lq c r=some r1):r1 <:+ r:=by rw [mO h];exact J6 _ _
theorem Dt {r r1:List Str} {c:Str} {nm:List Row} (h:og r=some (c,nm,r1)):r1 <:+ r:=by
 cases r with
 | nil=>cases h
 | cons p r =>
  simp only [og] at h;by_cases h1:p=[93]
  ·rw [Jl h1] at h;cases h
  rw [Jo h1] at h;by_cases h2:p=[92]
  ·rw [Jl h2] at h
   cases r with
   | nil=>cases h
   | cons c2 r2 =>
    simp only at h
    cases hn:nF c2 with
    | some rows =>
     simp only [hn] at h;exact dY
    | none =>
     simp only [hn] at h;cases hpm:mR c2 with
     | none=>exact gq
     | some t =>
      simp only [hpm] at h;exact dY
  ·rw [Jo h2] at h
   injection h with h;injection h with h3 h;injection h with h4 h5
   subst h5;exact J6 _ _
def oi (rows:List Row):Prop:=∀q∈rows,q.1.length≤1000000∧q.2.length≤1000000
theorem pY {c t:Str} (h1:c.length≤1000000) (h2:t.length≤1000000):oi [(c,t)]:=by
 intro q hq;rw [JY] at hq;subst hq;exact⟨h1,h2⟩
theorem pX {a b:List Row} (h1:oi a) (h2:oi b):oi (a++b):=by
 intro q hq;rcases JX.1 hq with h|h
 ·exact h1 q h
 ·exact h2 q h
theorem oQ:∀(n:Nat) (rows:List Row) (r:List Str) {rows':List Row} {r1:List Str},lV n rows r=some (rows',r1)→okC r→oi rows →
  r1 <:+ r∧r1.length<r.length∧rows'.length≤rows.length+4*r.length∧oi rows'
 | 0,_,_,_,_,h,_,_=>by cases h
 | n+1,rows,r,rows',r1,h,ho,hr=>by
  simp only [lV] at h;cases ht:lq [93] r with
  | some r0 =>
   simp only [ht] at h;injection h with h;injection h with h1 h2
   subst h1 h2;have e:=mO ht;exact⟨mI ht,by rw [e];simp,by omega,hr⟩
  | none =>
   simp only [ht] at h;cases hi:og r with
   | none=>simp only [hi] at h;cases h
   | some y =>
    obtain⟨c,nm,r2⟩:=y;simp only [hi] at h;obtain⟨f1,f2,f3,f4,f5⟩:=sg hi ho;have fs:=Dt hi;by_cases hnm:nm≠[]
    ·rw [Jl hnm] at h
     obtain⟨g1,g2,g3,g4⟩:=oQ n _ _ h f5 (pX hr f4);rw [JA] at g3;exact⟨g1.trans fs,by omega,by omega,g4⟩
    ·rw [Jo hnm] at h
     have one:∀{rr:List Str},lV n (rows++[(c,c)]) rr=some (rows',r1)→okC rr→rr <:+ r→rr.length<r.length→r1 <:+ r∧r1.length<r.length∧rows'.length≤rows.length+4*r.length∧oi rows':=by
      intro rr h hoo hs hl;obtain⟨g1,g2,g3,g4⟩:=oQ n _ _ h hoo (pX hr (pY f3 f3));rw [JA,List.length_singleton] at g3;exact⟨g1.trans hs,by omega,by omega,g4⟩
     cases ht2:lq [45] r2 with
     | none=>simp only [ht2] at h;exact one h f5 fs f1
     | some r3 =>
      simp only [ht2] at h;by_cases ht3:lq [93] r3=none
      ·rw [Jl ht3] at h
       cases hi2:og r3 with
       | none=>simp only [hi2] at h;cases h
       | some y =>
        obtain⟨t,nm2,r4⟩:=y;simp only [hi2] at h;have hs3:=mI ht2;have e3:=mO ht2;obtain⟨k1,k2,k3,k4,k5⟩:=sg hi2 (nN hs3 f5);have ks:=Dt hi2;by_cases hb:nm2≠[]∨Op.bytesLess t c=true
        ·rw [Jl hb] at h;cases h
        ·rw [Jo hb] at h
         obtain⟨g1,g2,g3,g4⟩:=oQ n _ _ h k5 (pX hr (pY f3 k3));rw [JA,List.length_singleton] at g3;have:r3.length<r2.length:=by rw [e3];simp
         exact⟨((g1.trans ks).trans hs3).trans fs,by omega,by omega,g4⟩
      ·rw [Jo ht3] at h;exact one h f5 fs f1
theorem mrgS_ok {out:List Row} {r:Row} (h1:oi out) (h2:r.1.length≤1000000∧r.2.length≤1000000):oi (mrgS out r):=by
 rcases List.eq_nil_or_concat out with rfl|⟨B,q,rfl⟩
 ·rw [uZ];exact pY h2.1 h2.2
 ·rw [List.concat_eq_append] at h1 ⊢
  have hB:oi B:=fun x hx=>h1 x (List.mem_append_left _ hx)
  have hq:=h1 q gU;cases hl:leS r.1 q.2 with
  | true =>
   rw [zC hl];refine pX hB (pY hq.1 ?_);unfold mxS;by_cases hm:Op.bytesLess q.2 r.2=true
   ·rw [Jl hm];exact h2.2
   ·rw [Jo hm];exact hq.2
  | false =>
   rw [vE hl];exact pX h1 (pY h2.1 h2.2)
theorem union_ok {rows:List Row} (h:oi rows):oi (nk rows)∧(nk rows).length≤rows.length:=by
 have h1:oi (stL (filR rows)):=fun q hq=>h q ((List.mem_filter.1 ((sa _).1.mem_iff.1 hq)).1)
 refine⟨?_,?_⟩
 ·unfold nk mrgL
  have key:∀(l out:List Row),oi l→oi out→oi (l.foldl mrgS out):=by
   intro l;induction l with
   | nil=>intro out _ h;exact h
   | cons r l ih =>
    intro out h1 h2;exact ih _ (fun q hq=>h1 q (JF _ hq)) (mrgS_ok h2 (h1 r (JE ..)))
  exact key _ _ h1 (by intro q hq;cases hq)
 ·unfold nk
  have e1:=DQ (stL (filR rows));have e2:=Ig (filR rows);have e3:=yL rows;omega
def Fct (b:Nat) (r:List Str) (x:Rx) (r1:List Str):Prop :=
 x.small∧x.parts+2*r1.length≤2*r.length+b∧x.groups+r1.count [40]≤r.count [40]∧r1 <:+ r
theorem ql {r r1:List Str} (h:r1 <:+ r) (c:Str):r1.count c≤r.count c:=h.sublist.count_le c
theorem mX {r r1:List Str} (h:r1 <:+ r):r1.length≤r.length:=h.length_le
theorem FE {k:Int} {c:Str} {ng:Bool} {rs:List Row} {lo hi:Int} {lz:Bool} (h1:c.length≤1000000) (h2:rs.length≤1000000) (h3:oi rs):(Rx.mk k c ng rs lo hi lz []).small:=by
 simp only [Rx.small,Rx.small1,Rx.smallL];exact⟨⟨h1,h2,h3,by simp⟩,trivial⟩
theorem Fct.leaf {k:Int} {c:Str} {ng:Bool} {rs:List Row} {lo hi:Int} {lz:Bool} {b:Nat} {r r1:List Str} (h1:c.length≤1000000) (h2:rs.length≤1000000) (h3:oi rs) (hk:k≠5) (hs:r1 <:+ r) (hl:r1.length<r.length):Fct b r (.mk k c ng rs lo hi lz []) r1:=by
 refine⟨FE h1 h2 h3,?_,?_,hs⟩
 ·simp only [Rx.parts,Rx.partsL];omega
 ·simp only [Rx.groups,Rx.groupsL,Jo hk];have:=ql hs [40];omega
theorem pc:oi []:=fun _ h=>by cases h
theorem Ix {r r1:List Str} {x:Rx} (h:escM r=.ok (x,r1)) (ho:okC r):Fct 0 r x r1:=by
 cases r with
 | nil=>cases h
 | cons c r =>
  have hc:=ho c (JE ..);have big:∀b,Fct 0 (c::r) (setR (mh b) true) r:=fun b=>Fct.leaf gU (by have:=(pg b).1;omega) (pg b).2 gR (J6 _ _) gU
  simp only [escM] at h;cases hn:nF c with
  | some rows =>
   obtain⟨b,rfl,_,rfl⟩:=pq hn;simp only [hn] at h;injection h with h;injection h with h1 h2;subst h1 h2
   exact Fct.leaf gU (by have:=(pg b).1;omega) (pg b).2 gR (J6 _ _) gU
  | none =>
   simp only [hn] at h;cases hb:bigS c with
   | some rows =>
    simp only [hb] at h;injection h with h;injection h with h1 h2;subst h1 h2
    unfold bigS at hb;by_cases g1:c=[68]
    ·rw [Jl g1] at hb;injection hb with hb;rw [←hb];exact big _
    rw [Jo g1] at hb;by_cases g2:c=[87]
    ·rw [Jl g2] at hb;injection hb with hb;rw [←hb];exact big _
    rw [Jo g2] at hb;by_cases g3:c=[83]
    ·rw [Jl g3] at hb;injection hb with hb;rw [←hb];exact big _
    rw [Jo g3] at hb;cases hb
   | none =>
    simp only [hb] at h;cases hp:mR c with
    | none=>simp only [hp] at h;cases h
    | some t =>
     simp only [hp] at h;injection h with h;injection h with h1 h2;subst h1 h2
     exact Fct.leaf (by have:=rW hp;omega) gU pc gR (J6 _ _) gU
theorem Cu {r r1:List Str} {x:Rx} (h:mY r=.ok (x,r1)) (ho:okC r) (hl:r.length≤200000):Fct 0 r x r1:=by
 have hsx:((lq [94] r).getD r) <:+ r:=by
  exact cX
 unfold mY at h;generalize (lq [94] r).isSome=ng at h
 generalize (lq [94] r).getD r=r0 at h hsx
 simp only at h
 cases hc:lV (r0.length+1) [] r0 with
 | none=>simp only [hc] at h;cases h
 | some y =>
  obtain⟨rows,r2⟩:=y;simp only [hc] at h;injection h with h;injection h with h1 h2;subst h1 h2
  obtain⟨g1,g2,g3,g4⟩:=oQ _ _ _ hc (nN hsx ho) pc;have hl0:=mX hsx;have hu:=union_ok g4;exact Fct.leaf gU (by simp at g3;omega) hu.1 gR (g1.trans hsx) gN
theorem Aa:∀(r:List Str) (k n:Nat) {m:Nat} {r1:List Str},numL k n r=some (m,r1)→r1 <:+ r
 | [],k,n,m,r1,h=>by
  unfold numL at h;exact cr
 | c::r,k,n,m,r1,h=>by
  unfold numL at h;split at h
  ·split at h
   ·cases h
   ·exact mq (Aa r _ _ h)
  ·exact cr
theorem xU {r r1:List Str} {lo hi:Int} (h:mM r=some (lo,hi,r1)):r1 <:+ r:=by
 unfold mM at h;cases h1:numL 0 0 r with
 | none=>simp only [h1] at h;cases h
 | some y =>
  obtain⟨a,s1⟩:=y;have e1:=Aa _ _ _ h1;simp only [h1] at h;cases h2:lq [125] s1 with
  | some s2 =>
   simp only [h2] at h;injection h with h;injection h with _ h;injection h with _ h;subst h
   exact(mI h2).trans e1
  | none =>
   simp only [h2] at h;cases h3:lq [44] s1 with
   | none=>simp only [h3] at h;cases h
   | some s2 =>
    simp only [h3] at h;have e2:=(mI h3).trans e1;cases h4:lq [125] s2 with
    | some s3 =>
     simp only [h4] at h;injection h with h;injection h with _ h;injection h with _ h;subst h
     exact(mI h4).trans e2
    | none =>
     simp only [h4] at h;cases h5:numL 0 0 s2 with
     | none=>exact dh
     | some y =>
      obtain⟨b,s3⟩:=y;have e3:=(Aa _ _ _ h5).trans e2;simp only [h5] at h;split at h
      ·cases h6:lq [125] s3 with
       | none=>simp only [h6] at h;cases h
       | some s4 =>
        simp only [h6] at h;injection h with h;injection h with _ h;injection h with _ h;subst h
        exact(mI h6).trans e3
      ·cases h
theorem I8 {lo hi:Int} {lz:Bool} {x:Rx} (h:x.small):(repR lo hi lz x).small:=by
 simp only [repR,Rx.small,Rx.small1,Rx.smallL];exact⟨⟨by simp,by simp,by simp,by simp⟩,h,trivial⟩
theorem xB {x y:Rx} {lo hi:Int} {r r1:List Str} (h:rg x lo hi r=(y,r1)):(∃lz,y=repR lo hi lz x)∧r1 <:+ r:=by
 unfold rg at h;cases ht:lq [63] r with
 | some r2=>simp only [ht] at h;injection h with h1 h2;subst h1 h2;exact⟨⟨_,rfl⟩,mI ht⟩
 | none=>simp only [ht] at h;injection h with h1 h2;subst h1 h2;exact⟨⟨_,rfl⟩,J7 _⟩
theorem qE {x y:Rx} {r r1:List Str} (h:ma x r=.ok (y,r1)):(y=x∧r1=r)∨((∃lo hi lz,y=repR lo hi lz x)∧r1 <:+ r∧r1.length<r.length):=by
 cases r with
 | nil=>simp only [ma] at h;injection h with h;injection h with h1 h2;exact .inl ⟨h1.symm,h2.symm⟩
 | cons c r =>
  simp only [ma] at h;have key:∀{lo hi:Int} {r2:List Str},Except.ok (rg x lo hi r2)=(Except.ok (y,r1):Res)→r2 <:+ r→(y=x∧r1=c::r)∨((∃lo hi lz,y=repR lo hi lz x)∧r1 <:+ c::r∧r1.length<(c::r).length):=by
   intro lo hi r2 h hs;injection h with h
   obtain⟨⟨lz,h1⟩,h2⟩:=xB h;have h3:=h2.trans hs;have:=mX h3
   exact .inr ⟨⟨lo,hi,lz,h1⟩,mq h3,by simp;omega⟩
  by_cases h1:c=[42]
  ·rw [Jl h1] at h;exact key h (J7 _)
  rw [Jo h1] at h;by_cases h2:c=[43]
  ·rw [Jl h2] at h;exact key h (J7 _)
  rw [Jo h2] at h;by_cases h3:c=[63]
  ·rw [Jl h3] at h;exact key h (J7 _)
  rw [Jo h3] at h;by_cases h4:c=[123]
  ·rw [Jl h4] at h
   cases hb:mM r with
   | none=>simp only [hb] at h;cases h
   | some z =>
    obtain⟨lo,hi,r2⟩:=z;simp only [hb] at h;exact key h (xU hb)
  ·rw [Jo h4] at h
   injection h with h;injection h with h5 h6
   exact .inl ⟨h5.symm,h6.symm⟩
theorem partsL_app:∀(a b:List Rx),Rx.partsL (a++b)=Rx.partsL a+Rx.partsL b
 | [],b=>by simp [Rx.partsL]
 | x::a,b=>by simp only [JW,Rx.partsL,partsL_app a b];omega
theorem qT:∀(a b:List Rx),Rx.groupsL (a++b)=Rx.groupsL a+Rx.groupsL b
 | [],b=>by simp [Rx.groupsL]
 | x::a,b=>by simp only [JW,Rx.groupsL,qT a b];omega
theorem smallL_app:∀{a b:List Rx},Rx.smallL a→Rx.smallL b→Rx.smallL (a++b)
 | [],_,_,h=>h
 | _::_,_,h1,h2=>⟨h1.1,smallL_app h1.2 h2⟩
theorem qi (kd:Int) (x:Rx) (xs:List Rx):mi kd (x::xs)=(if x.kind=kd then x.kids else [x])++mi kd xs:=by simp [mi]
theorem xD (x:Rx) (hs:x.small):Rx.partsL x.kids+1=x.parts∧Rx.groupsL x.kids≤x.groups∧Rx.smallL x.kids:=by
 obtain⟨k,c,ng,rs,lo,hi,lz,ks⟩:=x;simp only [Rx.kids,Rx.parts,Rx.groups];exact⟨by omega,by omega,hs.2⟩
theorem uk (kd:Int):∀{xs:List Rx},Rx.smallL xs→Rx.smallL (mi kd xs)∧Rx.partsL (mi kd xs)≤Rx.partsL xs∧Rx.groupsL (mi kd xs)≤Rx.groupsL xs
 | [],_=>⟨trivial,Ju _,Ju _⟩
 | x::xs,h=>by
  obtain⟨i1,i2,i3⟩:=uk kd h.2;obtain⟨k1,k2,k3⟩:=xD x h.1;rw [qi,partsL_app,qT];simp only [Rx.partsL,Rx.groupsL];by_cases hk:x.kind=kd
  ·rw [Jl hk];exact⟨smallL_app k3 i1,by omega,by omega⟩
  ·rw [Jo hk];exact⟨smallL_app ⟨h.1,trivial⟩ i1,by simp only [Rx.partsL];omega,by simp only [Rx.groupsL];omega⟩
theorem pZ {k:Int} (hk:k≠5) {l:List Rx} (h:Rx.smallL l) (hl:l.length≤1000000):(Rx.mk k [] false [] 0 0 false l).small∧(Rx.mk k [] false [] 0 0 false l).parts=1+Rx.partsL l∧(Rx.mk k [] false [] 0 0 false l).groups=Rx.groupsL l:=by
 simp only [Rx.small,Rx.small1,Rx.parts,Rx.groups,Jo hk];exact⟨⟨⟨by simp,by simp,by simp,hl⟩,h⟩,trivial,by omega⟩
theorem tU {xs:List Rx} (h:Rx.smallL xs) (hp:Rx.partsL xs≤1000000):(seqR xs).small∧(seqR xs).parts≤1+Rx.partsL xs∧(seqR xs).groups≤Rx.groupsL xs:=by
 obtain⟨f1,f2,f3⟩:=uk 0 h;have hl:=Rx.len_parts (mi 0 xs);have gen:∀l:List Rx,mi 0 xs=l→(ow l).small∧(ow l).parts≤1+Rx.partsL xs∧(ow l).groups≤Rx.groupsL xs:=by
  rintro l rfl;obtain⟨s1,s2,s3⟩:=pZ (k:=0) gR f1 gN;exact⟨s1,by unfold ow;omega,by unfold ow;omega⟩
 unfold seqR;split
 ·exact dZ
 ·rename_i l hl;exact gen _ rfl
theorem EN {xs:List Rx} (h:Rx.smallL xs) (hp:Rx.partsL xs≤1000000):(altR xs).small∧(altR xs).parts≤1+Rx.partsL xs∧(altR xs).groups≤Rx.groupsL xs:=by
 obtain⟨f1,f2,f3⟩:=uk 1 h;have hl:=Rx.len_parts (mi 1 xs);unfold altR;split
 ·obtain⟨s1,s2,s3⟩:=pZ (k:=0) (l:=[]) gR trivial gU
  exact⟨s1,by unfold ow;simp only [Rx.partsL] at s2;omega,by unfold ow;simp only [Rx.groupsL] at s3;omega⟩
 ·exact dZ
 ·obtain⟨s1,s2,s3⟩:=pZ (k:=1) gR f1 gN
  exact⟨s1,by unfold tR;omega,by unfold tR;omega⟩
theorem altR_one {x:Rx} (hs:x.small):(altR [x]).small∧(altR [x]).parts≤x.parts∧(altR [x]).groups≤x.groups:=by
 obtain⟨k1,k2,k3⟩:=xD x hs;obtain⟨k,c,ng,rs,lo,hi,lz,ks⟩:=x;have hks:=hs.1.2.2.2;have hfl:mi 1 [Rx.mk k c ng rs lo hi lz ks]=if k=1 then ks else [.mk k c ng rs lo hi lz ks]:=by by_cases hk:k=1<;>simp [mi,Rx.kind,Rx.kids,hk]
 simp only [Rx.kids] at k1 k2 k3;unfold altR;rw [hfl];by_cases h1:k=1
 ·rw [Jl h1]
  rcases ks with _|⟨y,_|⟨z,l⟩⟩
  ·obtain⟨s1,s2,s3⟩:=pZ (k:=0) (l:=[]) gR trivial gU
   exact⟨s1,by show (ow []).parts≤_;unfold ow;simp only [Rx.partsL] at s2 k1;omega,by show (ow []).groups≤_;unfold ow;simp only [Rx.groupsL] at s3 k2;omega⟩
  ·simp only [Rx.partsL,Rx.groupsL] at k1 k2
   exact⟨k3.1,by show y.parts≤_;omega,by show y.groups≤_;omega⟩
  ·obtain⟨s1,s2,s3⟩:=pZ (k:=1) (l:=y::z::l) gR k3 hks
   exact⟨s1,by show (tR (y::z::l)).parts≤_;unfold tR;omega,by show (tR (y::z::l)).groups≤_;unfold tR;omega⟩
 ·rw [Jo h1]
  exact⟨hs,Ju _,Ju _⟩
theorem oF {r r0:List Str} {k:Int} (h:nP r=some (k,r0)):r0 <:+ r∧(k=5∨k=6):=by
 unfold nP at h;cases h1:lq [63] r with
 | none=>simp only [h1] at h;injection h with h;injection h with ha hb;subst ha hb;exact⟨J7 _,.inl rfl⟩
 | some r1 =>
  simp only [h1] at h;cases h2:lq [58] r1 with
  | none=>simp only [h2] at h;cases h
  | some r2 =>
   simp only [h2] at h;injection h with h;injection h with ha hb;subst ha hb
   exact⟨(mI h2).trans (mI h1),.inr rfl⟩
def uS (pat:List Str→Nat→Res) (N:Nat):Prop:=∀(r:List Str) (d:Nat) (x:Rx) (r1:List Str),r.length≤N→pat r d=.ok (x,r1)→okC r→Fct 1 r x r1
theorem CD {pat:List Str→Nat→Res} {N:Nat} (hp:uS pat N) {r r1:List Str} {d:Nat} {x:Rx} (h:mZ pat r d=.ok (x,r1)) (ho:okC r) (hN:r.length≤N) :
  x.small∧x.parts+2*r1.length≤2*r.length∧x.groups+r1.count [40]≤1+r.count [40]∧r1 <:+ r:=by
 unfold mZ at h;by_cases hd:16≤d
 ·exact el
 rw [Jo hd] at h;cases hk:nP r with
 | none=>exact em
 | some y =>
  obtain⟨k,r0⟩:=y;obtain⟨k1,k2⟩:=oF hk;simp only [hk] at h;cases hx:pat r0 (d+1) with
  | error e=>exact ct
  | ok y =>
   obtain⟨z,r2⟩:=y;simp only [hx] at h;have hl0:=mX k1;obtain⟨f1,f2,f3,f4⟩:=hp r0 (d+1) z r2 gN hx (nN k1 ho);cases ht:lq [41] r2 with
   | none=>exact en
   | some r3 =>
    simp only [ht] at h;injection h with h;injection h with h1 h2;subst h1 h2
    have e:=mO ht;have s3:=mI ht;have c1:=ql s3 [40];have c2:=ql k1 [40];refine⟨?_,?_,?_,(s3.trans f4).trans k1⟩
    ·simp only [grpR,Rx.small,Rx.small1,Rx.smallL];exact⟨⟨by simp,by simp,by simp,by simp⟩,f1,trivial⟩
    ·simp only [grpR,Rx.parts,Rx.partsL];rw [e,Jr] at f2;omega
    ·simp only [grpR,Rx.groups,Rx.groupsL];split<;>omega
theorem Fo {pat:List Str→Nat→Res} {N:Nat} (hp:uS pat N) {r r1:List Str} {d:Nat} {x:Rx} (h:mj pat r d=.ok (x,r1)) (ho:okC r) (hN:r.length≤N+1) (hN2:N≤200000) :
  x.small∧x.parts+2*r1.length≤2*r.length∧x.groups+r1.count [40]≤r.count [40]∧r1 <:+ r∧r1.length<r.length∧x.parts+2*r1.length+(if x.parts=1 then 1 else 2)≤2*r.length:=by
 cases r with
 | nil=>cases h
 | cons c r =>
  have hc:=ho c (JE ..);simp only [Jr] at hN;have leaf:∀{y:Rx} {r2:List Str},Fct 0 (c::r) y r2→y.parts=1→r2.length<(c::r).length→y.small∧y.parts+2*r2.length≤2*(c::r).length∧y.groups+r2.count [40]≤(c::r).count [40]∧r2 <:+ c::r∧r2.length<(c::r).length∧y.parts+2*r2.length+(if y.parts=1 then 1 else 2)≤2*(c::r).length :=
   fun hf h1 hl=>⟨hf.1,by have:=hf.2.1;omega,hf.2.2.1,hf.2.2.2,hl,by rw [Jl h1,h1];omega⟩
  have lift:∀{y:Rx} {r2:List Str},Fct 0 r y r2→y.parts=1→r2.length≤r.length→y.small∧y.parts+2*r2.length≤2*(c::r).length∧y.groups+r2.count [40]≤(c::r).count [40]∧r2 <:+ c::r∧r2.length<(c::r).length∧y.parts+2*r2.length+(if y.parts=1 then 1 else 2)≤2*(c::r).length :=
   fun hf h1 hl=>leaf ⟨hf.1,by simp only [Jr];have:=hf.2.1;omega,by have:=hf.2.2.1;have:=ql (J6 c r) [40];omega,mq hf.2.2.2⟩ h1 gV
  simp only [mj] at h;by_cases h1:c=[46]
  ·rw [Jl h1] at h;injection h with h;injection h with ha hb;subst ha hb
   exact leaf (Fct.leaf gU gU pc gR (J6 _ _) gU) rfl gU
  rw [Jo h1] at h;by_cases h2:c=[40]
  ·rw [Jl h2] at h
   obtain⟨f1,f2,f3,f4⟩:=CD hp h ho.tail gN;have hlen:=mX f4;refine⟨f1,by simp;omega,?_,mq f4,by simp;omega,by simp only [Jr];split<;>omega⟩;rw [h2,List.count_cons_self];omega
  rw [Jo h2] at h;by_cases h3:c=[91]
  ·rw [Jl h3] at h
   have hf:=Cu h ho.tail gN;have hp1:x.parts=1:=by
    exact cS
   exact lift hf hp1 (mX hf.2.2.2)
  rw [Jo h3] at h;by_cases h4:c=[92]
  ·rw [Jl h4] at h
   have hf:=Ix h ho.tail;have hp1:x.parts=1:=by
    exact bI
   exact lift hf hp1 (mX hf.2.2.2)
  rw [Jo h4] at h;by_cases h5:qZ c=true
  ·exact eo
  ·rw [Jo h5] at h;injection h with h;injection h with ha hb;subst ha hb
   exact leaf (Fct.leaf hc.2 gU pc gR (J6 _ _) gU) rfl gU
theorem FQ {r r1:List Str} {x:Rx} (h:ni r=some (x,r1)):Fct 0 r x r1∧r1.length<r.length:=by
 cases r with
 | nil=>cases h
 | cons c r =>
  have leaf:∀(k:Int) (r2:List Str),k≠5→r2 <:+ r→Fct 0 (c::r) (rxK k) r2∧r2.length<(c::r).length:=fun k r2 hk hs =>
   ⟨Fct.leaf gU gU pc hk (mq hs) (by have:=mX hs;simp;omega),by have:=mX hs;simp;omega⟩
  simp only [ni] at h;by_cases h1:c=[94]
  ·rw [Jl h1] at h;injection h with h;injection h with ha hb;subst ha hb;exact leaf 8 r gR (J7 _)
  rw [Jo h1] at h;by_cases h2:c=[36]
  ·rw [Jl h2] at h;injection h with h;injection h with ha hb;subst ha hb;exact leaf 9 r gR (J7 _)
  rw [Jo h2] at h;by_cases h3:c=[92]
  ·rw [Jl h3] at h
   cases h4:lq [98] r with
   | some r2=>simp only [h4] at h;injection h with h;injection h with ha hb;subst ha hb;exact leaf 10 r2 gR (mI h4)
   | none =>
    simp only [h4] at h;cases h5:lq [66] r with
    | some r2=>simp only [h5] at h;injection h with h;injection h with ha hb;subst ha hb;exact leaf 11 r2 gR (mI h5)
    | none=>exact dh
  ·rw [Jo h3] at h;cases h
theorem ut {pat:List Str→Nat→Res} {N:Nat} (hp:uS pat N) {r r1:List Str} {d:Nat} {x:Rx} (h:lZ pat r d=.ok (x,r1)) (ho:okC r) (hN:r.length≤N+1) (hN2:N≤200000):Fct 0 r x r1∧r1.length<r.length:=by
 unfold lZ at h;cases he:ni r with
 | some y=>simp only [he] at h;injection h with h;subst h;exact FQ he
 | none =>
  simp only [he] at h;cases ha:mj pat r d with
  | error e=>exact ep
  | ok y =>
   obtain⟨z,r2⟩:=y;simp only [ha] at h;obtain⟨f1,f2,f3,f4,f5,f6⟩:=Fo hp ha ho hN hN2;rcases qE h with⟨rfl,rfl⟩|⟨⟨lo,hi,lz,rfl⟩,q2,q3⟩
   ·exact⟨⟨f1,by omega,f3,f4⟩,f5⟩
   ·have c1:=ql q2 [40]
    refine⟨⟨I8 f1,?_,?_,q2.trans f4⟩,by omega⟩
    ·simp only [repR,Rx.parts,Rx.partsL];omega
    ·simp only [repR,Rx.groups,Rx.groupsL];simp;omega
theorem um {trm:List Str→Res} {N:Nat} (ht:∀(r:List Str) (x:Rx) (r1:List Str),r.length≤N→trm r=.ok (x,r1)→okC r→Fct 0 r x r1∧r1.length<r.length) (hN2:N≤200000) :
  ∀(n:Nat) (alts terms:List Rx) (r:List Str) {x:Rx} {r1:List Str},patL trm n alts terms r=.ok (x,r1)→okC r→r.length≤N→Rx.smallL alts→Rx.smallL terms→Rx.partsL alts+Rx.partsL terms+2*r.length≤450000 →
   x.small∧x.parts+2*r1.length≤2*r.length+(if alts=[] then 1+Rx.partsL terms else Rx.partsL alts+Rx.partsL terms+2)∧x.groups+r1.count [40]≤r.count [40]+Rx.groupsL alts+Rx.groupsL terms∧r1 <:+ r
 | 0,_,_,_,_,_,h,_,_,_,_,_=>by cases h
 | n+1,alts,terms,r,x,r1,h,ho,hr,ha,hm,hb=>by
  obtain⟨s1,s2,s3⟩:=tU hm gN;have hap:=smallL_app ha (show Rx.smallL [seqR terms] from⟨s1,trivial⟩);have hpp:Rx.partsL (alts++[seqR terms])=Rx.partsL alts+(seqR terms).parts:=by rw [partsL_app];simp only [Rx.partsL];omega
  have hgg:Rx.groupsL (alts++[seqR terms])=Rx.groupsL alts+(seqR terms).groups:=by rw [qT];simp only [Rx.groupsL];omega
  have fin:(altR (alts++[seqR terms])).small∧(altR (alts++[seqR terms])).parts≤(if alts=[] then 1+Rx.partsL terms else Rx.partsL alts+Rx.partsL terms+2)∧(altR (alts++[seqR terms])).groups≤Rx.groupsL alts+Rx.groupsL terms:=by
   by_cases hn:alts=[]
   ·subst hn
    obtain⟨o1,o2,o3⟩:=altR_one s1;rw [Jl rfl];exact⟨o1,by show (altR [seqR terms]).parts≤_;omega,by show (altR [seqR terms]).groups≤_;simp only [Rx.groupsL];omega⟩
   ·rw [Jo hn]
    obtain⟨o1,o2,o3⟩:=EN hap gN;exact⟨o1,by omega,by omega⟩
  simp only [patL] at h;cases r with
  | nil =>
   simp only at h
   injection h with h;injection h with h1 h2;subst h1 h2
   exact⟨fin.1,by have:=fin.2.1;simp;omega,by have:=fin.2.2;simp;omega,J7 _⟩
  | cons c r =>
   simp only at h
   simp only [Jr] at hr hb;by_cases h1:c=[41]
   ·rw [Jl h1] at h
    injection h with h;injection h with h2 h3;subst h2 h3
    exact⟨fin.1,by have:=fin.2.1;omega,by have:=fin.2.2;omega,J7 _⟩
   rw [Jo h1] at h;by_cases h2:c=[124]
   ·rw [Jl h2] at h
    obtain⟨i1,i2,i3,i4⟩:=um ht hN2 n _ _ _ h ho.tail gN hap trivial (by rw [hpp];simp only [Rx.partsL];omega);have c1:=ql (J6 c r) [40];rw [Jo gU,hpp] at i2;rw [hgg] at i3;simp only [Rx.partsL,Rx.groupsL] at i2 i3;refine⟨i1,?_,by omega,mq i4⟩;simp only [Jr];by_cases hn:alts=[]
    ·subst hn;rw [Jl rfl];simp only [Rx.partsL] at i2;omega
    ·rw [Jo hn];omega
   ·rw [Jo h2] at h
    cases hx:trm (c::r) with
    | error e=>exact ct
    | ok y =>
     obtain⟨z,r2⟩:=y;simp only [hx] at h;obtain⟨⟨f1,f2,f3,f4⟩,f5⟩:=ht _ _ _ gV hx ho;simp only [Jr] at f2 f5;have hpt:Rx.partsL (terms++[z])=Rx.partsL terms+z.parts:=by rw [partsL_app];simp only [Rx.partsL];omega
     have hgt:Rx.groupsL (terms++[z])=Rx.groupsL terms+z.groups:=by rw [qT];simp only [Rx.groupsL];omega
     obtain⟨i1,i2,i3,i4⟩:=um ht hN2 n _ _ _ h (nN f4 ho) gN ha (smallL_app hm ⟨f1,trivial⟩) (by rw [hpt];omega);rw [hpt] at i2;rw [hgt] at i3;refine⟨i1,?_,by omega,i4.trans f4⟩;simp only [Jr];split at i2
     ·rename_i hn;rw [Jl hn];omega
     ·rename_i hn;rw [Jo hn];omega
theorem rO:∀(n:Nat),uS (patF n) 200000
 | 0=>fun r d x r1 _ h _=>by cases h
 | n+1=>fun r d x r1 hr h ho=>by
  have ih:=rO n;have ht:∀(r:List Str) (x:Rx) (r1:List Str),r.length≤200000→lZ (patF n) r d=.ok (x,r1)→okC r→Fct 0 r x r1∧r1.length<r.length:=fun r x r1 hr h ho=>ut ih h ho gN gN
  obtain⟨i1,i2,i3,i4⟩:=um ht gN _ [] [] r h ho hr trivial trivial (by simp only [Rx.partsL];omega);rw [Jl rfl] at i2;simp only [Rx.partsL,Rx.groupsL] at i2 i3;exact⟨i1,by omega,by omega,i4⟩
open Go.RowKit
def td (res:Res):Prop:=∀q,res=.error q→q≠0
theorem rl {q:Int} (h:q≠0):td (.error q):=fun _ e=>by injection e with e;rw [←e];exact h
theorem na (y:Rx × List Str):td (.ok y):=fun _ e=>by cases e
theorem esc_err (r:List Str):td (escM r):=by
 cases r with
 | nil=>exact dQ
 | cons c r =>
  simp only [escM];cases nF c with
  | some rows=>exact na _
  | none =>
   cases bigS c with
   | some rows=>exact na _
   | none =>
    cases mR c with
    | none=>exact dQ
    | some t=>exact na _
theorem Hh (r:List Str):td (mY r):=by
 unfold mY;simp only
 generalize lV _ _ _=q
 cases q with
 | none=>exact dQ
 | some y=>exact na _
theorem IL (x:Rx) (r:List Str):td (ma x r):=by
 cases r with
 | nil=>exact na _
 | cons c r =>
  simp only [ma];by_cases h1:c=[42]
  ·rw [Jl h1];exact na _
  rw [Jo h1];by_cases h2:c=[43]
  ·rw [Jl h2];exact na _
  rw [Jo h2];by_cases h3:c=[63]
  ·rw [Jl h3];exact na _
  rw [Jo h3];by_cases h4:c=[123]
  ·rw [Jl h4]
   cases mM r with
   | none=>exact dQ
   | some y=>exact na _
  ·rw [Jo h4];exact na _
theorem Gn {pat:List Str→Nat→Res} (hp:∀r d,td (pat r d)) (r:List Str) (d:Nat):td (mZ pat r d):=by
 unfold mZ;by_cases hd:16≤d
 ·rw [Jl hd];exact rl gR
 rw [Jo hd];cases nP r with
 | none=>exact dQ
 | some y =>
  simp only
  cases hx:pat y.2 (d+1) with
  | error e=>exact fun q hq=>hp _ _ _ (hx.trans hq)
  | ok z =>
   simp only
   cases lq [41] z.2 with
   | none=>exact dQ
   | some r=>exact na _
theorem tq {pat:List Str→Nat→Res} (hp:∀r d,td (pat r d)) (r:List Str) (d:Nat):td (mj pat r d):=by
 cases r with
 | nil=>exact dQ
 | cons c r =>
  simp only [mj];by_cases h1:c=[46]
  ·rw [Jl h1];exact na _
  rw [Jo h1];by_cases h2:c=[40]
  ·rw [Jl h2];exact Gn hp _ _
  rw [Jo h2];by_cases h3:c=[91]
  ·rw [Jl h3];exact Hh _
  rw [Jo h3];by_cases h4:c=[92]
  ·rw [Jl h4];exact esc_err _
  rw [Jo h4];by_cases h5:qZ c=true
  ·rw [Jl h5];exact rl gR
  ·rw [Jo h5];exact na _
theorem Er {pat:List Str→Nat→Res} (hp:∀r d,td (pat r d)) (r:List Str) (d:Nat):td (lZ pat r d):=by
 unfold lZ;cases ni r with
 | some y=>exact na _
 | none =>
  simp only
  cases hx:mj pat r d with
  | error e=>exact fun q hq=>tq hp _ _ _ (hx.trans hq)
  | ok y=>exact IL _ _
theorem zM {trm:List Str→Res} (ht:∀r,td (trm r)):∀(n:Nat) (alts terms:List Rx) (r:List Str),td (patL trm n alts terms r)
 | 0,_,_,_=>rl gR
 | n+1,alts,terms,[]=>na _
 | n+1,alts,terms,c::r=>by
  simp only [patL];by_cases h1:c=[41]
  ·rw [Jl h1];exact na _
  rw [Jo h1];by_cases h2:c=[124]
  ·rw [Jl h2];exact zM ht n _ _ _
  rw [Jo h2];cases hx:trm (c::r) with
  | error e=>exact fun q hq=>ht _ _ (hx.trans hq)
  | ok y=>exact zM ht n _ _ _
theorem pU:∀(n:Nat) (r:List Str) (d:Nat),td (patF n r d)
 | 0,_,_=>rl gR
 | n+1,r,d=>zM (fun r=>Er (pU n) r d) _ _ _ _
def PatC (n:Nat):Prop:=∀(g d:Nat) (r:List Str) (w:World),Rd w g r d→r.length<n→d≤16 →
 Calls Tryz.prog 116 #[.pointer (some ⟨g,0,none⟩)] w fun e w'=>qF g d w.heap.size w (patF n r d) e w'
theorem RdT.setDeep {T:TypeId} {u:Value} {w:World} {g:Nat} {r:List Str} (h:RdT T [u] w g r) (v:Value):RdT T [v] (w.setCell ⟨g,2,none⟩ v) g r:=by
 obtain⟨a,c,l,i,h1,h2,h3⟩:=h;refine⟨a,c,l,i,?_,h2.keep (Kept.setLow _ fun b hb=>Nat.ne_of_lt hb),h3⟩;rw [heap_setCell_same w _ _ _ _ _ h1];rfl
theorem RdT.free2 {T:TypeId} {u:Value} {w:World} {g:Nat} {r:List Str} (h:RdT T [u] w g r):w.frozen? ⟨g,2,none⟩=false:=by
 obtain⟨a,c,l,i,h1,_⟩:=h;unfold World.frozen?;rw [h1];rfl
def set8 (w:World) (b:Nat) (u0 u1 u2 u3 u4 u5 u6 u7:Value):World :=
 (((((((w.setCell ⟨b,0,none⟩ u0).setCell ⟨b,1,none⟩ u1).setCell ⟨b,2,none⟩ u2).setCell ⟨b,3,none⟩ u3).setCell ⟨b,4,none⟩ u4).setCell ⟨b,5,none⟩ u5).setCell ⟨b,6,none⟩ u6).setCell ⟨b,7,none⟩ u7
theorem BQ {S:Nat→Prop} (w:World) (b:Nat) {u0 u1 u2 u3 u4 u5 u6 u7:Value} (hS:∀k,S k→k≠b):Kept S w (set8 w b u0 u1 u2 u3 u4 u5 u6 u7):=by
 have h:∀{w':World} (a:Addr) (u:Value),a.block=b→Kept S w w'→Kept S w (w'.setCell a u):=fun a u ha hk=>hk.trans (Kept.setLow u fun k hk=>by rw [ha];exact hS k hk)
 unfold set8;iterate 8 (refine h _ _ rfl ?_)
 exact⟨Ju _,fun _ _ _=>rfl⟩
theorem H7 (w:World) (b:Nat) {u0 u1 u2 u3 u4 u5 u6 u7:Value}:(set8 w b u0 u1 u2 u3 u4 u5 u6 u7).heap.size=w.heap.size:=by unfold set8;simp
theorem yq {w0 w:World} {row:Option Nat} {b:Nat} {u0 u1 u2 u3 u4 u5 u6 u7:Value} (h:w0.grownBy w row) (hb:w0.heap.size≤b):w0.grownBy (set8 w b u0 u1 u2 u3 u4 u5 u6 u7) row:=by
 unfold set8;iterate 8 (refine lr ?_ hb _)
 exact h
theorem RdT.set8 {T:TypeId} {x:List Value} {w:World} {g:Nat} {r:List Str} {b:Nat} {u0 u1 u2 u3 u4 u5 u6 u7:Value} (h:RdT T x w g r) (hb:g<b):RdT T x (set8 w b u0 u1 u2 u3 u4 u5 u6 u7) g r:=by
 unfold Go.Proofs.YtdcnncgpomcaaaaGreatDoor.set8;iterate 8 (refine RdT.setHi ?_ hb _)
 exact h
theorem vS {w0 w:World} {row:Option Nat} (h:w0.grownBy w row) (o:Obj):w0.grownBy (w.alloc o) row:=kR h (kS ((Below.refl _ _).alloc (Ju _) _) _)
theorem D9 (w:World) (b:Nat) {u0 u1 u2 u3 u4 u5 u6 u7:Value} {cs:Array Value} {t:TypeId}:((set8 w b u0 u1 u2 u3 u4 u5 u6 u7).alloc (.cells cs t)).heap[w.heap.size]?=some (.cells cs t (0,0)):=by
 have:=heap_alloc_new (set8 w b u0 u1 u2 u3 u4 u5 u6 u7) (.cells cs t)
 rw [H7] at this;exact this
theorem FT {n:Nat} (hp:PatC n) {g d:Nat} {r:List Str} (w:World) (h:Rd w g r d) (hl:r.length<n) (hd:d≤16) :
  Calls Tryz.prog 133 #[.pointer (some ⟨g,0,none⟩)] w fun e w'=>qF g d w.heap.size w (mZ (patF n) r d) e w':=by
 obtain⟨R,hR⟩:∃R,mZ (patF n) r d=R:=⟨_,rfl⟩;rw [hR];unfold mZ at hR;have HP:=ab hp;clear hp;by_cases hd16:16≤d
 ·rw [Jl hd16] at hR
  have HR:=ab hR;clear hR;have c2:=(h.later ((Below.refl w.heap.size w).alloc (Ju _) (.cells #[.int .i64 0,.string ⟨#[]⟩,.bool false,.slice none 0 0,.int .i64 0,.int .i64 0,.bool false,.slice none 0 0] 38))).cell2;have hd16':d=16:=gN;have hde:decide ((16:Int)≤(d:Int))=true:=by simp;omega
  obtain⟨w0,hw0⟩:∃w0,w0=w.alloc (.cells #[.int .i64 0,.string ⟨#[]⟩,.bool false,.slice none 0 0,.int .i64 0,.int .i64 0,.bool false,.slice none 0 0] 38):=⟨_,rfl⟩;obtain⟨hb0,hz0,hby0⟩:=lY w hw0;have HRD:=ab (h.later hb0);rw [hw0] at HRD;have HW0:=ab hw0;have HBY0:=ab hby0;have hgg:w.grownBy w0 (some g):=kS hb0 _;have hgr:g<w.heap.size:=h.lt;clear hw0 hby0 h;have hby:=HBY0.out;rw [HW0.out] at hby hgg;obtain⟨f0,f1,f2,f3,f4,f5,f6,f7,f8⟩:=kY (c:=[]) hby;clear hby hd16';go_enter Tryz.func133,Tryz.ntmps133
  go_wp2
  refine JM (v:=.tuple #[.agg #[.int .i64 0,.string ⟨[].toArray⟩,.bool false,.slice none 0 0,.int .i64 0,.int .i64 0,.bool false,.slice none 0 0],.int .i64 8]) iX rfl ?_;refine⟨?_,?_⟩
  ·iterate 0 (refine lr ?_ gP _)
   exact hgg
  ·rw [←HR.out]
   refine⟨rfl,?_⟩;iterate 0 (refine RdE.setHi ?_ gP _)
   exact⟨_,HRD.out⟩
 rw [Jo hd16] at hR;cases h1:lq [63] r with
 | none =>
  simp only [nP,h1] at hR;have HR:=ab hR;have H1:=ab h1;clear hR h1;have c2:=(h.later ((Below.refl w.heap.size w).alloc (Ju _) (.cells #[.int .i64 0,.string ⟨#[]⟩,.bool false,.slice none 0 0,.int .i64 0,.int .i64 0,.bool false,.slice none 0 0] 38))).cell2;obtain⟨w0,hw0⟩:∃w0,w0=w.alloc (.cells #[.int .i64 0,.string ⟨#[]⟩,.bool false,.slice none 0 0,.int .i64 0,.int .i64 0,.bool false,.slice none 0 0] 38):=⟨_,rfl⟩;obtain⟨hb0,hz0,hby0⟩:=lY w hw0;have HRD:=ab (h.later hb0);rw [hw0] at HRD;have HW0:=ab hw0;have HBY0:=ab hby0;have hgg:w.grownBy w0 (some g):=kS hb0 _;have hgr:g<w.heap.size:=h.lt;clear hw0 hby0 h;go_enter Tryz.func133,Tryz.ntmps133
  go_wp2_with (go_at_call 137;refine(lQ _ HRD.out H1.out gU).mono ?_)
  rintro e w1 ⟨rfl,hrd1,hq1⟩;rw [←HW0.out] at hq1;have hg1:=kR hgg hq1;have HBY1:=ab (kW HBY0.out hq1 gN);have hz1:=hq1.size;have HRD1:=ab hrd1;clear hrd1 hq1 c2;have c2:=(HRD1.out).cell2;have hf2:=(HRD1.out).free2;have hrdd:Rd ((w1).setCell ⟨g,2,none⟩ (.int .i64 ((d:Int)+1))) g r (d+1):=(HRD1.out).setDeep _;have HRDD:=ab hrdd;have hgd:=lp hg1 2 (.int .i64 ((d:Int)+1));have hbyd:=lK HBY1.out (a:=⟨g,2,none⟩) gP (.int .i64 ((d:Int)+1));have HBYD:=ab hbyd;have HPAT:=ab (HP.out g (d+1) r _ HRDD.out gN gN);clear hrdd hbyd;go_wp2_with (go_at_call 116;refine HPAT.out.mono ?_)
  rintro e w5 hq;clear c2 hf2 HPAT;cases hpr:patF n r (d+1) with
  | error q =>
   rw [hpr] at hq;obtain⟨hq5,rfl,r9,hrd9⟩:=hq;have hq0:q≠0:=pU n r (d+1) q hpr;exact aQ
  | ok y =>
   obtain⟨x,r3⟩:=y;rw [hpr] at hq;obtain⟨hq5,cc,rfl,hxv,hrd5⟩:=hq;have hg5:=kR hgd hq5;have hzd:=hgd.size;have hz5:=hq5.size;have hby5:=kW HBYD.out hq5 gN;have HBX5:=ab hby5;obtain⟨k,c,ng,rs,lo,hi,lz,ks⟩:=x;have hxv0:=hxv;obtain⟨ra,rc,ka,kc,rfl,hrs,hks⟩:=hxv.open_;clear hrs hks hxv hby5;have HXV:=ab (hxv0.mono (S':=fun b=>w.heap.size≤b∧b≠w.heap.size) fun b hb hlt=>by have:=hgd.size;simp only [World.size_setCell] at hb;constructor<;>omega);clear hxv0;unfold rxc at HXV ⊢;obtain⟨w6,hw6⟩:∃w6,w6=(w5.alloc (.cells #[.int .i64 k,.string ⟨c.toArray⟩,.bool ng,.slice ra rs.length rc,.int .i64 lo,.int .i64 hi,.bool lz,.slice ka ks.length kc] 38)).setCell ⟨g,2,none⟩ (.int .i64 (d:Int)):=⟨_,rfl⟩;have hb6:Below w5.heap.size w5 (w5.alloc (.cells #[.int .i64 k,.string ⟨c.toArray⟩,.bool ng,.slice ra rs.length rc,.int .i64 lo,.int .i64 hi,.bool lz,.slice ka ks.length kc] 38)):=(Below.refl _ _).alloc (Ju _) _;have hrd6:=hrd5.later hb6;have c6:=hrd6.cell2;have hf6:=hrd6.free2;have hrd7:Rd w6 g r3 d:=hw6▸hrd6.setDeep (.int .i64 (d:Int));have hg7:w.grownBy w6 (some g):=hw6▸lp (kR hg5 (kS hb6 (some g))) 2 (.int .i64 (d:Int));have hby7:w6.heap[w.heap.size]?=some (.cells #[.int .i64 0,.string ⟨#[]⟩,.bool false,.slice none 0 0,.int .i64 0,.int .i64 0,.bool false,.slice none 0 0] 38 (0,0)):=hw6▸lK ((hb6.block _ (kT HBX5.out)).trans HBX5.out) (a:=⟨g,2,none⟩) gP (.int .i64 (d:Int));have hbz7:w6.heap[w5.heap.size]?=some (.cells #[.int .i64 k,.string ⟨c.toArray⟩,.bool ng,.slice ra rs.length rc,.int .i64 lo,.int .i64 hi,.bool lz,.slice ka ks.length kc] 38 (0,0)):=hw6▸lK (heap_alloc_new w5 _) (a:=⟨g,2,none⟩) gP (.int .i64 (d:Int));have hxv7:RxV w6 (fun b=>w.heap.size≤b∧b≠w.heap.size) _ _:=hw6▸(HXV.out.later hb6).keep (Kept.setLow (a:=⟨g,2,none⟩) (.int .i64 (d:Int)) (fun b hb=>by have:w.heap.size≤b∧b≠w.heap.size:=hb;first|omega|(simp;done)|(simp;omega)));have HRD7:=ab hrd7;have HBY7:=ab hby7;have HBZ7:=ab hbz7;have HXV7:=ab hxv7;have hz7:w5.heap.size+1≤w6.heap.size:=by rw [hw6];simp
   have ed:((d+1:Nat):Int)-1=d:=gN;clear hrd5 hrd6 hrd7 hby7 hbz7 hxv7 HXV HBX5 hb6;cases ht:lq [41] r3 with
   | none =>
    exact aY
   | some r4 =>
    have HR2:Hid (Except.ok (grpR 5 (.mk k c ng rs lo hi lz ks),r4)=R):=ab kq;have HR:=HR2;have HT:=ab ht;have HRD8:=HRD7;rw [hw6] at HRD8;have HW6:=ab hw6;clear hpr ht hw6;go_wp2_with (go_at_call 137;refine(l9 _ HRD8.out HT.out).mono ?_)
    rintro e w9 ⟨rfl,hrd9,hq9⟩;rw [←HW6.out] at hq9;have hg9:=kR hg7 hq9;have hz9:=hq9.size;have hne9:w.heap.size≠w9.heap.size:=gN;have hlt9:w.heap.size<w9.heap.size:=gN;have hby9:=kW HBY7.out hq9 gN;have HRD9:=ab hrd9;obtain⟨f0,f1,f2,f3,f4,f5,f6,f7,f8⟩:=kY (c:=[]) hby9;obtain⟨e0,e1,e2,e3,e4,e5,e6,e7,e8⟩:=kY (kW HBZ7.out hq9 gN);have HXV9:=ab (HXV7.out.keep (Kept.grown hq9 fun b hb=>by have:w.heap.size≤b∧b≠w.heap.size:=hb;omega));clear hrd9 hq9 c6 hf6 hby9;go_wp2
    refine JM (v:=.tuple #[.agg #[.int .i64 5,.string ⟨#[]⟩,.bool false,.slice none 0 0,.int .i64 0,.int .i64 0,.bool false,.slice (some ⟨w9.heap.size,0,none⟩) 1 1],.int .i64 0]) jy rfl ?_;refine⟨vS (yq hg9 (Ju _)) _,?_⟩;rw [←HR.out];refine⟨rxc 5 [] false none ([]:List Row).length 0 0 0 false (some ⟨w9.heap.size,0,none⟩) [Rx.mk k c ng rs lo hi lz ks].length 1,rfl,RxV.mono (S:=fun b=>w.heap.size≤b∧b≠w.heap.size) (fun b hb _=>hb.1) (RxV.close (SlS.none_ _ _ _ _) (RxSl.one ((HXV9.out.keep (BQ w9 w.heap.size fun b hb=>hb.2)).later ((Below.refl _ _).alloc (Ju _) _)) (D9 w9 w.heap.size) ⟨by omega,by omega⟩)),?_⟩;exact(HRD9.out.set8 hgr).later ((Below.refl _ _).alloc (Ju _) _)
 | some r1 =>
  cases h2:lq [58] r1 with
  | none =>
   simp only [nP,h1,h2] at hR;have HR:=ab hR;have H1:=ab h1;have H2:=ab h2;clear hR h1 h2;have c2:=(h.later ((Below.refl w.heap.size w).alloc (Ju _) (.cells #[.int .i64 0,.string ⟨#[]⟩,.bool false,.slice none 0 0,.int .i64 0,.int .i64 0,.bool false,.slice none 0 0] 38))).cell2;obtain⟨w0,hw0⟩:∃w0,w0=w.alloc (.cells #[.int .i64 0,.string ⟨#[]⟩,.bool false,.slice none 0 0,.int .i64 0,.int .i64 0,.bool false,.slice none 0 0] 38):=⟨_,rfl⟩;obtain⟨hb0,hz0,hby0⟩:=lY w hw0;have HRD:=ab (h.later hb0);rw [hw0] at HRD;have HW0:=ab hw0;have HBY0:=ab hby0;have hgg:w.grownBy w0 (some g):=kS hb0 _;have hgr:g<w.heap.size:=h.lt;clear hw0 hby0 h;go_enter Tryz.func133,Tryz.ntmps133
   go_wp2_with (go_at_call 137;refine(l9 _ HRD.out H1.out).mono ?_)
   rintro e w1 ⟨rfl,hrd1,hq1⟩;rw [←HW0.out] at hq1;have hg1:=kR hgg hq1;have HBY1:=ab (kW HBY0.out hq1 gN);have HRD1:=ab hrd1;clear hrd1 hq1 c2;go_wp2_with (go_at_call 137;refine(lQ _ HRD1.out H2.out gU).mono ?_)
   rintro e w2 ⟨rfl,hrd2,hq2⟩;have hg2:=kR hg1 hq2;have HRD2:=ab hrd2;obtain⟨f0,f1,f2,f3,f4,f5,f6,f7,f8⟩:=kY (c:=[]) (kW HBY1.out hq2 gN);clear hrd2 hq2;go_wp2
   refine JM (v:=.tuple #[.agg #[.int .i64 0,.string ⟨[].toArray⟩,.bool false,.slice none 0 0,.int .i64 0,.int .i64 0,.bool false,.slice none 0 0],.int .i64 10]) iX rfl ?_;refine⟨?_,?_⟩
   ·exact bV
   ·exact dF
  | some r2 =>
   simp only [nP,h1,h2] at hR;have HR:=ab hR;have H1:=ab h1;have H2:=ab h2;have hl2:r2.length<n:=by
    have e1:=mO h1;have e2:=mO h2;subst e1 e2;simp at hl;omega
   clear hR h1 h2 hl;have c2:=(h.later ((Below.refl w.heap.size w).alloc (Ju _) (.cells #[.int .i64 0,.string ⟨#[]⟩,.bool false,.slice none 0 0,.int .i64 0,.int .i64 0,.bool false,.slice none 0 0] 38))).cell2;obtain⟨w0,hw0⟩:∃w0,w0=w.alloc (.cells #[.int .i64 0,.string ⟨#[]⟩,.bool false,.slice none 0 0,.int .i64 0,.int .i64 0,.bool false,.slice none 0 0] 38):=⟨_,rfl⟩;obtain⟨hb0,hz0,hby0⟩:=lY w hw0;have HRD:=ab (h.later hb0);rw [hw0] at HRD;have HW0:=ab hw0;have HBY0:=ab hby0;have hgg:w.grownBy w0 (some g):=kS hb0 _;have hgr:g<w.heap.size:=h.lt;clear hw0 hby0 h;go_enter Tryz.func133,Tryz.ntmps133
   go_wp2_with (go_at_call 137;refine(l9 _ HRD.out H1.out).mono ?_)
   rintro e w1 ⟨rfl,hrd1,hq1⟩;rw [←HW0.out] at hq1;have hg1:=kR hgg hq1;have HBY1:=ab (kW HBY0.out hq1 gN);have hz1:=hq1.size;have HRD1:=ab hrd1;clear hrd1 hq1 c2;go_wp2_with (go_at_call 137;refine(l9 _ HRD1.out H2.out).mono ?_)
   rintro e w2 ⟨rfl,hrd2,hq2⟩;have hg2:=kR hg1 hq2;have HBY2:=ab (kW HBY1.out hq2 gN);have hz2:=hq2.size;have HRD2:=ab hrd2;clear hrd2 hq2;have c2:=(HRD2.out).cell2;have hf2:=(HRD2.out).free2;have hrdd:Rd ((w2).setCell ⟨g,2,none⟩ (.int .i64 ((d:Int)+1))) g r2 (d+1):=(HRD2.out).setDeep _;have HRDD:=ab hrdd;have hgd:=lp hg2 2 (.int .i64 ((d:Int)+1));have hbyd:=lK HBY2.out (a:=⟨g,2,none⟩) gP (.int .i64 ((d:Int)+1));have HBYD:=ab hbyd;have HPAT:=ab (HP.out g (d+1) r2 _ HRDD.out gN gN);clear hrdd hbyd;go_wp2_with (go_at_call 116;refine HPAT.out.mono ?_)
   rintro e w5 hq;clear c2 hf2 HPAT;cases hpr:patF n r2 (d+1) with
   | error q =>
    rw [hpr] at hq;obtain⟨hq5,rfl,r9,hrd9⟩:=hq;have hq0:q≠0:=pU n r2 (d+1) q hpr;exact aQ
   | ok y =>
    obtain⟨x,r3⟩:=y;rw [hpr] at hq;obtain⟨hq5,cc,rfl,hxv,hrd5⟩:=hq;have hg5:=kR hgd hq5;have hzd:=hgd.size;have hz5:=hq5.size;have hby5:=kW HBYD.out hq5 gN;have HBX5:=ab hby5;obtain⟨k,c,ng,rs,lo,hi,lz,ks⟩:=x;have hxv0:=hxv;obtain⟨ra,rc,ka,kc,rfl,hrs,hks⟩:=hxv.open_;clear hrs hks hxv hby5;have HXV:=ab (hxv0.mono (S':=fun b=>w.heap.size≤b∧b≠w.heap.size) fun b hb hlt=>by have:=hgd.size;simp only [World.size_setCell] at hb;constructor<;>omega);clear hxv0;unfold rxc at HXV ⊢;obtain⟨w6,hw6⟩:∃w6,w6=(w5.alloc (.cells #[.int .i64 k,.string ⟨c.toArray⟩,.bool ng,.slice ra rs.length rc,.int .i64 lo,.int .i64 hi,.bool lz,.slice ka ks.length kc] 38)).setCell ⟨g,2,none⟩ (.int .i64 (d:Int)):=⟨_,rfl⟩;have hb6:Below w5.heap.size w5 (w5.alloc (.cells #[.int .i64 k,.string ⟨c.toArray⟩,.bool ng,.slice ra rs.length rc,.int .i64 lo,.int .i64 hi,.bool lz,.slice ka ks.length kc] 38)):=(Below.refl _ _).alloc (Ju _) _;have hrd6:=hrd5.later hb6;have c6:=hrd6.cell2;have hf6:=hrd6.free2;have hrd7:Rd w6 g r3 d:=hw6▸hrd6.setDeep (.int .i64 (d:Int));have hg7:w.grownBy w6 (some g):=hw6▸lp (kR hg5 (kS hb6 (some g))) 2 (.int .i64 (d:Int));have hby7:w6.heap[w.heap.size]?=some (.cells #[.int .i64 0,.string ⟨#[]⟩,.bool false,.slice none 0 0,.int .i64 0,.int .i64 0,.bool false,.slice none 0 0] 38 (0,0)):=hw6▸lK ((hb6.block _ (kT HBX5.out)).trans HBX5.out) (a:=⟨g,2,none⟩) gP (.int .i64 (d:Int));have hbz7:w6.heap[w5.heap.size]?=some (.cells #[.int .i64 k,.string ⟨c.toArray⟩,.bool ng,.slice ra rs.length rc,.int .i64 lo,.int .i64 hi,.bool lz,.slice ka ks.length kc] 38 (0,0)):=hw6▸lK (heap_alloc_new w5 _) (a:=⟨g,2,none⟩) gP (.int .i64 (d:Int));have hxv7:RxV w6 (fun b=>w.heap.size≤b∧b≠w.heap.size) _ _:=hw6▸(HXV.out.later hb6).keep (Kept.setLow (a:=⟨g,2,none⟩) (.int .i64 (d:Int)) (fun b hb=>by have:w.heap.size≤b∧b≠w.heap.size:=hb;first|omega|(simp;done)|(simp;omega)));have HRD7:=ab hrd7;have HBY7:=ab hby7;have HBZ7:=ab hbz7;have HXV7:=ab hxv7;have hz7:w5.heap.size+1≤w6.heap.size:=by rw [hw6];simp
    have ed:((d+1:Nat):Int)-1=d:=gN;clear hrd5 hrd6 hrd7 hby7 hbz7 hxv7 HXV HBX5 hb6;cases ht:lq [41] r3 with
    | none =>
     exact aY
    | some r4 =>
     have HR2:Hid (Except.ok (grpR 6 (.mk k c ng rs lo hi lz ks),r4)=R):=ab kq;have HR:=HR2;have HT:=ab ht;have HRD8:=HRD7;rw [hw6] at HRD8;have HW6:=ab hw6;clear hpr ht hw6;go_wp2_with (go_at_call 137;refine(l9 _ HRD8.out HT.out).mono ?_)
     rintro e w9 ⟨rfl,hrd9,hq9⟩;rw [←HW6.out] at hq9;have hg9:=kR hg7 hq9;have hz9:=hq9.size;have hne9:w.heap.size≠w9.heap.size:=gN;have hlt9:w.heap.size<w9.heap.size:=gN;have hby9:=kW HBY7.out hq9 gN;have HRD9:=ab hrd9;obtain⟨f0,f1,f2,f3,f4,f5,f6,f7,f8⟩:=kY (c:=[]) hby9;obtain⟨e0,e1,e2,e3,e4,e5,e6,e7,e8⟩:=kY (kW HBZ7.out hq9 gN);have HXV9:=ab (HXV7.out.keep (Kept.grown hq9 fun b hb=>by have:w.heap.size≤b∧b≠w.heap.size:=hb;omega));clear hrd9 hq9 c6 hf6 hby9;go_wp2
     refine JM (v:=.tuple #[.agg #[.int .i64 6,.string ⟨#[]⟩,.bool false,.slice none 0 0,.int .i64 0,.int .i64 0,.bool false,.slice (some ⟨w9.heap.size,0,none⟩) 1 1],.int .i64 0]) jy rfl ?_;refine⟨vS (yq hg9 (Ju _)) _,?_⟩;rw [←HR.out];refine⟨rxc 6 [] false none ([]:List Row).length 0 0 0 false (some ⟨w9.heap.size,0,none⟩) [Rx.mk k c ng rs lo hi lz ks].length 1,rfl,RxV.mono (S:=fun b=>w.heap.size≤b∧b≠w.heap.size) (fun b hb _=>hb.1) (RxV.close (SlS.none_ _ _ _ _) (RxSl.one ((HXV9.out.keep (BQ w9 w.heap.size fun b hb=>hb.2)).later ((Below.refl _ _).alloc (Ju _) _)) (D9 w9 w.heap.size) ⟨by omega,by omega⟩)),?_⟩;exact(HRD9.out.set8 hgr).later ((Below.refl _ _).alloc (Ju _) _)
end Go.Proofs.YtdcnncgpomcaaaaGreatDoor
