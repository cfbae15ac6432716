/- What rxread reads is of a size that a machine bears; how many parts and groups it has. · What rxread reads: facts of the whole (patF). -/
import Derived.Test.YtjggmmaojklmpaaGreatLb14
set_option maxRecDepth 100000
set_option maxHeartbeats 4000000
namespace Go.Proofs.YtjggmmaojklmpaaGreat
theorem yw {r r1:List Str} (h:r1 <:+ r) (ho:okC r):okC r1:=fun p hp=>ho p (h.subset hp)
theorem nM {c:Str} {r r1:List Str} (h:r1 <:+ r):r1 <:+ c::r:=h.trans (C3 _ _)
theorem lr {c:Str} {r r1:List Str} (h:kG c r=some r1):r1 <:+ r:=by rw [lM h];exact C3 _ _
theorem xJ {r r1:List Str} {c:Str} {nm:List Row} (h:pH r=some (c,nm,r1)):r1 <:+ r:=by
 cases r with
 | nil=>cases h
 | cons p r =>
  simp only [pH] at h;by_cases h1:p=[93]
  ·rw [Cl h1] at h;cases h
  rw [Co h1] at h;by_cases h2:p=[92]
  ·rw [Cl h2] at h
   cases r with
   | nil=>cases h
   | cons c2 r2 =>
    simp only at h
    cases hn:nC c2 with
    | some rows =>
     simp only [hn] at h;exact dP
    | none =>
     simp only [hn] at h;cases hpm:l6 c2 with
     | none=>simp only [hpm] at h;cases h
     | some t =>
      simp only [hpm] at h;exact dP
  ·rw [Co h2] at h
   injection h with h;injection h with h3 h;injection h with h4 h5
   subst h5;exact C3 _ _
def l5 (rows:List Row):Prop:=∀q∈rows,q.1.length≤1000000∧q.2.length≤1000000
theorem ns {c t:Str} (h1:c.length≤1000000) (h2:t.length≤1000000):l5 [(c,t)]:=by
 intro q hq;rw [CV] at hq;subst hq;exact⟨h1,h2⟩
theorem nF {a b:List Row} (h1:l5 a) (h2:l5 b):l5 (a++b):=by
 intro q hq;rcases CI.1 hq with h|h
 ·exact h1 q h
 ·exact h2 q h
theorem mZ:∀(n:Nat) (rows:List Row) (r:List Str) {rows':List Row} {r1:List Str},lc n rows r=some (rows',r1)→okC r→l5 rows →
  r1 <:+ r∧r1.length<r.length∧rows'.length≤rows.length+4*r.length∧l5 rows'
 | 0,_,_,_,_,h,_,_=>by cases h
 | n+1,rows,r,rows',r1,h,ho,hr=>by
  simp only [lc] at h;cases ht:kG [93] r with
  | some r0 =>
   simp only [ht] at h;injection h with h;injection h with h1 h2
   subst h1 h2;have e:=lM ht;exact⟨lr ht,by rw [e];simp,by omega,hr⟩
  | none =>
   simp only [ht] at h;cases hi:pH r with
   | none=>simp only [hi] at h;cases h
   | some y =>
    obtain⟨c,nm,r2⟩:=y;simp only [hi] at h;obtain⟨f1,f2,f3,f4,f5⟩:=oX hi ho;have fs:=xJ hi;by_cases hnm:nm≠[]
    ·rw [Cl hnm] at h
     obtain⟨g1,g2,g3,g4⟩:=mZ n _ _ h f5 (nF hr f4);rw [Cy] at g3;exact⟨g1.trans fs,by omega,by omega,g4⟩
    ·rw [Co hnm] at h
     have one:∀{rr:List Str},lc n (rows++[(c,c)]) rr=some (rows',r1)→okC rr→rr <:+ r→rr.length<r.length→r1 <:+ r∧r1.length<r.length∧rows'.length≤rows.length+4*r.length∧l5 rows':=by
      intro rr h hoo hs hl;obtain⟨g1,g2,g3,g4⟩:=mZ n _ _ h hoo (nF hr (ns f3 f3));rw [Cy,List.length_singleton] at g3;exact⟨g1.trans hs,by omega,by omega,g4⟩
     cases ht2:kG [45] r2 with
     | none=>simp only [ht2] at h;exact one h f5 fs f1
     | some r3 =>
      simp only [ht2] at h;by_cases ht3:kG [93] r3=none
      ·rw [Cl ht3] at h
       cases hi2:pH r3 with
       | none=>simp only [hi2] at h;cases h
       | some y =>
        obtain⟨t,nm2,r4⟩:=y;simp only [hi2] at h;have hs3:=lr ht2;have e3:=lM ht2;obtain⟨k1,k2,k3,k4,k5⟩:=oX hi2 (yw hs3 f5);have ks:=xJ hi2;by_cases hb:nm2≠[]∨Op.bytesLess t c=true
        ·rw [Cl hb] at h;cases h
        ·rw [Co hb] at h
         obtain⟨g1,g2,g3,g4⟩:=mZ n _ _ h k5 (nF hr (ns f3 k3));rw [Cy,List.length_singleton] at g3;have:r3.length<r2.length:=by rw [e3];simp
         exact⟨((g1.trans ks).trans hs3).trans fs,by omega,by omega,g4⟩
      ·rw [Co ht3] at h;exact one h f5 fs f1
theorem mrgS_ok {out:List Row} {r:Row} (h1:l5 out) (h2:r.1.length≤1000000∧r.2.length≤1000000):l5 (mrgS out r):=by
 rcases List.eq_nil_or_concat out with rfl|⟨B,q,rfl⟩
 ·rw [yI];exact ns h2.1 h2.2
 ·rw [List.concat_eq_append] at h1 ⊢
  have hB:l5 B:=fun x hx=>h1 x (List.mem_append_left _ hx)
  have hq:=h1 q gF;cases hl:leS r.1 q.2 with
  | true =>
   rw [Bi hl];refine nF hB (ns hq.1 ?_);unfold mxS;by_cases hm:Op.bytesLess q.2 r.2=true
   ·rw [Cl hm];exact h2.2
   ·rw [Co hm];exact hq.2
  | false =>
   rw [A4 hl];exact nF h1 (ns h2.1 h2.2)
theorem union_ok {rows:List Row} (h:l5 rows):l5 (mq rows)∧(mq rows).length≤rows.length:=by
 have h1:l5 (stL (filR rows)):=fun q hq=>h q ((List.mem_filter.1 ((zr _).1.mem_iff.1 hq)).1)
 refine⟨?_,?_⟩
 ·unfold mq mrgL
  have key:∀(l out:List Row),l5 l→l5 out→l5 (l.foldl mrgS out):=by
   intro l;induction l with
   | nil=>intro out _ h;exact h
   | cons r l ih =>
    intro out h1 h2;exact ih _ (fun q hq=>h1 q (CC _ hq)) (mrgS_ok h2 (h1 r (CB ..)))
  exact key _ _ h1 (by intro q hq;cases hq)
 ·unfold mq
  have e1:=yC (stL (filR rows));have e2:=Ac (filR rows);have e3:=tt rows;omega
def Fct (b:Nat) (r:List Str) (x:Rx) (r1:List Str):Prop :=
 x.small∧x.parts+2*r1.length≤2*r.length+b∧x.groups+r1.count [40]≤r.count [40]∧r1 <:+ r
theorem nt {r r1:List Str} (h:r1 <:+ r) (c:Str):r1.count c≤r.count c:=h.sublist.count_le c
theorem ol {r r1:List Str} (h:r1 <:+ r):r1.length≤r.length:=h.length_le
theorem zg {k:Int} {c:Str} {ng:Bool} {rs:List Row} {lo hi:Int} {lz:Bool} (h1:c.length≤1000000) (h2:rs.length≤1000000) (h3:l5 rs):(Rx.mk k c ng rs lo hi lz []).small:=by
 simp only [Rx.small,Rx.small1,Rx.smallL];exact⟨⟨h1,h2,h3,by simp⟩,trivial⟩
theorem Fct.leaf {k:Int} {c:Str} {ng:Bool} {rs:List Row} {lo hi:Int} {lz:Bool} {b:Nat} {r r1:List Str} (h1:c.length≤1000000) (h2:rs.length≤1000000) (h3:l5 rs) (hk:k≠5) (hs:r1 <:+ r) (hl:r1.length<r.length):Fct b r (.mk k c ng rs lo hi lz []) r1:=by
 refine⟨zg h1 h2 h3,?_,?_,hs⟩
 ·simp only [Rx.parts,Rx.partsL];omega
 ·simp only [Rx.groups,Rx.groupsL,Co hk];have:=nt hs [40];omega
theorem nE:l5 []:=fun _ h=>by cases h
theorem Cg {r r1:List Str} {x:Rx} (h:escM r=.ok (x,r1)) (ho:okC r):Fct 0 r x r1:=by
 cases r with
 | nil=>cases h
 | cons c r =>
  have hc:=ho c (CB ..);have big:∀b,Fct 0 (c::r) (setR (kM b) true) r:=fun b=>Fct.leaf gF (by have:=(mH b).1;omega) (mH b).2 gD (C3 _ _) gF
  simp only [escM] at h;cases hn:nC c with
  | some rows =>
   obtain⟨b,rfl,_,rfl⟩:=pu hn;simp only [hn] at h;injection h with h;injection h with h1 h2;subst h1 h2
   exact Fct.leaf gF (by have:=(mH b).1;omega) (mH b).2 gD (C3 _ _) gF
  | none =>
   simp only [hn] at h;cases hb:bigS c with
   | some rows =>
    simp only [hb] at h;injection h with h;injection h with h1 h2;subst h1 h2
    unfold bigS at hb;by_cases g1:c=[68]
    ·rw [Cl g1] at hb;injection hb with hb;rw [←hb];exact big _
    rw [Co g1] at hb;by_cases g2:c=[87]
    ·rw [Cl g2] at hb;injection hb with hb;rw [←hb];exact big _
    rw [Co g2] at hb;by_cases g3:c=[83]
    ·rw [Cl g3] at hb;injection hb with hb;rw [←hb];exact big _
    rw [Co g3] at hb;cases hb
   | none =>
    simp only [hb] at h;cases hp:l6 c with
    | none=>simp only [hp] at h;cases h
    | some t =>
     simp only [hp] at h;injection h with h;injection h with h1 h2;subst h1 h2
     exact Fct.leaf (by have:=ti hp;omega) gF nE gD (C3 _ _) gF
theorem wZ {r r1:List Str} {x:Rx} (h:mN r=.ok (x,r1)) (ho:okC r) (hl:r.length≤200000):Fct 0 r x r1:=by
 have hsx:((kG [94] r).getD r) <:+ r:=by
  cases ht:kG [94] r with
  | none=>exact C4 _
  | some r2=>exact lr ht
 unfold mN at h;generalize (kG [94] r).isSome=ng at h
 generalize (kG [94] r).getD r=r0 at h hsx
 simp only at h
 cases hc:lc (r0.length+1) [] r0 with
 | none=>simp only [hc] at h;cases h
 | some y =>
  obtain⟨rows,r2⟩:=y;simp only [hc] at h;injection h with h;injection h with h1 h2;subst h1 h2
  obtain⟨g1,g2,g3,g4⟩:=mZ _ _ _ hc (yw hsx ho) nE;have hl0:=ol hsx;have hu:=union_ok g4;exact Fct.leaf gF (by simp at g3;omega) hu.1 gD (g1.trans hsx) gu
theorem tS:∀(r:List Str) (k n:Nat) {m:Nat} {r1:List Str},numL k n r=some (m,r1)→r1 <:+ r
 | [],k,n,m,r1,h=>by
  unfold numL at h;exact eh
 | c::r,k,n,m,r1,h=>by
  unfold numL at h;split at h
  ·split at h
   ·cases h
   ·exact nM (tS r _ _ h)
  ·exact eh
theorem zw {r r1:List Str} {lo hi:Int} (h:nV r=some (lo,hi,r1)):r1 <:+ r:=by
 unfold nV at h;cases h1:numL 0 0 r with
 | none=>simp only [h1] at h;cases h
 | some y =>
  obtain⟨a,s1⟩:=y;have e1:=tS _ _ _ h1;simp only [h1] at h;cases h2:kG [125] s1 with
  | some s2 =>
   simp only [h2] at h;injection h with h;injection h with _ h;injection h with _ h;subst h
   exact(lr h2).trans e1
  | none =>
   simp only [h2] at h;cases h3:kG [44] s1 with
   | none=>simp only [h3] at h;cases h
   | some s2 =>
    simp only [h3] at h;have e2:=(lr h3).trans e1;cases h4:kG [125] s2 with
    | some s3 =>
     simp only [h4] at h;injection h with h;injection h with _ h;injection h with _ h;subst h
     exact(lr h4).trans e2
    | none =>
     simp only [h4] at h;cases h5:numL 0 0 s2 with
     | none=>simp only [h5] at h;cases h
     | some y =>
      obtain⟨b,s3⟩:=y;have e3:=(tS _ _ _ h5).trans e2;simp only [h5] at h;split at h
      ·cases h6:kG [125] s3 with
       | none=>simp only [h6] at h;cases h
       | some s4 =>
        simp only [h6] at h;injection h with h;injection h with _ h;injection h with _ h;subst h
        exact(lr h6).trans e3
      ·cases h
theorem AS {lo hi:Int} {lz:Bool} {x:Rx} (h:x.small):(repR lo hi lz x).small:=by
 simp only [repR,Rx.small,Rx.small1,Rx.smallL];exact⟨⟨by simp,by simp,by simp,by simp⟩,h,trivial⟩
theorem yZ {x y:Rx} {lo hi:Int} {r r1:List Str} (h:qN x lo hi r=(y,r1)):(∃lz,y=repR lo hi lz x)∧r1 <:+ r:=by
 unfold qN at h;cases ht:kG [63] r with
 | some r2=>simp only [ht] at h;injection h with h1 h2;subst h1 h2;exact⟨⟨_,rfl⟩,lr ht⟩
 | none=>simp only [ht] at h;injection h with h1 h2;subst h1 h2;exact⟨⟨_,rfl⟩,C4 _⟩
theorem vT {x y:Rx} {r r1:List Str} (h:me x r=.ok (y,r1)):(y=x∧r1=r)∨((∃lo hi lz,y=repR lo hi lz x)∧r1 <:+ r∧r1.length<r.length):=by
 cases r with
 | nil=>simp only [me] at h;injection h with h;injection h with h1 h2;exact .inl ⟨h1.symm,h2.symm⟩
 | cons c r =>
  simp only [me] at h;have key:∀{lo hi:Int} {r2:List Str},Except.ok (qN x lo hi r2)=(Except.ok (y,r1):Res)→r2 <:+ r→(y=x∧r1=c::r)∨((∃lo hi lz,y=repR lo hi lz x)∧r1 <:+ c::r∧r1.length<(c::r).length):=by
   intro lo hi r2 h hs;injection h with h
   obtain⟨⟨lz,h1⟩,h2⟩:=yZ h;have h3:=h2.trans hs;have:=ol h3
   exact .inr ⟨⟨lo,hi,lz,h1⟩,nM h3,by simp;omega⟩
  by_cases h1:c=[42]
  ·rw [Cl h1] at h;exact key h (C4 _)
  rw [Co h1] at h;by_cases h2:c=[43]
  ·rw [Cl h2] at h;exact key h (C4 _)
  rw [Co h2] at h;by_cases h3:c=[63]
  ·rw [Cl h3] at h;exact key h (C4 _)
  rw [Co h3] at h;by_cases h4:c=[123]
  ·rw [Cl h4] at h
   cases hb:nV r with
   | none=>simp only [hb] at h;cases h
   | some z =>
    obtain⟨lo,hi,r2⟩:=z;simp only [hb] at h;exact key h (zw hb)
  ·rw [Co h4] at h
   injection h with h;injection h with h5 h6
   exact .inl ⟨h5.symm,h6.symm⟩
theorem lL:∀(a b:List Rx),Rx.partsL (a++b)=Rx.partsL a+Rx.partsL b
 | [],b=>by simp [Rx.partsL]
 | x::a,b=>by simp only [CZ,Rx.partsL,lL a b];omega
theorem nK:∀(a b:List Rx),Rx.groupsL (a++b)=Rx.groupsL a+Rx.groupsL b
 | [],b=>by simp [Rx.groupsL]
 | x::a,b=>by simp only [CZ,Rx.groupsL,nK a b];omega
theorem lX:∀{a b:List Rx},Rx.smallL a→Rx.smallL b→Rx.smallL (a++b)
 | [],_,_,h=>h
 | _::_,_,h1,h2=>⟨h1.1,lX h1.2 h2⟩
theorem zR (kd:Int) (x:Rx) (xs:List Rx):lN kd (x::xs)=(if x.kind=kd then x.kids else [x])++lN kd xs:=by simp [lN]
theorem sH (x:Rx) (hs:x.small):Rx.partsL x.kids+1=x.parts∧Rx.groupsL x.kids≤x.groups∧Rx.smallL x.kids:=by
 obtain⟨k,c,ng,rs,lo,hi,lz,ks⟩:=x;simp only [Rx.kids,Rx.parts,Rx.groups];exact⟨by omega,by omega,hs.2⟩
theorem qk (kd:Int):∀{xs:List Rx},Rx.smallL xs→Rx.smallL (lN kd xs)∧Rx.partsL (lN kd xs)≤Rx.partsL xs∧Rx.groupsL (lN kd xs)≤Rx.groupsL xs
 | [],_=>⟨trivial,Cp _,Cp _⟩
 | x::xs,h=>by
  obtain⟨i1,i2,i3⟩:=qk kd h.2;obtain⟨k1,k2,k3⟩:=sH x h.1;rw [zR,lL,nK];simp only [Rx.partsL,Rx.groupsL];by_cases hk:x.kind=kd
  ·rw [Cl hk];exact⟨lX k3 i1,by omega,by omega⟩
  ·rw [Co hk];exact⟨lX ⟨h.1,trivial⟩ i1,by simp only [Rx.partsL];omega,by simp only [Rx.groupsL];omega⟩
theorem nD {k:Int} (hk:k≠5) {l:List Rx} (h:Rx.smallL l) (hl:l.length≤1000000):(Rx.mk k [] false [] 0 0 false l).small∧(Rx.mk k [] false [] 0 0 false l).parts=1+Rx.partsL l∧(Rx.mk k [] false [] 0 0 false l).groups=Rx.groupsL l:=by
 simp only [Rx.small,Rx.small1,Rx.parts,Rx.groups,Co hk];exact⟨⟨⟨by simp,by simp,by simp,hl⟩,h⟩,trivial,by omega⟩
theorem qq {xs:List Rx} (h:Rx.smallL xs) (hp:Rx.partsL xs≤1000000):(seqR xs).small∧(seqR xs).parts≤1+Rx.partsL xs∧(seqR xs).groups≤Rx.groupsL xs:=by
 obtain⟨f1,f2,f3⟩:=qk 0 h;have hl:=Rx.len_parts (lN 0 xs);have gen:∀l:List Rx,lN 0 xs=l→(qu l).small∧(qu l).parts≤1+Rx.partsL xs∧(qu l).groups≤Rx.groupsL xs:=by
  rintro l rfl;obtain⟨s1,s2,s3⟩:=nD (k:=0) gD f1 gu;exact⟨s1,by unfold qu;omega,by unfold qu;omega⟩
 unfold seqR;split
 ·exact dR
 ·rename_i l hl;exact gen _ rfl
theorem yT {xs:List Rx} (h:Rx.smallL xs) (hp:Rx.partsL xs≤1000000):(altR xs).small∧(altR xs).parts≤1+Rx.partsL xs∧(altR xs).groups≤Rx.groupsL xs:=by
 obtain⟨f1,f2,f3⟩:=qk 1 h;have hl:=Rx.len_parts (lN 1 xs);unfold altR;split
 ·obtain⟨s1,s2,s3⟩:=nD (k:=0) (l:=[]) gD trivial gF
  exact⟨s1,by unfold qu;simp only [Rx.partsL] at s2;omega,by unfold qu;simp only [Rx.groupsL] at s3;omega⟩
 ·exact dR
 ·obtain⟨s1,s2,s3⟩:=nD (k:=1) gD f1 gu
  exact⟨s1,by unfold wS;omega,by unfold wS;omega⟩
theorem altR_one {x:Rx} (hs:x.small):(altR [x]).small∧(altR [x]).parts≤x.parts∧(altR [x]).groups≤x.groups:=by
 obtain⟨k1,k2,k3⟩:=sH x hs;obtain⟨k,c,ng,rs,lo,hi,lz,ks⟩:=x;have hks:=hs.1.2.2.2;have hfl:lN 1 [Rx.mk k c ng rs lo hi lz ks]=if k=1 then ks else [.mk k c ng rs lo hi lz ks]:=by by_cases hk:k=1<;>simp [lN,Rx.kind,Rx.kids,hk]
 simp only [Rx.kids] at k1 k2 k3;unfold altR;rw [hfl];by_cases h1:k=1
 ·rw [Cl h1]
  rcases ks with _|⟨y,_|⟨z,l⟩⟩
  ·obtain⟨s1,s2,s3⟩:=nD (k:=0) (l:=[]) gD trivial gF
   exact⟨s1,by show (qu []).parts≤_;unfold qu;simp only [Rx.partsL] at s2 k1;omega,by show (qu []).groups≤_;unfold qu;simp only [Rx.groupsL] at s3 k2;omega⟩
  ·simp only [Rx.partsL,Rx.groupsL] at k1 k2
   exact⟨k3.1,by show y.parts≤_;omega,by show y.groups≤_;omega⟩
  ·obtain⟨s1,s2,s3⟩:=nD (k:=1) (l:=y::z::l) gD k3 hks
   exact⟨s1,by show (wS (y::z::l)).parts≤_;unfold wS;omega,by show (wS (y::z::l)).groups≤_;unfold wS;omega⟩
 ·rw [Co h1]
  exact⟨hs,Cp _,Cp _⟩
theorem zN {r r0:List Str} {k:Int} (h:qC r=some (k,r0)):r0 <:+ r∧(k=5∨k=6):=by
 unfold qC at h;cases h1:kG [63] r with
 | none=>simp only [h1] at h;injection h with h;injection h with ha hb;subst ha hb;exact⟨C4 _,.inl rfl⟩
 | some r1 =>
  simp only [h1] at h;cases h2:kG [58] r1 with
  | none=>simp only [h2] at h;cases h
  | some r2 =>
   simp only [h2] at h;injection h with h;injection h with ha hb;subst ha hb
   exact⟨(lr h2).trans (lr h1),.inr rfl⟩
def re (pat:List Str→Nat→Res) (N:Nat):Prop:=∀(r:List Str) (d:Nat) (x:Rx) (r1:List Str),r.length≤N→pat r d=.ok (x,r1)→okC r→Fct 1 r x r1
theorem wn {pat:List Str→Nat→Res} {N:Nat} (hp:re pat N) {r r1:List Str} {d:Nat} {x:Rx} (h:pd pat r d=.ok (x,r1)) (ho:okC r) (hN:r.length≤N) :
  x.small∧x.parts+2*r1.length≤2*r.length∧x.groups+r1.count [40]≤1+r.count [40]∧r1 <:+ r:=by
 unfold pd at h;by_cases hd:16≤d
 ·rw [Cl hd] at h;cases h
 rw [Co hd] at h;cases hk:qC r with
 | none=>simp only [hk] at h;cases h
 | some y =>
  obtain⟨k,r0⟩:=y;obtain⟨k1,k2⟩:=zN hk;simp only [hk] at h;cases hx:pat r0 (d+1) with
  | error e=>simp only [hx] at h;cases h
  | ok y =>
   obtain⟨z,r2⟩:=y;simp only [hx] at h;have hl0:=ol k1;obtain⟨f1,f2,f3,f4⟩:=hp r0 (d+1) z r2 gu hx (yw k1 ho);cases ht:kG [41] r2 with
   | none=>simp only [ht] at h;cases h
   | some r3 =>
    simp only [ht] at h;injection h with h;injection h with h1 h2;subst h1 h2
    have e:=lM ht;have s3:=lr ht;have c1:=nt s3 [40];have c2:=nt k1 [40];refine⟨?_,?_,?_,(s3.trans f4).trans k1⟩
    ·simp only [grpR,Rx.small,Rx.small1,Rx.smallL];exact⟨⟨by simp,by simp,by simp,by simp⟩,f1,trivial⟩
    ·simp only [grpR,Rx.parts,Rx.partsL];rw [e,Cr] at f2;omega
    ·simp only [grpR,Rx.groups,Rx.groupsL];split<;>omega
theorem zT {pat:List Str→Nat→Res} {N:Nat} (hp:re pat N) {r r1:List Str} {d:Nat} {x:Rx} (h:od pat r d=.ok (x,r1)) (ho:okC r) (hN:r.length≤N+1) (hN2:N≤200000) :
  x.small∧x.parts+2*r1.length≤2*r.length∧x.groups+r1.count [40]≤r.count [40]∧r1 <:+ r∧r1.length<r.length∧x.parts+2*r1.length+(if x.parts=1 then 1 else 2)≤2*r.length:=by
 cases r with
 | nil=>cases h
 | cons c r =>
  have hc:=ho c (CB ..);simp only [Cr] at hN;have leaf:∀{y:Rx} {r2:List Str},Fct 0 (c::r) y r2→y.parts=1→r2.length<(c::r).length→y.small∧y.parts+2*r2.length≤2*(c::r).length∧y.groups+r2.count [40]≤(c::r).count [40]∧r2 <:+ c::r∧r2.length<(c::r).length∧y.parts+2*r2.length+(if y.parts=1 then 1 else 2)≤2*(c::r).length :=
   fun hf h1 hl=>⟨hf.1,by have:=hf.2.1;omega,hf.2.2.1,hf.2.2.2,hl,by rw [Cl h1,h1];omega⟩
  have lift:∀{y:Rx} {r2:List Str},Fct 0 r y r2→y.parts=1→r2.length≤r.length→y.small∧y.parts+2*r2.length≤2*(c::r).length∧y.groups+r2.count [40]≤(c::r).count [40]∧r2 <:+ c::r∧r2.length<(c::r).length∧y.parts+2*r2.length+(if y.parts=1 then 1 else 2)≤2*(c::r).length :=
   fun hf h1 hl=>leaf ⟨hf.1,by simp only [Cr];have:=hf.2.1;omega,by have:=hf.2.2.1;have:=nt (C3 c r) [40];omega,nM hf.2.2.2⟩ h1 gH
  simp only [od] at h;by_cases h1:c=[46]
  ·rw [Cl h1] at h;injection h with h;injection h with ha hb;subst ha hb
   exact leaf (Fct.leaf gF gF nE gD (C3 _ _) gF) rfl gF
  rw [Co h1] at h;by_cases h2:c=[40]
  ·rw [Cl h2] at h
   obtain⟨f1,f2,f3,f4⟩:=wn hp h ho.tail gu;have hlen:=ol f4;refine⟨f1,by simp;omega,?_,nM f4,by simp;omega,by simp only [Cr];split<;>omega⟩;rw [h2,List.count_cons_self];omega
  rw [Co h2] at h;by_cases h3:c=[91]
  ·rw [Cl h3] at h
   have hf:=wZ h ho.tail gu;have hp1:x.parts=1:=by
    unfold mN at h;simp only at h
    generalize lc _ _ _=q at h
    cases q with
    | none=>simp only at h;cases h
    | some y=>simp only at h;injection h with h;injection h with ha _;subst ha;rfl
   exact lift hf hp1 (ol hf.2.2.2)
  rw [Co h3] at h;by_cases h4:c=[92]
  ·rw [Cl h4] at h
   have hf:=Cg h ho.tail;have hp1:x.parts=1:=by
    cases r with
    | nil=>cases h
    | cons c2 r2 =>
     simp only [escM] at h;cases hn:nC c2 with
     | some rows=>simp only [hn] at h;injection h with h;injection h with ha _;subst ha;rfl
     | none =>
      simp only [hn] at h;cases hb:bigS c2 with
      | some rows=>simp only [hb] at h;injection h with h;injection h with ha _;subst ha;rfl
      | none =>
       simp only [hb] at h;cases hpm:l6 c2 with
       | none=>simp only [hpm] at h;cases h
       | some t=>simp only [hpm] at h;injection h with h;injection h with ha _;subst ha;rfl
   exact lift hf hp1 (ol hf.2.2.2)
  rw [Co h4] at h;by_cases h5:xE c=true
  ·rw [Cl h5] at h;cases h
  ·rw [Co h5] at h;injection h with h;injection h with ha hb;subst ha hb
   exact leaf (Fct.leaf hc.2 gF nE gD (C3 _ _) gF) rfl gF
theorem zu {r r1:List Str} {x:Rx} (h:tQ r=some (x,r1)):Fct 0 r x r1∧r1.length<r.length:=by
 cases r with
 | nil=>cases h
 | cons c r =>
  have leaf:∀(k:Int) (r2:List Str),k≠5→r2 <:+ r→Fct 0 (c::r) (rxK k) r2∧r2.length<(c::r).length:=fun k r2 hk hs =>
   ⟨Fct.leaf gF gF nE hk (nM hs) (by have:=ol hs;simp;omega),by have:=ol hs;simp;omega⟩
  simp only [tQ] at h;by_cases h1:c=[94]
  ·rw [Cl h1] at h;injection h with h;injection h with ha hb;subst ha hb;exact leaf 8 r gD (C4 _)
  rw [Co h1] at h;by_cases h2:c=[36]
  ·rw [Cl h2] at h;injection h with h;injection h with ha hb;subst ha hb;exact leaf 9 r gD (C4 _)
  rw [Co h2] at h;by_cases h3:c=[92]
  ·rw [Cl h3] at h
   cases h4:kG [98] r with
   | some r2=>simp only [h4] at h;injection h with h;injection h with ha hb;subst ha hb;exact leaf 10 r2 gD (lr h4)
   | none =>
    simp only [h4] at h;cases h5:kG [66] r with
    | some r2=>simp only [h5] at h;injection h with h;injection h with ha hb;subst ha hb;exact leaf 11 r2 gD (lr h5)
    | none=>simp only [h5] at h;cases h
  ·rw [Co h3] at h;cases h
theorem tj {pat:List Str→Nat→Res} {N:Nat} (hp:re pat N) {r r1:List Str} {d:Nat} {x:Rx} (h:o7 pat r d=.ok (x,r1)) (ho:okC r) (hN:r.length≤N+1) (hN2:N≤200000):Fct 0 r x r1∧r1.length<r.length:=by
 unfold o7 at h;cases he:tQ r with
 | some y=>simp only [he] at h;injection h with h;subst h;exact zu he
 | none =>
  simp only [he] at h;cases ha:od pat r d with
  | error e=>simp only [ha] at h;cases h
  | ok y =>
   obtain⟨z,r2⟩:=y;simp only [ha] at h;obtain⟨f1,f2,f3,f4,f5,f6⟩:=zT hp ha ho hN hN2;rcases vT h with⟨rfl,rfl⟩|⟨⟨lo,hi,lz,rfl⟩,q2,q3⟩
   ·exact⟨⟨f1,by omega,f3,f4⟩,f5⟩
   ·have c1:=nt q2 [40]
    refine⟨⟨AS f1,?_,?_,q2.trans f4⟩,by omega⟩
    ·simp only [repR,Rx.parts,Rx.partsL];omega
    ·simp only [repR,Rx.groups,Rx.groupsL];simp;omega
theorem qz {trm:List Str→Res} {N:Nat} (ht:∀(r:List Str) (x:Rx) (r1:List Str),r.length≤N→trm r=.ok (x,r1)→okC r→Fct 0 r x r1∧r1.length<r.length) (hN2:N≤200000) :
  ∀(n:Nat) (alts terms:List Rx) (r:List Str) {x:Rx} {r1:List Str},patL trm n alts terms r=.ok (x,r1)→okC r→r.length≤N→Rx.smallL alts→Rx.smallL terms→Rx.partsL alts+Rx.partsL terms+2*r.length≤450000 →
   x.small∧x.parts+2*r1.length≤2*r.length+(if alts=[] then 1+Rx.partsL terms else Rx.partsL alts+Rx.partsL terms+2)∧x.groups+r1.count [40]≤r.count [40]+Rx.groupsL alts+Rx.groupsL terms∧r1 <:+ r
 | 0,_,_,_,_,_,h,_,_,_,_,_=>by cases h
 | n+1,alts,terms,r,x,r1,h,ho,hr,ha,hm,hb=>by
  obtain⟨s1,s2,s3⟩:=qq hm gu;have hap:=lX ha (show Rx.smallL [seqR terms] from⟨s1,trivial⟩);have hpp:Rx.partsL (alts++[seqR terms])=Rx.partsL alts+(seqR terms).parts:=by rw [lL];simp only [Rx.partsL];omega
  have hgg:Rx.groupsL (alts++[seqR terms])=Rx.groupsL alts+(seqR terms).groups:=by rw [nK];simp only [Rx.groupsL];omega
  have fin:(altR (alts++[seqR terms])).small∧(altR (alts++[seqR terms])).parts≤(if alts=[] then 1+Rx.partsL terms else Rx.partsL alts+Rx.partsL terms+2)∧(altR (alts++[seqR terms])).groups≤Rx.groupsL alts+Rx.groupsL terms:=by
   by_cases hn:alts=[]
   ·subst hn
    obtain⟨o1,o2,o3⟩:=altR_one s1;rw [Cl rfl];exact⟨o1,by show (altR [seqR terms]).parts≤_;omega,by show (altR [seqR terms]).groups≤_;simp only [Rx.groupsL];omega⟩
   ·rw [Co hn]
    obtain⟨o1,o2,o3⟩:=yT hap gu;exact⟨o1,by omega,by omega⟩
  simp only [patL] at h;cases r with
  | nil =>
   simp only at h
   injection h with h;injection h with h1 h2;subst h1 h2
   exact⟨fin.1,by have:=fin.2.1;simp;omega,by have:=fin.2.2;simp;omega,C4 _⟩
  | cons c r =>
   simp only at h
   simp only [Cr] at hr hb;by_cases h1:c=[41]
   ·rw [Cl h1] at h
    injection h with h;injection h with h2 h3;subst h2 h3
    exact⟨fin.1,by have:=fin.2.1;omega,by have:=fin.2.2;omega,C4 _⟩
   rw [Co h1] at h;by_cases h2:c=[124]
   ·rw [Cl h2] at h
    obtain⟨i1,i2,i3,i4⟩:=qz ht hN2 n _ _ _ h ho.tail gu hap trivial (by rw [hpp];simp only [Rx.partsL];omega);have c1:=nt (C3 c r) [40];rw [Co gF,hpp] at i2;rw [hgg] at i3;simp only [Rx.partsL,Rx.groupsL] at i2 i3;refine⟨i1,?_,by omega,nM i4⟩;simp only [Cr];by_cases hn:alts=[]
    ·subst hn;rw [Cl rfl];simp only [Rx.partsL] at i2;omega
    ·rw [Co hn];omega
   ·rw [Co h2] at h
    cases hx:trm (c::r) with
    | error e=>simp only [hx] at h;cases h
    | ok y =>
     obtain⟨z,r2⟩:=y;simp only [hx] at h;obtain⟨⟨f1,f2,f3,f4⟩,f5⟩:=ht _ _ _ gH hx ho;simp only [Cr] at f2 f5;have hpt:Rx.partsL (terms++[z])=Rx.partsL terms+z.parts:=by rw [lL];simp only [Rx.partsL];omega
     have hgt:Rx.groupsL (terms++[z])=Rx.groupsL terms+z.groups:=by rw [nK];simp only [Rx.groupsL];omega
     obtain⟨i1,i2,i3,i4⟩:=qz ht hN2 n _ _ _ h (yw f4 ho) gu ha (lX hm ⟨f1,trivial⟩) (by rw [hpt];omega);rw [hpt] at i2;rw [hgt] at i3;refine⟨i1,?_,by omega,i4.trans f4⟩;simp only [Cr];split at i2
     ·rename_i hn;rw [Cl hn];omega
     ·rename_i hn;rw [Co hn];omega
theorem vz:∀(n:Nat),re (patF n) 200000
 | 0=>fun r d x r1 _ h _=>by cases h
 | n+1=>fun r d x r1 hr h ho=>by
  have ih:=vz n;have ht:∀(r:List Str) (x:Rx) (r1:List Str),r.length≤200000→o7 (patF n) r d=.ok (x,r1)→okC r→Fct 0 r x r1∧r1.length<r.length:=fun r x r1 hr h ho=>tj ih h ho gu gu
  obtain⟨i1,i2,i3,i4⟩:=qz ht gu _ [] [] r h ho hr trivial trivial (by simp only [Rx.partsL];omega);rw [Cl rfl] at i2;simp only [Rx.partsL,Rx.groupsL] at i2 i3;exact⟨i1,by omega,by omega,i4⟩
open Go.RowKit
def SortC:Prop:=∀(B g cap N:Nat) (rs:List Row) (w:World),RO w B g cap rs→rs.length=N→N≤1000000 →
  Calls Tryz.prog 185 #[.slice (some ⟨g,0,none⟩) N cap,.func (.func 186) #[] #[]] w fun e w'=>e=.returned (.tuple #[])∧RO w' B g cap (stL rs)∧w.grownBy w' (some g)
theorem AF (hst:SortC) (a:Option Addr) (n c:Nat) (rs:List Row) (w:World) (h:Sl w w.heap.size a 2 n (jX rs)) (hn:n≤1000000) (hlen:∀r∈rs,r.1.length≤100000000∧r.2.length≤100000000) :
  Calls Tryz.prog 166 #[.slice a n c] w fun e w'=>∃a' c',e=.returned (.slice a' (mq rs).length c')∧SlS w' (fun b=>w.heap.size≤b) a' 2 (mq rs).length (jX (mq rs))∧Below w.heap.size w w':=by
 obtain rfl:=h.row_len;obtain⟨ir,hir⟩:=info_parts mm;obtain⟨us,hus⟩:∃us,mq rs=us:=⟨_,rfl⟩;rw [hus];have HUS0:=ab hus;clear hus;have HS:=ab h;have HLEN:=ab hlen;have HST:=ab hst;clear h hlen hst;go_enter Tryz.func166,Tryz.ntmps166
 go_wp2
 go_loopw [3,12] (fun v q wr=>U1Rel rs w v q wr) (fun _ q _=>rs.length-(intOf q).toNat)
 case atStart=>exact⟨0,by omega,rfl,Below.refl _ _,by rw [List.take_zero];exact World.ownsRow_nil _ _ _ _⟩
 case round =>
  obtain⟨i,hil,rfl,hb,hown⟩:=hrel;have hB:=hb.size;cases hi:rs[i]? with
  | none =>
   have h2:rs.length≤i:=by simpa using hi
   obtain rfl:i=rs.length:=gu;rw [List.take_length] at hown;obtain⟨fl,hFL⟩:∃fl,filR rs=fl:=⟨_,rfl⟩;have hfl:fl.length≤rs.length:=by rw [←hFL];exact tt rs
   rw [hFL] at hown;obtain⟨ss,hss⟩:∃ss,stL fl=ss:=⟨_,rfl⟩;have hsl:ss.length=fl.length:=by rw [←hss];exact Ac fl
   have HUS:Hid (mrgL ss=us):=ab (by rw [←HUS0.out,mq,hFL,hss])
   -- the sort
   have hsort:∃(va:Option Addr) (vc:Nat),u3=.slice va fl.length vc∧Calls Tryz.prog 185 #[.slice va fl.length vc,.func (.func 186) #[] #[]] wr fun e w'=>e=.returned (.tuple #[])∧Below w.heap.size w w'∧SlS w' (fun b=>b<w'.heap.size) va 2 ss.length (jX ss):=by
    rcases hown.2 with⟨rfl,hn0⟩|⟨g,cap,cur,rfl,_,_,_,_,_,_⟩
    ·have h0:fl=[]:=Cm hn0
     subst h0;have hs0:ss=[]:=Cm (by simpa using hsl);subst hs0;refine⟨none,0,rfl,(sx wr).mono ?_⟩;rintro e w2 ⟨rfl,rfl⟩;exact⟨rfl,hb,SlS.none_ _ _ _ _⟩
    ·refine⟨_,_,rfl,(HST.out w.heap.size g cap fl.length fl wr hown rfl gu).mono ?_⟩
     rintro e w2 ⟨rfl,hro2,hg2⟩;rw [hss] at hro2;exact⟨rfl,(hb.trans ((Below.refl w.heap.size wr).grown hg2 hB fun k hk=>(hown.lt k hk).1)),(mQ hro2).mono fun b _ h=>h⟩
   obtain⟨va,vc,rfl,hrun⟩:=hsort;have HRUN:=ab hrun;clear hrun hown hi hss HST HUS0 HS HLEN hFL;go_wp2_with (go_at_call 185;refine HRUN.out.mono ?_)
   rintro e ws ⟨rfl,hbs,hsls⟩;have HSL:=ab hsls;clear HRUN hsls hb hB hil h2;go_wp2
   go_loopw [6,27] (fun v q wr=>U2Rel ss va w v q wr) (fun _ q _=>ss.length-(intOf q).toNat)
   case atStart=>exact⟨0,by omega,rfl,hbs,by rw [List.take_zero];exact World.ownsRow_nil _ _ _ _,HSL.out.mono fun b _ _=>by simp [Value.ownBlock]⟩
   case round =>
    obtain⟨i,hil,rfl,hb,hown,hsl2⟩:=hrel;have hB:=hb.size;cases hi:ss[i]? with
    | none =>
     have h2:ss.length≤i:=by simpa using hi
     obtain rfl:i=ss.length:=gu;rw [List.take_length,HUS.out] at hown;obtain⟨xa,xc,rfl⟩:=j7 hown;have HOWN:=ab hown;clear hown hsl2 HSL;go_wp2
     go_ret
     exact⟨xa,xc,rfl,mQ HOWN.out,hb⟩
    | some r =>
     have hi2:=(Cq.1 hi).1;have hMT:=Ca hi;have hml:=yC (ss.take i);rw [CK] at hml;obtain⟨b,o,rfl,hbB,c0,c1⟩:=hsl2.sl.row hi;obtain⟨rf,rt⟩:=r;generalize hML:mrgL (ss.take i)=ml at *
     have hb0:Below wr.heap.size wr (wr.alloc (.cells #[.string ⟨rf.toArray⟩,.string ⟨rt.toArray⟩] 72)):=(Below.refl _ _).alloc (Cp _) _;have ho1:=jZ hown hb0;have hs1:=hsl2.keep (Kept.all hb0);have hbw1:=hb.trans (hb0.mono hB);have hbx:=heap_alloc_new wr (.cells #[.string ⟨rf.toArray⟩,.string ⟨rt.toArray⟩] 72);have e0:(wr.alloc (.cells #[.string ⟨rf.toArray⟩,.string ⟨rt.toArray⟩] 72)).cell? ⟨wr.heap.size,0,none⟩=some (.string ⟨rf.toArray⟩):=by unfold World.cell?;rw [hbx];rfl
     have e1:(wr.alloc (.cells #[.string ⟨rf.toArray⟩,.string ⟨rt.toArray⟩] 72)).cell? ⟨wr.heap.size,1,none⟩=some (.string ⟨rt.toArray⟩):=by unfold World.cell?;rw [hbx];rfl
     have HO1:=ab ho1;have HS1:=ab hs1;have HMT:=ab hMT;clear hMT hML hb0 hi hbx hs1;rcases sV ml with rfl|⟨B,q,rfl⟩
     ·have hv:u6=.slice none 0 0∨True:=.inr trivial
      obtain⟨xa,xc,rfl⟩:=j7 hown;clear ho1 hown hv;simp only [CW] at *;have hgd:decide ((-1:Int) ≥ 0)=false:=rfl;have hgd2:decide ((0:Int)≤-1)=false:=rfl;go_wp2
      go_quiet (fail)
      obtain⟨w1,hw1⟩:∃w1,w1=(wr.alloc (.cells #[.string ⟨rf.toArray⟩,.string ⟨rt.toArray⟩] 72)).drewN nq:=⟨_,rfl⟩;rw [←hw1];have hbq:Below (wr.alloc (.cells #[.string ⟨rf.toArray⟩,.string ⟨rt.toArray⟩] 72)).heap.size (wr.alloc (.cells #[.string ⟨rf.toArray⟩,.string ⟨rt.toArray⟩] 72)) w1:=by rw [hw1];exact below_drewN (Below.refl _ _) _
      have ho2:=jZ HO1.out hbq;have hs2:=HS1.out.keep (Kept.all hbq);have hz1:=hbq.size;rw [CL] at hz1;have hbw1:=hbw1.trans (hbq.mono jE);have f0:=jP hbq _ _ e0;have f1:=jP hbq _ _ e1;clear e0 e1 hw1;have hb3:Below w1.heap.size w1 (w1.alloc (.cells #[.string ⟨rf.toArray⟩,.string ⟨rt.toArray⟩] 72)):=(Below.refl _ _).alloc (Cp _) _;have HO3:=ab (jZ ho2 hb3);have HS3:=ab (hs2.keep (Kept.all hb3));have HLIT:=ab (Sl.lit (n:=1) (sz:=2) (heap_alloc_new w1 (.cells #[.string ⟨rf.toArray⟩,.string ⟨rt.toArray⟩] 72)) rfl);have hz3:w.heap.size≤(w1.alloc (.cells #[.string ⟨rf.toArray⟩,.string ⟨rt.toArray⟩] 72)).heap.size:=by simp only [CL];omega
      have hbw3:=hbw1.alloc gu (.cells #[.string ⟨rf.toArray⟩,.string ⟨rt.toArray⟩] 72);clear ho2 hs2;go_wp2_with (at_builtin;refine ke w.heap.size 72 rfl _ _ 22 rfl Tryz.underlying22 hir rfl gD rfl HO3.out rfl HLIT.out (lW [(rf,rt)]) gu gu gD hz3 ?_)
      intro v1 w4 ho4 hg4 hb4 hmv;have hs4:=Aq HS3.out hg4 hmv;have hb4':=hbw3.trans hb4;have ho5:w4.ownsRow w.heap.size 72 2 v1 (mrgL (ss.take (i+1))).length (jX (mrgL (ss.take (i+1)))):=by
       rw [HMT.out,yI];exact ho4
      exact dC
     ·rw [Cy,List.length_singleton] at hml
      have hnl:(B++[q]).length=B.length+1:=gF;rw [hnl] at hown ho1 HO1;rcases hown.2 with⟨rfl,hn0⟩|⟨g,cap,cur,rfl,_,_,_,_,_,_⟩
      ·exact absurd hn0 gu
      obtain⟨q1,q2⟩:=q;obtain⟨d0,d1,hfr⟩:=own_at ho1;have hgw:=(ho1.lt g rfl);cases hle:leS rf q2 with
      | true =>
       have hgd:decide ((0:Int)≤B.length)=true:=gF;clear hown ho1;go_wp2
       go_quiet (fail)
       obtain⟨w1,hw1⟩:∃w1,w1=(wr.alloc (.cells #[.string ⟨rf.toArray⟩,.string ⟨rt.toArray⟩] 72)).drewN nq:=⟨_,rfl⟩;rw [←hw1];have hbq:Below (wr.alloc (.cells #[.string ⟨rf.toArray⟩,.string ⟨rt.toArray⟩] 72)).heap.size (wr.alloc (.cells #[.string ⟨rf.toArray⟩,.string ⟨rt.toArray⟩] 72)) w1:=by rw [hw1];exact below_drewN (Below.refl _ _) _
       have ho2:=jZ HO1.out hbq;have hs2:=HS1.out.keep (Kept.all hbq);have hz1:=hbq.size;rw [CL] at hz1;have hbw1:=hbw1.trans (hbq.mono jE);have f0:=jP hbq _ _ e0;have f1:=jP hbq _ _ e1;clear e0 e1 hw1;obtain⟨m0,m1,mfr⟩:=own_at ho2;have hmx:=fun(w:World) (ts:Array TypeId) (t:TypeId) (x y:Str)=>Bu (P:=Tryz.prog) w ts t x y
       have HMT2:=ab (HMT.out.trans (Bi (r:=(rf,rt)) hle));have HO5:=ab (Ad ho2 (mxS q2 rt));have HS5:=ab (hs2.keep (Kept.setLow (a:=⟨g,B.length*2+1,none⟩) (.string ⟨(mxS q2 rt).toArray⟩) (fun b hb e=>hb (by simp [Value.ownBlock,e]))));have HB5:Hid (Below w.heap.size w (w1.setCell ⟨g,B.length*2+1,none⟩ (.string ⟨(mxS q2 rt).toArray⟩))):=ab (hbw1.setCell hgw.1 _);clear ho2 hs2 HMT hgd hle d0 d1;go_wp2
       go_region
       go_wp2
       refine⟨⟨i+1,by omega,by go_num,?_,?_,?_⟩,by simp [intOf];omega⟩
       ·first|exact HB5.out.drew|exact below_drew HB5.out|exact below_drewN HB5.out 1
       ·have e5:(mrgL (ss.take (i+1))).length=B.length+1:=by rw [HMT2.out];simp
        rw [e5,HMT2.out];exact HO5.out
       ·exact HS5.out
      | false =>
       have HMF:=ab (HMT.out.trans (A4 (r:=(rf,rt)) hle));have hgd:decide ((0:Int)≤B.length)=true:=gF;clear hown ho1 HMT;go_wp2
       go_quiet (fail)
       obtain⟨w1,hw1⟩:∃w1,w1=(wr.alloc (.cells #[.string ⟨rf.toArray⟩,.string ⟨rt.toArray⟩] 72)).drewN nq:=⟨_,rfl⟩;rw [←hw1];have hbq:Below (wr.alloc (.cells #[.string ⟨rf.toArray⟩,.string ⟨rt.toArray⟩] 72)).heap.size (wr.alloc (.cells #[.string ⟨rf.toArray⟩,.string ⟨rt.toArray⟩] 72)) w1:=by rw [hw1];exact below_drewN (Below.refl _ _) _
       have ho2:=jZ HO1.out hbq;have hs2:=HS1.out.keep (Kept.all hbq);have hz1:=hbq.size;rw [CL] at hz1;have hbw1:=hbw1.trans (hbq.mono jE);have f0:=jP hbq _ _ e0;have f1:=jP hbq _ _ e1;clear e0 e1 hw1;have hb3:Below w1.heap.size w1 (w1.alloc (.cells #[.string ⟨rf.toArray⟩,.string ⟨rt.toArray⟩] 72)):=(Below.refl _ _).alloc (Cp _) _;have HO3:=ab (jZ ho2 hb3);have HS3:=ab (hs2.keep (Kept.all hb3));have HLIT:=ab (Sl.lit (n:=1) (sz:=2) (heap_alloc_new w1 (.cells #[.string ⟨rf.toArray⟩,.string ⟨rt.toArray⟩] 72)) rfl);have hz3:w.heap.size≤(w1.alloc (.cells #[.string ⟨rf.toArray⟩,.string ⟨rt.toArray⟩] 72)).heap.size:=by simp only [CL];omega
       have hbw3:=hbw1.alloc gu (.cells #[.string ⟨rf.toArray⟩,.string ⟨rt.toArray⟩] 72);clear ho2 hs2;go_wp2_with (at_builtin;refine ke w.heap.size 72 rfl _ _ 22 rfl Tryz.underlying22 hir rfl gD rfl HO3.out rfl HLIT.out (lW [(rf,rt)]) gu gu gD hz3 ?_)
       intro v1 w4 ho4 hg4 hb4 hmv;have hs4:=Aq HS3.out hg4 hmv;have hb4':=hbw3.trans hb4;have ho5:w4.ownsRow w.heap.size 72 2 v1 (mrgL (ss.take (i+1))).length (jX (mrgL (ss.take (i+1)))):=by
        rw [HMF.out,nO,Cy,Cy];exact ho4
       exact dC
  | some r =>
   have hi2:=(Cq.1 hi).1;have hFT:=AE hi;have hfl:=tt (rs.take i);rw [CK] at hfl;obtain⟨hr1,hr2⟩:=HLEN.out r (CF hi);obtain⟨rf,rt⟩:=r;obtain⟨b,o,rfl,hbB,c0,c1⟩:=HS.out.row hi;have k0:=jP hb _ _ c0;have k1:=jP hb _ _ c1;obtain⟨w0,hw0⟩:∃w0,w0=wr.alloc (.cells #[.string ⟨rf.toArray⟩,.string ⟨rt.toArray⟩] 72):=⟨_,rfl⟩;have hb0:Below wr.heap.size wr w0:=by rw [hw0];exact(Below.refl _ _).alloc (Cp _) _
   have hbx0:w0.heap[wr.heap.size]?=some (.cells #[.string ⟨rf.toArray⟩,.string ⟨rt.toArray⟩] 72 (0,0)):=by rw [hw0];exact heap_alloc_new wr _
   have hz0:w0.heap.size=wr.heap.size+1:=by rw [hw0];simp
   generalize hFL:filR (rs.take i)=fl at *
   have HOWN:=ab hown;have HW0:=ab hw0;have HBX:=ab hbx0;clear hown hw0 hbx0 c0 c1;go_wp2_with (go_at_call 148;refine(Av _ _ _ hr1 hr2).mono ?_)
   first|rintro e w1 rfl hb1|rintro e w1 ⟨rfl,hb1⟩
   rw [←HW0.out] at hb1;rw [←hz0] at hb1;have hb1':=bel2 hb0 hb1;have hz1:=hb1.size;have hbx1:=(hb1.block _ (jO HBX.out)).trans HBX.out;have e0:w1.cell? ⟨wr.heap.size,0,none⟩=some (.string ⟨rf.toArray⟩):=by unfold World.cell?;rw [hbx1];rfl
   have e1:w1.cell? ⟨wr.heap.size,1,none⟩=some (.string ⟨rt.toArray⟩):=by unfold World.cell?;rw [hbx1];rfl
   have HO1:=ab (jZ HOWN.out hb1');clear hbx1;cases hrow:rowB (rf,rt) with
   | false =>
    rw [hrow] at hFT;have HFT:=ab hFT;clear hFT hFL;go_wp2
    go_roundw
    case rel=>exact⟨i+1,by omega,by go_num,hb.trans (hb1'.mono hB),by rw [HFT.out];simpa using HO1.out⟩
    case measure=>simp [intOf];omega
   | true =>
    rw [hrow] at hFT;have HFT:=ab hFT;clear hFT hFL;have hb2:Below w1.heap.size w1 (w1.alloc (.cells #[.string ⟨rf.toArray⟩,.string ⟨rt.toArray⟩] 72)):=(Below.refl _ _).alloc (Cp _) _;have HO2:=ab (jZ HO1.out hb2);have HSL:=ab (Sl.lit (n:=1) (sz:=2) (heap_alloc_new w1 (.cells #[.string ⟨rf.toArray⟩,.string ⟨rt.toArray⟩] 72)) rfl);have hz2:w.heap.size≤(w1.alloc (.cells #[.string ⟨rf.toArray⟩,.string ⟨rt.toArray⟩] 72)).heap.size:=by rw [CL];omega
    have hbw2:=(hb.trans (hb1'.mono hB)).alloc gu (.cells #[.string ⟨rf.toArray⟩,.string ⟨rt.toArray⟩] 72);go_wp2_with (at_builtin;refine ke w.heap.size 72 rfl _ _ 22 rfl Tryz.underlying22 hir rfl gD rfl HO2.out rfl HSL.out (lW [(rf,rt)]) gu gu gD hz2 ?_)
    intro v1 w4 ho1 hg1 hb4 hmv;have ho4:w4.ownsRow w.heap.size 72 2 v1 (filR (rs.take (i+1))).length (jX (filR (rs.take (i+1)))):=by
     rw [HFT.out,Cl trivial,nO,Cy];exact ho1
    have hb4':=hbw2.trans hb4;clear ho1 hg1 hmv;go_wp2
    go_roundw
    case rel=>exact⟨i+1,by omega,by go_num,hb4',ho4⟩
    case measure=>simp [intOf];omega
end Go.Proofs.YtjggmmaojklmpaaGreat
