/- What rxread reads is of a size that a machine bears; how many parts and groups it has. · What rxread reads: facts of the whole (patF). -/
import Derived.Test.YtdcnncgpomcaaaaGreatDoorSc13
set_option maxRecDepth 100000
set_option maxHeartbeats 4000000
namespace Go.Proofs.YtdcnncgpomcaaaaGreatDoor
theorem nf {r r1:List Str} (h:r1 <:+ r) (ho:okC r):okC r1:=fun p hp=>ho p (h.subset hp)
theorem lV {c:Str} {r r1:List Str} (h:r1 <:+ r):r1 <:+ c::r:=h.trans (IL _ _)
theorem md {c:Str} {r r1:List Str} (h:kN c r=some r1):r1 <:+ r:=by rw [mi h];exact IL _ _
theorem B7 {r r1:List Str} {c:Str} {nm:List Row} (h:nv r=some (c,nm,r1)):r1 <:+ r:=by
 cases r with
 | nil=>cases h
 | cons p r =>
  simp only [nv] at h;by_cases h1:p=[93]
  ·rw [Hu h1] at h;cases h
  rw [Hx h1] at h;by_cases h2:p=[92]
  ·rw [Hu h2] at h
   cases r with
   | nil=>cases h
   | cons c2 r2 =>
    simp only at h
    cases hn:mS c2 with
    | some rows =>
     simp only [hn] at h;exact dP
    | none =>
     simp only [hn] at h;cases hpm:mj c2 with
     | none=>exact fO
     | some t =>
      simp only [hpm] at h;exact dP
  ·rw [Hx h2] at h
   injection h with h;injection h with h3 h;injection h with h4 h5
   subst h5;exact IL _ _
def nF (rows:List Row):Prop:=∀q∈rows,q.1.length≤1000000∧q.2.length≤1000000
theorem pF {c t:Str} (h1:c.length≤1000000) (h2:t.length≤1000000):nF [(c,t)]:=by
 intro q hq;rw [IC] at hq;subst hq;exact⟨h1,h2⟩
theorem pg {a b:List Row} (h1:nF a) (h2:nF b):nF (a++b):=by
 intro q hq;rcases IB.1 hq with h|h
 ·exact h1 q h
 ·exact h2 q h
theorem oe:∀(n:Nat) (rows:List Row) (r:List Str) {rows':List Row} {r1:List Str},ly n rows r=some (rows',r1)→okC r→nF rows →
  r1 <:+ r∧r1.length<r.length∧rows'.length≤rows.length+4*r.length∧nF rows'
 | 0,_,_,_,_,h,_,_=>by cases h
 | n+1,rows,r,rows',r1,h,ho,hr=>by
  simp only [ly] at h;cases ht:kN [93] r with
  | some r0 =>
   simp only [ht] at h;injection h with h;injection h with h1 h2
   subst h1 h2;have e:=mi ht;exact⟨md ht,by rw [e];simp,by omega,hr⟩
  | none =>
   simp only [ht] at h;cases hi:nv r with
   | none=>simp only [hi] at h;cases h
   | some y =>
    obtain⟨c,nm,r2⟩:=y;simp only [hi] at h;obtain⟨f1,f2,f3,f4,f5⟩:=rl hi ho;have fs:=B7 hi;by_cases hnm:nm≠[]
    ·rw [Hu hnm] at h
     obtain⟨g1,g2,g3,g4⟩:=oe n _ _ h f5 (pg hr f4);rw [Ig] at g3;exact⟨g1.trans fs,by omega,by omega,g4⟩
    ·rw [Hx hnm] at h
     have one:∀{rr:List Str},ly n (rows++[(c,c)]) rr=some (rows',r1)→okC rr→rr <:+ r→rr.length<r.length→r1 <:+ r∧r1.length<r.length∧rows'.length≤rows.length+4*r.length∧nF rows':=by
      intro rr h hoo hs hl;obtain⟨g1,g2,g3,g4⟩:=oe n _ _ h hoo (pg hr (pF f3 f3));rw [Ig,List.length_singleton] at g3;exact⟨g1.trans hs,by omega,by omega,g4⟩
     cases ht2:kN [45] r2 with
     | none=>simp only [ht2] at h;exact one h f5 fs f1
     | some r3 =>
      simp only [ht2] at h;by_cases ht3:kN [93] r3=none
      ·rw [Hu ht3] at h
       cases hi2:nv r3 with
       | none=>simp only [hi2] at h;cases h
       | some y =>
        obtain⟨t,nm2,r4⟩:=y;simp only [hi2] at h;have hs3:=md ht2;have e3:=mi ht2;obtain⟨k1,k2,k3,k4,k5⟩:=rl hi2 (nf hs3 f5);have ks:=B7 hi2;by_cases hb:nm2≠[]∨Op.bytesLess t c=true
        ·rw [Hu hb] at h;cases h
        ·rw [Hx hb] at h
         obtain⟨g1,g2,g3,g4⟩:=oe n _ _ h k5 (pg hr (pF f3 k3));rw [Ig,List.length_singleton] at g3;have:r3.length<r2.length:=by rw [e3];simp
         exact⟨((g1.trans ks).trans hs3).trans fs,by omega,by omega,g4⟩
      ·rw [Hx ht3] at h;exact one h f5 fs f1
theorem mrgS_ok {out:List Row} {r:Row} (h1:nF out) (h2:r.1.length≤1000000∧r.2.length≤1000000):nF (mrgS out r):=by
 rcases List.eq_nil_or_concat out with rfl|⟨B,q,rfl⟩
 ·rw [tQ];exact pF h2.1 h2.2
 ·rw [List.concat_eq_append] at h1 ⊢
  have hB:nF B:=fun x hx=>h1 x (List.mem_append_left _ hx)
  have hq:=h1 q gz;cases hl:leS r.1 q.2 with
  | true =>
   rw [yp hl];refine pg hB (pF hq.1 ?_);unfold mxS;by_cases hm:Op.bytesLess q.2 r.2=true
   ·rw [Hu hm];exact h2.2
   ·rw [Hx hm];exact hq.2
  | false =>
   rw [uq hl];exact pg h1 (pF h2.1 h2.2)
theorem union_ok {rows:List Row} (h:nF rows):nF (mJ rows)∧(mJ rows).length≤rows.length:=by
 have h1:nF (stL (filR rows)):=fun q hq=>h q ((List.mem_filter.1 ((ru _).1.mem_iff.1 hq)).1)
 refine⟨?_,?_⟩
 ·unfold mJ mrgL
  have key:∀(l out:List Row),nF l→nF out→nF (l.foldl mrgS out):=by
   intro l;induction l with
   | nil=>intro out _ h;exact h
   | cons r l ih =>
    intro out h1 h2;exact ih _ (fun q hq=>h1 q (Il _ hq)) (mrgS_ok h2 (h1 r (Ik ..)))
  exact key _ _ h1 (by intro q hq;cases hq)
 ·unfold mJ
  have e1:=De (stL (filR rows));have e2:=ET (filR rows);have e3:=yd rows;omega
def Fct (b:Nat) (r:List Str) (x:Rx) (r1:List Str):Prop :=
 x.small∧x.parts+2*r1.length≤2*r.length+b∧x.groups+r1.count [40]≤r.count [40]∧r1 <:+ r
theorem pB {r r1:List Str} (h:r1 <:+ r) (c:Str):r1.count c≤r.count c:=h.sublist.count_le c
theorem mq {r r1:List Str} (h:r1 <:+ r):r1.length≤r.length:=h.length_le
theorem Dh {k:Int} {c:Str} {ng:Bool} {rs:List Row} {lo hi:Int} {lz:Bool} (h1:c.length≤1000000) (h2:rs.length≤1000000) (h3:nF rs):(Rx.mk k c ng rs lo hi lz []).small:=by
 simp only [Rx.small,Rx.small1,Rx.smallL];exact⟨⟨h1,h2,h3,by simp⟩,trivial⟩
theorem Fct.leaf {k:Int} {c:Str} {ng:Bool} {rs:List Row} {lo hi:Int} {lz:Bool} {b:Nat} {r r1:List Str} (h1:c.length≤1000000) (h2:rs.length≤1000000) (h3:nF rs) (hk:k≠5) (hs:r1 <:+ r) (hl:r1.length<r.length):Fct b r (.mk k c ng rs lo hi lz []) r1:=by
 refine⟨Dh h1 h2 h3,?_,?_,hs⟩
 ·simp only [Rx.parts,Rx.partsL];omega
 ·simp only [Rx.groups,Rx.groupsL,Hx hk];have:=pB hs [40];omega
theorem oH:nF []:=fun _ h=>by cases h
theorem Fx {r r1:List Str} {x:Rx} (h:escM r=.ok (x,r1)) (ho:okC r):Fct 0 r x r1:=by
 cases r with
 | nil=>cases h
 | cons c r =>
  have hc:=ho c (Ik ..);have big:∀b,Fct 0 (c::r) (setR (lQ b) true) r:=fun b=>Fct.leaf gz (by have:=(oI b).1;omega) (oI b).2 gv (IL _ _) gz
  simp only [escM] at h;cases hn:mS c with
  | some rows =>
   obtain⟨b,rfl,_,rfl⟩:=oT hn;simp only [hn] at h;injection h with h;injection h with h1 h2;subst h1 h2
   exact Fct.leaf gz (by have:=(oI b).1;omega) (oI b).2 gv (IL _ _) gz
  | none =>
   simp only [hn] at h;cases hb:bigS c with
   | some rows =>
    simp only [hb] at h;injection h with h;injection h with h1 h2;subst h1 h2
    unfold bigS at hb;by_cases g1:c=[68]
    ·rw [Hu g1] at hb;injection hb with hb;rw [←hb];exact big _
    rw [Hx g1] at hb;by_cases g2:c=[87]
    ·rw [Hu g2] at hb;injection hb with hb;rw [←hb];exact big _
    rw [Hx g2] at hb;by_cases g3:c=[83]
    ·rw [Hu g3] at hb;injection hb with hb;rw [←hb];exact big _
    rw [Hx g3] at hb;cases hb
   | none =>
    simp only [hb] at h;cases hp:mj c with
    | none=>simp only [hp] at h;cases h
    | some t =>
     simp only [hp] at h;injection h with h;injection h with h1 h2;subst h1 h2
     exact Fct.leaf (by have:=ri hp;omega) gz oH gv (IL _ _) gz
theorem BL {r r1:List Str} {x:Rx} (h:mx r=.ok (x,r1)) (ho:okC r) (hl:r.length≤200000):Fct 0 r x r1:=by
 have hsx:((kN [94] r).getD r) <:+ r:=by
  exact cR
 unfold mx at h;generalize (kN [94] r).isSome=ng at h
 generalize (kN [94] r).getD r=r0 at h hsx
 simp only at h
 cases hc:ly (r0.length+1) [] r0 with
 | none=>simp only [hc] at h;cases h
 | some y =>
  obtain⟨rows,r2⟩:=y;simp only [hc] at h;injection h with h;injection h with h1 h2;subst h1 h2
  obtain⟨g1,g2,g3,g4⟩:=oe _ _ _ hc (nf hsx ho) oH;have hl0:=mq hsx;have hu:=union_ok g4;exact Fct.leaf gz (by simp at g3;omega) hu.1 gv (g1.trans hsx) gj
theorem xZ:∀(r:List Str) (k n:Nat) {m:Nat} {r1:List Str},numL k n r=some (m,r1)→r1 <:+ r
 | [],k,n,m,r1,h=>by
  unfold numL at h;exact cl
 | c::r,k,n,m,r1,h=>by
  unfold numL at h;split at h
  ·split at h
   ·cases h
   ·exact lV (xZ r _ _ h)
  ·exact cl
theorem wL {r r1:List Str} {lo hi:Int} (h:me r=some (lo,hi,r1)):r1 <:+ r:=by
 unfold me at h;cases h1:numL 0 0 r with
 | none=>simp only [h1] at h;cases h
 | some y =>
  obtain⟨a,s1⟩:=y;have e1:=xZ _ _ _ h1;simp only [h1] at h;cases h2:kN [125] s1 with
  | some s2 =>
   simp only [h2] at h;injection h with h;injection h with _ h;injection h with _ h;subst h
   exact(md h2).trans e1
  | none =>
   simp only [h2] at h;cases h3:kN [44] s1 with
   | none=>simp only [h3] at h;cases h
   | some s2 =>
    simp only [h3] at h;have e2:=(md h3).trans e1;cases h4:kN [125] s2 with
    | some s3 =>
     simp only [h4] at h;injection h with h;injection h with _ h;injection h with _ h;subst h
     exact(md h4).trans e2
    | none =>
     simp only [h4] at h;cases h5:numL 0 0 s2 with
     | none=>exact cY
     | some y =>
      obtain⟨b,s3⟩:=y;have e3:=(xZ _ _ _ h5).trans e2;simp only [h5] at h;split at h
      ·cases h6:kN [125] s3 with
       | none=>simp only [h6] at h;cases h
       | some s4 =>
        simp only [h6] at h;injection h with h;injection h with _ h;injection h with _ h;subst h
        exact(md h6).trans e3
      ·cases h
theorem FL {lo hi:Int} {lz:Bool} {x:Rx} (h:x.small):(repR lo hi lz x).small:=by
 simp only [repR,Rx.small,Rx.small1,Rx.smallL];exact⟨⟨by simp,by simp,by simp,by simp⟩,h,trivial⟩
theorem wX {x y:Rx} {lo hi:Int} {r r1:List Str} (h:qo x lo hi r=(y,r1)):(∃lz,y=repR lo hi lz x)∧r1 <:+ r:=by
 unfold qo at h;cases ht:kN [63] r with
 | some r2=>simp only [ht] at h;injection h with h1 h2;subst h1 h2;exact⟨⟨_,rfl⟩,md ht⟩
 | none=>simp only [ht] at h;injection h with h1 h2;subst h1 h2;exact⟨⟨_,rfl⟩,IM _⟩
theorem qe {x y:Rx} {r r1:List Str} (h:lJ x r=.ok (y,r1)):(y=x∧r1=r)∨((∃lo hi lz,y=repR lo hi lz x)∧r1 <:+ r∧r1.length<r.length):=by
 cases r with
 | nil=>simp only [lJ] at h;injection h with h;injection h with h1 h2;exact .inl ⟨h1.symm,h2.symm⟩
 | cons c r =>
  simp only [lJ] at h;have key:∀{lo hi:Int} {r2:List Str},Except.ok (qo x lo hi r2)=(Except.ok (y,r1):Res)→r2 <:+ r→(y=x∧r1=c::r)∨((∃lo hi lz,y=repR lo hi lz x)∧r1 <:+ c::r∧r1.length<(c::r).length):=by
   intro lo hi r2 h hs;injection h with h
   obtain⟨⟨lz,h1⟩,h2⟩:=wX h;have h3:=h2.trans hs;have:=mq h3
   exact .inr ⟨⟨lo,hi,lz,h1⟩,lV h3,by simp;omega⟩
  by_cases h1:c=[42]
  ·rw [Hu h1] at h;exact key h (IM _)
  rw [Hx h1] at h;by_cases h2:c=[43]
  ·rw [Hu h2] at h;exact key h (IM _)
  rw [Hx h2] at h;by_cases h3:c=[63]
  ·rw [Hu h3] at h;exact key h (IM _)
  rw [Hx h3] at h;by_cases h4:c=[123]
  ·rw [Hu h4] at h
   cases hb:me r with
   | none=>simp only [hb] at h;cases h
   | some z =>
    obtain⟨lo,hi,r2⟩:=z;simp only [hb] at h;exact key h (wL hb)
  ·rw [Hx h4] at h
   injection h with h;injection h with h5 h6
   exact .inl ⟨h5.symm,h6.symm⟩
theorem partsL_app:∀(a b:List Rx),Rx.partsL (a++b)=Rx.partsL a+Rx.partsL b
 | [],b=>by simp [Rx.partsL]
 | x::a,b=>by simp only [IA,Rx.partsL,partsL_app a b];omega
theorem pY:∀(a b:List Rx),Rx.groupsL (a++b)=Rx.groupsL a+Rx.groupsL b
 | [],b=>by simp [Rx.groupsL]
 | x::a,b=>by simp only [IA,Rx.groupsL,pY a b];omega
theorem smallL_app:∀{a b:List Rx},Rx.smallL a→Rx.smallL b→Rx.smallL (a++b)
 | [],_,_,h=>h
 | _::_,_,h1,h2=>⟨h1.1,smallL_app h1.2 h2⟩
theorem pz (kd:Int) (x:Rx) (xs:List Rx):lR kd (x::xs)=(if x.kind=kd then x.kids else [x])++lR kd xs:=by simp [lR]
theorem wO (x:Rx) (hs:x.small):Rx.partsL x.kids+1=x.parts∧Rx.groupsL x.kids≤x.groups∧Rx.smallL x.kids:=by
 obtain⟨k,c,ng,rs,lo,hi,lz,ks⟩:=x;simp only [Rx.kids,Rx.parts,Rx.groups];exact⟨by omega,by omega,hs.2⟩
theorem tu (kd:Int):∀{xs:List Rx},Rx.smallL xs→Rx.smallL (lR kd xs)∧Rx.partsL (lR kd xs)≤Rx.partsL xs∧Rx.groupsL (lR kd xs)≤Rx.groupsL xs
 | [],_=>⟨trivial,Ia _,Ia _⟩
 | x::xs,h=>by
  obtain⟨i1,i2,i3⟩:=tu kd h.2;obtain⟨k1,k2,k3⟩:=wO x h.1;rw [pz,partsL_app,pY];simp only [Rx.partsL,Rx.groupsL];by_cases hk:x.kind=kd
  ·rw [Hu hk];exact⟨smallL_app k3 i1,by omega,by omega⟩
  ·rw [Hx hk];exact⟨smallL_app ⟨h.1,trivial⟩ i1,by simp only [Rx.partsL];omega,by simp only [Rx.groupsL];omega⟩
theorem pe {k:Int} (hk:k≠5) {l:List Rx} (h:Rx.smallL l) (hl:l.length≤1000000):(Rx.mk k [] false [] 0 0 false l).small∧(Rx.mk k [] false [] 0 0 false l).parts=1+Rx.partsL l∧(Rx.mk k [] false [] 0 0 false l).groups=Rx.groupsL l:=by
 simp only [Rx.small,Rx.small1,Rx.parts,Rx.groups,Hx hk];exact⟨⟨⟨by simp,by simp,by simp,hl⟩,h⟩,trivial,by omega⟩
theorem tj {xs:List Rx} (h:Rx.smallL xs) (hp:Rx.partsL xs≤1000000):(seqR xs).small∧(seqR xs).parts≤1+Rx.partsL xs∧(seqR xs).groups≤Rx.groupsL xs:=by
 obtain⟨f1,f2,f3⟩:=tu 0 h;have hl:=Rx.len_parts (lR 0 xs);have gen:∀l:List Rx,lR 0 xs=l→(nw l).small∧(nw l).parts≤1+Rx.partsL xs∧(nw l).groups≤Rx.groupsL xs:=by
  rintro l rfl;obtain⟨s1,s2,s3⟩:=pe (k:=0) gv f1 gj;exact⟨s1,by unfold nw;omega,by unfold nw;omega⟩
 unfold seqR;split
 ·exact dQ
 ·rename_i l hl;exact gen _ rfl
theorem En {xs:List Rx} (h:Rx.smallL xs) (hp:Rx.partsL xs≤1000000):(altR xs).small∧(altR xs).parts≤1+Rx.partsL xs∧(altR xs).groups≤Rx.groupsL xs:=by
 obtain⟨f1,f2,f3⟩:=tu 1 h;have hl:=Rx.len_parts (lR 1 xs);unfold altR;split
 ·obtain⟨s1,s2,s3⟩:=pe (k:=0) (l:=[]) gv trivial gz
  exact⟨s1,by unfold nw;simp only [Rx.partsL] at s2;omega,by unfold nw;simp only [Rx.groupsL] at s3;omega⟩
 ·exact dQ
 ·obtain⟨s1,s2,s3⟩:=pe (k:=1) gv f1 gj
  exact⟨s1,by unfold sD;omega,by unfold sD;omega⟩
theorem altR_one {x:Rx} (hs:x.small):(altR [x]).small∧(altR [x]).parts≤x.parts∧(altR [x]).groups≤x.groups:=by
 obtain⟨k1,k2,k3⟩:=wO x hs;obtain⟨k,c,ng,rs,lo,hi,lz,ks⟩:=x;have hks:=hs.1.2.2.2;have hfl:lR 1 [Rx.mk k c ng rs lo hi lz ks]=if k=1 then ks else [.mk k c ng rs lo hi lz ks]:=by by_cases hk:k=1<;>simp [lR,Rx.kind,Rx.kids,hk]
 simp only [Rx.kids] at k1 k2 k3;unfold altR;rw [hfl];by_cases h1:k=1
 ·rw [Hu h1]
  rcases ks with _|⟨y,_|⟨z,l⟩⟩
  ·obtain⟨s1,s2,s3⟩:=pe (k:=0) (l:=[]) gv trivial gz
   exact⟨s1,by show (nw []).parts≤_;unfold nw;simp only [Rx.partsL] at s2 k1;omega,by show (nw []).groups≤_;unfold nw;simp only [Rx.groupsL] at s3 k2;omega⟩
  ·simp only [Rx.partsL,Rx.groupsL] at k1 k2
   exact⟨k3.1,by show y.parts≤_;omega,by show y.groups≤_;omega⟩
  ·obtain⟨s1,s2,s3⟩:=pe (k:=1) (l:=y::z::l) gv k3 hks
   exact⟨s1,by show (sD (y::z::l)).parts≤_;unfold sD;omega,by show (sD (y::z::l)).groups≤_;unfold sD;omega⟩
 ·rw [Hx h1]
  exact⟨hs,Ia _,Ia _⟩
theorem nN {r r0:List Str} {k:Int} (h:nc r=some (k,r0)):r0 <:+ r∧(k=5∨k=6):=by
 unfold nc at h;cases h1:kN [63] r with
 | none=>simp only [h1] at h;injection h with h;injection h with ha hb;subst ha hb;exact⟨IM _,.inl rfl⟩
 | some r1 =>
  simp only [h1] at h;cases h2:kN [58] r1 with
  | none=>simp only [h2] at h;cases h
  | some r2 =>
   simp only [h2] at h;injection h with h;injection h with ha hb;subst ha hb
   exact⟨(md h2).trans (md h1),.inr rfl⟩
def tY (pat:List Str→Nat→Res) (N:Nat):Prop:=∀(r:List Str) (d:Nat) (x:Rx) (r1:List Str),r.length≤N→pat r d=.ok (x,r1)→okC r→Fct 1 r x r1
theorem BQ {pat:List Str→Nat→Res} {N:Nat} (hp:tY pat N) {r r1:List Str} {d:Nat} {x:Rx} (h:mw pat r d=.ok (x,r1)) (ho:okC r) (hN:r.length≤N) :
  x.small∧x.parts+2*r1.length≤2*r.length∧x.groups+r1.count [40]≤1+r.count [40]∧r1 <:+ r:=by
 unfold mw at h;by_cases hd:16≤d
 ·exact dZ
 rw [Hx hd] at h;cases hk:nc r with
 | none=>exact d9
 | some y =>
  obtain⟨k,r0⟩:=y;obtain⟨k1,k2⟩:=nN hk;simp only [hk] at h;cases hx:pat r0 (d+1) with
  | error e=>exact cm
  | ok y =>
   obtain⟨z,r2⟩:=y;simp only [hx] at h;have hl0:=mq k1;obtain⟨f1,f2,f3,f4⟩:=hp r0 (d+1) z r2 gj hx (nf k1 ho);cases ht:kN [41] r2 with
   | none=>exact ea
   | some r3 =>
    simp only [ht] at h;injection h with h;injection h with h1 h2;subst h1 h2
    have e:=mi ht;have s3:=md ht;have c1:=pB s3 [40];have c2:=pB k1 [40];refine⟨?_,?_,?_,(s3.trans f4).trans k1⟩
    ·simp only [grpR,Rx.small,Rx.small1,Rx.smallL];exact⟨⟨by simp,by simp,by simp,by simp⟩,f1,trivial⟩
    ·simp only [grpR,Rx.parts,Rx.partsL];rw [e,H7] at f2;omega
    ·simp only [grpR,Rx.groups,Rx.groupsL];split<;>omega
theorem DE {pat:List Str→Nat→Res} {N:Nat} (hp:tY pat N) {r r1:List Str} {d:Nat} {x:Rx} (h:lS pat r d=.ok (x,r1)) (ho:okC r) (hN:r.length≤N+1) (hN2:N≤200000) :
  x.small∧x.parts+2*r1.length≤2*r.length∧x.groups+r1.count [40]≤r.count [40]∧r1 <:+ r∧r1.length<r.length∧x.parts+2*r1.length+(if x.parts=1 then 1 else 2)≤2*r.length:=by
 cases r with
 | nil=>cases h
 | cons c r =>
  have hc:=ho c (Ik ..);simp only [H7] at hN;have leaf:∀{y:Rx} {r2:List Str},Fct 0 (c::r) y r2→y.parts=1→r2.length<(c::r).length→y.small∧y.parts+2*r2.length≤2*(c::r).length∧y.groups+r2.count [40]≤(c::r).count [40]∧r2 <:+ c::r∧r2.length<(c::r).length∧y.parts+2*r2.length+(if y.parts=1 then 1 else 2)≤2*(c::r).length :=
   fun hf h1 hl=>⟨hf.1,by have:=hf.2.1;omega,hf.2.2.1,hf.2.2.2,hl,by rw [Hu h1,h1];omega⟩
  have lift:∀{y:Rx} {r2:List Str},Fct 0 r y r2→y.parts=1→r2.length≤r.length→y.small∧y.parts+2*r2.length≤2*(c::r).length∧y.groups+r2.count [40]≤(c::r).count [40]∧r2 <:+ c::r∧r2.length<(c::r).length∧y.parts+2*r2.length+(if y.parts=1 then 1 else 2)≤2*(c::r).length :=
   fun hf h1 hl=>leaf ⟨hf.1,by simp only [H7];have:=hf.2.1;omega,by have:=hf.2.2.1;have:=pB (IL c r) [40];omega,lV hf.2.2.2⟩ h1 gD
  simp only [lS] at h;by_cases h1:c=[46]
  ·rw [Hu h1] at h;injection h with h;injection h with ha hb;subst ha hb
   exact leaf (Fct.leaf gz gz oH gv (IL _ _) gz) rfl gz
  rw [Hx h1] at h;by_cases h2:c=[40]
  ·rw [Hu h2] at h
   obtain⟨f1,f2,f3,f4⟩:=BQ hp h ho.tail gj;have hlen:=mq f4;refine⟨f1,by simp;omega,?_,lV f4,by simp;omega,by simp only [H7];split<;>omega⟩;rw [h2,List.count_cons_self];omega
  rw [Hx h2] at h;by_cases h3:c=[91]
  ·rw [Hu h3] at h
   have hf:=BL h ho.tail gj;have hp1:x.parts=1:=by
    exact cM
   exact lift hf hp1 (mq hf.2.2.2)
  rw [Hx h3] at h;by_cases h4:c=[92]
  ·rw [Hu h4] at h
   have hf:=Fx h ho.tail;have hp1:x.parts=1:=by
    exact bG
   exact lift hf hp1 (mq hf.2.2.2)
  rw [Hx h4] at h;by_cases h5:ql c=true
  ·exact eb
  ·rw [Hx h5] at h;injection h with h;injection h with ha hb;subst ha hb
   exact leaf (Fct.leaf hc.2 gz oH gv (IL _ _) gz) rfl gz
theorem Dp {r r1:List Str} {x:Rx} (h:mF r=some (x,r1)):Fct 0 r x r1∧r1.length<r.length:=by
 cases r with
 | nil=>cases h
 | cons c r =>
  have leaf:∀(k:Int) (r2:List Str),k≠5→r2 <:+ r→Fct 0 (c::r) (rxK k) r2∧r2.length<(c::r).length:=fun k r2 hk hs =>
   ⟨Fct.leaf gz gz oH hk (lV hs) (by have:=mq hs;simp;omega),by have:=mq hs;simp;omega⟩
  simp only [mF] at h;by_cases h1:c=[94]
  ·rw [Hu h1] at h;injection h with h;injection h with ha hb;subst ha hb;exact leaf 8 r gv (IM _)
  rw [Hx h1] at h;by_cases h2:c=[36]
  ·rw [Hu h2] at h;injection h with h;injection h with ha hb;subst ha hb;exact leaf 9 r gv (IM _)
  rw [Hx h2] at h;by_cases h3:c=[92]
  ·rw [Hu h3] at h
   cases h4:kN [98] r with
   | some r2=>simp only [h4] at h;injection h with h;injection h with ha hb;subst ha hb;exact leaf 10 r2 gv (md h4)
   | none =>
    simp only [h4] at h;cases h5:kN [66] r with
    | some r2=>simp only [h5] at h;injection h with h;injection h with ha hb;subst ha hb;exact leaf 11 r2 gv (md h5)
    | none=>exact cY
  ·rw [Hx h3] at h;cases h
theorem tr {pat:List Str→Nat→Res} {N:Nat} (hp:tY pat N) {r r1:List Str} {d:Nat} {x:Rx} (h:lD pat r d=.ok (x,r1)) (ho:okC r) (hN:r.length≤N+1) (hN2:N≤200000):Fct 0 r x r1∧r1.length<r.length:=by
 unfold lD at h;cases he:mF r with
 | some y=>simp only [he] at h;injection h with h;subst h;exact Dp he
 | none =>
  simp only [he] at h;cases ha:lS pat r d with
  | error e=>exact ec
  | ok y =>
   obtain⟨z,r2⟩:=y;simp only [ha] at h;obtain⟨f1,f2,f3,f4,f5,f6⟩:=DE hp ha ho hN hN2;rcases qe h with⟨rfl,rfl⟩|⟨⟨lo,hi,lz,rfl⟩,q2,q3⟩
   ·exact⟨⟨f1,by omega,f3,f4⟩,f5⟩
   ·have c1:=pB q2 [40]
    refine⟨⟨FL f1,?_,?_,q2.trans f4⟩,by omega⟩
    ·simp only [repR,Rx.parts,Rx.partsL];omega
    ·simp only [repR,Rx.groups,Rx.groupsL];simp;omega
theorem tq {trm:List Str→Res} {N:Nat} (ht:∀(r:List Str) (x:Rx) (r1:List Str),r.length≤N→trm r=.ok (x,r1)→okC r→Fct 0 r x r1∧r1.length<r.length) (hN2:N≤200000) :
  ∀(n:Nat) (alts terms:List Rx) (r:List Str) {x:Rx} {r1:List Str},patL trm n alts terms r=.ok (x,r1)→okC r→r.length≤N→Rx.smallL alts→Rx.smallL terms→Rx.partsL alts+Rx.partsL terms+2*r.length≤450000 →
   x.small∧x.parts+2*r1.length≤2*r.length+(if alts=[] then 1+Rx.partsL terms else Rx.partsL alts+Rx.partsL terms+2)∧x.groups+r1.count [40]≤r.count [40]+Rx.groupsL alts+Rx.groupsL terms∧r1 <:+ r
 | 0,_,_,_,_,_,h,_,_,_,_,_=>by cases h
 | n+1,alts,terms,r,x,r1,h,ho,hr,ha,hm,hb=>by
  obtain⟨s1,s2,s3⟩:=tj hm gj;have hap:=smallL_app ha (show Rx.smallL [seqR terms] from⟨s1,trivial⟩);have hpp:Rx.partsL (alts++[seqR terms])=Rx.partsL alts+(seqR terms).parts:=by rw [partsL_app];simp only [Rx.partsL];omega
  have hgg:Rx.groupsL (alts++[seqR terms])=Rx.groupsL alts+(seqR terms).groups:=by rw [pY];simp only [Rx.groupsL];omega
  have fin:(altR (alts++[seqR terms])).small∧(altR (alts++[seqR terms])).parts≤(if alts=[] then 1+Rx.partsL terms else Rx.partsL alts+Rx.partsL terms+2)∧(altR (alts++[seqR terms])).groups≤Rx.groupsL alts+Rx.groupsL terms:=by
   by_cases hn:alts=[]
   ·subst hn
    obtain⟨o1,o2,o3⟩:=altR_one s1;rw [Hu rfl];exact⟨o1,by show (altR [seqR terms]).parts≤_;omega,by show (altR [seqR terms]).groups≤_;simp only [Rx.groupsL];omega⟩
   ·rw [Hx hn]
    obtain⟨o1,o2,o3⟩:=En hap gj;exact⟨o1,by omega,by omega⟩
  simp only [patL] at h;cases r with
  | nil =>
   simp only at h
   injection h with h;injection h with h1 h2;subst h1 h2
   exact⟨fin.1,by have:=fin.2.1;simp;omega,by have:=fin.2.2;simp;omega,IM _⟩
  | cons c r =>
   simp only at h
   simp only [H7] at hr hb;by_cases h1:c=[41]
   ·rw [Hu h1] at h
    injection h with h;injection h with h2 h3;subst h2 h3
    exact⟨fin.1,by have:=fin.2.1;omega,by have:=fin.2.2;omega,IM _⟩
   rw [Hx h1] at h;by_cases h2:c=[124]
   ·rw [Hu h2] at h
    obtain⟨i1,i2,i3,i4⟩:=tq ht hN2 n _ _ _ h ho.tail gj hap trivial (by rw [hpp];simp only [Rx.partsL];omega);have c1:=pB (IL c r) [40];rw [Hx gz,hpp] at i2;rw [hgg] at i3;simp only [Rx.partsL,Rx.groupsL] at i2 i3;refine⟨i1,?_,by omega,lV i4⟩;simp only [H7];by_cases hn:alts=[]
    ·subst hn;rw [Hu rfl];simp only [Rx.partsL] at i2;omega
    ·rw [Hx hn];omega
   ·rw [Hx h2] at h
    cases hx:trm (c::r) with
    | error e=>exact cm
    | ok y =>
     obtain⟨z,r2⟩:=y;simp only [hx] at h;obtain⟨⟨f1,f2,f3,f4⟩,f5⟩:=ht _ _ _ gD hx ho;simp only [H7] at f2 f5;have hpt:Rx.partsL (terms++[z])=Rx.partsL terms+z.parts:=by rw [partsL_app];simp only [Rx.partsL];omega
     have hgt:Rx.groupsL (terms++[z])=Rx.groupsL terms+z.groups:=by rw [pY];simp only [Rx.groupsL];omega
     obtain⟨i1,i2,i3,i4⟩:=tq ht hN2 n _ _ _ h (nf f4 ho) gj ha (smallL_app hm ⟨f1,trivial⟩) (by rw [hpt];omega);rw [hpt] at i2;rw [hgt] at i3;refine⟨i1,?_,by omega,i4.trans f4⟩;simp only [H7];split at i2
     ·rename_i hn;rw [Hu hn];omega
     ·rename_i hn;rw [Hx hn];omega
theorem qA:∀(n:Nat),tY (patF n) 200000
 | 0=>fun r d x r1 _ h _=>by cases h
 | n+1=>fun r d x r1 hr h ho=>by
  have ih:=qA n;have ht:∀(r:List Str) (x:Rx) (r1:List Str),r.length≤200000→lD (patF n) r d=.ok (x,r1)→okC r→Fct 0 r x r1∧r1.length<r.length:=fun r x r1 hr h ho=>tr ih h ho gj gj
  obtain⟨i1,i2,i3,i4⟩:=tq ht gj _ [] [] r h ho hr trivial trivial (by simp only [Rx.partsL];omega);rw [Hu rfl] at i2;simp only [Rx.partsL,Rx.groupsL] at i2 i3;exact⟨i1,by omega,by omega,i4⟩
open Go.RowKit
def sf (res:Res):Prop:=∀q,res=.error q→q≠0
theorem qC {q:Int} (h:q≠0):sf (.error q):=fun _ e=>by injection e with e;rw [←e];exact h
theorem mA (y:Rx × List Str):sf (.ok y):=fun _ e=>by cases e
theorem esc_err (r:List Str):sf (escM r):=by
 cases r with
 | nil=>exact dI
 | cons c r =>
  simp only [escM];cases mS c with
  | some rows=>exact mA _
  | none =>
   cases bigS c with
   | some rows=>exact mA _
   | none =>
    cases mj c with
    | none=>exact dI
    | some t=>exact mA _
theorem FU (r:List Str):sf (mx r):=by
 unfold mx;simp only
 generalize ly _ _ _=q
 cases q with
 | none=>exact dI
 | some y=>exact mA _
theorem Hf (x:Rx) (r:List Str):sf (lJ x r):=by
 cases r with
 | nil=>exact mA _
 | cons c r =>
  simp only [lJ];by_cases h1:c=[42]
  ·rw [Hu h1];exact mA _
  rw [Hx h1];by_cases h2:c=[43]
  ·rw [Hu h2];exact mA _
  rw [Hx h2];by_cases h3:c=[63]
  ·rw [Hu h3];exact mA _
  rw [Hx h3];by_cases h4:c=[123]
  ·rw [Hu h4]
   cases me r with
   | none=>exact dI
   | some y=>exact mA _
  ·rw [Hx h4];exact mA _
theorem GT {pat:List Str→Nat→Res} (hp:∀r d,sf (pat r d)) (r:List Str) (d:Nat):sf (mw pat r d):=by
 unfold mw;by_cases hd:16≤d
 ·rw [Hu hd];exact qC gv
 rw [Hx hd];cases nc r with
 | none=>exact dI
 | some y =>
  simp only
  cases hx:pat y.2 (d+1) with
  | error e=>exact fun q hq=>hp _ _ _ (hx.trans hq)
  | ok z =>
   simp only
   cases kN [41] z.2 with
   | none=>exact dI
   | some r=>exact mA _
theorem sh {pat:List Str→Nat→Res} (hp:∀r d,sf (pat r d)) (r:List Str) (d:Nat):sf (lS pat r d):=by
 cases r with
 | nil=>exact dI
 | cons c r =>
  simp only [lS];by_cases h1:c=[46]
  ·rw [Hu h1];exact mA _
  rw [Hx h1];by_cases h2:c=[40]
  ·rw [Hu h2];exact GT hp _ _
  rw [Hx h2];by_cases h3:c=[91]
  ·rw [Hu h3];exact FU _
  rw [Hx h3];by_cases h4:c=[92]
  ·rw [Hu h4];exact esc_err _
  rw [Hx h4];by_cases h5:ql c=true
  ·rw [Hu h5];exact qC gv
  ·rw [Hx h5];exact mA _
theorem BX {pat:List Str→Nat→Res} (hp:∀r d,sf (pat r d)) (r:List Str) (d:Nat):sf (lD pat r d):=by
 unfold lD;cases mF r with
 | some y=>exact mA _
 | none =>
  simp only
  cases hx:lS pat r d with
  | error e=>exact fun q hq=>sh hp _ _ _ (hx.trans hq)
  | ok y=>exact Hf _ _
theorem yH {trm:List Str→Res} (ht:∀r,sf (trm r)):∀(n:Nat) (alts terms:List Rx) (r:List Str),sf (patL trm n alts terms r)
 | 0,_,_,_=>qC gv
 | n+1,alts,terms,[]=>mA _
 | n+1,alts,terms,c::r=>by
  simp only [patL];by_cases h1:c=[41]
  ·rw [Hu h1];exact mA _
  rw [Hx h1];by_cases h2:c=[124]
  ·rw [Hu h2];exact yH ht n _ _ _
  rw [Hx h2];cases hx:trm (c::r) with
  | error e=>exact fun q hq=>ht _ _ (hx.trans hq)
  | ok y=>exact yH ht n _ _ _
theorem o9:∀(n:Nat) (r:List Str) (d:Nat),sf (patF n r d)
 | 0,_,_=>qC gv
 | n+1,r,d=>yH (fun r=>BX (o9 n) r d) _ _ _ _
def PatC (n:Nat):Prop:=∀(g d:Nat) (r:List Str) (w:World),Rd w g r d→r.length<n→d≤16 →
 Calls Tryz.prog 116 #[.pointer (some ⟨g,0,none⟩)] w fun e w'=>pM g d w.heap.size w (patF n r d) e w'
theorem RdT.setDeep {T:TypeId} {u:Value} {w:World} {g:Nat} {r:List Str} (h:RdT T [u] w g r) (v:Value):RdT T [v] (w.setCell ⟨g,2,none⟩ v) g r:=by
 obtain⟨a,c,l,i,h1,h2,h3⟩:=h;refine⟨a,c,l,i,?_,h2.keep (Kept.setLow _ fun b hb=>Nat.ne_of_lt hb),h3⟩;rw [heap_setCell_same w _ _ _ _ _ h1];rfl
theorem RdT.free2 {T:TypeId} {u:Value} {w:World} {g:Nat} {r:List Str} (h:RdT T [u] w g r):w.frozen? ⟨g,2,none⟩=false:=by
 obtain⟨a,c,l,i,h1,_⟩:=h;unfold World.frozen?;rw [h1];rfl
def set8 (w:World) (b:Nat) (u0 u1 u2 u3 u4 u5 u6 u7:Value):World :=
 (((((((w.setCell ⟨b,0,none⟩ u0).setCell ⟨b,1,none⟩ u1).setCell ⟨b,2,none⟩ u2).setCell ⟨b,3,none⟩ u3).setCell ⟨b,4,none⟩ u4).setCell ⟨b,5,none⟩ u5).setCell ⟨b,6,none⟩ u6).setCell ⟨b,7,none⟩ u7
theorem zH {S:Nat→Prop} (w:World) (b:Nat) {u0 u1 u2 u3 u4 u5 u6 u7:Value} (hS:∀k,S k→k≠b):Kept S w (set8 w b u0 u1 u2 u3 u4 u5 u6 u7):=by
 have h:∀{w':World} (a:Addr) (u:Value),a.block=b→Kept S w w'→Kept S w (w'.setCell a u):=fun a u ha hk=>hk.trans (Kept.setLow u fun k hk=>by rw [ha];exact hS k hk)
 unfold set8;iterate 8 (refine h _ _ rfl ?_)
 exact⟨Ia _,fun _ _ _=>rfl⟩
theorem Fy (w:World) (b:Nat) {u0 u1 u2 u3 u4 u5 u6 u7:Value}:(set8 w b u0 u1 u2 u3 u4 u5 u6 u7).heap.size=w.heap.size:=by unfold set8;simp
theorem wQ {w0 w:World} {row:Option Nat} {b:Nat} {u0 u1 u2 u3 u4 u5 u6 u7:Value} (h:w0.grownBy w row) (hb:w0.heap.size≤b):w0.grownBy (set8 w b u0 u1 u2 u3 u4 u5 u6 u7) row:=by
 unfold set8;iterate 8 (refine kO ?_ hb _)
 exact h
theorem RdT.set8 {T:TypeId} {x:List Value} {w:World} {g:Nat} {r:List Str} {b:Nat} {u0 u1 u2 u3 u4 u5 u6 u7:Value} (h:RdT T x w g r) (hb:g<b):RdT T x (set8 w b u0 u1 u2 u3 u4 u5 u6 u7) g r:=by
 unfold Go.Proofs.YtdcnncgpomcaaaaGreatDoor.set8;iterate 8 (refine RdT.setHi ?_ hb _)
 exact h
theorem uI {w0 w:World} {row:Option Nat} (h:w0.grownBy w row) (o:Obj):w0.grownBy (w.alloc o) row:=kw h (kx ((Below.refl _ _).alloc (Ia _) _) _)
theorem Cd (w:World) (b:Nat) {u0 u1 u2 u3 u4 u5 u6 u7:Value} {cs:Array Value} {t:TypeId}:((set8 w b u0 u1 u2 u3 u4 u5 u6 u7).alloc (.cells cs t)).heap[w.heap.size]?=some (.cells cs t (0,0)):=by
 have:=heap_alloc_new (set8 w b u0 u1 u2 u3 u4 u5 u6 u7) (.cells cs t)
 rw [Fy] at this;exact this
theorem Dv {n:Nat} (hp:PatC n) {g d:Nat} {r:List Str} (w:World) (h:Rd w g r d) (hl:r.length<n) (hd:d≤16) :
  Calls Tryz.prog 133 #[.pointer (some ⟨g,0,none⟩)] w fun e w'=>pM g d w.heap.size w (mw (patF n) r d) e w':=by
 obtain⟨R,hR⟩:∃R,mw (patF n) r d=R:=⟨_,rfl⟩;rw [hR];unfold mw at hR;have HP:=ab hp;clear hp;by_cases hd16:16≤d
 ·rw [Hu hd16] at hR
  have HR:=ab hR;clear hR;have c2:=(h.later ((Below.refl w.heap.size w).alloc (Ia _) (.cells #[.int .i64 0,.string ⟨#[]⟩,.bool false,.slice none 0 0,.int .i64 0,.int .i64 0,.bool false,.slice none 0 0] 38))).cell2;have hd16':d=16:=gj;have hde:decide ((16:Int)≤(d:Int))=true:=by simp;omega
  obtain⟨w0,hw0⟩:∃w0,w0=w.alloc (.cells #[.int .i64 0,.string ⟨#[]⟩,.bool false,.slice none 0 0,.int .i64 0,.int .i64 0,.bool false,.slice none 0 0] 38):=⟨_,rfl⟩;obtain⟨hb0,hz0,hby0⟩:=lC w hw0;have HRD:=ab (h.later hb0);rw [hw0] at HRD;have HW0:=ab hw0;have HBY0:=ab hby0;have hgg:w.grownBy w0 (some g):=kx hb0 _;have hgr:g<w.heap.size:=h.lt;clear hw0 hby0 h;have hby:=HBY0.out;rw [HW0.out] at hby hgg;obtain⟨f0,f1,f2,f3,f4,f5,f6,f7,f8⟩:=kD (c:=[]) hby;clear hby hd16';go_enter Tryz.func133,Tryz.ntmps133
  go_wp2
  refine Ir (v:=.tuple #[.agg #[.int .i64 0,.string ⟨[].toArray⟩,.bool false,.slice none 0 0,.int .i64 0,.int .i64 0,.bool false,.slice none 0 0],.int .i64 8]) iC rfl ?_;refine⟨?_,?_⟩
  ·iterate 0 (refine kO ?_ gq _)
   exact hgg
  ·rw [←HR.out]
   refine⟨rfl,?_⟩;iterate 0 (refine RdE.setHi ?_ gq _)
   exact⟨_,HRD.out⟩
 rw [Hx hd16] at hR;cases h1:kN [63] r with
 | none =>
  simp only [nc,h1] at hR;have HR:=ab hR;have H1:=ab h1;clear hR h1;have c2:=(h.later ((Below.refl w.heap.size w).alloc (Ia _) (.cells #[.int .i64 0,.string ⟨#[]⟩,.bool false,.slice none 0 0,.int .i64 0,.int .i64 0,.bool false,.slice none 0 0] 38))).cell2;obtain⟨w0,hw0⟩:∃w0,w0=w.alloc (.cells #[.int .i64 0,.string ⟨#[]⟩,.bool false,.slice none 0 0,.int .i64 0,.int .i64 0,.bool false,.slice none 0 0] 38):=⟨_,rfl⟩;obtain⟨hb0,hz0,hby0⟩:=lC w hw0;have HRD:=ab (h.later hb0);rw [hw0] at HRD;have HW0:=ab hw0;have HBY0:=ab hby0;have hgg:w.grownBy w0 (some g):=kx hb0 _;have hgr:g<w.heap.size:=h.lt;clear hw0 hby0 h;go_enter Tryz.func133,Tryz.ntmps133
  go_wp2_with (go_at_call 137;refine(lq _ HRD.out H1.out gz).mono ?_)
  rintro e w1 ⟨rfl,hrd1,hq1⟩;rw [←HW0.out] at hq1;have hg1:=kw hgg hq1;have HBY1:=ab (kB HBY0.out hq1 gj);have hz1:=hq1.size;have HRD1:=ab hrd1;clear hrd1 hq1 c2;have c2:=(HRD1.out).cell2;have hf2:=(HRD1.out).free2;have hrdd:Rd ((w1).setCell ⟨g,2,none⟩ (.int .i64 ((d:Int)+1))) g r (d+1):=(HRD1.out).setDeep _;have HRDD:=ab hrdd;have hgd:=kM hg1 2 (.int .i64 ((d:Int)+1));have hbyd:=lh HBY1.out (a:=⟨g,2,none⟩) gq (.int .i64 ((d:Int)+1));have HBYD:=ab hbyd;have HPAT:=ab (HP.out g (d+1) r _ HRDD.out gj gj);clear hrdd hbyd;go_wp2_with (go_at_call 116;refine HPAT.out.mono ?_)
  rintro e w5 hq;clear c2 hf2 HPAT;cases hpr:patF n r (d+1) with
  | error q =>
   rw [hpr] at hq;obtain⟨hq5,rfl,r9,hrd9⟩:=hq;have hq0:q≠0:=o9 n r (d+1) q hpr;exact aR
  | ok y =>
   obtain⟨x,r3⟩:=y;rw [hpr] at hq;obtain⟨hq5,cc,rfl,hxv,hrd5⟩:=hq;have hg5:=kw hgd hq5;have hzd:=hgd.size;have hz5:=hq5.size;have hby5:=kB HBYD.out hq5 gj;have HBX5:=ab hby5;obtain⟨k,c,ng,rs,lo,hi,lz,ks⟩:=x;have hxv0:=hxv;obtain⟨ra,rc,ka,kc,rfl,hrs,hks⟩:=hxv.open_;clear hrs hks hxv hby5;have HXV:=ab (hxv0.mono (S':=fun b=>w.heap.size≤b∧b≠w.heap.size) fun b hb hlt=>by have:=hgd.size;simp only [World.size_setCell] at hb;constructor<;>omega);clear hxv0;unfold rxc at HXV ⊢;obtain⟨w6,hw6⟩:∃w6,w6=(w5.alloc (.cells #[.int .i64 k,.string ⟨c.toArray⟩,.bool ng,.slice ra rs.length rc,.int .i64 lo,.int .i64 hi,.bool lz,.slice ka ks.length kc] 38)).setCell ⟨g,2,none⟩ (.int .i64 (d:Int)):=⟨_,rfl⟩;have hb6:Below w5.heap.size w5 (w5.alloc (.cells #[.int .i64 k,.string ⟨c.toArray⟩,.bool ng,.slice ra rs.length rc,.int .i64 lo,.int .i64 hi,.bool lz,.slice ka ks.length kc] 38)):=(Below.refl _ _).alloc (Ia _) _;have hrd6:=hrd5.later hb6;have c6:=hrd6.cell2;have hf6:=hrd6.free2;have hrd7:Rd w6 g r3 d:=hw6▸hrd6.setDeep (.int .i64 (d:Int));have hg7:w.grownBy w6 (some g):=hw6▸kM (kw hg5 (kx hb6 (some g))) 2 (.int .i64 (d:Int));have hby7:w6.heap[w.heap.size]?=some (.cells #[.int .i64 0,.string ⟨#[]⟩,.bool false,.slice none 0 0,.int .i64 0,.int .i64 0,.bool false,.slice none 0 0] 38 (0,0)):=hw6▸lh ((hb6.block _ (ky HBX5.out)).trans HBX5.out) (a:=⟨g,2,none⟩) gq (.int .i64 (d:Int));have hbz7:w6.heap[w5.heap.size]?=some (.cells #[.int .i64 k,.string ⟨c.toArray⟩,.bool ng,.slice ra rs.length rc,.int .i64 lo,.int .i64 hi,.bool lz,.slice ka ks.length kc] 38 (0,0)):=hw6▸lh (heap_alloc_new w5 _) (a:=⟨g,2,none⟩) gq (.int .i64 (d:Int));have hxv7:RxV w6 (fun b=>w.heap.size≤b∧b≠w.heap.size) _ _:=hw6▸(HXV.out.later hb6).keep (Kept.setLow (a:=⟨g,2,none⟩) (.int .i64 (d:Int)) (fun b hb=>by have:w.heap.size≤b∧b≠w.heap.size:=hb;first|omega|(simp;done)|(simp;omega)));have HRD7:=ab hrd7;have HBY7:=ab hby7;have HBZ7:=ab hbz7;have HXV7:=ab hxv7;have hz7:w5.heap.size+1≤w6.heap.size:=by rw [hw6];simp
   have ed:((d+1:Nat):Int)-1=d:=gj;clear hrd5 hrd6 hrd7 hby7 hbz7 hxv7 HXV HBX5 hb6;cases ht:kN [41] r3 with
   | none =>
    exact ba
   | some r4 =>
    have HR2:Hid (Except.ok (grpR 5 (.mk k c ng rs lo hi lz ks),r4)=R):=ab jT;have HR:=HR2;have HT:=ab ht;have HRD8:=HRD7;rw [hw6] at HRD8;have HW6:=ab hw6;clear hpr ht hw6;go_wp2_with (go_at_call 137;refine(lH _ HRD8.out HT.out).mono ?_)
    rintro e w9 ⟨rfl,hrd9,hq9⟩;rw [←HW6.out] at hq9;have hg9:=kw hg7 hq9;have hz9:=hq9.size;have hne9:w.heap.size≠w9.heap.size:=gj;have hlt9:w.heap.size<w9.heap.size:=gj;have hby9:=kB HBY7.out hq9 gj;have HRD9:=ab hrd9;obtain⟨f0,f1,f2,f3,f4,f5,f6,f7,f8⟩:=kD (c:=[]) hby9;obtain⟨e0,e1,e2,e3,e4,e5,e6,e7,e8⟩:=kD (kB HBZ7.out hq9 gj);have HXV9:=ab (HXV7.out.keep (Kept.grown hq9 fun b hb=>by have:w.heap.size≤b∧b≠w.heap.size:=hb;omega));clear hrd9 hq9 c6 hf6 hby9;go_wp2
    refine Ir (v:=.tuple #[.agg #[.int .i64 5,.string ⟨#[]⟩,.bool false,.slice none 0 0,.int .i64 0,.int .i64 0,.bool false,.slice (some ⟨w9.heap.size,0,none⟩) 1 1],.int .i64 0]) jf rfl ?_;refine⟨uI (wQ hg9 (Ia _)) _,?_⟩;rw [←HR.out];refine⟨rxc 5 [] false none ([]:List Row).length 0 0 0 false (some ⟨w9.heap.size,0,none⟩) [Rx.mk k c ng rs lo hi lz ks].length 1,rfl,RxV.mono (S:=fun b=>w.heap.size≤b∧b≠w.heap.size) (fun b hb _=>hb.1) (RxV.close (SlS.none_ _ _ _ _) (RxSl.one ((HXV9.out.keep (zH w9 w.heap.size fun b hb=>hb.2)).later ((Below.refl _ _).alloc (Ia _) _)) (Cd w9 w.heap.size) ⟨by omega,by omega⟩)),?_⟩;exact(HRD9.out.set8 hgr).later ((Below.refl _ _).alloc (Ia _) _)
 | some r1 =>
  cases h2:kN [58] r1 with
  | none =>
   simp only [nc,h1,h2] at hR;have HR:=ab hR;have H1:=ab h1;have H2:=ab h2;clear hR h1 h2;have c2:=(h.later ((Below.refl w.heap.size w).alloc (Ia _) (.cells #[.int .i64 0,.string ⟨#[]⟩,.bool false,.slice none 0 0,.int .i64 0,.int .i64 0,.bool false,.slice none 0 0] 38))).cell2;obtain⟨w0,hw0⟩:∃w0,w0=w.alloc (.cells #[.int .i64 0,.string ⟨#[]⟩,.bool false,.slice none 0 0,.int .i64 0,.int .i64 0,.bool false,.slice none 0 0] 38):=⟨_,rfl⟩;obtain⟨hb0,hz0,hby0⟩:=lC w hw0;have HRD:=ab (h.later hb0);rw [hw0] at HRD;have HW0:=ab hw0;have HBY0:=ab hby0;have hgg:w.grownBy w0 (some g):=kx hb0 _;have hgr:g<w.heap.size:=h.lt;clear hw0 hby0 h;go_enter Tryz.func133,Tryz.ntmps133
   go_wp2_with (go_at_call 137;refine(lH _ HRD.out H1.out).mono ?_)
   rintro e w1 ⟨rfl,hrd1,hq1⟩;rw [←HW0.out] at hq1;have hg1:=kw hgg hq1;have HBY1:=ab (kB HBY0.out hq1 gj);have HRD1:=ab hrd1;clear hrd1 hq1 c2;go_wp2_with (go_at_call 137;refine(lq _ HRD1.out H2.out gz).mono ?_)
   rintro e w2 ⟨rfl,hrd2,hq2⟩;have hg2:=kw hg1 hq2;have HRD2:=ab hrd2;obtain⟨f0,f1,f2,f3,f4,f5,f6,f7,f8⟩:=kD (c:=[]) (kB HBY1.out hq2 gj);clear hrd2 hq2;go_wp2
   refine Ir (v:=.tuple #[.agg #[.int .i64 0,.string ⟨[].toArray⟩,.bool false,.slice none 0 0,.int .i64 0,.int .i64 0,.bool false,.slice none 0 0],.int .i64 10]) iC rfl ?_;refine⟨?_,?_⟩
   ·exact bS
   ·exact dx
  | some r2 =>
   simp only [nc,h1,h2] at hR;have HR:=ab hR;have H1:=ab h1;have H2:=ab h2;have hl2:r2.length<n:=by
    have e1:=mi h1;have e2:=mi h2;subst e1 e2;simp at hl;omega
   clear hR h1 h2 hl;have c2:=(h.later ((Below.refl w.heap.size w).alloc (Ia _) (.cells #[.int .i64 0,.string ⟨#[]⟩,.bool false,.slice none 0 0,.int .i64 0,.int .i64 0,.bool false,.slice none 0 0] 38))).cell2;obtain⟨w0,hw0⟩:∃w0,w0=w.alloc (.cells #[.int .i64 0,.string ⟨#[]⟩,.bool false,.slice none 0 0,.int .i64 0,.int .i64 0,.bool false,.slice none 0 0] 38):=⟨_,rfl⟩;obtain⟨hb0,hz0,hby0⟩:=lC w hw0;have HRD:=ab (h.later hb0);rw [hw0] at HRD;have HW0:=ab hw0;have HBY0:=ab hby0;have hgg:w.grownBy w0 (some g):=kx hb0 _;have hgr:g<w.heap.size:=h.lt;clear hw0 hby0 h;go_enter Tryz.func133,Tryz.ntmps133
   go_wp2_with (go_at_call 137;refine(lH _ HRD.out H1.out).mono ?_)
   rintro e w1 ⟨rfl,hrd1,hq1⟩;rw [←HW0.out] at hq1;have hg1:=kw hgg hq1;have HBY1:=ab (kB HBY0.out hq1 gj);have hz1:=hq1.size;have HRD1:=ab hrd1;clear hrd1 hq1 c2;go_wp2_with (go_at_call 137;refine(lH _ HRD1.out H2.out).mono ?_)
   rintro e w2 ⟨rfl,hrd2,hq2⟩;have hg2:=kw hg1 hq2;have HBY2:=ab (kB HBY1.out hq2 gj);have hz2:=hq2.size;have HRD2:=ab hrd2;clear hrd2 hq2;have c2:=(HRD2.out).cell2;have hf2:=(HRD2.out).free2;have hrdd:Rd ((w2).setCell ⟨g,2,none⟩ (.int .i64 ((d:Int)+1))) g r2 (d+1):=(HRD2.out).setDeep _;have HRDD:=ab hrdd;have hgd:=kM hg2 2 (.int .i64 ((d:Int)+1));have hbyd:=lh HBY2.out (a:=⟨g,2,none⟩) gq (.int .i64 ((d:Int)+1));have HBYD:=ab hbyd;have HPAT:=ab (HP.out g (d+1) r2 _ HRDD.out gj gj);clear hrdd hbyd;go_wp2_with (go_at_call 116;refine HPAT.out.mono ?_)
   rintro e w5 hq;clear c2 hf2 HPAT;cases hpr:patF n r2 (d+1) with
   | error q =>
    rw [hpr] at hq;obtain⟨hq5,rfl,r9,hrd9⟩:=hq;have hq0:q≠0:=o9 n r2 (d+1) q hpr;exact aR
   | ok y =>
    obtain⟨x,r3⟩:=y;rw [hpr] at hq;obtain⟨hq5,cc,rfl,hxv,hrd5⟩:=hq;have hg5:=kw hgd hq5;have hzd:=hgd.size;have hz5:=hq5.size;have hby5:=kB HBYD.out hq5 gj;have HBX5:=ab hby5;obtain⟨k,c,ng,rs,lo,hi,lz,ks⟩:=x;have hxv0:=hxv;obtain⟨ra,rc,ka,kc,rfl,hrs,hks⟩:=hxv.open_;clear hrs hks hxv hby5;have HXV:=ab (hxv0.mono (S':=fun b=>w.heap.size≤b∧b≠w.heap.size) fun b hb hlt=>by have:=hgd.size;simp only [World.size_setCell] at hb;constructor<;>omega);clear hxv0;unfold rxc at HXV ⊢;obtain⟨w6,hw6⟩:∃w6,w6=(w5.alloc (.cells #[.int .i64 k,.string ⟨c.toArray⟩,.bool ng,.slice ra rs.length rc,.int .i64 lo,.int .i64 hi,.bool lz,.slice ka ks.length kc] 38)).setCell ⟨g,2,none⟩ (.int .i64 (d:Int)):=⟨_,rfl⟩;have hb6:Below w5.heap.size w5 (w5.alloc (.cells #[.int .i64 k,.string ⟨c.toArray⟩,.bool ng,.slice ra rs.length rc,.int .i64 lo,.int .i64 hi,.bool lz,.slice ka ks.length kc] 38)):=(Below.refl _ _).alloc (Ia _) _;have hrd6:=hrd5.later hb6;have c6:=hrd6.cell2;have hf6:=hrd6.free2;have hrd7:Rd w6 g r3 d:=hw6▸hrd6.setDeep (.int .i64 (d:Int));have hg7:w.grownBy w6 (some g):=hw6▸kM (kw hg5 (kx hb6 (some g))) 2 (.int .i64 (d:Int));have hby7:w6.heap[w.heap.size]?=some (.cells #[.int .i64 0,.string ⟨#[]⟩,.bool false,.slice none 0 0,.int .i64 0,.int .i64 0,.bool false,.slice none 0 0] 38 (0,0)):=hw6▸lh ((hb6.block _ (ky HBX5.out)).trans HBX5.out) (a:=⟨g,2,none⟩) gq (.int .i64 (d:Int));have hbz7:w6.heap[w5.heap.size]?=some (.cells #[.int .i64 k,.string ⟨c.toArray⟩,.bool ng,.slice ra rs.length rc,.int .i64 lo,.int .i64 hi,.bool lz,.slice ka ks.length kc] 38 (0,0)):=hw6▸lh (heap_alloc_new w5 _) (a:=⟨g,2,none⟩) gq (.int .i64 (d:Int));have hxv7:RxV w6 (fun b=>w.heap.size≤b∧b≠w.heap.size) _ _:=hw6▸(HXV.out.later hb6).keep (Kept.setLow (a:=⟨g,2,none⟩) (.int .i64 (d:Int)) (fun b hb=>by have:w.heap.size≤b∧b≠w.heap.size:=hb;first|omega|(simp;done)|(simp;omega)));have HRD7:=ab hrd7;have HBY7:=ab hby7;have HBZ7:=ab hbz7;have HXV7:=ab hxv7;have hz7:w5.heap.size+1≤w6.heap.size:=by rw [hw6];simp
    have ed:((d+1:Nat):Int)-1=d:=gj;clear hrd5 hrd6 hrd7 hby7 hbz7 hxv7 HXV HBX5 hb6;cases ht:kN [41] r3 with
    | none =>
     exact ba
    | some r4 =>
     have HR2:Hid (Except.ok (grpR 6 (.mk k c ng rs lo hi lz ks),r4)=R):=ab jT;have HR:=HR2;have HT:=ab ht;have HRD8:=HRD7;rw [hw6] at HRD8;have HW6:=ab hw6;clear hpr ht hw6;go_wp2_with (go_at_call 137;refine(lH _ HRD8.out HT.out).mono ?_)
     rintro e w9 ⟨rfl,hrd9,hq9⟩;rw [←HW6.out] at hq9;have hg9:=kw hg7 hq9;have hz9:=hq9.size;have hne9:w.heap.size≠w9.heap.size:=gj;have hlt9:w.heap.size<w9.heap.size:=gj;have hby9:=kB HBY7.out hq9 gj;have HRD9:=ab hrd9;obtain⟨f0,f1,f2,f3,f4,f5,f6,f7,f8⟩:=kD (c:=[]) hby9;obtain⟨e0,e1,e2,e3,e4,e5,e6,e7,e8⟩:=kD (kB HBZ7.out hq9 gj);have HXV9:=ab (HXV7.out.keep (Kept.grown hq9 fun b hb=>by have:w.heap.size≤b∧b≠w.heap.size:=hb;omega));clear hrd9 hq9 c6 hf6 hby9;go_wp2
     refine Ir (v:=.tuple #[.agg #[.int .i64 6,.string ⟨#[]⟩,.bool false,.slice none 0 0,.int .i64 0,.int .i64 0,.bool false,.slice (some ⟨w9.heap.size,0,none⟩) 1 1],.int .i64 0]) jf rfl ?_;refine⟨uI (wQ hg9 (Ia _)) _,?_⟩;rw [←HR.out];refine⟨rxc 6 [] false none ([]:List Row).length 0 0 0 false (some ⟨w9.heap.size,0,none⟩) [Rx.mk k c ng rs lo hi lz ks].length 1,rfl,RxV.mono (S:=fun b=>w.heap.size≤b∧b≠w.heap.size) (fun b hb _=>hb.1) (RxV.close (SlS.none_ _ _ _ _) (RxSl.one ((HXV9.out.keep (zH w9 w.heap.size fun b hb=>hb.2)).later ((Below.refl _ _).alloc (Ia _) _)) (Cd w9 w.heap.size) ⟨by omega,by omega⟩)),?_⟩;exact(HRD9.out.set8 hgr).later ((Below.refl _ _).alloc (Ia _) _)
end Go.Proofs.YtdcnncgpomcaaaaGreatDoor
