/- walks of slices.stableCmpFunc, SortStableFunc -/
import Derived.Test.YtjggmmaojklmpaaGreatLb13
import Derived.Test.YtjggmmaojklmpaaGreatLb12
set_option maxRecDepth 100000
set_option maxHeartbeats 4000000
namespace Go.Proofs.YtjggmmaojklmpaaGreat
open Go.RowKit
theorem qI {B g cap N:Nat} {rs:List Row} {a b:Nat} {az bz:Int} (w:World) (h1:az=a) (h2:bz=b) (h:RO w B g cap rs) (hN:rs.length=N) (hbn:b≤N) (hl:N≤1000000) (haN:a≤N) :
  Calls Tryz.prog 196 #[.slice (some ⟨g,0,none⟩) N cap,.int .i64 az,.int .i64 bz,.func (.func 186) #[] #[]] w fun e w'=>e=.returned (.tuple #[])∧RO w' B g cap (my a (b-(a+1)) (a+1) rs)∧w.grownBy w' (some g):=by
 subst h1 h2;exact tH B g cap N rs a b w h hN hbn hl haN
def SaRel (B g cap N:Nat) (R:List Row) (w:World) (p q:Value) (wr:World):Prop :=
 ∃(a k:Nat) (rs:List Row),p=.int .i64 a∧q=.int .i64 ((a:Int)+20)∧a≤N∧N<a+k∧RO wr B g cap rs∧w.grownBy wr (some g)∧rs.length=N∧Hid (stA k rs a N=R)
def SbRel (B g cap N s:Nat) (R:List Row) (w:World) (p q:Value) (wr:World):Prop :=
 ∃(a k:Nat) (rs:List Row),p=.int .i64 a∧q=.int .i64 ((a:Int)+2*s)∧a≤N∧N<a+k∧RO wr B g cap rs∧w.grownBy wr (some g)∧rs.length=N∧Hid (stB k rs a s N=R)
def ScRel (B g cap N:Nat) (R:List Row) (w:World) (q:Value) (wr:World):Prop :=
 ∃(s k:Nat) (rs:List Row),q=.int .i64 s∧20≤s∧s≤2000000∧N<s+k∧RO wr B g cap rs∧w.grownBy wr (some g)∧rs.length=N∧Hid (stC k rs s N=R)
theorem zV (B g cap N:Nat) (rs:List Row) (w:World) (h:RO w B g cap rs) (hN:rs.length=N) (hl:N≤1000000) :
  Calls Tryz.prog 194 #[.slice (some ⟨g,0,none⟩) N cap,.int .i64 N,.func (.func 186) #[] #[]] w fun e w'=>e=.returned (.tuple #[])∧RO w' B g cap (stL rs)∧w.grownBy w' (some g):=by
 unfold stL;rw [hN];obtain⟨R1,hR1⟩:∃R1,stA (N+1) rs 0 N=R1:=⟨_,rfl⟩;have hl1:R1.length=N:=by rw [←hR1,wh];exact hN
 rw [hR1];obtain⟨R,hR⟩:∃R,stC (N+1) R1 20 N=R:=⟨_,rfl⟩;rw [hR];have HR1:=ab hR1;have HR:=ab hR;have HRO:=ab h;clear hR1 hR h;go_enter Tryz.func194,Tryz.ntmps194
 go_wp2
 go_loopw [7,8] (fun p q wr=>SaRel B g cap N R1 w p q wr) (fun p _ _=>N-(intOf p).toNat)
 case atStart=>exact⟨0,N+1,rs,rfl,rfl,by omega,by omega,HRO.out,kD _ _,hN,HR1⟩
 case round =>
  obtain⟨a,k,l,rfl,rfl,haN,hk,hro,hg,hlN,HF⟩:=hrel;clear HR1 HRO hN;obtain⟨k,rfl⟩:∃k',k=k'+1:=⟨k-1,by omega⟩;by_cases hc:a+20≤N
  ·have HE:Hid (stA k (my a (a+20-(a+1)) (a+1) l) (a+20) N=R1):=ab (by rw [←HF.out];simp only [stA];rw [Cl hc])
   have HC:=ab (qI (a:=a) (b:=a+20) (az:=(a:Int)) (bz:=(a:Int)+20) wr rfl gu hro hlN hc hl haN);clear HF hro;go_wp2_with (go_at_call 196;refine HC.out.mono ?_;rintro e w1 ⟨rfl,hr1,hg1⟩)
   go_roundw
   case rel=>exact⟨a+20,k,_,by go_num,by go_num,hc,by omega,hr1,jM hg hg1,by rw [oT];exact hlN,HE⟩
   case measure=>simp [intOf];omega
  ·have HE:Hid (my a (N-(a+1)) (a+1) l=R1):=ab (by rw [←HF.out];simp only [stA];rw [Co hc])
   have HC:=ab (qI (a:=a) (b:=N) (az:=(a:Int)) (bz:=(N:Int)) wr rfl rfl hro hlN (Cp _) hl haN);clear HF hro;go_wp2_with (go_at_call 196;refine HC.out.mono ?_)
   rintro e w1 ⟨rfl,hr1,hg1⟩;rw [HE.out] at hr1;have HRO1:=ab hr1;have hgw1:=jM hg hg1;clear hr1 hg1 HE HC hg;go_wp2
   go_loopw [6] (fun q wr=>ScRel B g cap N R w1 q wr) (fun q _=>N-(intOf q).toNat)
   case atStart=>exact⟨20,N+1,R1,rfl,by omega,by omega,by omega,HRO1.out,kD _ _,hl1,HR⟩
   case round =>
    obtain⟨s,k2,l2,rfl,hs20,hs2,hk2,hro2,hg2,hlN2,HG⟩:=hrel;clear HR HRO1 hl1;by_cases hs:s<N
    ·obtain⟨k2,rfl⟩:∃k',k2=k'+1:=⟨k2-1,by omega⟩
     obtain⟨T,hT⟩:∃T,stB (N+1) l2 0 s N=T:=⟨_,rfl⟩;have hTl:T.length=N:=by rw [←hT,wc];exact hlN2
     have HE2:Hid (stC k2 T (2*s) N=R):=ab (by rw [←HG.out];simp only [stC];rw [Cl hs,hT]);have HT:=ab hT;have HRO2:=ab hro2;clear HG hT hro2;obtain⟨wo,rfl⟩:∃wo:World,wo=wr:=⟨_,rfl⟩;go_wp2
     go_loopw [7,8] (fun p q wk=>SbRel B g cap N s T wo p q wk) (fun p _ _=>N-(intOf p).toNat)
     case atStart=>exact⟨0,N+1,l2,rfl,by first|rfl|go_num|simp,by omega,by omega,HRO2.out,kD _ _,hlN2,HT⟩
     case round =>
      obtain⟨d,k3,l3,rfl,rfl,hdN,hk3,hro3,hg3,hlN3,HH⟩:=hrel;clear HT HRO2 hlN2;obtain⟨k3,rfl⟩:∃k',k3=k'+1:=⟨k3-1,by omega⟩;by_cases hc3:d+2*s≤N
      ·have HE3:Hid (stB k3 (symM (2*s) l3 d (d+s) (d+2*s)) (d+2*s) s N=T):=ab (by rw [←HH.out];simp only [stB];rw [Cl hc3])
       have HC3:=ab (oI B g cap N hl (2*s) l3 d (d+s) (d+2*s) (d:Int) ((d:Int)+s) ((d:Int)+2*s) wr rfl gu gu gu gu gu hc3 hro3 hlN3);clear HH hro3;go_wp2_with (go_at_call 197;refine HC3.out.mono ?_;rintro e w4 ⟨rfl,hr4,hg4⟩)
       go_roundw
       case rel=>exact⟨d+2*s,k3,_,by go_num,by first|go_num|(simp;omega),hc3,by omega,hr4,jM hg3 hg4,by rw [oL];exact hlN3,HE3⟩
       case measure=>simp [intOf];omega
      ·by_cases hc4:d+s<N
       ·have HE3:Hid (symM (N-d) l3 d (d+s) N=T):=ab (by rw [←HH.out];simp only [stB];rw [Co hc3,Cl hc4])
        have HC3:=ab (oI B g cap N hl (N-d) l3 d (d+s) N (d:Int) ((d:Int)+s) (N:Int) wr rfl gu rfl gu gu hc4 (Cp _) hro3 hlN3);clear HH hro3;go_wp2_with (go_at_call 197;refine HC3.out.mono ?_;rintro e w4 ⟨rfl,hr4,hg4⟩)
        rw [HE3.out] at hr4;exact⟨⟨2*s,k2,T,by first|go_num|(simp;omega),by omega,by omega,by omega,hr4,jM hg2 (jM hg3 hg4),hTl,HE2⟩,by simp [intOf];omega⟩
       ·have HE3:Hid (l3=T):=ab (by rw [←HH.out];simp only [stB];rw [Co hc3,Co hc4])
        clear HH;go_wp2
        exact⟨⟨2*s,k2,T,by first|go_num|(simp;omega),by omega,by omega,by omega,by rw [←HE3.out];exact hro3,jM hg2 hg3,hTl,HE2⟩,by simp [intOf];omega⟩
    ·have HE2:Hid (l2=R):=ab (by
      rw [←HG.out];cases k2 with
      | zero=>rfl
      | succ k2=>simp only [stC];rw [Co hs])
     clear HG;go_wp2
     go_end0
     exact⟨rfl,by rw [←HE2.out];exact hro2,jM hgw1 hg2⟩
theorem sC (B g cap N:Nat) (rs:List Row) (w:World) (h:RO w B g cap rs) (hN:rs.length=N) (hl:N≤1000000) :
  Calls Tryz.prog 185 #[.slice (some ⟨g,0,none⟩) N cap,.func (.func 186) #[] #[]] w fun e w'=>e=.returned (.tuple #[])∧RO w' B g cap (stL rs)∧w.grownBy w' (some g):=by
 have HRO:=ab h;clear h;go_enter Tryz.func185,Tryz.ntmps185
 go_wp2_with (go_at_call 194;refine(zV B g cap N rs _ HRO.out hN hl).mono ?_;rintro e w1 ⟨rfl,hr1,hg1⟩)
 go_end0
 exact⟨rfl,hr1,hg1⟩
def okC (r:List Str):Prop:=∀p∈r,p≠[]∧p.length≤1000000
theorem RdT.ok {T:TypeId} {x:List Value} {w:World} {g:Nat} {r:List Str} (h:RdT T x w g r):okC r∧r.length≤200000:=by
 obtain⟨a,k,l,i,_,_,h3,h4,h5,h6⟩:=h;subst h6;exact⟨fun p hp=>h5 p (List.mem_of_mem_drop hp),by simp;omega⟩
theorem okC.tail {c:Str} {r:List Str} (h:okC (c::r)):okC r:=fun p hp=>h p (CC _ hp)
theorem ti {c t:Str} (h:l6 c=some t):t.length≤c.length:=by
 unfold l6 at h;by_cases h0:c=[]
 ·rw [Cl h0] at h;cases h
 have hc:1≤c.length:=List.length_pos_iff.2 h0;rw [Co h0] at h;by_cases h1:c=[110]
 ·rw [Cl h1] at h;injection h with h;rw [←h];exact hc
 rw [Co h1] at h;by_cases h2:c=[114]
 ·rw [Cl h2] at h;injection h with h;rw [←h];exact hc
 rw [Co h2] at h;by_cases h3:c=[116]
 ·rw [Cl h3] at h;injection h with h;rw [←h];exact hc
 rw [Co h3] at h;by_cases h4:c=[102]
 ·rw [Cl h4] at h;injection h with h;rw [←h];exact hc
 rw [Co h4] at h;by_cases h5:c=[118]
 ·rw [Cl h5] at h;injection h with h;rw [←h];exact hc
 rw [Co h5] at h;by_cases h6:c=[95]∨lG c=false
 ·rw [Cl h6] at h;injection h with h;rw [h];exact Cp _
 ·rw [Co h6] at h;cases h
theorem mH (b:UInt8):(kM b).length≤4∧∀q∈kM b,q.1.length≤1000000∧q.2.length≤1000000:=by
 unfold kM;by_cases h1:b=100
 ·rw [Cl h1];simp
 rw [Co h1];by_cases h2:b=119
 ·rw [Cl h2];simp
 rw [Co h2];by_cases h3:b=115
 ·rw [Cl h3];simp
 rw [Co h3];simp
theorem oX {r r1:List Str} {c:Str} {nm:List Row} (h:pH r=some (c,nm,r1)) (hr:okC r):r1.length<r.length∧nm.length≤4∧c.length≤1000000∧(∀q∈nm,q.1.length≤1000000∧q.2.length≤1000000)∧okC r1:=by
 cases r with
 | nil=>cases h
 | cons p r =>
  have hp:=hr p (CB ..);simp only [pH] at h;by_cases h1:p=[93]
  ·rw [Cl h1] at h;cases h
  rw [Co h1] at h;by_cases h2:p=[92]
  ·rw [Cl h2] at h
   cases r with
   | nil=>cases h
   | cons c2 r2 =>
    have hp2:=hr c2 (CC _ (CB ..));have ho:=hr.tail.tail;simp only at h
    cases hn:nC c2 with
    | some rows =>
     obtain⟨b,rfl,_,rfl⟩:=pu hn;simp only [hn] at h;injection h with h;injection h with h3 h;injection h with h4 h5
     subst h3 h4 h5;exact⟨by simp;omega,(mH b).1,by simp,(mH b).2,ho⟩
    | none =>
     simp only [hn] at h;cases hpm:l6 c2 with
     | none=>simp only [hpm] at h;cases h
     | some t =>
      simp only [hpm] at h;injection h with h;injection h with h3 h;injection h with h4 h5
      subst h3 h4 h5;exact⟨by simp;omega,by simp,by have:=ti hpm;omega,by simp,ho⟩
  ·rw [Co h2] at h
   injection h with h;injection h with h3 h;injection h with h4 h5
   subst h3 h4 h5;exact⟨by simp,by simp,hp.2,by simp,hr.tail⟩
theorem tK {c:Str} {r:List Str} (h:kG c r=none) (hc:c≠[]):(hdS r==c)=false∧(hdS r != c)=true:=by
 have:hdS r≠c:=by
  cases r with
  | nil=>exact fun e=>hc e.symm
  | cons p r=>intro e;simp only [hdS] at e;rw [kG,Cl e] at h;cases h
 have h1:(hdS r==c)=false:=CM.2 this;exact⟨h1,by simp [bne,h1]⟩
theorem RdT.look0 {T:TypeId} {x:List Value} {w:World} {g:Nat} {c:Str} (h:RdT T x w g [c]):∃(a:Option Addr) (k i n:Nat),w.cell? ⟨g,0,none⟩=some (.slice a n k)∧w.cell? ⟨g,1,none⟩=some (.int .i64 i)∧n=i+1∧n≤200000:=by
 obtain⟨a,k,l,i,c0,c1,hf,hs,hl,hi,hp,hd,hg⟩:=h.cells;obtain⟨h1,h2⟩:=pK hd;exact⟨a,k,i,_,c0,c1,by have:=sJ h2;omega,hl⟩
theorem RdT.look1 {T:TypeId} {x:List Value} {w:World} {g:Nat} {c c2:Str} {r:List Str} (h:RdT T x w g (c::c2::r)):∃(b o k i n:Nat),w.cell? ⟨g,0,none⟩=some (.slice (some ⟨b,o,none⟩) n k)∧w.cell? ⟨g,1,none⟩=some (.int .i64 i)∧i+1<n∧n≤200000∧w.cell? ⟨b,o+(i+1),none⟩=some (.string ⟨c2.toArray⟩):=by
 obtain⟨a,k,l,i,c0,c1,hf,hs,hl,hi,hp,hd,hg⟩:=h.cells;obtain⟨h1,h2⟩:=pK hd;obtain⟨h3,h4,_⟩:=j6 h2;obtain⟨b,o,rfl,hb,k0⟩:=hs.sl.str h4;exact⟨b,o,k,i,_,c0,c1,h3,hl,k0⟩
def ClsRel (g d B L:Nat) (w2:World) (R:Option (List Row × List Str)) (n:Nat) (v:Value) (wr:World):Prop :=
 ∃(rows:List Row) (r:List Str),wr.ownsRow B 72 2 v rows.length (jX rows)∧Rd wr g r d∧w2.grownBy wr (some g)∧rows.length+4*r.length≤L∧r.length<n∧(∀q∈rows,q.1.length≤1000000∧q.2.length≤1000000)∧Hid (lc n rows r=R)
theorem qr (P:List Row) (x:Row) (S:List Row):(P++x::S)[P.length]?=some x:=by
 rw [CD (Cp _),Nat.sub_self];rfl
theorem BG (P:List Row) (x y:Row) (S:List Row):(P++x::S).set P.length y=P++y::S:=by
 rw [List.set_append_right _ _ (Cp _),Nat.sub_self];rfl
theorem pV (P Q S:List Row) (x y:Row) (i j:Nat) (hi:i=P.length) (hj:j=P.length+1+Q.length):mb (P++x::(Q++y::S)) i j=P++y::(Q++x::S):=by
 subst hi hj;have h2:P++x::(Q++y::S)=(P++x::Q)++y::S:=gF;have hl:(P++x::Q).length=P.length+1+Q.length:=by simp;omega
 have g1:(P++x::(Q++y::S))[P.length]?=some x:=qr _ _ _;have g2:(P++x::(Q++y::S))[P.length+1+Q.length]?=some y:=by rw [h2,←hl];exact qr _ _ _
 rw [yH g1 g2,BG];have h3:P++y::(Q++y::S)=(P++y::Q)++y::S:=gF;have hl2:(P++y::Q).length=P.length+1+Q.length:=by simp;omega
 rw [h3,←hl2,BG];simp
theorem r8 {rs:List Row} {i j:Nat} (h:i≠j):mb rs i j=mb rs j i:=by
 unfold mb;cases h1:rs[i]? with
 | none=>cases h2:rs[j]?<;>rfl
 | some x =>
  cases h2:rs[j]? with
  | none=>rfl
  | some y=>exact List.set_comm _ _ h
theorem vr (a b:Nat):∀(X Y P Q S:List Row) (i:Nat),X.length=Y.length→a+i=P.length→b+i=P.length+X.length+Q.length →
  (List.range' i X.length).foldl (fun l k=>mb l (a+k) (b+k)) (P++(X++(Q++(Y++S))))=P++(Y++(Q++(X++S)))
 | [],[],P,Q,S,i,_,_,_=>by simp
 | [],_::_,_,_,_,_,h,_,_=>by simp at h
 | _::_,[],_,_,_,_,h,_,_=>by simp at h
 | x::X,y::Y,P,Q,S,i,hl,ha,hb=>by
  simp only [Cr] at hl hb;rw [Cr,List.range'_succ,CN];have h1:P++(x::X++(Q++(y::Y++S)))=P++x::((X++Q)++y::(Y++S)):=gF;rw [h1,pV P (X++Q) (Y++S) x y (a+i) (b+i) ha iK];have h2:P++y::((X++Q)++x::(Y++S))=(P++[y])++(X++((Q++[x])++(Y++S))):=gF;rw [h2,vr a b X Y (P++[y]) (Q++[x]) S (i+1) gu gH gH];simp
theorem rJ (X Y P Q S:List Row) (a b n:Nat) (hl:X.length=Y.length) (ha:a=P.length) (hb:b=P.length+X.length+Q.length) (hn:n=X.length) :
  rX (P++(X++(Q++(Y++S)))) a b n=P++(Y++(Q++(X++S))):=by
 subst hn;exact vr a b X Y P Q S 0 hl gu gu
theorem nL (l:List Row) {n:Nat} (h:n≤l.length):∃a b,l=a++b∧a.length=n∧b.length=l.length-n :=
 ⟨l.take n,l.drop n,(List.take_append_drop n l).symm,by rw [CK];omega,by rw [CS]⟩
theorem tD:∀(k:Nat) (P A B S:List Row) (m i j:Nat),m=P.length+A.length→i=A.length→j=B.length→0<i→0<j→i+j≤k →
  rotL k (P++(A++(B++S))) m i j=P++(B++(A++S))
 | 0,P,A,B,S,m,i,j,_,_,_,h1,_,h=>by omega
 | k+1,P,A,B,S,m,i,j,hm,hi,hj,h1,h2,hk=>by
  simp only [rotL];by_cases hij:i=j
  ·rw [Cl hij]
   have:=rJ A B P [] S (m-i) m i gu gu gH hi
   simpa using this
  ·rw [Co hij]
   by_cases hlt:j<i
   ·rw [Cl hlt]
    obtain⟨A1,A2,rfl,l1,l2⟩:=nL A (n:=j) gu;rw [Cy] at hm hi;have e1:P++(A1++A2++(B++S))=P++(A1++(A2++(B++S))):=gF;rw [e1,rJ A1 B P A2 S (m-i) m j gu gu gu l1.symm];have e2:P++(B++(A2++(A1++S)))=(P++B)++(A2++(A1++S)):=gF;rw [e2,tD k (P++B) A2 A1 S m (i-j) j gH gu gu gu h2 gu];simp
   ·rw [Co hlt]
    obtain⟨B1,B2,rfl,l1,l2⟩:=nL B (n:=j-i) gu;rw [Cy] at hj l2;have e1:P++(A++(B1++B2++S))=P++(A++(B1++(B2++S))):=gF;rw [e1,rJ A B2 P B1 S (m-i) (m+j-i) i gu gu gu hi];have e2:P++(B2++(B1++(A++S)))=P++(B2++(B1++(A++S))):=rfl;rw [tD k P B2 B1 (A++S) m i (j-i) gu gu gu h1 gu gu];simp
theorem xx (x:Row):∀(B P S:List Row) (a n:Nat),a=P.length→n=B.length→upSw (P++x::(B++S)) a n=P++(B++x::S)
 | [],P,S,a,n,_,hn=>by simp at hn;subst hn;simp [upSw]
 | b::B,P,S,a,n,ha,hn=>by
  subst hn;have ih:=xx x B (P++[b]) S (a+1) B.length gH rfl;unfold upSw at ih ⊢;rw [Cr,List.range'_succ,CN];have h1:=pV P [] (B++S) x b a (a+1) ha gH;rw [CT,CT] at h1;rw [show P++x::(b::B++S)=P++x::b::(B++S) by simp,h1];simpa using ih
theorem yA (x:Row):∀(n:Nat) (B P S:List Row) (m:Nat),n=B.length→m=P.length+B.length→dnSw n (P++(B++x::S)) m=P++x::(B++S)
 | 0,B,P,S,m,hn,_=>by
  have hB:B=[]:=Cm hn.symm;subst hB;simp [dnSw]
 | n+1,B,P,S,m,hn,hm=>by
  have hne:B≠[]:=by rintro rfl;simp at hn
  obtain⟨C,b,rfl⟩:∃C b,B=C++[b]:=⟨B.dropLast,B.getLast hne,(List.dropLast_concat_getLast hne).symm⟩;simp only [Cy,Cr,CW] at hn hm;simp only [dnSw];have h1:=pV (P++C) [] S b x (m-1) m gH gH;rw [CT,CT] at h1;rw [r8 gu,show P++(C++[b]++x::S)=P++C++b::x::S by simp,h1];have ih:=yA x n C P (b::S) (m-1) gu gu;rw [show P++C++x::b::S=P++(C++x::b::S) by simp,ih];simp
theorem tR {a b:Row}:cmpR a b<0↔Op.bytesLess a.1 b.1=true∨(a.1=b.1∧Op.bytesLess a.2 b.2=true):=by
 unfold cmpR;rcases qv a.1 b.1 with⟨h1,h2⟩|⟨h1,h2⟩|⟨h1,h2⟩
 ·rw [h1];simp [h2]
 ·rw [h1,Cl rfl]
  have hn:Op.bytesLess a.1 b.1=false:=by rw [h2];exact kV _
  rcases qv a.2 b.2 with⟨g1,g2⟩|⟨g1,g2⟩|⟨g1,g2⟩
  ·rw [g1];simp [h2,g2]
  ·rw [g1];simp [hn,g2,kV]
  ·rw [g1];simp [hn,oS g2]
 ·rw [h1,Co gD]
  have hn:=oS h2;have hne:a.1≠b.1:=by intro e;rw [e,kV] at h2;cases h2
  simp [hn,hne]
def ltR (a b:Row):Prop:=cmpR a b<0
def leR (a b:Row):Prop:=¬ltR b a
instance (a b:Row):Decidable (ltR a b):=inferInstanceAs (Decidable (_<_))
theorem sP (a:Row):¬ltR a a:=by unfold ltR;rw [tR];simp [kV]
theorem rD {a b c:Row} (h1:ltR a b) (h2:ltR b c):ltR a c:=by
 unfold ltR at *;rw [tR] at *;rcases h1 with h1|⟨e1,h1⟩<;>rcases h2 with h2|⟨e2,h2⟩
 ·exact .inl (oM h1 h2)
 ·exact .inl (e2▸h1)
 ·exact .inl (e1▸h2)
 ·exact .inr ⟨e1.trans e2,oM h1 h2⟩
theorem ry (a b:Row):ltR a b∨a=b∨ltR b a:=by
 unfold ltR;rw [tR,tR];obtain⟨a1,a2⟩:=a;obtain⟨b1,b2⟩:=b;rcases nv a1 b1 with h|rfl|h
 ·exact .inl (.inl h)
 ·rcases nv a2 b2 with h|rfl|h
  ·exact .inl (.inr ⟨rfl,h⟩)
  ·exact .inr (.inl rfl)
  ·exact .inr (.inr (.inr ⟨rfl,h⟩))
 ·exact .inr (.inr (.inl h))
theorem yL (a:Row):leR a a:=sP a
theorem pY {a b:Row} (h:ltR a b):leR a b:=fun h2=>sP a (rD h h2)
theorem mp {a b c:Row} (h1:leR a b) (h2:leR b c):leR a c:=fun h=>by
 rcases ry b a with h3|rfl|h3
 ·exact h1 h3
 ·exact h2 h
 ·exact h2 (rD h h3)
theorem vh (a b:Row):leR a b∨leR b a:=by
 rcases ry a b with h|rfl|h
 ·exact .inl (pY h)
 ·exact .inl (yL a)
 ·exact .inr (pY h)
abbrev Srt (l:List Row):Prop:=l.Pairwise leR
theorem oF {l:List Row} (h:Srt l) {i j:Nat} {x y:Row} (hij:i≤j) (hi:l[i]?=some x) (hj:l[j]?=some y):leR x y:=by
 rcases Nat.eq_or_lt_of_le hij with rfl|hlt
 ·rw [hi] at hj;injection hj with hj;subst hj;exact yL _
 ·obtain⟨hi',rfl⟩:=Cq.1 hi
  obtain⟨hj',rfl⟩:=Cq.1 hj;exact List.pairwise_iff_getElem.1 h i j hi' hj' hlt
theorem sj (p:Nat→Bool):∀(k i j:Nat),i≤j→j-i≤k→(∀x y,i≤x→x≤y→y<j→p y=true→p x=true) →
  (∀x,i≤x→x<bs p k i j→p x=true)∧(∀x,bs p k i j≤x→x<j→p x=false)
 | 0,i,j,h,hk,_=>by
  simp only [bs];exact⟨fun x h1 h2=>by omega,fun x h1 h2=>by omega⟩
 | k+1,i,j,h,hk,hm=>by
  simp only [bs];by_cases hlt:i<j
  ·rw [Cl hlt]
   generalize hH:(i+j) / 2=H
   have hHb:i≤H∧H<j:=gu;cases hp:p H with
   | true =>
    rw [Cl rfl];obtain⟨g1,g2⟩:=sj p k (H+1) j gu gu (fun x y a b c d=>hm x y gu b c d);refine⟨fun x h1 h2=>?_,g2⟩;by_cases hx:x≤H
    ·exact hm x H h1 hx hHb.2 hp
    ·exact g1 x gu h2
   | false =>
    rw [Co gF];obtain⟨g1,g2⟩:=sj p k i H hHb.1 gu (fun x y a b c d=>hm x y a b gu d);have hbd:=ug p k i H hHb.1;refine⟨g1,fun x h1 h2=>?_⟩;by_cases hx:x<H
    ·exact g2 x h1 hx
    ·cases hq:p x with
     | false=>rfl
     | true=>rw [hm H x hHb.1 gu h2 hq] at hp;cases hp
  ·rw [Co hlt]
   exact⟨fun x h1 h2=>by omega,fun x h1 h2=>by omega⟩
theorem tL (P B S:List Row) {t:Nat} (h:t<B.length):(P++(B++S))[P.length+t]?=B[t]?:=by
 rw [CD gu,Nat.add_sub_cancel_left,CA h]
theorem srt_app {l r:List Row}:Srt (l++r)↔Srt l∧Srt r∧∀x∈l,∀y∈r,leR x y:=List.pairwise_append
theorem tz {rs:List Row} {i j:Nat} {x y:Row} (h1:rs[i]?=some x) (h2:rs[j]?=some y):ltAt rs i j=true↔ltR x y:=by
 rw [tU h1 h2,Cj];rfl
theorem sym_one (P B S:List Row) (x:Row) (a b:Nat) (ha:a=P.length) (hb:b=a+1+B.length) (hs:Srt B) :
  ∃M,upSw (P++([x]++(B++S))) a (bs (fun h=>ltAt (P++([x]++(B++S))) h a) b (a+1) b-1-a)=P++(M++S)∧M.Perm ([x]++B)∧Srt M:=by
 obtain⟨rs,hrs⟩:∃rs,P++([x]++(B++S))=rs:=⟨_,rfl⟩;rw [hrs];have hx:rs[a]?=some x:=by rw [←hrs,ha];exact qr _ _ _
 have hget:∀t,t<B.length→rs[a+1+t]?=B[t]?:=fun t ht=>by
  rw [←hrs,show P++([x]++(B++S))=(P++[x])++(B++S) by simp];have:=tL (P++[x]) B S ht
  rw [←this,Cy];simp [ha]
 have hval:∀t,t<B.length→∃y,B[t]?=some y:=fun t ht=>⟨_,Cn ht⟩
 have hp:∀t y,B[t]?=some y→(ltAt rs (a+1+t) a=true↔ltR y x):=fun t y hy=>by
  have ht:=(Cq.1 hy).1;exact tz (by rw [hget t ht];exact hy) hx
 have hbd:=ug (fun h=>ltAt rs h a) b (a+1) b gu;obtain⟨g1,g2⟩:=sj (fun h=>ltAt rs h a) b (a+1) b gu gu (fun u v h1 h2 h3 h4=>by
  obtain⟨yu,hu⟩:=hval (u-(a+1)) gu;obtain⟨yv,hv⟩:=hval (v-(a+1)) gu;have q1:=hp _ _ hu;have q2:=hp _ _ hv;rw [show a+1+(u-(a+1))=u by omega] at q1;rw [show a+1+(v-(a+1))=v by omega] at q2;rw [q1];have hle:=oF hs (by omega:u-(a+1)≤v-(a+1)) hu hv;have hlt:=q2.1 h4;rcases ry yu x with h|h|h
  ·exact h
  ·rw [h] at hle;exact absurd hlt hle
  ·exact absurd (rD hlt h) hle)
 generalize bs (fun h=>ltAt rs h a) b (a+1) b=s at *
 obtain⟨B1,B2,rfl,l1,l2⟩:=nL B (n:=s-1-a) gu;rw [Cy] at hb hval hget;refine⟨B1++x::B2,?_,?_,?_⟩
 ·rw [←hrs]
  have:=xx x B1 P (B2++S) a (s-1-a) ha l1.symm
  simpa using this
 ·simp
 ·obtain⟨h1,h2,h3⟩:=srt_app.1 hs
  have k1:∀y∈B1,leR y x:=fun y hy=>by
   obtain⟨t,ht⟩:=List.getElem?_of_mem hy;have htl:=(Cq.1 ht).1;exact pY ((hp t y (by rw [CA htl];exact ht)).1 (g1 _ gu gu))
  have k2:∀y∈B2,leR x y:=fun y hy=>by
   obtain⟨t,ht⟩:=List.getElem?_of_mem hy;have htl:=(Cq.1 ht).1;intro hlt;have:=(hp (B1.length+t) y (by rw [CD gu,Nat.add_sub_cancel_left];exact ht)).2 hlt
   rw [g2 _ gu gu] at this;cases this
  exact dh
theorem sym_last (P A S:List Row) (x:Row) (a m:Nat) (ha:a=P.length) (hm:m=a+A.length) (hs:Srt A) :
  ∃M,dnSw (m-bs (fun h=>!ltAt (P++(A++([x]++S))) m h) m a m) (P++(A++([x]++S))) m=P++(M++S)∧M.Perm (A++[x])∧Srt M:=by
 obtain⟨rs,hrs⟩:∃rs,P++(A++([x]++S))=rs:=⟨_,rfl⟩;rw [hrs];have hx:rs[m]?=some x:=by
  rw [←hrs,show P++(A++([x]++S))=(P++A)++x::S by simp,show m=(P++A).length by simp;omega];exact qr _ _ _
 have hget:∀t,t<A.length→rs[a+t]?=A[t]?:=fun t ht=>by rw [←hrs,ha];exact tL P A _ ht
 have hval:∀t,t<A.length→∃y,A[t]?=some y:=fun t ht=>⟨_,Cn ht⟩
 have hp:∀t y,A[t]?=some y→((!ltAt rs m (a+t))=true↔leR y x):=fun t y hy=>by
  have ht:=(Cq.1 hy).1;have:=tz hx (show rs[a+t]?=some y by rw [hget t ht];exact hy)
  unfold leR;rw [←this];simp
 have hbd:=ug (fun h=>!ltAt rs m h) m a m gu;obtain⟨g1,g2⟩:=sj (fun h=>!ltAt rs m h) m a m gu gu (fun u v h1 h2 h3 h4=>by
  obtain⟨yu,hu⟩:=hval (u-a) gu;obtain⟨yv,hv⟩:=hval (v-a) gu;have q1:=hp _ _ hu;have q2:=hp _ _ hv;rw [show a+(u-a)=u by omega] at q1;rw [show a+(v-a)=v by omega] at q2;rw [q1];exact mp (oF hs (by omega:u-a≤v-a) hu hv) (q2.1 h4))
 generalize bs (fun h=>!ltAt rs m h) m a m=s at *
 obtain⟨A1,A2,rfl,l1,l2⟩:=nL A (n:=s-a) gu;rw [Cy] at hm hval hget l2;refine⟨A1++x::A2,?_,?_,?_⟩
 ·rw [←hrs]
  have:=yA x (m-s) A2 (P++A1) S m gu gH
  simpa using this
 ·have:=List.perm_middle (l₁:=A1) (l₂:=A2) (a:=x)
  exact this.trans ((List.perm_append_singleton x (A1++A2)).symm)
 ·obtain⟨h1,h2,h3⟩:=srt_app.1 hs
  have k1:∀y∈A1,leR y x:=fun y hy=>by
   obtain⟨t,ht⟩:=List.getElem?_of_mem hy;have htl:=(Cq.1 ht).1;exact(hp t y (by rw [CA htl];exact ht)).1 (g1 _ gu gu)
  have k2:∀y∈A2,leR x y:=fun y hy=>by
   obtain⟨t,ht⟩:=List.getElem?_of_mem hy;have htl:=(Cq.1 ht).1;have hb:=g2 (a+(A1.length+t)) gu gu;have hq:=hp (A1.length+t) y (by rw [CD gu,Nat.add_sub_cancel_left];exact ht);rw [hb] at hq;exact(vh x y).resolve_right (fun h=>by have:=hq.2 h;cases this)
  exact dh
theorem lU {l:List Row} (h:l.length=0):l=[]:=Cm h
theorem nT:∀(f:Nat) (P A B S:List Row) (a m b:Nat),a=P.length→m=a+A.length→b=m+B.length→0<A.length→0<B.length→A.length+B.length≤f→Srt A→Srt B →
  ∃M,symM f (P++(A++(B++S))) a m b=P++(M++S)∧M.Perm (A++B)∧Srt M
 | 0,P,A,B,S,a,m,b,_,_,_,h1,h2,h,_,_=>by omega
 | f+1,P,A,B,S,a,m,b,ha,hm,hb,h1,h2,hf,hA,hB=>by
  by_cases c1:m=a+1
  ·match A,hm,hA with
   | [x],hm,_ =>
    subst c1;rw [xH];exact sym_one P B S x a b ha hb hB
   | [],hm,_=>simp at h1
   | _::_::_,hm,_=>simp at hm;omega
  by_cases c2:b=m+1
  ·match B,hb,hB with
   | [x],hb,_ =>
    subst c2;rw [vg c1];exact sym_last P A S x a m ha hm hA
   | [],hb,_=>simp at h2
   | _::_::_,hb,_=>simp at hb;omega
  rw [yD c1 c2];obtain⟨rs,hrs⟩:∃rs,P++(A++(B++S))=rs:=⟨_,rfl⟩;rw [hrs];obtain⟨Mi,hMi⟩:∃M,(a+b) / 2=M:=⟨_,rfl⟩;obtain⟨LO,hLO⟩:∃LO,sLo a m b=LO:=⟨_,rfl⟩;obtain⟨HI,hHI⟩:∃HI,sHi a m b=HI:=⟨_,rfl⟩;rw [hMi,hLO,hHI];have hlohi:a≤LO∧LO≤HI∧HI≤Mi∧HI≤m∧Mi+m≤LO+b∧(LO=a∨LO=Mi+m-b)∧(HI=m∨HI=Mi):=by
   unfold sLo at hLO;unfold sHi at hHI;rw [hMi] at hLO hHI;by_cases hc:Mi<m
   ·rw [Cl hc] at hLO hHI;omega
   ·rw [Co hc] at hLO hHI;omega
  obtain⟨q1,q2,q3,q4,q5,q6,q7⟩:=hlohi;have gA:∀c,a≤c→c<m→∃x,A[c-a]?=some x∧rs[c]?=some x:=fun c u v=>by
   obtain⟨x,hx⟩:∃x,A[c-a]?=some x:=⟨_,Cn gu⟩;refine⟨x,hx,?_⟩;rw [←hrs,←hx];have:=tL P A (B++S) (t:=c-a) gu
   rw [show P.length+(c-a)=c by omega] at this;exact this
  have gB:∀c,m≤c→c<b→∃x,B[c-m]?=some x∧rs[c]?=some x:=fun c u v=>by
   obtain⟨x,hx⟩:∃x,B[c-m]?=some x:=⟨_,Cn gu⟩;refine⟨x,hx,?_⟩;rw [←hrs,←hx,show P++(A++(B++S))=(P++A)++(B++S) by simp];have:=tL (P++A) B S (t:=c-m) gu
   rw [show (P++A).length+(c-m)=c by simp;omega] at this;exact this
  have hp:∀c x y,LO≤c→c<HI→A[c-a]?=some x→B[Mi+m-1-c-m]?=some y→((!ltAt rs (Mi+m-1-c) c)=true↔leR x y):=fun c x y u v hx hy=>by
   obtain⟨x',hx1,hx2⟩:=gA c gu gu;obtain⟨y',hy1,hy2⟩:=gB (Mi+m-1-c) gu gu;obtain rfl:=Option.some.inj (hx.symm.trans hx1);obtain rfl:=Option.some.inj (hy.symm.trans hy1);have:=tz hy2 hx2
   unfold leR;rw [←this];simp
  have hbd:=ug (fun c=>!ltAt rs (Mi+m-1-c) c) b LO HI q2;obtain⟨g1,g2⟩:=sj (fun c=>!ltAt rs (Mi+m-1-c) c) b LO HI q2 gu (fun u v k1 k2 k3 k4=>by
   obtain⟨xu,hxu,_⟩:=gA u gu gu;obtain⟨xv,hxv,_⟩:=gA v gu gu;obtain⟨yu,hyu,_⟩:=gB (Mi+m-1-u) gu gu;obtain⟨yv,hyv,_⟩:=gB (Mi+m-1-v) gu gu;rw [hp u xu yu k1 gu hxu hyu];have:=(hp v xv yv gu k3 hxv hyv).1 k4
   exact mp (mp (oF hA gu hxu hxv) this) (oF hB gu hyv hyu))
  generalize bs (fun c=>!ltAt rs (Mi+m-1-c) c) b LO HI=s at *
  obtain⟨E,hE⟩:∃E,Mi+m-s=E:=⟨_,rfl⟩;rw [hE];obtain⟨A1,A2,rfl,l1,l2⟩:=nL A (n:=s-a) gu;obtain⟨B1,B2,rfl,l3,l4⟩:=nL B (n:=E-m) gu;simp only [Cy] at hm hb h1 h2 hf l2 l4;obtain⟨sA1,sA2,sA⟩:=srt_app.1 hA;obtain⟨sB1,sB2,sB⟩:=srt_app.1 hB;have hcross:∀x∈A1++B1,∀y∈A2++B2,leR x y:=by
   intro x hx y hy;rcases CI.1 hx with hx|hx<;>rcases CI.1 hy with hy|hy
   ·exact sA x hx y hy
   ·obtain⟨t,ht⟩:=List.getElem?_of_mem hx
    obtain⟨v,hv⟩:=List.getElem?_of_mem hy;have htl:=(Cq.1 ht).1;have hvl:=(Cq.1 hv).1;have hLs:LO<s:=gu;obtain⟨x',hx1,_⟩:=gA (s-1) gu gu;obtain⟨y',hy1,_⟩:=gB (Mi+m-1-(s-1)) gu gu;have:=(hp (s-1) x' y' gu gu hx1 hy1).1 (g1 (s-1) gu gu)
    exact mp (mp (oF hA (show t≤s-1-a by omega) (by rw [CA htl];exact ht) hx1) this)
     (oF hB (show Mi+m-1-(s-1)-m≤B1.length+v by omega) hy1 (by rw [CD gu,Nat.add_sub_cancel_left];exact hv))
   ·obtain⟨t,ht⟩:=List.getElem?_of_mem hx
    obtain⟨v,hv⟩:=List.getElem?_of_mem hy;have htl:=(Cq.1 ht).1;have hvl:=(Cq.1 hv).1;have hsH:s<HI:=gu;obtain⟨x',hx1,_⟩:=gA s gu gu;obtain⟨y',hy1,_⟩:=gB (Mi+m-1-s) gu gu;have hn:=g2 s (Cp _) hsH;have hq:=hp s x' y' hbd.1 hsH hx1 hy1;have hle:leR y' x':=(vh x' y').resolve_left (fun h=>by have:=hq.2 h;rw [hn] at this;cases this);exact mp (mp (oF hB (show t≤Mi+m-1-s-m by omega) (by rw [CA htl];exact ht) hy1) hle)
     (oF hA (show s-a≤A1.length+v by omega) hx1 (by rw [CD gu,Nat.add_sub_cancel_left];exact hv))
   ·exact sB x hx y hy
  have hr1:(if s<m∧m<E then rotL (E-s) rs m (m-s) (E-m) else rs)=P++(A1++(B1++(A2++(B2++S)))):=by
   by_cases hc:s<m∧m<E
   ·rw [Cl hc,←hrs]
    have:=tD (E-s) (P++A1) A2 B1 (B2++S) m (m-s) (E-m) gH gu gu gu gu gu
    simpa using this
   ·rw [Co hc,←hrs]
    by_cases hs:s<m
    ·have:B1=[]:=lU gu
     subst this;simp
    ·have:A2=[]:=lU gu
     subst this;simp
  rw [hr1];have hr2:∃M1,(if a<s∧s<Mi then symM f (P++(A1++(B1++(A2++(B2++S))))) a s Mi else P++(A1++(B1++(A2++(B2++S)))))=P++(M1++(A2++(B2++S)))∧M1.Perm (A1++B1)∧Srt M1:=by
   by_cases hc:a<s∧s<Mi
   ·rw [Cl hc]
    exact nT f P A1 B1 (A2++(B2++S)) a s Mi ha gu gu gu gu gu sA1 sB1
   ·rw [Co hc]
    by_cases hs:a<s
    ·have:B1=[]:=lU gu
     subst this;exact⟨A1,by simp,by simp,sA1⟩
    ·have:A1=[]:=lU gu
     subst this;exact⟨B1,by simp,by simp,sB1⟩
  obtain⟨M1,e1,p1,s1⟩:=hr2;unfold symT;rw [e1];have hl1:M1.length=Mi-a:=by rw [p1.length_eq,Cy];omega
  have hr3:∃M2,(if Mi<E∧E<b then symM f (P++(M1++(A2++(B2++S)))) Mi E b else P++(M1++(A2++(B2++S))))=P++(M1++(M2++S))∧M2.Perm (A2++B2)∧Srt M2:=by
   by_cases hc:Mi<E∧E<b
   ·rw [Cl hc]
    obtain⟨M2,e2,p2,s2⟩:=nT f (P++M1) A2 B2 S Mi E b gH gu gu gu gu gu sA2 sB2;exact⟨M2,by simpa using e2,p2,s2⟩
   ·rw [Co hc]
    by_cases hs:Mi<E
    ·have:B2=[]:=lU gu
     subst this;exact⟨A2,by simp,by simp,sA2⟩
    ·have:A2=[]:=lU gu
     subst this;exact⟨B2,by simp,by simp,sB2⟩
  obtain⟨M2,e2,p2,s2⟩:=hr3;refine⟨M1++M2,by rw [e2];simp,?_,?_⟩
  ·refine(p1.append p2).trans ?_
   have h1:((A1++B1)++(A2++B2)).Perm ((A1++A2)++(B1++B2)):=by
    rw [CU,CU];refine List.Perm.append_left A1 ?_;rw [←CU,←CU];exact List.Perm.append_right B2 List.perm_append_comm
   exact h1
  ·rw [srt_app]
   exact⟨s1,s2,fun x hx y hy=>hcross x (p1.mem_iff.1 hx) y (p2.mem_iff.1 hy)⟩
theorem zY (a:Nat) (rs:List Row):pU a a rs=rs:=by
 cases a with
 | zero=>rfl
 | succ j =>
  simp only [pU];split
  ·rw [Co gu]
  ·rfl
theorem xB {A:List Row} {x:Row} (h:Srt A) (hx:∀y∈A,leR y x):Srt (A++[x]):=by
 refine List.pairwise_append.2 ⟨h,List.pairwise_singleton _ _,fun y hy z hz=>?_⟩;rw [CV] at hz;subst hz;exact hx y hy
theorem uq (P:List Row) (x:Row):∀(n:Nat) (A S:List Row) (a j:Nat),n=A.length→a=P.length→j=a+A.length→Srt A →
  ∃M,pU a j (P++(A++x::S))=P++(M++S)∧M.Perm (A++[x])∧Srt M
 | 0,A,S,a,j,hn,ha,hj,hA=>by
  obtain rfl:=lU hn.symm;obtain rfl:j=a:=by simpa using hj
  exact⟨[x],by rw [zY];simp,by simp,List.pairwise_singleton _ _⟩
 | n+1,A,S,a,j,hn,ha,hj,hA=>by
  rcases sV A with rfl|⟨B,y,rfl⟩
  ·simp at hn
  simp only [Cy,List.length_singleton] at hn hj;obtain⟨j,rfl⟩:∃j',j=j'+1:=⟨a+B.length,by omega⟩;obtain⟨hB,_,hy⟩:=List.pairwise_append.1 hA;have hy:∀z∈B,leR z y:=fun z hz=>hy z hz y gF
  have e1:P++((B++[y])++x::S)=(P++B)++y::([]++x::S):=gF;have hl:(P++B).length=j:=by rw [Cy];omega
  have g1:((P++B)++y::([]++x::S))[j]?=some y:=by rw [←hl];exact qr _ _ _
  have g2:((P++B)++y::([]++x::S))[j+1]?=some x:=by
   rw [show (P++B)++y::([]++x::S)=(P++B++[y])++x::S by simp,show j+1=(P++B++[y]).length by rw [Cy,hl];rfl];exact qr _ _ _
  rw [e1];simp only [pU,g1,g2];by_cases hc:cmpR x y<0
  ·rw [Cl ⟨by omega,hc⟩,r8 gu,pV (P++B) [] S y x j (j+1) hl.symm (by rw [hl];simp)]
   obtain⟨M,h1,h2,h3⟩:=uq P x n B (y::S) a j gu ha gu hB;refine⟨M++[y],?_,?_,?_⟩
   ·rw [show (P++B)++x::([]++y::S)=P++(B++x::y::S) by simp,h1];simp
   ·have:=h2.append_right [y]
    refine this.trans ?_;rw [CU,CU];exact List.Perm.append_left B (List.Perm.swap _ _ _)
   ·refine xB h3 (fun z hz=>?_)
    have hz:=h2.mem_iff.1 hz;rw [CI,CV] at hz;rcases hz with hz|rfl
    ·exact hy z hz
    ·exact pY hc
  ·rw [Co (by intro h;exact hc h.2)]
   refine⟨B++[y]++[x],by simp,.refl _,xB hA (fun z hz=>?_)⟩;rw [CI,CV] at hz;rcases hz with hz|rfl
   ·exact mp (hy z hz) hc
   ·exact hc
theorem qt (P:List Row):∀(B A S:List Row) (a k i:Nat),k=B.length→a=P.length→i=a+A.length→Srt A →
  ∃M,my a k i (P++(A++(B++S)))=P++(M++S)∧M.Perm (A++B)∧Srt M
 | [],A,S,a,k,i,hk,ha,hi,hA=>by
  subst hk;exact⟨A,by simp [my],by simp,hA⟩
 | x::B,A,S,a,k,i,hk,ha,hi,hA=>by
  subst hk;obtain⟨M,h1,h2,h3⟩:=uq P x A.length A (B++S) a i rfl ha hi hA;have hl:M.length=A.length+1:=by rw [h2.length_eq];simp
  obtain⟨M2,g1,g2,g3⟩:=qt P B M S a B.length (i+1) rfl ha gu h3;refine⟨M2,?_,?_,g3⟩
  ·simp only [Cr,my,CZ];rw [h1,g1]
  ·refine g2.trans ((h2.append_right B).trans ?_)
   simp
inductive Blk (s:Nat):List Row→Prop
 | last {l:List Row}:l.length<s→Srt l→Blk s l
 | cons {A l:List Row}:A.length=s→Srt A→Blk s l→Blk s (A++l)
theorem Blk.take {s:Nat} {l:List Row} (h:Blk s l) (hl:s≤l.length):∃A T,l=A++T∧A.length=s∧Srt A∧Blk s T:=by
 cases h with
 | last h1 _=>omega
 | cons h1 h2 h3=>exact⟨_,_,rfl,h1,h2,h3⟩
theorem Blk.short {s:Nat} {l:List Row} (h:Blk s l) (hl:l.length<s):Srt l:=by
 cases h with
 | last _ h2=>exact h2
 | cons h1 h2 h3=>rw [Cy] at hl;omega
theorem Blk.whole {s:Nat} {l:List Row} (h:Blk s l) (hl:l.length≤s):Srt l:=by
 rcases Nat.eq_or_lt_of_le hl with e|e
 ·obtain⟨A,T,rfl,h1,h2,h3⟩:=h.take gu
  obtain rfl:T=[]:=lU (by rw [Cy] at e;omega);simpa using h2
 ·exact h.short e
theorem A9:∀(k:Nat) (P S:List Row) (a n:Nat),a=P.length→n=a+S.length→n<a+k→∃M,stA k (P++S) a n=P++M∧M.Perm S∧Blk 20 M
 | 0,P,S,a,n,_,_,h=>by omega
 | k+1,P,S,a,n,ha,hn,hk=>by
  simp only [stA];by_cases hc:a+20≤n
  ·rw [Cl hc]
   obtain⟨A,T,rfl,hA,hT⟩:=nL S (n:=20) gu;match A,hA,hn,hT with
   | x::A,hA,hn,hT =>
    simp only [Cr] at hA;obtain⟨M,h1,h2,h3⟩:=qt P A [x] T a (a+20-(a+1)) (a+1) gu ha rfl (List.pairwise_singleton _ _);have hl:M.length=20:=by rw [h2.length_eq];simp;omega
    obtain⟨M2,g1,g2,g3⟩:=A9 k (P++M) T (a+20) n iK (by simp at hn;omega) gu;refine⟨M++M2,?_,?_,.cons hl h3 g3⟩
    ·rw [show P++((x::A)++T)=P++([x]++(A++T)) by simp,h1,←CU,g1,CU]
    ·exact(h2.append_right M2).trans (g2.append_left _)
   | [],hA,_,_=>simp at hA
  ·rw [Co hc]
   match S,hn with
   | [],hn =>
    obtain rfl:n=a:=by simpa using hn
    refine⟨[],?_,.refl _,.last gF List.Pairwise.nil⟩;rw [show n-(n+1)=0 by omega];rfl
   | x::S,hn =>
    simp only [Cr] at hn;obtain⟨M,h1,h2,h3⟩:=qt P S [x] [] a (n-(a+1)) (a+1) gu ha rfl (List.pairwise_singleton _ _);have hl:M.length=S.length+1:=by rw [h2.length_eq];simp
    refine⟨M,?_,h2,.last gu h3⟩;rw [C2,C2] at h1;exact h1
theorem Ce (s:Nat) (hs:0<s):∀(k:Nat) (P S:List Row) (a n:Nat),a=P.length→n=a+S.length→n<a+k→Blk s S→∃M,stB k (P++S) a s n=P++M∧M.Perm S∧Blk (2*s) M
 | 0,P,S,a,n,_,_,h,_=>by omega
 | k+1,P,S,a,n,ha,hn,hk,hB=>by
  simp only [stB];by_cases hc:a+2*s≤n
  ·rw [Cl hc]
   obtain⟨A,T,rfl,hA,hsA,hT⟩:=hB.take gu;rw [Cy] at hn;obtain⟨B,T,rfl,hB2,hsB,hT2⟩:=hT.take gu;rw [Cy] at hn;obtain⟨M,h1,h2,h3⟩:=nT (2*s) P A B T a (a+s) (a+2*s) ha gu gu gu gu gu hsA hsB;have hl:M.length=2*s:=by rw [h2.length_eq,Cy];omega
   obtain⟨M2,g1,g2,g3⟩:=Ce s hs k (P++M) T (a+2*s) n iK gu gu hT2;refine⟨M++M2,?_,?_,.cons hl h3 g3⟩
   ·rw [h1,←CU,g1,CU]
   ·rw [←CU];exact(h2.append_right M2).trans (g2.append_left _)
  ·rw [Co hc]
   by_cases hd:a+s<n
   ·rw [Cl hd]
    obtain⟨A,T,rfl,hA,hsA,hT⟩:=hB.take gu;rw [Cy] at hn;obtain⟨M,h1,h2,h3⟩:=nT (n-a) P A T [] a (a+s) n ha gu gu gu gu gu hsA (hT.short gu);have hl:M.length=n-a:=by rw [h2.length_eq,Cy];omega
    rw [C2,C2] at h1;exact⟨M,h1,h2,.last gu h3⟩
   ·rw [Co hd]
    exact⟨S,rfl,.refl _,.last gu (hB.whole gu)⟩
theorem Ar:∀(k:Nat) (S:List Row) (s n:Nat),0<s→n=S.length→n<s+k→Blk s S→(stC k S s n).Perm S∧Srt (stC k S s n)
 | 0,S,s,n,_,hn,hk,hB=>⟨.refl _,hB.whole gu⟩
 | k+1,S,s,n,hs,hn,hk,hB=>by
  simp only [stC];by_cases hc:s<n
  ·rw [Cl hc]
   obtain⟨M,h1,h2,h3⟩:=Ce s hs (n+1) [] S 0 n rfl gu gu hB;rw [CT,CT] at h1;rw [h1];obtain⟨g1,g2⟩:=Ar k M (2*s) n gu (by rw [h2.length_eq];exact hn) gu h3;exact⟨g1.trans h2,g2⟩
  ·rw [Co hc]
   exact⟨.refl _,hB.whole gu⟩
theorem zr (rs:List Row):(stL rs).Perm rs∧Srt (stL rs):=by
 obtain⟨M,h1,h2,h3⟩:=A9 (rs.length+1) [] rs 0 rs.length rfl gF gu;rw [CT,CT] at h1;unfold stL;rw [h1];obtain⟨g1,g2⟩:=Ar (rs.length+1) M 20 rs.length gu (by rw [h2.length_eq]) gu h3;exact⟨g1.trans h2,g2⟩
end Go.Proofs.YtjggmmaojklmpaaGreat
