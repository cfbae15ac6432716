/- What is read may be: its form, how deep it is, how many parts it has. -/
import Derived.Test.YtdcnncgpomcaaaaGreatDoorRc20
import Derived.Test.YtdcnncgpomcaaaaGreatDoorRc19
set_option maxRecDepth 100000
set_option maxHeartbeats 4000000
namespace Go.Proofs.YtdcnncgpomcaaaaGreatDoor
theorem Ha {a b c:Str} (h1:leS a b=true) (h2:leS b c=true):leS a c=true:=by
 unfold leS at *;rw [Js,Ji] at *;rcases h1 with h1|rfl
 ·rcases h2 with h2|rfl
  ·exact .inl (n9 h1 h2)
  ·exact .inl h1
 ·exact h2
theorem G1 {out:List Row} {r:Row} (h:oY out=true) (hr:rowB r=true):oY (mrgS out r)=true:=by
 have app:∀(l:List Row) (p:Option Str) (x:Row),oh p (l++[x])=(oh p l&&oh (match l.getLast? with|none=>p|some q=>some q.2) [x]):=by
  intro l;induction l with
  | nil=>intro p x;simp [oh]
  | cons y l ih =>
   intro p x;rw [JW];show (rowB y&&_&&oh (some y.2) (l++[x]))=(rowB y&&_&&oh (some y.2) l&&_)
   rw [ih];cases l with
   | nil=>simp [oh,Bool.and_assoc]
   | cons z l =>
    rw [List.getLast?_cons_cons];obtain⟨q,hq⟩:∃q,(z::l).getLast?=some q:=by
     rcases List.eq_nil_or_concat (z::l) with h|⟨B,q,h⟩
     ·cases h
     ·rw [h,List.concat_eq_append,List.getLast?_concat];exact⟨_,rfl⟩
    simp only [hq,Bool.and_assoc]
 rcases List.eq_nil_or_concat out with rfl|⟨B,q,rfl⟩
 ·rw [uZ];simp [oY,oh,hr]
 ·rw [List.concat_eq_append] at h ⊢
  have h':=h;unfold oY at h';rw [app] at h';have h1:=(Bool.and_eq_true_iff.1 h').1;have h2:=(Bool.and_eq_true_iff.1 h').2;cases hl:leS r.1 q.2 with
  | false =>
   rw [vE hl];unfold oY at h ⊢;rw [app,h,List.getLast?_concat];simp [oh,hr,hl]
  | true =>
   rw [zC hl];unfold oY;rw [app,h1,JG];generalize (match B.getLast? with|none=>(none:Option Str)|some q=>some q.2)=p at h2 ⊢
   simp only [oh,Jh,Jy] at h2 ⊢;refine⟨?_,h2.2⟩;have hq:=h2.1;unfold rowB at hq hr ⊢;simp only [Jy] at hq hr ⊢;unfold mxS;by_cases hm:Op.bytesLess q.2 r.2=true
   ·rw [Jl hm]
    refine⟨⟨hq.1.1,hr.1.2⟩,?_⟩;have h3:leS q.2 r.2=true:=by unfold leS;rw [hm,Bool.true_or]
    exact Ha hq.2 h3
   ·rw [Jo hm];exact hq
theorem BU (rs:List Row):oY (nk rs)=true:=by
 have h1:∀q∈stL (filR rs),rowB q=true:=fun q hq=>(List.mem_filter.1 ((sa _).1.mem_iff.1 hq)).2
 unfold nk mrgL;have key:∀(l out:List Row),(∀q∈l,rowB q=true)→oY out=true→oY (l.foldl mrgS out)=true:=by
  intro l;induction l with
  | nil=>intro out _ h;exact h
  | cons r l ih=>intro out h1 h2;exact ih _ (fun q hq=>h1 q (JF _ hq)) (G1 h2 (h1 r (JE ..)))
 exact key _ _ h1 rfl
def prC (l:List Str):Prop:=∀p∈l,l5 p=true
theorem prC.sfx {r r1:List Str} (h:prC r) (hs:r1 <:+ r):prC r1:=fun p hp=>h p (hs.subset hp)
theorem xY:∀r:Str,oe (r.dropWhile lf)
 | []=>trivial
 | c::r=>by
  rw [List.dropWhile_cons];cases h:lf c with
  | true=>exact xY r
  | false=>exact h
theorem Be:∀(n:Nat) (s:Str),s.length≤n→oe s→prC (lA s)
 | _,[],_,_=>fun p hp=>by cases hp
 | 0,_::_,h,_=>by simp at h
 | n+1,c::r,h,hh=>by
  rw [nh];intro p hp;rcases JC.1 hp with rfl|hp
  ·show (!lf c&&(r.takeWhile lf).all lf)=true
   rw [List.all_takeWhile,Jh];have:lf c=false:=hh
   rw [this];rfl
  ·have hl:(r.dropWhile lf).length≤r.length:=(List.dropWhile_sublist lf).length_le
   exact Be n _ (by simp at h;omega) (xY r) p hp
theorem GB {c t:Str} (h:mR c=some t) (hc:l5 c=true):l5 t=true:=by
 unfold mR at h;split at h
 ·cases h
 iterate 5 (split at h;· injection h with h;subst h;decide)
 split at h
 ·injection h with h;subst h;exact hc
 ·cases h
theorem I0 {k:Int} {c:Str} {ng:Bool} {rs:List Row} {lo hi:Int} {lz:Bool} (h:lI (.mk k c ng rs lo hi lz [])=true):(Rx.mk k c ng rs lo hi lz []).wf=true:=by
 simp only [Rx.wf,h,Rx.wfL,Jh]
theorem wf_chr {c:Str} (h:l5 c=true):(chrR c).wf=true:=I0 jA
theorem I4 {rs:List Row} {ng:Bool} (h:oY rs=true):(setR rs ng).wf=true:=I0 jA
theorem wf_K {k:Int} (h:k=3∨k=8∨k=9∨k=10∨k=11):(rxK k).wf=true:=by
 rcases h with rfl|rfl|rfl|rfl|rfl<;>decide
theorem wf_grp {k:Int} {x:Rx} (hk:k=5∨k=6) (h:x.wf=true):(grpR k x).wf=true:=by
 rcases hk with rfl|rfl<;>simp [grpR,Rx.wf,Rx.wfL,lI,sL,h,Rx.chr,Rx.neg,Rx.rows,Rx.lo,Rx.hi,Rx.lazy]
theorem wf_rep {lo hi:Int} {lz:Bool} {x:Rx} (h:x.wf=true) (hk:repB x.kind=true) (hb:0≤lo∧lo≤255∧(hi=-1∨lo≤hi∧hi≤255)):(repR lo hi lz x).wf=true:=by
 simp [repR,Rx.wf,Rx.wfL,lI,sL,h,hk,hb,Rx.chr,Rx.neg,Rx.rows,Rx.lo,Rx.hi,Rx.lazy]
def Ga (d n:Nat) (x:Rx) (n1:Nat):Prop:=x.wf=true∧x.deep+d≤16∧2*x.parts+1+3*n1≤3*n
def Gd (d n:Nat) (x:Rx) (n1:Nat):Prop:=x.wf=true∧x.deep+d≤16∧2*x.parts+3*n1≤3*n+3
theorem Ga.leaf {d n n1:Nat} {k:Int} {c:Str} {ng:Bool} {rs:List Row} {lo hi:Int} {lz:Bool} (hw:(Rx.mk k c ng rs lo hi lz []).wf=true) (hk:k≠5∧k≠6) (hd:d≤16) (hl:n1<n):Ga d n (.mk k c ng rs lo hi lz []) n1:=by
 refine⟨hw,?_,?_⟩
 ·simp only [Rx.deep,Rx.deepL];rw [Jo gN];omega
 ·simp only [Rx.parts,Rx.partsL];omega
theorem Hk {r r1:List Str} {lo hi:Int} (h:mM r=some (lo,hi,r1)):0≤lo∧lo≤255∧(hi=-1∨lo≤hi∧hi≤255):=by
 unfold mM at h;cases h1:numL 0 0 r with
 | none=>simp only [h1] at h;cases h
 | some y =>
  obtain⟨a,s1⟩:=y;have e1:=wP _ _ _ h1;simp only [h1] at h;cases h2:lq [125] s1 with
  | some s2=>simp only [h2] at h;injection h with h;injection h with ha h;injection h with hb _;omega
  | none =>
   simp only [h2] at h;cases h3:lq [44] s1 with
   | none=>simp only [h3] at h;cases h
   | some s2 =>
    simp only [h3] at h;cases h4:lq [125] s2 with
    | some s3=>simp only [h4] at h;injection h with h;injection h with ha h;injection h with hb _;omega
    | none =>
     simp only [h4] at h;cases h5:numL 0 0 s2 with
     | none=>exact dh
     | some y =>
      obtain⟨b,s3⟩:=y;have e3:=wP _ _ _ h5;simp only [h5] at h;split at h
      ·cases h6:lq [125] s3 with
       | none=>simp only [h6] at h;cases h
       | some s4=>simp only [h6] at h;injection h with h;injection h with ha h;injection h with hb _;omega
      ·cases h
theorem quant_gd {d n n1:Nat} {x y:Rx} {r r1:List Str} (h:ma x r=.ok (y,r1)) (hx:Ga d n x r.length) (hk:repB x.kind=true) (hn:n1=r1.length):Ga d n y n1:=by
 subst hn;have key:∀{lo hi:Int} {r2:List Str},Except.ok (rg x lo hi r2)=(Except.ok (y,r1):Res)→r2.length<r.length→0≤lo∧lo≤255∧(hi=-1∨lo≤hi∧hi≤255)→Ga d n y r1.length:=by
  intro lo hi r2 h hs hb;injection h with h
  obtain⟨⟨lz,h1⟩,h2⟩:=xB h;have h3:=mX h2;subst h1;obtain⟨g1,g2,g3⟩:=hx;refine⟨wf_rep g1 hk hb,?_,?_⟩
  ·rw [Dv];exact g2
  ·unfold repR;simp only [Rx.parts,Rx.partsL];omega
 cases r with
 | nil=>simp only [ma] at h;injection h with h;injection h with h1 h2;subst h1 h2;exact hx
 | cons c r =>
  simp only [ma] at h;by_cases h1:c=[42]
  ·rw [Jl h1] at h;exact key h gU gR
  rw [Jo h1] at h;by_cases h2:c=[43]
  ·rw [Jl h2] at h;exact key h gU gR
  rw [Jo h2] at h;by_cases h3:c=[63]
  ·rw [Jl h3] at h;exact key h gU gR
  rw [Jo h3] at h;by_cases h4:c=[123]
  ·rw [Jl h4] at h
   cases hb:mM r with
   | none=>simp only [hb] at h;cases h
   | some z =>
    obtain⟨lo,hi,r2⟩:=z;simp only [hb] at h;have:=mX (xU hb)
    exact key h gV (Hk hb)
  ·rw [Jo h4] at h
   injection h with h;injection h with h5 h6;subst h5 h6;exact hx
theorem EF {c:Str} {rows:List Row} (h:nF c=some rows):oY rows=true:=by
 unfold nF at h;split at h
 ·rename_i b
  by_cases hb:oD b=true
  ·rw [Jl hb] at h;injection h with h;subst h
   unfold oD at hb;simp only [Js,Ji] at hb;rcases hb with(rfl|rfl)|rfl<;>decide
  ·rw [Jo hb] at h;cases h
 ·cases h
theorem big_rows {c:Str} {rows:List Row} (h:bigS c=some rows):oY rows=true:=by
 unfold bigS at h;iterate 3 (split at h;· injection h with h;subst h;decide)
 cases h
theorem esc_gd {d:Nat} {r r1:List Str} {x:Rx} (h:escM r=.ok (x,r1)) (hp:prC r) (hd:d≤16) {n:Nat} (hn:r.length≤n):Ga d n x r1.length∧repB x.kind=true:=by
 cases r with
 | nil=>cases h
 | cons c r =>
  simp only [Jr] at hn;have hc:=hp c (JE ..);simp only [escM] at h;cases hn2:nF c with
  | some rows =>
   simp only [hn2] at h;injection h with h;injection h with h1 h2;subst h1 h2
   exact⟨Ga.leaf (I4 (EF hn2)) gR hd gN,rfl⟩
  | none =>
   simp only [hn2] at h;cases hb:bigS c with
   | some rows =>
    simp only [hb] at h;injection h with h;injection h with h1 h2;subst h1 h2
    exact⟨Ga.leaf (I4 (big_rows hb)) gR hd gN,rfl⟩
   | none =>
    simp only [hb] at h;cases hpm:mR c with
    | none=>exact gq
    | some t =>
     simp only [hpm] at h;injection h with h;injection h with h1 h2;subst h1 h2
     exact⟨Ga.leaf (wf_chr (GB hpm hc)) gR hd gN,rfl⟩
theorem class_gd {d:Nat} {r r1:List Str} {x:Rx} (h:mY r=.ok (x,r1)) (ho:okC r) (hd:d≤16) {n:Nat} (hn:r.length≤n):Ga d n x r1.length∧repB x.kind=true:=by
 have hsx:((lq [94] r).getD r) <:+ r:=by
  exact cX
 unfold mY at h;generalize (lq [94] r).isSome=ng at h
 generalize (lq [94] r).getD r=r0 at h hsx
 simp only at h
 cases hc:lV (r0.length+1) [] r0 with
 | none=>simp only [hc] at h;cases h
 | some y =>
  obtain⟨rows,r2⟩:=y;simp only [hc] at h;injection h with h;injection h with h1 h2;subst h1 h2
  obtain⟨g1,g2,g3,g4⟩:=oQ _ _ _ hc (nN hsx ho) pc;have hl0:=mX hsx;exact⟨Ga.leaf (I4 (BU _)) gR hd gN,rfl⟩
def PatGd (pat:List Str→Nat→Res) (N:Nat):Prop:=∀(r:List Str) (d:Nat) (x:Rx) (r1:List Str),r.length≤N→d≤16→okC r→prC r→pat r d=.ok (x,r1)→Gd d r.length x r1.length
theorem group_gd {pat:List Str→Nat→Res} {N:Nat} (hp:PatGd pat N) {r r1:List Str} {d:Nat} {x:Rx} (h:mZ pat r d=.ok (x,r1)) (ho:okC r) (hpr:prC r) (hN:r.length≤N) {n:Nat} (hn:r.length+1≤n):Ga d n x r1.length∧repB x.kind=true:=by
 unfold mZ at h;by_cases hd:16≤d
 ·exact el
 rw [Jo hd] at h;cases hk:nP r with
 | none=>exact em
 | some y =>
  obtain⟨k,r0⟩:=y;obtain⟨k1,k2⟩:=oF hk;simp only [hk] at h;cases hx:pat r0 (d+1) with
  | error e=>exact ct
  | ok y =>
   obtain⟨z,r2⟩:=y;simp only [hx] at h;have hl0:=mX k1;obtain⟨f1,f2,f3⟩:=hp r0 (d+1) z r2 gN gN (nN k1 ho) (hpr.sfx k1) hx;cases ht:lq [41] r2 with
   | none=>exact en
   | some r3 =>
    simp only [ht] at h;injection h with h;injection h with h1 h2;subst h1 h2
    have e:=mO ht;rw [e,Jr] at f3;refine⟨⟨wf_grp k2 f1,by rw [yI k2];omega,by unfold grpR;simp only [Rx.parts,Rx.partsL];omega⟩,?_⟩;rcases k2 with rfl|rfl<;>rfl
theorem atom_gd {pat:List Str→Nat→Res} {N:Nat} (hp:PatGd pat N) {r r1:List Str} {d:Nat} {x:Rx} (h:mj pat r d=.ok (x,r1)) (ho:okC r) (hpr:prC r) (hN:r.length≤N+1) (hd:d≤16):Ga d r.length x r1.length∧repB x.kind=true:=by
 cases r with
 | nil=>cases h
 | cons c r =>
  simp only [Jr] at hN ⊢;have hpt:prC r:=fun p hp=>hpr p (JF _ hp)
  simp only [mj] at h;by_cases h1:c=[46]
  ·rw [Jl h1] at h;injection h with h;injection h with ha hb;subst ha hb;exact⟨Ga.leaf (wf_K (.inl rfl)) gR hd gN,rfl⟩
  rw [Jo h1] at h;by_cases h2:c=[40]
  ·rw [Jl h2] at h;exact group_gd hp h ho.tail hpt gN gN
  rw [Jo h2] at h;by_cases h3:c=[91]
  ·rw [Jl h3] at h;exact class_gd h ho.tail hd gN
  rw [Jo h3] at h;by_cases h4:c=[92]
  ·rw [Jl h4] at h;exact esc_gd h hpt hd gN
  rw [Jo h4] at h;by_cases h5:qZ c=true
  ·exact eo
  ·rw [Jo h5] at h;injection h with h;injection h with ha hb;subst ha hb;exact⟨Ga.leaf (wf_chr (hpr c (JE ..))) gR hd gN,rfl⟩
theorem edge_gd {r r1:List Str} {x:Rx} {d:Nat} (hd:d≤16) (h:ni r=some (x,r1)):Ga d r.length x r1.length:=by
 cases r with
 | nil=>cases h
 | cons c r =>
  simp only [ni] at h;by_cases h1:c=[94]
  ·rw [Jl h1] at h;injection h with h;injection h with ha hb;subst ha hb;exact Ga.leaf (wf_K gR) gR hd gU
  rw [Jo h1] at h;by_cases h2:c=[36]
  ·rw [Jl h2] at h;injection h with h;injection h with ha hb;subst ha hb;exact Ga.leaf (wf_K gR) gR hd gU
  rw [Jo h2] at h;by_cases h3:c=[92]
  ·rw [Jl h3] at h
   cases h4:lq [98] r with
   | some r2 =>
    have:=mX (mI h4)
    simp only [h4] at h;injection h with h;injection h with ha hb;subst ha hb;exact Ga.leaf (wf_K gR) gR hd gV
   | none =>
    simp only [h4] at h;cases h5:lq [66] r with
    | some r2 =>
     have:=mX (mI h5)
     simp only [h5] at h;injection h with h;injection h with ha hb;subst ha hb;exact Ga.leaf (wf_K gR) gR hd gV
    | none=>exact dh
  ·rw [Jo h3] at h;cases h
theorem term_gd {pat:List Str→Nat→Res} {N:Nat} (hp:PatGd pat N) {r r1:List Str} {d:Nat} {x:Rx} (h:lZ pat r d=.ok (x,r1)) (ho:okC r) (hpr:prC r) (hN:r.length≤N+1) (hd:d≤16):Ga d r.length x r1.length:=by
 unfold lZ at h;cases he:ni r with
 | some y=>simp only [he] at h;injection h with h;subst h;exact edge_gd hd he
 | none =>
  simp only [he] at h;cases ha:mj pat r d with
  | error e=>exact ep
  | ok y =>
   obtain⟨w,r2⟩:=y;simp only [ha] at h;obtain⟨g1,g2⟩:=atom_gd hp ha ho hpr hN hd;exact quant_gd h g1 g2 rfl
theorem wfL_app:∀(a b:List Rx),Rx.wfL (a++b)=(Rx.wfL a&&Rx.wfL b)
 | [],b=>by simp [Rx.wfL]
 | x::a,b=>by simp only [JW,Rx.wfL,wfL_app a b,Bool.and_assoc]
theorem seqR_gd {ts:List Rx} (h:InvT ts) (hw:Rx.wfL ts=true):(seqR ts).wf=true∧2*(seqR ts).parts≤2*Rx.partsL ts+ts.length+2:=by
 have hf:mi 0 ts=ts:=mT fun y hy=>(h y hy).1
 rcases ts with _|⟨x,_|⟨y,l⟩⟩
 ·exact⟨rfl,by decide⟩
 ·have e:seqR [x]=x:=by unfold seqR;rw [hf]
  exact eH
 ·have e:seqR (x::y::l)=ow (x::y::l):=by unfold seqR;rw [hf]
  rw [e];refine⟨?_,by unfold ow;simp only [Rx.parts,Rx.partsL,Jr];omega⟩;unfold ow;simp only [Rx.wf,hw,Jh];have ha:((x::y::l).all fun x=>decide (x.kind≠0∧x.kind≠1))=true:=List.all_eq_true.2 fun z hz=>JR (h z hz)
  simp [lI,sL,Rx.chr,Rx.neg,Rx.rows,Rx.lo,Rx.hi,Rx.lazy]
  simpa using ha
theorem altR_gd {al:List Rx} (h:InvA al) (hw:Rx.wfL al=true) (hne:al≠[]):(altR al).wf=true∧(altR al).parts≤Rx.partsL al+(if al.length=1 then 0 else 1):=by
 have hf:mi 1 al=al:=mT h;rcases al with _|⟨x,_|⟨y,l⟩⟩
 ·exact absurd rfl hne
 ·have e:altR [x]=x:=oS (h x (JE ..))
  exact eH
 ·have e:altR (x::y::l)=tR (x::y::l):=by unfold altR;rw [hf]
  rw [e];refine⟨?_,by rw [Jo gU];unfold tR;simp only [Rx.parts,Rx.partsL];omega⟩;unfold tR;simp only [Rx.wf,hw,Jh];have ha:((x::y::l).all fun x=>decide (x.kind≠1))=true:=List.all_eq_true.2 fun z hz=>JR (h z hz)
  simp [lI,sL,Rx.chr,Rx.neg,Rx.rows,Rx.lo,Rx.hi,Rx.lazy]
  simpa using ha
theorem Cd {f:List Str→Res} {d R:Nat}:∀(k:Nat) (alts terms:List Rx) (r:List Str) {x:Rx} {r1:List Str},patL f k alts terms r=.ok (x,r1)→InvA alts→InvT terms→Rx.wfL alts=true→Rx.wfL terms=true→Rx.deepL alts+d≤16→Rx.deepL terms+d≤16 →
  2*Rx.partsL alts+2*Rx.partsL terms+terms.length+alts.length+3*r.length≤3*R →
  (∀r' y r2,r' <:+ r→f r'=.ok (y,r2)→r2 <:+ r'∧(y.kind≠0∧y.kind≠1)∧Ga d r'.length y r2.length)→Gd d R x r1.length
 | 0,_,_,_,_,_,h,_,_,_,_,_,_,_,_=>by cases h
 | k+1,alts,terms,r,x,r1,h,iA,iT,wA,wT,dA,dT,hm,ht=>by
  obtain⟨q1,q2⟩:=seqR_gd iT wT;have iA2:InvA (alts++[seqR terms]):=iA.app fun y hy=>by rw [JY] at hy;rw [hy];exact(np iT).1
  have wA2:Rx.wfL (alts++[seqR terms])=true:=by rw [wfL_app,wA];simp only [Rx.wfL,q1];rfl
  have fin:Gd d R (altR (alts++[seqR terms])) r.length:=by
   obtain⟨p1,p2⟩:=altR_gd iA2 wA2 gU;refine⟨p1,by rw [so];omega,?_⟩;rw [partsL_app] at p2;simp only [Rx.partsL,JA,Jr,J0] at p2;cases alts with
   | nil=>rw [Jl gU] at p2;simp only [Rx.partsL] at p2 hm;simp only [J0] at hm;omega
   | cons a l=>rw [Jo (by simp only [Jr];omega)] at p2;simp only [Jr] at hm;omega
  cases r with
  | nil =>
   exact eS
  | cons c r =>
   simp only [patL] at h;by_cases h1:c=[41]
   ·exact eV
   rw [Jo h1] at h;by_cases h2:c=[124]
   ·rw [Jl h2] at h
    refine Cd k _ _ r h iA2 (fun y hy=>by cases hy) wA2 rfl kg jo ?_ (fun r' y r2 q=>ht r' y r2 (mq q));rw [partsL_app];simp only [Rx.partsL,JA,Jr,J0] at hm ⊢;omega
   rw [Jo h2] at h;cases hx:f (c::r) with
   | error e=>exact ct
   | ok y =>
    obtain⟨w,r2⟩:=y;simp only [hx] at h;obtain⟨s1,s2,s3,s4,s5⟩:=ht _ _ _ (J7 _) hx;refine Cd k _ _ r2 h iA (iT.app fun y hy=>by rw [JY] at hy;rw [hy];exact s2) wA (by rw [wfL_app,wT];simp only [Rx.wfL,s3];rfl) dA (by rw [deepL_app];simp only [Rx.deepL];omega) ?_ (fun r' y r3 q=>ht r' y r3 (q.trans s1));rw [partsL_app];simp only [Rx.partsL,JA,Jr,J0] at hm s5 ⊢;omega
theorem pat_gd:∀(n:Nat),n≤200000→PatGd (patF n) n
 | 0,_=>fun r d x r1 _ _ _ _ h=>by cases h
 | n+1,hn=>fun r d x r1 hl hd ho hp h=>by
  have ih:=pat_gd n gN;have h':patL (fun r=>lZ (patF n) r d) (r.length+1) [] [] r=.ok (x,r1):=h;exact Cd (f:=fun r=>lZ (patF n) r d) _ [] [] r h' (fun y hy=>by cases hy) (fun y hy=>by cases hy) rfl rfl jo jo (by simp [Rx.partsL])
   (fun r' y r2 hs hx=>by
    have hl':=mX hs;obtain⟨t1,_⟩:=qM hx (nN hs ho) gN;exact⟨t1,vO hx,term_gd ih hx (nN hs ho) (hp.sfx hs) gN hd⟩)
theorem wm:∀(n:Nat) (s:Str),s.length≤n→(lA s).count [40]≤s.count 40
 | _,[],_=>by simp [lA,n8]
 | 0,_::_,h=>by simp at h
 | n+1,c::r,h=>by
  have hl:(r.dropWhile lf).length≤r.length:=(List.dropWhile_sublist lf).length_le;have ih:=wm n (r.dropWhile lf) (by simp at h;omega);have hs:(r.dropWhile lf).count 40≤r.count 40:=(List.dropWhile_sublist lf).count_le 40;rw [nh,List.count_cons,List.count_cons];by_cases hc:c=40
  ·subst hc;simp only [beq_self_eq_true,if_true];split<;>omega
  ·have:¬((c::r.takeWhile lf)==[40])=true:=by
    intro e;rw [Ji] at e;injection e with e _;exact hc e
   rw [Jo this];omega
theorem zN {s:Str} {x:Rx} (h:qU s=.ok x):mayB x=true∧x.groups≤s.count 40∧x.parts≤2*s.length+1:=by
 obtain⟨a1,a2,a3⟩:=readM_ok.1 h;have hl:=oE s;have ho:okC (lA s):=tr gN;obtain⟨f1,f2,f3,f4⟩:=rO _ _ _ _ _ gN a3 ho;obtain⟨g1,g2,g3⟩:=pat_gd _ gN (lA s) 0 x [] gN gN ho (Be _ s (Ju _) a2) a3;have hc:=wm _ s (Ju _);simp only [J0,List.count_nil] at f2 f3 g3;refine⟨?_,by omega,by omega⟩;simp only [mayB,okB,Jy,Jj];exact⟨⟨g1,by omega⟩,by omega⟩
def rxZ:Rx→Bool|.mk k c ng rs lo hi lz ks=>decide (k=0)&&(c.isEmpty&&(!ng&&(rs.isEmpty&&(decide (lo=0)&&(decide (hi=0)&&(!lz&&ks.isEmpty))))))
def tfZ (f:Tf):Bool:=rxZ f.rx&&(f.fs.isEmpty&&(!f.fold&&!f.all))
def oZ (f:Tf):Bool:=mayB f.rx&&uN f.fs
def nX (x:Sn):Bool:=!x.has&&(!x.turned&&(x.kids.isEmpty&&tfZ x.form))
def lT (x:Sn):Bool:=if x.has=true then(if x.turned=true then false else tfZ x.form) else if x.turned=true then x.kids.isEmpty&&oZ x.form else nX x
def sQ (x:Sn):Bool:=decide (0≤x.n∧x.n≤9999)
def mB (x:Sn):Bool :=
 if x.kind=0 then !x.text.isEmpty&&(decide (x.n=0)&&(x.opts.isEmpty&&nX x))
 else if x.kind=1 then x.text.isEmpty&&(sQ x&&(x.opts.isEmpty&&lT x))
 else if x.kind=2 then x.text.isEmpty&&(sQ x&&(!x.opts.isEmpty&&nX x))
 else if x.kind=3 then oR x.text&&(decide (x.n=0)&&(x.opts.isEmpty&&lT x))
 else false
def adjS:Bool→List Sn→Bool
 | _,[]=>true
 | pt,x::r=>!(decide (x.kind=0)&&pt)&&adjS (decide (x.kind=0)) r
namespace Sn
mutual
def wf:Sn→Bool
 | mk k t n h u f o ks=>mB (mk k t n h u f o ks)&&(!h||(adjS false ks&&wfL ks))
def wfL:List Sn→Bool
 | []=>true
 | x::r=>wf x&&wfL r
end
theorem wfL_app:∀a b:List Sn,wfL (a++b)=(wfL a&&wfL b)
 | [],b=>by simp [wfL]
 | x::a,b=>by simp only [JW,wfL,wfL_app a b,Bool.and_assoc]
end Sn
def nM (l:List Sn):Bool:=adjS false l&&Sn.wfL l&&decide (Sn.deepL l≤32)
theorem DB:∀(a:List Sn) (pt:Bool) (x:Sn) (b:List Sn),adjS pt a=true→x.kind≠0→adjS false b=true→adjS pt (a++x::b)=true
 | [],pt,x,b,_,hx,hb=>by simp [adjS,hx,hb]
 | y::a,pt,x,b,ha,hx,hb=>by
  simp only [adjS,Jy] at ha;simp only [JW,adjS,Jy];exact⟨ha.1,DB a _ x b ha.2 hx hb⟩
theorem rU (t:Str):adjS false (lO [] t)=true:=by
 unfold lO;split<;>simp [adjS]
theorem EY:tfZ tf0=true:=rfl
theorem wf_text {t:Str} (h:t≠[]):(pM t).wf=true:=by
 have:t.isEmpty=false:=by cases t with|nil=>exact absurd rfl h|cons a b=>rfl
 simp [pM,Sn.wf,mB,Sn.kind,Sn.text,Sn.n,Sn.opts,nX,Sn.has,Sn.turned,Sn.kids,Sn.form,EY,this]
theorem tM (t:Str):Sn.wfL (lO [] t)=true:=by
 unfold lO;split
 ·rfl
 ·rename_i h;simp [Sn.wfL,wf_text h]
def tl (t:Str):Nat:=if t=[] then 0 else 1
theorem pO (t:Str):Sn.partsL (lO [] t)=tl t:=by
 unfold lO tl;split<;>simp [Sn.partsL,pM,Sn.parts]
theorem nC (t:Str):Sn.deepL (lO [] t)=0:=by
 unfold lO;split<;>simp [Sn.deepL,pM,Sn.deep]
def Hd (x:Sn):Prop:=(∃n,n≤9999∧x=no n)∨(∃t,oR t=true∧x=varS t)
theorem nW {r:Str} {x:Sn} {s:Str} (h:nD r=some (x,s)):Hd x:=by
 unfold nD at h;split at h
 ·rename_i heq
  injection h with h;injection h with h _;exact .inl ⟨_,yQ heq,h.symm⟩
 ·unfold tS at h
  split at h
  ·rename_i hb
   injection h with h;injection h with h _;exact .inr ⟨_,hb,h.symm⟩
  ·cases h
theorem Hd.kind {x:Sn} (h:Hd x):x.kind≠0:=by
 rcases h with⟨n,_,rfl⟩|⟨t,_,rfl⟩
 ·exact(by decide:(1:Int)≠0)
 ·exact(by decide:(3:Int)≠0)
theorem Hd.wf {x:Sn} (h:Hd x):x.wf=true:=by
 rcases h with⟨n,hn,rfl⟩|⟨t,ht,rfl⟩
 ·simp only [no,Sn.wf,mB,Sn.kind,Sn.text,Sn.n,Sn.opts,sQ,lT,nX,Sn.has,Sn.turned,Sn.kids,Sn.form,EY];simp;omega
 ·simp only [varS,Sn.wf,mB,Sn.kind,Sn.text,Sn.n,Sn.opts,ht,lT,nX,Sn.has,Sn.turned,Sn.kids,Sn.form,EY];simp
theorem Hd.parts {x:Sn} (h:Hd x):x.parts=1:=by
 rcases h with⟨n,hn,rfl⟩|⟨t,ht,rfl⟩<;>rfl
theorem Hd.deep {x:Sn} (h:Hd x):x.deep=0:=by
 rcases h with⟨n,hn,rfl⟩|⟨t,ht,rfl⟩<;>rfl
theorem Hd.give {x:Sn} (h:Hd x) {ks:List Sn} (h1:adjS false ks=true) (h2:Sn.wfL ks=true):(x.give ks).wf=true∧(x.give ks).kind≠0∧(x.give ks).parts=1+Sn.partsL ks∧(x.give ks).deep=Sn.deepL ks+1:=by
 rcases h with⟨n,hn,rfl⟩|⟨t,ht,rfl⟩
 ·refine⟨?_,(by decide:(1:Int)≠0),rfl,rfl⟩
  simp only [no,Sn.give,Sn.wf,mB,Sn.kind,Sn.text,Sn.n,Sn.opts,sQ,lT,Sn.has,Sn.turned,Sn.form,EY,h1,h2];simp;omega
 ·refine⟨?_,(by decide:(3:Int)≠0),rfl,rfl⟩
  simp only [varS,Sn.give,Sn.wf,mB,Sn.kind,Sn.text,Sn.n,Sn.opts,ht,lT,Sn.has,Sn.turned,Sn.form,EY,h1,h2];simp
theorem Hd.turn {x:Sn} (h:Hd x) {f:Tf} (hf:oZ f=true):(x.turn f).wf=true∧(x.turn f).kind≠0∧(x.turn f).parts=1∧(x.turn f).deep=0:=by
 rcases h with⟨n,hn,rfl⟩|⟨t,ht,rfl⟩
 ·refine⟨?_,(by decide:(1:Int)≠0),rfl,rfl⟩
  simp only [no,Sn.turn,Sn.wf,mB,Sn.kind,Sn.text,Sn.n,Sn.opts,sQ,lT,Sn.has,Sn.turned,Sn.form,Sn.kids,hf];simp;omega
 ·refine⟨?_,(by decide:(3:Int)≠0),rfl,rfl⟩
  simp only [varS,Sn.turn,Sn.wf,mB,Sn.kind,Sn.text,Sn.n,Sn.opts,ht,lT,Sn.has,Sn.turned,Sn.form,Sn.kids,hf];simp
theorem Hd.choose {x:Sn} (h:Hd x) (hk:x.kind=1) {o:List Str} (ho:o≠[]):(x.choose o).wf=true∧(x.choose o).kind≠0∧(x.choose o).parts=1∧(x.choose o).deep=0:=by
 rcases h with⟨n,hn,rfl⟩|⟨t,ht,rfl⟩
 ·refine⟨?_,(by decide:(2:Int)≠0),rfl,rfl⟩
  have:o.isEmpty=false:=by cases o with|nil=>exact absurd rfl ho|cons a b=>rfl
  simp only [no,Sn.choose,Sn.wf,mB,Sn.kind,Sn.text,Sn.n,Sn.opts,sQ,nX,Sn.has,Sn.turned,Sn.form,Sn.kids,EY,this];simp;omega
 ·exact absurd hk (by decide:¬((3:Int)=1))
theorem qu {x:Rx} {fs:List Fm} {r:Str} {f:Tf} {s:Str} (h:tC x fs r=some (f,s)):f.rx=x∧f.fs=fs:=by
 unfold tC at h;split at h
 ·cases h
 ·split at h
  ·cases h
  ·injection h with h;injection h with h _;subst h;exact⟨rfl,rfl⟩
theorem AW {r:Str} {f:Tf} {s:Str} (h:oq r=some (f,s)):oZ f=true:=by
 cases r with
 | nil=>cases h
 | cons c r =>
  simp only [oq] at h;split at h
  ·split at h
   ·cases h
   ·split at h
    ·cases h
    ·rename_i hx
     split at h
     ·cases h
     ·cases h
     ·rename_i heq2
      obtain⟨h1,h2⟩:=qu h;unfold oZ;rw [h1,h2,(zN hx).1,(Ja heq2).1];rfl
  ·cases h
theorem CK:∀(n:Nat) (r:Str) (o:List Str) (t:Str),r.length≤n→(optL r o t).1≠[]
 | _,[],o,t,_=>by simp [optL]
 | 0,_::_,_,_,h=>by simp at h
 | n+1,c::r,o,t,h=>by
  simp only [Jr] at h;rw [nG];split
  ·simp
  ·split
   ·exact CK n r _ _ gN
   ·have:=(o9 fiveS c r).length_le
    exact CK n _ _ _ gN
theorem ug {x:Sn} {r:Str} {y:Sn} {s:Str} (h:re x r=some (y,s)):∃o,o≠[]∧y=x.choose o:=by
 unfold re at h;split at h
 ·split at h
  ·injection h with h;injection h with h _;exact⟨_,CK _ r [] [] (Ju _),h.symm⟩
  ·cases h
 ·cases h
def cnt (s:Str):Nat:=s.count 123
theorem tX {s r:Str} (h:s <:+ r):cnt s≤cnt r:=h.sublist.count_le _
theorem vm (c:UInt8) (r:Str):cnt r≤cnt (c::r):=tX (J6 c r)
def GoodX (r:Str) (x:Sn) (s:Str):Prop:=x.wf=true∧x.kind≠0∧x.parts+s.length≤r.length∧x.deep+cnt s≤cnt r
def GoodL (t r:Str) (l:List Sn) (s:Str):Prop:=adjS false l=true∧Sn.wfL l=true∧Sn.partsL l+s.length≤tl t+r.length∧Sn.deepL l+cnt s≤cnt r
theorem B7 {ps:Str→List Sn × Str} {x y:Sn} {r s:Str} (hx:Hd x) (hps:∀t,t.length<r.length→(ps t).2 <:+ t∧GoodL [] t (ps t).1 (ps t).2) (h:lE ps x r=some (y,s)) :
  y.wf=true∧y.kind≠0∧y.parts+s.length≤r.length∧y.deep+cnt s≤cnt r+1:=by
 have hsf:=vL (fun t ht=>(hps t ht).1) h;have hc:=tX hsf;cases r with
 | nil=>cases h
 | cons c r =>
  have hcc:=vm c r;simp only [lE] at h;split at h
  ·injection h with h;injection h with h h';subst h;subst h'
   exact⟨hx.wf,hx.kind,by rw [hx.parts];simp;omega,by rw [hx.deep];omega⟩
  ·split at h
   ·obtain⟨h1,g1,g2,g3,g4⟩:=hps r gU
    split at h
    ·cases h
    ·rename_i d r2 heq
     rw [heq] at h1 g3 g4;injection h with h;injection h with h h';subst h;subst h'
     obtain⟨a,b,e,f⟩:=hx.give g1 g2;have:=vm d r2
     refine⟨a,b,?_,?_⟩
     ·rw [e];simp [tl] at g3 ⊢;omega
     ·rw [f];omega
   ·split at h
    ·rename_i hk
     obtain⟨o,ho,rfl⟩:=ug h;obtain⟨a,b,e,f⟩:=hx.choose hk.2 ho;have:=tD h
     exact⟨a,b,by rw [e];simp;omega,by rw [f];omega⟩
    ·split at h
     ·cases h
     ·rename_i f' r2 heq
      injection h with h;injection h with h h';subst h;subst h'
      obtain⟨a,b,e,f⟩:=hx.turn (AW heq);have:=vK heq
      exact⟨a,b,by rw [e];omega,by rw [f];omega⟩
theorem Fu {r:Str} {x:Sn} {s:Str} (hps:∀t,t.length<r.length→GoodL [] t (lu true [] [] t).1 (lu true [] [] t).2) (h:l7 r=some (x,s)):GoodX r x s:=by
 rw [oL] at h;cases r with
 | nil=>cases h
 | cons c r =>
  simp only [oO] at h;split at h
  ·rename_i hc
   split at h
   ·cases h
   ·rename_i y r2 heq
    have h1:=mD heq;have h2:=tX (tw heq);obtain⟨a,b,e,f⟩:=B7 (nW heq) (fun t ht=>⟨t8 true [] [] t,hps t gV⟩) h;have hc1:c=123:=Jk.1 hc;refine⟨a,b,by simp;omega,?_⟩;subst hc1;have:cnt (123::r)=cnt r+1:=by unfold cnt;simp
    omega
  ·have h1:=mD h
   have h2:=tX (tw h);have hx:=nW h;exact⟨hx.wf,hx.kind,by rw [hx.parts];omega,by rw [hx.deep];omega⟩
theorem tl_le (t:Str):tl t≤1:=by unfold tl;split<;>omega
theorem r8:∀(N:Nat),(∀r x s,r.length≤N→l7 r=some (x,s)→GoodX r x s)∧(∀ins t r,r.length≤N→GoodL t r (lu ins [] t r).1 (lu ins [] t r).2)
 | 0=>by
  refine⟨fun r x s h hp=>?_,fun ins t r h=>?_⟩
  ·exact bK
  ·have:r=[]:=Jm gN
   subst this;rw [me];exact⟨rU _,tM _,J8 (by rw [pO]),J8 kA⟩
 | N+1=>by
  obtain⟨ih1,ih2⟩:=r8 N;have k1:∀r x s,r.length≤N+1→l7 r=some (x,s)→GoodX r x s:=fun r x s hr h=>Fu (fun t ht=>ih2 true [] t gN) h
  refine⟨k1,fun ins t r hr=>?_⟩;cases r with
  | nil=>rw [me];exact⟨rU _,tM _,J8 (by rw [pO]),J8 kA⟩
  | cons c r =>
   simp only [Jr] at hr;rw [l6];split
   ·exact⟨rU _,tM _,J8 (by rw [pO]),J8 kA⟩
   ·split
    ·rename_i x r2 he
     have hx:l7 r=some (x,r2):=by
      exact cG
     obtain⟨a,b,e,f⟩:=k1 r x r2 gN hx;have h1:=nR hx;have h2:=tX (t8 ins [] [] r2);obtain⟨g1,g2,g3,g4⟩:=ih2 ins [] r2 gN;have hcc:=vm c r;have ht:=tl_le t;rw [nB ins r2.length (lO [] t++[x]) [] r2 (Ju _)];refine⟨?_,?_,?_,?_⟩
     ·simp only [J3,JW,JV];exact DB _ _ _ _ (rU t) b g1
     ·simp only [Sn.wfL_app,Sn.wfL,tM,a,g2];rfl
     ·simp only [Sn.partsL_app,Sn.partsL,pO];simp [tl] at g3 ⊢;omega
     ·simp only [Sn.deepL_app,Sn.deepL,nC];omega
    ·have h1:=o9 three c r
     have hl:=h1.length_le;have hn:=tX h1;have hcc:=vm c r;obtain⟨g1,g2,g3,g4⟩:=ih2 ins (t++[(nxtM three (c::r)).1]) (nxtM three (c::r)).2 gN;refine⟨g1,g2,?_,by omega⟩;have e1:tl (t++[(nxtM three (c::r)).1])=1:=by unfold tl;simp
     rw [e1] at g3;simp;omega
open Go.RowKit
structure SnAt (w:World) (S:Nat→Prop) (cc:List Value) (k:Int) (t:Str) (n:Int) (h u:Bool) (f:Tf) (os:List Str) (ks:List Sn) (fc:List Value) (oa:Option Addr) (oc:Nat) (ka:Option Addr) (kc:Nat):Prop where
 eq:cc=snc k t n h u fc oa os.length oc ka ks.length kc
 len:cc.length=18
 c0:cc[0]?=some (.int .i64 k)
 c1:cc[1]?=some (.string ⟨t.toArray⟩)
 c2:cc[2]?=some (.int .i64 n)
 c3:cc[3]?=some (.bool h)
 c4:cc[4]?=some (.bool u)
 c16:cc[16]?=some (.slice oa os.length oc)
 c17:cc[17]?=some (.slice ka ks.length kc)
 cf:∀(j:Nat) v,fc[j]?=some v→cc[5+j]?=some v
 fl:fc.length=11
 fv:TfV w S fc f
 ov:SlS w S oa 1 os.length (mE os)
 kv:SnSl w S ka ks.length ks
theorem SnV.at_ {w:World} {S:Nat→Prop} {cc:List Value} {k:Int} {t:Str} {n:Int} {h u:Bool} {f:Tf} {os:List Str} {ks:List Sn} (hv:SnV w S cc (.mk k t n h u f os ks)):∃fc oa oc ka kc,SnAt w S cc k t n h u f os ks fc oa oc ka kc:=by
 have hl:=hv.len;obtain⟨fc,oa,oc,ka,kc,rfl,h0,h1,h2⟩:=hv.open_;have hf:=h0.len;refine⟨fc,oa,oc,ka,kc,rfl,hl,rfl,rfl,rfl,rfl,rfl,?_,?_,fun j v hj=>?_,hf,h0,h1,h2⟩
 ·unfold snc
  rw [JB (by simp [hf])];simp [hf]
 ·unfold snc
  rw [JB (by simp [hf])];simp [hf]
 ·have hj':=(Jx.1 hj).1
  unfold snc;rw [JD gV,JB gU];simpa using hj
theorem SnAt.box {w w':World} {S:Nat→Prop} {cc:List Value} {k:Int} {t:Str} {n:Int} {h u:Bool} {f:Tf} {os:List Str} {ks:List Sn} {fc:List Value} {oa:Option Addr} {oc:Nat} {ka:Option Addr} {kc:Nat} (hA:SnAt w S cc k t n h u f os ks fc oa oc ka kc) {b:Nat} {ty:TypeId} {fr:Nat × Nat} (hb:w'.heap[b]?=some (.cells cc.toArray ty fr)) :
  w'.cell? ⟨b,0,none⟩=some (.int .i64 k)∧w'.cell? ⟨b,1,none⟩=some (.string ⟨t.toArray⟩)∧w'.cell? ⟨b,2,none⟩=some (.int .i64 n)∧w'.cell? ⟨b,3,none⟩=some (.bool h)∧w'.cell? ⟨b,4,none⟩=some (.bool u) ∧
  w'.cell? ⟨b,16,none⟩=some (.slice oa os.length oc)∧w'.cell? ⟨b,17,none⟩=some (.slice ka ks.length kc)∧w'.rangeAt b 5 fc:=by
 refine⟨?_,?_,?_,?_,?_,?_,?_,fun j v hj=>?_⟩
 ·rw [Jw hb];simpa using hA.c0
 ·rw [Jw hb];simpa using hA.c1
 ·rw [Jw hb];simpa using hA.c2
 ·rw [Jw hb];simpa using hA.c3
 ·rw [Jw hb];simpa using hA.c4
 ·rw [Jw hb];simpa using hA.c16
 ·rw [Jw hb];simpa using hA.c17
 ·rw [Jw hb];simpa using hA.cf j v hj
def Tf.small (f:Tf):Prop:=f.rx.small∧f.rx.parts≤1000000∧f.fs.length≤1000000
mutual
def Sn.small:Sn→Prop
 | .mk _ t _ _ _ f os ks=>f.small∧os.length≤1000000∧ks.length≤1000000∧t.length≤1000000∧Sn.smallL ks
def Sn.smallL:List Sn→Prop
 | []=>True
 | x::r=>x.small∧Sn.smallL r
end
theorem Sn.small_mem:∀{l:List Sn},Sn.smallL l→∀x∈l,x.small
 | [],_,x,h=>by cases h
 | y::r,hl,x,h=>by
  simp only [Sn.smallL] at hl;rcases JC.1 h with rfl|h
  ·exact hl.1
  ·exact Sn.small_mem hl.2 x h
theorem Sn.smallL_app:∀{a b:List Sn},Sn.smallL (a++b)↔Sn.smallL a∧Sn.smallL b
 | [],b=>by simp [Sn.smallL]
 | x::a,b=>by simp only [JW,Sn.smallL,Sn.smallL_app (a:=a)];constructor<;>intro h<;>simp_all
theorem tL:tf0.small:=⟨by simp [tf0,rx0,Rx.small,Rx.small1,Rx.smallL],by decide,by decide⟩
open Go.RowKit Go.Maps Go.MapKept
open Go.ChangeMaps (setBlock)
theorem hd_v (w:World) (S:Nat→Prop) (k:Int) (t:Str) (n:Int):SnV w S [.int .i64 k,.string ⟨t.toArray⟩,.int .i64 n,.bool false,.bool false,.int .i64 0,.string ⟨#[]⟩,.bool false,.slice none 0 0,.int .i64 0,.int .i64 0,.bool false,.slice none 0 0,.slice none 0 0,.bool false,.bool false,.slice none 0 0,.slice none 0 0] (.mk k t n false false tf0 [] []) :=
 SnV.close (os:=[]) (ks:=[]) (TfV.zero w S) (SlS.none_ _ _ _ _) (SnSl.nil _ _ _)
def hdN (k:Int) (t:Str) (n:Int):Sn:=.mk k t n false false tf0 [] []
def GD (g m:Nat) (s:Str) (N:Nat):Prop:=∀(S:Nat→Prop) (w:World) (i:Nat) (k:Int) (t:Str) (n:Int),Rs S w g m s i→(k=1∨k=3)→s.length-i≤N →
 Calls Tryz.prog 76 #[.pointer (some ⟨g,0,none⟩),.agg #[.int .i64 k,.string ⟨t.toArray⟩,.int .i64 n,.bool false,.bool false,.int .i64 0,.string ⟨#[]⟩,.bool false,.slice none 0 0,.int .i64 0,.int .i64 0,.bool false,.slice none 0 0,.slice none 0 0,.bool false,.bool false,.slice none 0 0,.slice none 0 0]] w fun e w'=>OutX S g m s (lE (lu true [] []) (hdN k t n) (s.drop i)) false i w e w'
theorem nameS_M (r:Str):tS r=match Cl r with|some (n,r2)=>some (varS n,r2)|none=>none:=by
 unfold tS Cl;split<;>rfl
theorem tm (w:World) (k:Int) (t:Str) (n:Int):∀u∈(#[.int .i64 k,.string ⟨t.toArray⟩,.int .i64 n,.bool false,.bool false,.int .i64 0,.string ⟨#[]⟩,.bool false,.slice none 0 0,.int .i64 0,.int .i64 0,.bool false,.slice none 0 0,.slice none 0 0,.bool false,.bool false,.slice none 0 0,.slice none 0 0]:Array Value).toList,u.oneCell'=true:=(hd_v w (fun _=>True) k t n).one
theorem partS_no (r:Str) (h:∀c t,r=c::t→c.toNat≠123):l7 r=nD r:=by
 cases r with
 | nil=>rfl
 | cons c t=>exact FF (h c t rfl) t
theorem lN {w w':World} {g b:Nat} {o:Obj} (h:w.heap[b]?=some o) (hg:w.grownBy w' (some g)) (hne:b≠g):w'.heap[b]?=some o:=kW h hg hne
theorem EX {g m:Nat} {s:Str} {N:Nat} (HB:GD g m s N):Gf g m s (N+1):=by
 intro S w i r h hd hN;have HRS:=ab h;have hgB:=h.pl.lt;have hi:=h.pl.2.1;have hmg:=h.gm;obtain⟨h2,_,hr⟩:=lG hd;have HD:Hid (s.drop (i+1)=r):=ab hr;have HBB:=ab HB;have hnb:¬S w.heap.size∧w.heap.size≠g∧w.heap.size≠m:=⟨fun e=>by have:=h.lt _ e;omega,by omega,by omega⟩;have HZO:Hid (∀u∈(#[.int .i64 0,.string ⟨#[]⟩,.int .i64 0,.bool false,.bool false,.int .i64 0,.string ⟨#[]⟩,.bool false,.slice none 0 0,.int .i64 0,.int .i64 0,.bool false,.slice none 0 0,.slice none 0 0,.bool false,.bool false,.slice none 0 0,.slice none 0 0]:Array Value).toList,u.oneCell'=true):=ab (BX w S).one;have hb0:Below w.heap.size w (w.alloc s0):=(Below.refl _ _).alloc (Ju _) _;have HRS0:=ab (h.later hb0);have HBX:Hid ((w.alloc s0).heap[w.heap.size]?=some s0):=ab (heap_alloc_new w _);have HTK:=ab (nK (p:=[36]) _ HRS0.out.pl gU (by rw [hd];rfl));clear h HB hd hr;go_enter Tryz.func59,Tryz.ntmps59
 go_wp2_with (go_at_call 73;refine HTK.out.mono ?_)
 first|rintro e w1 rfl hp1 hg1|rintro e w1 ⟨rfl,hp1,hg1⟩
 have HRS1:Hid (Rs S w1 g m s (i+1)):=ab (HRS0.out.place hp1 hg1);have HBX1:=ab (lN HBX.out hg1 gN);have HG1:Hid (Gr2 g m w w1):=ab ((Gr2.below hb0).trans (Gr2.grown hg1));clear hp1 hg1 HRS0 HTK HBX hb0;by_cases hb:∃r1,r=123::r1
 ·obtain⟨r1,rfl⟩:=hb
  have HTK:=ab (nK (p:=[123]) _ HRS1.out.pl gU (by rw [HD.out];rfl));go_wp2_with (go_at_call 73;refine HTK.out.mono ?_)
  first|rintro e w2 rfl hp2 hg2|rintro e w2 ⟨rfl,hp2,hg2⟩
  have HRS2:Hid (Rs S w2 g m s (i+1+1)):=ab (HRS1.out.place hp2 hg2);have HBX2:=ab (lN HBX1.out hg2 gN);have HG2:Hid (Gr2 g m w w2):=ab (HG1.out.trans (Gr2.grown hg2));have HDJ:Hid (s.drop (i+1+1)=r1):=ab (lG HD.out).2.2;have HEB:Hid (l7 (123::r1)=match nD r1 with|none=>none|some (x,r2)=>lE (lu true [] []) x r2):=ab (sG r1);clear hp2 hg2 HRS1 HBX1 HG1 HTK;have hz2:=HG2.out.size;obtain⟨b5,hb5⟩:∃b5,b5=w2.heap.size:=⟨_,rfl⟩;obtain⟨W3,hW3⟩:∃W3,W3=w2.alloc (.cells #[.int .i64 3,.string ⟨[].toArray⟩,.int .i64 0,.bool false,.bool false,.int .i64 0,.string ⟨#[]⟩,.bool false,.slice none 0 0,.int .i64 0,.int .i64 0,.bool false,.slice none 0 0,.slice none 0 0,.bool false,.bool false,.slice none 0 0,.slice none 0 0] 44):=⟨_,rfl⟩;have HW3:Hid ((w2.alloc s0).setRow w2.heap.size #[.int .i64 3,.string ⟨[].toArray⟩,.int .i64 0,.bool false,.bool false,.int .i64 0,.string ⟨#[]⟩,.bool false,.slice none 0 0,.int .i64 0,.int .i64 0,.bool false,.slice none 0 0,.slice none 0 0,.bool false,.bool false,.slice none 0 0,.slice none 0 0]=W3):=ab jw;have hb3:Below w2.heap.size w2 W3:=by rw [hW3];exact(Below.refl _ _).alloc (Ju _) _
  have HRS3:=ab (HRS2.out.later hb3);have HG3:=ab (HG2.out.trans (Gr2.below hb3));have HBX3:=ab ((hb3.block _ (kT HBX2.out)).trans HBX2.out);have hgt:w.heap.size<w2.heap.size:=kT HBX2.out;have HT3:Hid (W3.heap[b5]?=some (.cells #[.int .i64 3,.string ⟨[].toArray⟩,.int .i64 0,.bool false,.bool false,.int .i64 0,.string ⟨#[]⟩,.bool false,.slice none 0 0,.int .i64 0,.int .i64 0,.bool false,.slice none 0 0,.slice none 0 0,.bool false,.bool false,.slice none 0 0,.slice none 0 0] 44 (0,0))):=ab (by rw [hW3,hb5];exact heap_alloc_new _ _);have HNU:=ab (Dm W3 HRS3.out.pl);clear hW3 hb3 HRS2 HG2 HBX2;cases hnu:oC r1 with
  | some p =>
   obtain⟨n,r2⟩:=p;have HNU2:=HNU;rw [HDJ.out,hnu] at HNU2;have HH:Hid (nD r1=some (no n,r2)):=ab kD;clear HNU hnu;go_wp2_with (first
    | (refine ll rfl 44 (.tmp 5) (.tmp 16) rfl (w2.heap.size) (#[.int .i64 3,.string ⟨[].toArray⟩,.int .i64 0,.bool false,.bool false,.int .i64 0,.string ⟨#[]⟩,.bool false,.slice none 0 0,.int .i64 0,.int .i64 0,.bool false,.slice none 0 0,.slice none 0 0,.bool false,.bool false,.slice none 0 0,.slice none 0 0]) rfl rfl 44 _ (heap_alloc_new w2 _) (ld) rfl rfl ((tm w 3 [] 0)) (W:=W3) (HW3.out) ?_)
    | (go_at_call 74;refine HNU2.out.mono ?_))
   rintro e w4 ⟨hg4,hn4,rfl,j4,hp4,hd4,hj4⟩;have HRS4:=ab (HRS3.out.place hp4 hg4);have HT4:=ab (lN HT3.out hg4 gN);have HB4:=ab (lN HBX3.out hg4 gN);have hn5:¬S b5∧b5≠g∧b5≠m:=⟨fun e=>by have:=HRS.out.lt _ e;omega,by omega,by omega⟩;have HDJ5:Hid (s.drop j4=r2):=ab hd4;have HRS5:=ab (HRS4.out.setRow hn5 #[.int .i64 1,.string ⟨[].toArray⟩,.int .i64 (n:Int),.bool false,.bool false,.int .i64 0,.string ⟨#[]⟩,.bool false,.slice none 0 0,.int .i64 0,.int .i64 0,.bool false,.slice none 0 0,.slice none 0 0,.bool false,.bool false,.slice none 0 0,.slice none 0 0]);have HG5:=ab ((HG3.out.trans (Gr2.grown hg4)).setRow (b:=b5) gN #[.int .i64 1,.string ⟨[].toArray⟩,.int .i64 (n:Int),.bool false,.bool false,.int .i64 0,.string ⟨#[]⟩,.bool false,.slice none 0 0,.int .i64 0,.int .i64 0,.bool false,.slice none 0 0,.slice none 0 0,.bool false,.bool false,.slice none 0 0,.slice none 0 0]);have HT5:=ab (mF (cs:=#[.int .i64 1,.string ⟨[].toArray⟩,.int .i64 (n:Int),.bool false,.bool false,.int .i64 0,.string ⟨#[]⟩,.bool false,.slice none 0 0,.int .i64 0,.int .i64 0,.bool false,.slice none 0 0,.slice none 0 0,.bool false,.bool false,.slice none 0 0,.slice none 0 0]) HT4.out);have HBX5:Hid ((w4.setRow b5 #[.int .i64 1,.string ⟨[].toArray⟩,.int .i64 (n:Int),.bool false,.bool false,.int .i64 0,.string ⟨#[]⟩,.bool false,.slice none 0 0,.int .i64 0,.int .i64 0,.bool false,.slice none 0 0,.slice none 0 0,.bool false,.bool false,.slice none 0 0,.slice none 0 0]).heap[w.heap.size]?=some s0):=ab ((nj _ gN).trans HB4.out);clear hg4 hp4 hd4;subst hb5;have HE:Hid (l7 (123::r1)=lE (lu true [] []) (hdN 1 [] (n:Int)) r2):=ab kw;have HBC:=ab (HBB.out S ((w4.setRow w2.heap.size #[.int .i64 1,.string ⟨[].toArray⟩,.int .i64 (n:Int),.bool false,.bool false,.int .i64 0,.string ⟨#[]⟩,.bool false,.slice none 0 0,.int .i64 0,.int .i64 0,.bool false,.slice none 0 0,.slice none 0 0,.bool false,.bool false,.slice none 0 0,.slice none 0 0])) _ 1 [] (n:Int) HRS5.out (by first|exact .inl rfl|exact .inr rfl) (by have:=HRS5.out.pl.2.1;omega));go_wp2_with (first|(refine ll rfl 44 (.tmp 5) (.tmp 26) rfl (w2.heap.size) (#[.int .i64 1,.string ⟨[].toArray⟩,.int .i64 (n:Int),.bool false,.bool false,.int .i64 0,.string ⟨#[]⟩,.bool false,.slice none 0 0,.int .i64 0,.int .i64 0,.bool false,.slice none 0 0,.slice none 0 0,.bool false,.bool false,.slice none 0 0,.slice none 0 0]) rfl rfl 44 _ (HT4.out) (ld) rfl rfl ((tm w 1 [] (n:Int))) (W:=(w4.setRow w2.heap.size #[.int .i64 1,.string ⟨[].toArray⟩,.int .i64 (n:Int),.bool false,.bool false,.int .i64 0,.string ⟨#[]⟩,.bool false,.slice none 0 0,.int .i64 0,.int .i64 0,.bool false,.slice none 0 0,.slice none 0 0,.bool false,.bool false,.slice none 0 0,.slice none 0 0])) (rfl) ?_)|(refine kV rfl 44 (.tmp 5) rfl (w2.heap.size) 0 rfl ([.int .i64 1,.string ⟨[].toArray⟩,.int .i64 (n:Int),.bool false,.bool false,.int .i64 0,.string ⟨#[]⟩,.bool false,.slice none 0 0,.int .i64 0,.int .i64 0,.bool false,.slice none 0 0,.slice none 0 0,.bool false,.bool false,.slice none 0 0,.slice none 0 0]) _ (lc (ds:=[]) (HT5.out)) kX rfl iD ?_)|(go_at_call 76;refine HBC.out.mono ?_))
   rintro e w6 ⟨hg6,S6,j6,cc,x,ok,rfl,hrs6,hT1,hT2,hxv,hm⟩;have hz6:=hg6.size;have HBX6:Hid (w6.heap[w.heap.size]?=some s0):=ab ((hg6.block _ (kT HBX5.out) gN gN).trans HBX5.out);have hnb6:¬S6 w.heap.size∧w.heap.size≠g∧w.heap.size≠m:=⟨fun e=>by
    rcases hT2 _ e with h|h
    ·exact hnb.1 h
    ·have:=kT HBX5.out;omega,by omega,by omega⟩
   have hcl:=hxv.len;have HXV6:=ab hxv;have HB9:=ab (mF (w:=w6) (cs:=cc.toArray) HBX6.out);have HRS6:=ab hrs6;have HM:=ab hm;have HG6:=ab (HG5.out.trans hg6);clear hxv hrs6 hm hg6;go_wp2_with (refine ll rfl 44 (.tmp 2) (.tmp 42) rfl (w.heap.size) (cc.toArray) rfl rfl 44 _ (HBX6.out) (ld) iH rfl ((fun u hu=>HXV6.out.one u iY)) (W:=(w6.setRow w.heap.size cc.toArray)) (rfl) ?_)
   refine JM (nv Tryz.results59 kX ld HB9.out iH rfl rfl) rfl ?_;rw [HE.out];refine⟨HG6.out.setRow (Ju _) _,S6,j6,cc,x,ok,rfl,HRS6.out.setRow hnb6 _,hT1,fun b hb=>(hT2 b hb).imp id (fun h=>by have:=HG5.out.size;omega),HXV6.out.setRow hnb6.1 _,?_⟩;have h:=HM.out;rw [HDJ5.out] at h;cases hq:lE (lu true [] []) (hdN 1 [] (n:Int)) r2 with
   | none=>rw [hq] at h;exact⟨h.1,fun e=>by cases e⟩
   | some y=>rw [hq] at h;exact h
  | none =>
   have HNU2:=HNU;rw [HDJ.out,hnu] at HNU2;have HNN:Hid (nD r1=tS r1):=ab kD;clear HNU hnu;go_wp2_with (first
    | (refine ll rfl 44 (.tmp 5) (.tmp 16) rfl (w2.heap.size) (#[.int .i64 3,.string ⟨[].toArray⟩,.int .i64 0,.bool false,.bool false,.int .i64 0,.string ⟨#[]⟩,.bool false,.slice none 0 0,.int .i64 0,.int .i64 0,.bool false,.slice none 0 0,.slice none 0 0,.bool false,.bool false,.slice none 0 0,.slice none 0 0]) rfl rfl 44 _ (heap_alloc_new w2 _) (ld) rfl rfl ((tm w 3 [] 0)) (W:=W3) (HW3.out) ?_)
    | (go_at_call 74;refine HNU2.out.mono ?_))
   rintro e w4 ⟨hg4,rfl,hp4⟩;have HRS4:=ab (HRS3.out.place hp4 hg4);have HT4:=ab (lN HT3.out hg4 gN);have HB4:=ab (lN HBX3.out hg4 gN);have HG4:=ab (HG3.out.trans (Gr2.grown hg4));have HNA:=ab (name_s w4 hp4);clear hg4 hp4;cases hna:Cl r1 with
   | none =>
    have HNA2:=HNA;rw [HDJ.out,hna] at HNA2;have HH:Hid (nD r1=none):=ab kp;clear HNA hna;go_wp2_with (go_at_call 75;refine HNA2.out.mono ?_)
    rintro e w5 ⟨hg5,rfl,hp5⟩;have ht5:=lN HT4.out hg5 gN;have kc:=kU ht5 1 rfl;have kf:=mg ht5 1;obtain⟨W5,hW5⟩:∃W5,W5=w5.setCell ⟨b5,1,none⟩ (.string ⟨#[]⟩):=⟨_,rfl⟩;have hn5:¬S b5∧b5≠g∧b5≠m:=⟨fun e=>by have:=HRS.out.lt _ e;omega,by omega,by omega⟩;have HRS5:=ab (hW5▸(HRS4.out.place hp5 hg5).setCell (a:=⟨b5,1,none⟩) hn5 (.string ⟨#[]⟩));have HG5:=ab (hW5▸(HG4.out.trans (Gr2.grown hg5)).setNew (a:=⟨b5,1,none⟩) kh (.string ⟨#[]⟩));have HBX5:Hid (W5.heap[w.heap.size]?=some s0):=ab ik;subst hb5;go_upto_region 8 with fail
    rw [←hW5];clear hW5 kc kf ht5 hg5 hp5;have HE:Hid (l7 (123::r1)=none):=ab (by rw [HEB.out,HH.out]);exact aU
   | some p =>
    obtain⟨nm,r2⟩:=p;have HNA2:=HNA;rw [HDJ.out,hna] at HNA2;have HH:Hid (nD r1=some (varS nm,r2)):=ab kp;clear HNA hna;go_wp2_with (go_at_call 75;refine HNA2.out.mono ?_)
    rintro e w5 ⟨hg5,hnm,rfl,j5,hp5,hd5,hj5⟩;have ht5:=lN HT4.out hg5 gN;have kc:=kU ht5 1 rfl;have kf:=mg ht5 1;obtain⟨W5,hW5⟩:∃W5,W5=w5.setCell ⟨b5,1,none⟩ (.string ⟨nm.toArray⟩):=⟨_,rfl⟩;have hn5:¬S b5∧b5≠g∧b5≠m:=⟨fun e=>by have:=HRS.out.lt _ e;omega,by omega,by omega⟩;have HRS5:=ab (hW5▸(HRS4.out.place hp5 hg5).setCell (a:=⟨b5,1,none⟩) hn5 (.string ⟨nm.toArray⟩));have HG5:=ab (hW5▸(HG4.out.trans (Gr2.grown hg5)).setNew (a:=⟨b5,1,none⟩) kh (.string ⟨nm.toArray⟩));have HBX5:Hid (W5.heap[w.heap.size]?=some s0):=ab ik;have HT5:Hid (W5.heap[b5]?=some (.cells #[.int .i64 3,.string ⟨nm.toArray⟩,.int .i64 0,.bool false,.bool false,.int .i64 0,.string ⟨#[]⟩,.bool false,.slice none 0 0,.int .i64 0,.int .i64 0,.bool false,.slice none 0 0,.slice none 0 0,.bool false,.bool false,.slice none 0 0,.slice none 0 0] 44 (0,0))):=ab (by rw [hW5,heap_setCell_same _ _ _ _ _ _ ht5];rfl);have HDJ5:Hid (s.drop j5=r2):=ab hd5;subst hb5;go_upto_region 8 with fail
    rw [←hW5];clear hW5 kc kf ht5 hg5 hp5 hd5 hnm;have HE:Hid (l7 (123::r1)=lE (lu true [] []) (hdN 3 nm 0) r2):=ab kw;have HBC:=ab (HBB.out S (W5) _ 3 nm 0 HRS5.out (by first|exact .inl rfl|exact .inr rfl) (by have:=HRS5.out.pl.2.1;omega));go_wp2_with (first|(fail)|(refine kV rfl 44 (.tmp 5) rfl (w2.heap.size) 0 rfl ([.int .i64 3,.string ⟨nm.toArray⟩,.int .i64 0,.bool false,.bool false,.int .i64 0,.string ⟨#[]⟩,.bool false,.slice none 0 0,.int .i64 0,.int .i64 0,.bool false,.slice none 0 0,.slice none 0 0,.bool false,.bool false,.slice none 0 0,.slice none 0 0]) _ (lc (ds:=[]) (HT5.out)) kX rfl iD ?_)|(go_at_call 76;refine HBC.out.mono ?_))
    rintro e w6 ⟨hg6,S6,j6,cc,x,ok,rfl,hrs6,hT1,hT2,hxv,hm⟩;have hz6:=hg6.size;have HBX6:Hid (w6.heap[w.heap.size]?=some s0):=ab ((hg6.block _ (kT HBX5.out) gN gN).trans HBX5.out);have hnb6:¬S6 w.heap.size∧w.heap.size≠g∧w.heap.size≠m:=⟨fun e=>by
     rcases hT2 _ e with h|h
     ·exact hnb.1 h
     ·have:=kT HBX5.out;omega,by omega,by omega⟩
    have hcl:=hxv.len;have HXV6:=ab hxv;have HB9:=ab (mF (w:=w6) (cs:=cc.toArray) HBX6.out);have HRS6:=ab hrs6;have HM:=ab hm;have HG6:=ab (HG5.out.trans hg6);clear hxv hrs6 hm hg6;go_wp2_with (refine ll rfl 44 (.tmp 2) (.tmp 42) rfl (w.heap.size) (cc.toArray) rfl rfl 44 _ (HBX6.out) (ld) iH rfl ((fun u hu=>HXV6.out.one u iY)) (W:=(w6.setRow w.heap.size cc.toArray)) (rfl) ?_)
    refine JM (nv Tryz.results59 kX ld HB9.out iH rfl rfl) rfl ?_;rw [HE.out];refine⟨HG6.out.setRow (Ju _) _,S6,j6,cc,x,ok,rfl,HRS6.out.setRow hnb6 _,hT1,fun b hb=>(hT2 b hb).imp id (fun h=>by have:=HG5.out.size;omega),HXV6.out.setRow hnb6.1 _,?_⟩;have h:=HM.out;rw [HDJ5.out] at h;cases hq:lE (lu true [] []) (hdN 3 nm 0) r2 with
    | none=>rw [hq] at h;exact⟨h.1,fun e=>by cases e⟩
    | some y=>rw [hq] at h;exact h
 ·have hb':∀c t,r=c::t→c.toNat≠123:=fun c t e hc=>hb ⟨t,by rw [e,show c=123 from Jk.1 hc]⟩
  have HNO:Hid (List.isPrefixOf [123] (s.drop (i+1))=false):=ab (by
   rw [HD.out];cases r with
   | nil=>rfl
   | cons c t=>rw [pre1];exact JT (hb' c t rfl))
  have HEB:Hid (l7 r=nD r):=ab (partS_no r hb');have HTK:=ab (nl (p:=[123]) _ HRS1.out.pl gU HNO.out);clear hb hb' HNO;go_wp2_with (go_at_call 73;refine HTK.out.mono ?_)
  first|rintro e w2 rfl hp2 hg2|rintro e w2 ⟨rfl,hp2,hg2⟩
  have HRS2:Hid (Rs S w2 g m s (i+1)):=ab (HRS1.out.place hp2 hg2);have HBX2:=ab (lN HBX1.out hg2 gN);have HG2:Hid (Gr2 g m w w2):=ab (HG1.out.trans (Gr2.grown hg2));have HDJ:Hid (s.drop (i+1)=r):=HD;clear hp2 hg2 HRS1 HBX1 HG1 HTK;have hz2:=HG2.out.size;obtain⟨b5,hb5⟩:∃b5,b5=w2.heap.size:=⟨_,rfl⟩;obtain⟨W3,hW3⟩:∃W3,W3=w2.alloc (.cells #[.int .i64 3,.string ⟨[].toArray⟩,.int .i64 0,.bool false,.bool false,.int .i64 0,.string ⟨#[]⟩,.bool false,.slice none 0 0,.int .i64 0,.int .i64 0,.bool false,.slice none 0 0,.slice none 0 0,.bool false,.bool false,.slice none 0 0,.slice none 0 0] 44):=⟨_,rfl⟩;have HW3:Hid ((w2.alloc s0).setRow w2.heap.size #[.int .i64 3,.string ⟨[].toArray⟩,.int .i64 0,.bool false,.bool false,.int .i64 0,.string ⟨#[]⟩,.bool false,.slice none 0 0,.int .i64 0,.int .i64 0,.bool false,.slice none 0 0,.slice none 0 0,.bool false,.bool false,.slice none 0 0,.slice none 0 0]=W3):=ab jw;have hb3:Below w2.heap.size w2 W3:=by rw [hW3];exact(Below.refl _ _).alloc (Ju _) _
  have HRS3:=ab (HRS2.out.later hb3);have HG3:=ab (HG2.out.trans (Gr2.below hb3));have HBX3:=ab ((hb3.block _ (kT HBX2.out)).trans HBX2.out);have hgt:w.heap.size<w2.heap.size:=kT HBX2.out;have HT3:Hid (W3.heap[b5]?=some (.cells #[.int .i64 3,.string ⟨[].toArray⟩,.int .i64 0,.bool false,.bool false,.int .i64 0,.string ⟨#[]⟩,.bool false,.slice none 0 0,.int .i64 0,.int .i64 0,.bool false,.slice none 0 0,.slice none 0 0,.bool false,.bool false,.slice none 0 0,.slice none 0 0] 44 (0,0))):=ab (by rw [hW3,hb5];exact heap_alloc_new _ _);have HNU:=ab (Dm W3 HRS3.out.pl);clear hW3 hb3 HRS2 HG2 HBX2;cases hnu:oC r with
  | some p =>
   obtain⟨n,r2⟩:=p;have HNU2:=HNU;rw [HDJ.out,hnu] at HNU2;have HH:Hid (nD r=some (no n,r2)):=ab kD;clear HNU hnu;go_wp2_with (first
    | (refine ll rfl 44 (.tmp 5) (.tmp 16) rfl (w2.heap.size) (#[.int .i64 3,.string ⟨[].toArray⟩,.int .i64 0,.bool false,.bool false,.int .i64 0,.string ⟨#[]⟩,.bool false,.slice none 0 0,.int .i64 0,.int .i64 0,.bool false,.slice none 0 0,.slice none 0 0,.bool false,.bool false,.slice none 0 0,.slice none 0 0]) rfl rfl 44 _ (heap_alloc_new w2 _) (ld) rfl rfl ((tm w 3 [] 0)) (W:=W3) (HW3.out) ?_)
    | (go_at_call 74;refine HNU2.out.mono ?_))
   rintro e w4 ⟨hg4,hn4,rfl,j4,hp4,hd4,hj4⟩;have HRS4:=ab (HRS3.out.place hp4 hg4);have HT4:=ab (lN HT3.out hg4 gN);have HB4:=ab (lN HBX3.out hg4 gN);have hn5:¬S b5∧b5≠g∧b5≠m:=⟨fun e=>by have:=HRS.out.lt _ e;omega,by omega,by omega⟩;have HDJ5:Hid (s.drop j4=r2):=ab hd4;have HRS5:=ab (HRS4.out.setRow hn5 #[.int .i64 1,.string ⟨[].toArray⟩,.int .i64 (n:Int),.bool false,.bool false,.int .i64 0,.string ⟨#[]⟩,.bool false,.slice none 0 0,.int .i64 0,.int .i64 0,.bool false,.slice none 0 0,.slice none 0 0,.bool false,.bool false,.slice none 0 0,.slice none 0 0]);have HG5:=ab ((HG3.out.trans (Gr2.grown hg4)).setRow (b:=b5) gN #[.int .i64 1,.string ⟨[].toArray⟩,.int .i64 (n:Int),.bool false,.bool false,.int .i64 0,.string ⟨#[]⟩,.bool false,.slice none 0 0,.int .i64 0,.int .i64 0,.bool false,.slice none 0 0,.slice none 0 0,.bool false,.bool false,.slice none 0 0,.slice none 0 0]);have HT5:=ab (mF (cs:=#[.int .i64 1,.string ⟨[].toArray⟩,.int .i64 (n:Int),.bool false,.bool false,.int .i64 0,.string ⟨#[]⟩,.bool false,.slice none 0 0,.int .i64 0,.int .i64 0,.bool false,.slice none 0 0,.slice none 0 0,.bool false,.bool false,.slice none 0 0,.slice none 0 0]) HT4.out);have HBX5:Hid ((w4.setRow b5 #[.int .i64 1,.string ⟨[].toArray⟩,.int .i64 (n:Int),.bool false,.bool false,.int .i64 0,.string ⟨#[]⟩,.bool false,.slice none 0 0,.int .i64 0,.int .i64 0,.bool false,.slice none 0 0,.slice none 0 0,.bool false,.bool false,.slice none 0 0,.slice none 0 0]).heap[w.heap.size]?=some s0):=ab ((nj _ gN).trans HB4.out);clear hg4 hp4 hd4;subst hb5;have HE:Hid (l7 r=some (hdN 1 [] (n:Int),r2)):=ab kw;have HB9:=ab (mF (w:=(w4.setRow w2.heap.size #[.int .i64 1,.string ⟨[].toArray⟩,.int .i64 (n:Int),.bool false,.bool false,.int .i64 0,.string ⟨#[]⟩,.bool false,.slice none 0 0,.int .i64 0,.int .i64 0,.bool false,.slice none 0 0,.slice none 0 0,.bool false,.bool false,.slice none 0 0,.slice none 0 0])) (cs:=#[.int .i64 1,.string ⟨[].toArray⟩,.int .i64 (n:Int),.bool false,.bool false,.int .i64 0,.string ⟨#[]⟩,.bool false,.slice none 0 0,.int .i64 0,.int .i64 0,.bool false,.slice none 0 0,.slice none 0 0,.bool false,.bool false,.slice none 0 0,.slice none 0 0]) HBX5.out);go_wp2_with (first|(refine ll rfl 44 (.tmp 5) (.tmp 26) rfl (w2.heap.size) (#[.int .i64 1,.string ⟨[].toArray⟩,.int .i64 (n:Int),.bool false,.bool false,.int .i64 0,.string ⟨#[]⟩,.bool false,.slice none 0 0,.int .i64 0,.int .i64 0,.bool false,.slice none 0 0,.slice none 0 0,.bool false,.bool false,.slice none 0 0,.slice none 0 0]) rfl rfl 44 _ (HT4.out) (ld) rfl rfl ((tm w 1 [] (n:Int))) (W:=(w4.setRow w2.heap.size #[.int .i64 1,.string ⟨[].toArray⟩,.int .i64 (n:Int),.bool false,.bool false,.int .i64 0,.string ⟨#[]⟩,.bool false,.slice none 0 0,.int .i64 0,.int .i64 0,.bool false,.slice none 0 0,.slice none 0 0,.bool false,.bool false,.slice none 0 0,.slice none 0 0])) (rfl) ?_)|(refine kV rfl 44 (.tmp 5) rfl (w2.heap.size) 0 rfl ([.int .i64 1,.string ⟨[].toArray⟩,.int .i64 (n:Int),.bool false,.bool false,.int .i64 0,.string ⟨#[]⟩,.bool false,.slice none 0 0,.int .i64 0,.int .i64 0,.bool false,.slice none 0 0,.slice none 0 0,.bool false,.bool false,.slice none 0 0,.slice none 0 0]) _ (lc (ds:=[]) (HT5.out)) kX rfl iD ?_)|(refine ll rfl 44 (.tmp 2) (.tmp 44) rfl (w.heap.size) (#[.int .i64 1,.string ⟨[].toArray⟩,.int .i64 (n:Int),.bool false,.bool false,.int .i64 0,.string ⟨#[]⟩,.bool false,.slice none 0 0,.int .i64 0,.int .i64 0,.bool false,.slice none 0 0,.slice none 0 0,.bool false,.bool false,.slice none 0 0,.slice none 0 0]) rfl rfl 44 _ (HBX5.out) (ld) rfl rfl ((tm w 1 [] (n:Int))) (W:=(((w4.setRow w2.heap.size #[.int .i64 1,.string ⟨[].toArray⟩,.int .i64 (n:Int),.bool false,.bool false,.int .i64 0,.string ⟨#[]⟩,.bool false,.slice none 0 0,.int .i64 0,.int .i64 0,.bool false,.slice none 0 0,.slice none 0 0,.bool false,.bool false,.slice none 0 0,.slice none 0 0])).setRow w.heap.size #[.int .i64 1,.string ⟨[].toArray⟩,.int .i64 (n:Int),.bool false,.bool false,.int .i64 0,.string ⟨#[]⟩,.bool false,.slice none 0 0,.int .i64 0,.int .i64 0,.bool false,.slice none 0 0,.slice none 0 0,.bool false,.bool false,.slice none 0 0,.slice none 0 0])) (rfl) ?_))
   refine JM (nv Tryz.results59 kX ld HB9.out rfl rfl rfl) rfl ?_;rw [HE.out];exact⟨HG5.out.setRow (Ju _) _,S,_,_,_,true,rfl,HRS5.out.setRow hnb _,fun _ h=>h,fun _ h=>.inl h,hd_v _ S 1 [] (n:Int),rfl,rfl,HDJ5.out⟩
  | none =>
   have HNU2:=HNU;rw [HDJ.out,hnu] at HNU2;have HNN:Hid (nD r=tS r):=ab kD;clear HNU hnu;go_wp2_with (first
    | (refine ll rfl 44 (.tmp 5) (.tmp 16) rfl (w2.heap.size) (#[.int .i64 3,.string ⟨[].toArray⟩,.int .i64 0,.bool false,.bool false,.int .i64 0,.string ⟨#[]⟩,.bool false,.slice none 0 0,.int .i64 0,.int .i64 0,.bool false,.slice none 0 0,.slice none 0 0,.bool false,.bool false,.slice none 0 0,.slice none 0 0]) rfl rfl 44 _ (heap_alloc_new w2 _) (ld) rfl rfl ((tm w 3 [] 0)) (W:=W3) (HW3.out) ?_)
    | (go_at_call 74;refine HNU2.out.mono ?_))
   rintro e w4 ⟨hg4,rfl,hp4⟩;have HRS4:=ab (HRS3.out.place hp4 hg4);have HT4:=ab (lN HT3.out hg4 gN);have HB4:=ab (lN HBX3.out hg4 gN);have HG4:=ab (HG3.out.trans (Gr2.grown hg4));have HNA:=ab (name_s w4 hp4);clear hg4 hp4;cases hna:Cl r with
   | none =>
    have HNA2:=HNA;rw [HDJ.out,hna] at HNA2;have HH:Hid (nD r=none):=ab kp;clear HNA hna;go_wp2_with (go_at_call 75;refine HNA2.out.mono ?_)
    rintro e w5 ⟨hg5,rfl,hp5⟩;have ht5:=lN HT4.out hg5 gN;have kc:=kU ht5 1 rfl;have kf:=mg ht5 1;obtain⟨W5,hW5⟩:∃W5,W5=w5.setCell ⟨b5,1,none⟩ (.string ⟨#[]⟩):=⟨_,rfl⟩;have hn5:¬S b5∧b5≠g∧b5≠m:=⟨fun e=>by have:=HRS.out.lt _ e;omega,by omega,by omega⟩;have HRS5:=ab (hW5▸(HRS4.out.place hp5 hg5).setCell (a:=⟨b5,1,none⟩) hn5 (.string ⟨#[]⟩));have HG5:=ab (hW5▸(HG4.out.trans (Gr2.grown hg5)).setNew (a:=⟨b5,1,none⟩) kh (.string ⟨#[]⟩));have HBX5:Hid (W5.heap[w.heap.size]?=some s0):=ab ik;subst hb5;go_upto_region 8 with fail
    rw [←hW5];clear hW5 kc kf ht5 hg5 hp5;have HE:Hid (l7 r=none):=ab (by rw [HEB.out,HH.out]);exact aU
   | some p =>
    obtain⟨nm,r2⟩:=p;have HNA2:=HNA;rw [HDJ.out,hna] at HNA2;have HH:Hid (nD r=some (varS nm,r2)):=ab kp;clear HNA hna;go_wp2_with (go_at_call 75;refine HNA2.out.mono ?_)
    rintro e w5 ⟨hg5,hnm,rfl,j5,hp5,hd5,hj5⟩;have ht5:=lN HT4.out hg5 gN;have kc:=kU ht5 1 rfl;have kf:=mg ht5 1;obtain⟨W5,hW5⟩:∃W5,W5=w5.setCell ⟨b5,1,none⟩ (.string ⟨nm.toArray⟩):=⟨_,rfl⟩;have hn5:¬S b5∧b5≠g∧b5≠m:=⟨fun e=>by have:=HRS.out.lt _ e;omega,by omega,by omega⟩;have HRS5:=ab (hW5▸(HRS4.out.place hp5 hg5).setCell (a:=⟨b5,1,none⟩) hn5 (.string ⟨nm.toArray⟩));have HG5:=ab (hW5▸(HG4.out.trans (Gr2.grown hg5)).setNew (a:=⟨b5,1,none⟩) kh (.string ⟨nm.toArray⟩));have HBX5:Hid (W5.heap[w.heap.size]?=some s0):=ab ik;have HT5:Hid (W5.heap[b5]?=some (.cells #[.int .i64 3,.string ⟨nm.toArray⟩,.int .i64 0,.bool false,.bool false,.int .i64 0,.string ⟨#[]⟩,.bool false,.slice none 0 0,.int .i64 0,.int .i64 0,.bool false,.slice none 0 0,.slice none 0 0,.bool false,.bool false,.slice none 0 0,.slice none 0 0] 44 (0,0))):=ab (by rw [hW5,heap_setCell_same _ _ _ _ _ _ ht5];rfl);have HDJ5:Hid (s.drop j5=r2):=ab hd5;subst hb5;go_upto_region 8 with fail
    rw [←hW5];clear hW5 kc kf ht5 hg5 hp5 hd5 hnm;have HE:Hid (l7 r=some (hdN 3 nm 0,r2)):=ab kw;have HB9:=ab (mF (w:=W5) (cs:=#[.int .i64 3,.string ⟨nm.toArray⟩,.int .i64 0,.bool false,.bool false,.int .i64 0,.string ⟨#[]⟩,.bool false,.slice none 0 0,.int .i64 0,.int .i64 0,.bool false,.slice none 0 0,.slice none 0 0,.bool false,.bool false,.slice none 0 0,.slice none 0 0]) HBX5.out);go_wp2_with (first|(fail)|(refine kV rfl 44 (.tmp 5) rfl (w2.heap.size) 0 rfl ([.int .i64 3,.string ⟨nm.toArray⟩,.int .i64 0,.bool false,.bool false,.int .i64 0,.string ⟨#[]⟩,.bool false,.slice none 0 0,.int .i64 0,.int .i64 0,.bool false,.slice none 0 0,.slice none 0 0,.bool false,.bool false,.slice none 0 0,.slice none 0 0]) _ (lc (ds:=[]) (HT5.out)) kX rfl iD ?_)|(refine ll rfl 44 (.tmp 2) (.tmp 44) rfl (w.heap.size) (#[.int .i64 3,.string ⟨nm.toArray⟩,.int .i64 0,.bool false,.bool false,.int .i64 0,.string ⟨#[]⟩,.bool false,.slice none 0 0,.int .i64 0,.int .i64 0,.bool false,.slice none 0 0,.slice none 0 0,.bool false,.bool false,.slice none 0 0,.slice none 0 0]) rfl rfl 44 _ (HBX5.out) (ld) rfl rfl ((tm w 3 nm 0)) (W:=((W5).setRow w.heap.size #[.int .i64 3,.string ⟨nm.toArray⟩,.int .i64 0,.bool false,.bool false,.int .i64 0,.string ⟨#[]⟩,.bool false,.slice none 0 0,.int .i64 0,.int .i64 0,.bool false,.slice none 0 0,.slice none 0 0,.bool false,.bool false,.slice none 0 0,.slice none 0 0])) (rfl) ?_))
    refine JM (nv Tryz.results59 kX ld HB9.out rfl rfl rfl) rfl ?_;rw [HE.out];exact⟨HG5.out.setRow (Ju _) _,S,_,_,_,true,rfl,HRS5.out.setRow hnb _,fun _ h=>h,fun _ h=>.inl h,hd_v _ S 3 nm 0,rfl,rfl,HDJ5.out⟩
end Go.Proofs.YtdcnncgpomcaaaaGreatDoor
