/- Texts in brackets, as often as you like. -/
import Derived.Test.YtdcnncgpomcaaaaGreatDoorSc20
import Derived.Test.YtdcnncgpomcaaaaGreatDoorSc19
set_option maxRecDepth 100000
namespace Go.Proofs.YtdcnncgpomcaaaaGreatDoor
theorem xM (z:List Str):∀(n:Nat),n≤200000→yw (patF n) z n
 | 0,_=>fun r d x r1 d' _ _ h _=>by cases h
 | n+1,hn=>fun r d x r1 d' hl ho h hd'=>by
  have ih:=xM z n gj;have h':patL (fun r=>lD (patF n) r d) (r.length+1) [] [] r=.ok (x,r1):=h;exact uM (f:=fun r=>lD (patF n) r d) (f':=fun r=>lD (patF n) r d') (r.length+1) ((r++z).length+1) [] [] r gz h'
   (fun r' y r2 hs hx=>FM ih (BV n) hx (nf hs ho) jI hd') (fun r' y r2 hs hx=>(qi hx (nf hs ho) jI).1) iY iY
def Rdg (l:List Str) (x:Rx):Prop:=okC l∧noQ l∧∀(n:Nat) (z:List Str) (d:Nat),(z=[]∨∃z',z=[41]::z')→okC z→d≤16→(l++z).length<n→n≤200000 →
 patF n (l++z) d=if x.deep+d≤16 then .ok (x,z) else .error 8
theorem Rdg.of {l:List Str} {x:Rx} (ho:okC l) (h:patF (l.length+1) l 0=.ok (x,[])):Rdg l x:=by
 refine⟨ho,noQ_ok h,fun n z d hz hoz hd hl hn=>?_⟩;have hll:l.length+z.length<n:=jC;have h0:patF n l 0=.ok (x,[]):=by rw [←h];exact sG gj gj ho gj
 by_cases hx:x.deep+d≤16
 ·rw [Hu hx]
  have h1:patF n l d=.ok (x,[]):=by
   have:=(xM [] n hn l 0 x [] d gD ho h0 hd).1 hx (.inr rfl)
   simpa using this
  rcases hz with rfl|⟨z',rfl⟩
  ·simpa using h1
  ·have h2:patF (l.length+1) l d=.ok (x,[]):=by rw [←h1];exact sG gj gj ho gj
   obtain⟨n,rfl⟩:∃n',n=n'+1:=⟨n-1,by omega⟩;obtain⟨a,t,m,g1,g2,g3,g4,g5⟩:=FA (n:=n) (z:=[41]::z') ho ⟨by decide,by decide,by decide,by decide⟩ gj gj h2;show patL (fun r=>lD (patF n) r d) ((l++[41]::z').length+1) [] [] (l++[41]::z')=_
   rw [g2];obtain⟨m,rfl⟩:∃m',m=m'+1:=⟨m-1,by omega⟩;simp only [patL,if_true];rw [g1]
 ·rw [Hx hx]
  exact(xM z n hn l 0 x [] d gj ho h0 hd).2 gj
def opn (bare:Bool):List Str:=if bare=true then [[40],[63],[58]] else [[40]]
def gk (bare:Bool):Int:=if bare=true then 6 else 5
theorem Rdg.term {l z:List Str} {x:Rx} (h:Rdg l x) (bare:Bool) (n d:Nat) (hoz:okC z) (hd:d≤16) (hl:(l++[41]::z).length<n) (hn:n≤200000) :
  lD (patF n) (opn bare++(l++[41]::z)) d=if x.deep+1+d≤16 then lJ (grpR (gk bare) x) z else .error 8:=by
 obtain⟨h1,h2,h3⟩:=h;have hgr:∀r,nc r=some (gk bare,l++[41]::z)→mw (patF n) r d=if x.deep+1+d≤16 then .ok (grpR (gk bare) x,z) else .error 8:=by
  intro r hk;unfold mw;by_cases h16:16≤d
  ·rw [Hu h16,Hx gj]
  rw [Hx h16];simp only [hk];rw [h3 n ([41]::z) (d+1) (.inr ⟨z,rfl⟩) (fun p hp=>by
   rcases Ii.1 hp with rfl|hp
   ·exact⟨by simp,by simp⟩
   ·exact hoz p hp) gj hl hn]
  by_cases hx:x.deep+(d+1)≤16
  ·rw [Hu hx,Hu gj];simp only [kN,if_true]
  ·rw [Hx hx,Hx gj]
 have hte:∀r,nc r=some (gk bare,l++[41]::z)→lD (patF n) ([40]::r) d=if x.deep+1+d≤16 then lJ (grpR (gk bare) x) z else .error 8:=by
  intro r hk;unfold lD;have he:mF ([40]::r)=none:=by simp [mF]
  have ha:lS (patF n) ([40]::r) d=mw (patF n) r d:=by simp [lS]
  simp only [he,ha,hgr r hk];by_cases hx:x.deep+1+d≤16
  ·rw [Hu hx,Hu hx]
  ·rw [Hx hx,Hx hx]
 cases bare with
 | true=>exact hte ([63]::[58]::(l++[41]::z)) (by simp [nc,kN,gk])
 | false =>
  refine hte (l++[41]::z) ?_;unfold nc;have:kN [63] (l++[41]::z)=none:=by
   cases l with
   | nil=>simp [kN]
   | cons c l=>simp only [IA,kN,Hx h2.2.2.1]
  simp only [this];rfl
def wrp (bare:Bool) (l:List Str):List Str:=opn bare++(l++[[41]])
theorem opn_ok (bare:Bool):okC (opn bare):=by
 intro p hp;cases bare<;>simp [opn] at hp
 ·subst hp;exact⟨by simp,by simp⟩
 ·rcases hp with rfl|rfl|rfl<;>exact⟨by simp,by simp⟩
theorem Cp (bare:Bool):∃r,opn bare=[40]::r:=by cases bare<;>exact⟨_,rfl⟩
theorem gk_or (bare:Bool):gk bare=5∨gk bare=6:=by cases bare<;>simp [gk]
theorem Rdg.wrap {l:List Str} {x:Rx} (h:Rdg l x) (bare:Bool):Rdg (wrp bare l) (grpR (gk bare) x):=by
 have ho:=h.1;obtain⟨ro,hro⟩:=Cp bare;refine⟨ur (opn_ok bare) (ur ho fun p hp=>by rw [IC] at hp;subst hp;exact⟨by simp,by simp⟩),?_,fun n z d hz hoz hd hl hn=>?_⟩
 ·unfold wrp;rw [hro];exact⟨by decide,by decide,by decide,by decide⟩
 ·obtain⟨n,rfl⟩:∃n',n=n'+1:=⟨n-1,by omega⟩
  have e1:wrp bare l++z=opn bare++(l++[41]::z):=by simp [wrp]
  have hl':(l++[41]::z).length<n:=by
   rw [e1,Ig] at hl;have:1≤(opn bare).length:=by rw [hro];simp
   omega
  have hlen:(wrp bare l++z).length=(opn bare++(l++[41]::z)).length:=by rw [e1]
  show patL (fun r=>lD (patF n) r d) ((wrp bare l++z).length+1) [] [] (wrp bare l++z)=_
  have ht:=h.term (z:=z) bare n d hoz hd hl' gj;obtain⟨K,hK⟩:∃K,(wrp bare l++z).length=K+1:=⟨(ro++(l++[41]::z)).length,by rw [hlen,hro];simp⟩;rw [hK,e1];rw [hro,IA] at ht ⊢;rw [xK (gk_or bare)];simp only [patL,Hx (show ¬([40]:Str)=[41] by decide),Hx (show ¬([40]:Str)=[124] by decide),ht];by_cases hx:x.deep+1+d≤16
  ·rw [Hu hx,Hu hx]
   have hkind:(grpR (gk bare) x).kind≠0∧(grpR (gk bare) x).kind≠1:=by cases bare<;>simp [grpR,gk,Rx.kind]
   have hT:InvT [grpR (gk bare) x]:=fun y hy=>by rw [IC] at hy;rw [hy];exact hkind
   have hseq:seqR [grpR (gk bare) x]=grpR (gk bare) x:=by
    unfold seqR;rw [mn (fun y hy=>(hT y hy).1)]
   have hend:altR ([]++[seqR ([]++[grpR (gk bare) x])])=grpR (gk bare) x:=by
    rw [Iz,Iz,hseq,nX hkind.2]
   rcases hz with rfl|⟨z',rfl⟩
   ·simp only [lJ,hend]
   ·have hq:lJ (grpR (gk bare) x) ([41]::z')=.ok (grpR (gk bare) x,[41]::z'):=by simp [lJ]
    simp only [hq,if_true,hend]
  ·rw [Hx hx,Hx hx]
theorem F6 {a b c:Str} (h1:leS a b=true) (h2:leS b c=true):leS a c=true:=by
 unfold leS at *;rw [H8,Hp] at *;rcases h1 with h1|rfl
 ·rcases h2 with h2|rfl
  ·exact .inl (nr h1 h2)
  ·exact .inl h1
 ·exact h2
theorem Fn {out:List Row} {r:Row} (h:oF out=true) (hr:rowB r=true):oF (mrgS out r)=true:=by
 have app:∀(l:List Row) (p:Option Str) (x:Row),nC p (l++[x])=(nC p l&&nC (match l.getLast? with|none=>p|some q=>some q.2) [x]):=by
  intro l;induction l with
  | nil=>intro p x;simp [nC]
  | cons y l ih =>
   intro p x;rw [IA];show (rowB y&&_&&nC (some y.2) (l++[x]))=(rowB y&&_&&nC (some y.2) l&&_)
   rw [ih];cases l with
   | nil=>simp [nC,Bool.and_assoc]
   | cons z l =>
    rw [List.getLast?_cons_cons];obtain⟨q,hq⟩:∃q,(z::l).getLast?=some q:=by
     rcases List.eq_nil_or_concat (z::l) with h|⟨B,q,h⟩
     ·cases h
     ·rw [h,List.concat_eq_append,List.getLast?_concat];exact⟨_,rfl⟩
    simp only [hq,Bool.and_assoc]
 rcases List.eq_nil_or_concat out with rfl|⟨B,q,rfl⟩
 ·rw [tQ];simp [oF,nC,hr]
 ·rw [List.concat_eq_append] at h ⊢
  have h':=h;unfold oF at h';rw [app] at h';have h1:=(Bool.and_eq_true_iff.1 h').1;have h2:=(Bool.and_eq_true_iff.1 h').2;cases hl:leS r.1 q.2 with
  | false =>
   rw [uq hl];unfold oF at h ⊢;rw [app,h,List.getLast?_concat];simp [nC,hr,hl]
  | true =>
   rw [yp hl];unfold oF;rw [app,h1,Im];generalize (match B.getLast? with|none=>(none:Option Str)|some q=>some q.2)=p at h2 ⊢
   simp only [nC,Ho,Ie] at h2 ⊢;refine⟨?_,h2.2⟩;have hq:=h2.1;unfold rowB at hq hr ⊢;simp only [Ie] at hq hr ⊢;unfold mxS;by_cases hm:Op.bytesLess q.2 r.2=true
   ·rw [Hu hm]
    refine⟨⟨hq.1.1,hr.1.2⟩,?_⟩;have h3:leS q.2 r.2=true:=by unfold leS;rw [hm,Bool.true_or]
    exact F6 hq.2 h3
   ·rw [Hx hm];exact hq
theorem BU (rs:List Row):oF (mJ rs)=true:=by
 have h1:∀q∈stL (filR rs),rowB q=true:=fun q hq=>(List.mem_filter.1 ((ru _).1.mem_iff.1 hq)).2
 unfold mJ mrgL;have key:∀(l out:List Row),(∀q∈l,rowB q=true)→oF out=true→oF (l.foldl mrgS out)=true:=by
  intro l;induction l with
  | nil=>intro out _ h;exact h
  | cons r l ih=>intro out h1 h2;exact ih _ (fun q hq=>h1 q (Il _ hq)) (Fn h2 (h1 r (Ik ..)))
 exact key _ _ h1 rfl
def prC (l:List Str):Prop:=∀p∈l,lG p=true
theorem prC.sfx {r r1:List Str} (h:prC r) (hs:r1 <:+ r):prC r1:=fun p hp=>h p (hs.subset hp)
theorem wC:∀r:Str,nE (r.dropWhile kI)
 | []=>trivial
 | c::r=>by
  rw [List.dropWhile_cons];cases h:kI c with
  | true=>exact wC r
  | false=>exact h
theorem Ad:∀(n:Nat) (s:Str),s.length≤n→nE s→prC (kX s)
 | _,[],_,_=>fun p hp=>by cases hp
 | 0,_::_,h,_=>by simp at h
 | n+1,c::r,h,hh=>by
  rw [mQ];intro p hp;rcases Ii.1 hp with rfl|hp
  ·show (!kI c&&(r.takeWhile kI).all kI)=true
   rw [List.all_takeWhile,Ho];have:kI c=false:=hh
   rw [this];rfl
  ·have hl:(r.dropWhile kI).length≤r.length:=(List.dropWhile_sublist kI).length_le
   exact Ad n _ (by simp at h;omega) (wC r) p hp
theorem F2 {c t:Str} (h:mj c=some t) (hc:lG c=true):lG t=true:=by
 unfold mj at h;split at h
 ·cases h
 iterate 5 (split at h;· injection h with h;subst h;decide)
 split at h
 ·injection h with h;subst h;exact hc
 ·cases h
theorem Fc {k:Int} {c:Str} {ng:Bool} {rs:List Row} {lo hi:Int} {lz:Bool} (h:lf (.mk k c ng rs lo hi lz [])=true):(Rx.mk k c ng rs lo hi lz []).wf=true:=by
 simp only [Rx.wf,h,Rx.wfL,Ho]
theorem wf_chr {c:Str} (h:lG c=true):(chrR c).wf=true:=Fc jh
theorem Fu {rs:List Row} {ng:Bool} (h:oF rs=true):(setR rs ng).wf=true:=Fc jh
theorem wf_K {k:Int} (h:k=3∨k=8∨k=9∨k=10∨k=11):(rxK k).wf=true:=by
 rcases h with rfl|rfl|rfl|rfl|rfl<;>decide
theorem wf_grp {k:Int} {x:Rx} (hk:k=5∨k=6) (h:x.wf=true):(grpR k x).wf=true:=by
 rcases hk with rfl|rfl<;>simp [grpR,Rx.wf,Rx.wfL,lf,rU,h,Rx.chr,Rx.neg,Rx.rows,Rx.lo,Rx.hi,Rx.lazy]
theorem wf_rep {lo hi:Int} {lz:Bool} {x:Rx} (h:x.wf=true) (hk:repB x.kind=true) (hb:0≤lo∧lo≤255∧(hi=-1∨lo≤hi∧hi≤255)):(repR lo hi lz x).wf=true:=by
 simp [repR,Rx.wf,Rx.wfL,lf,rU,h,hk,hb,Rx.chr,Rx.neg,Rx.rows,Rx.lo,Rx.hi,Rx.lazy]
def Ga (d n:Nat) (x:Rx) (n1:Nat):Prop:=x.wf=true∧x.deep+d≤16∧2*x.parts+1+3*n1≤3*n
def Gd (d n:Nat) (x:Rx) (n1:Nat):Prop:=x.wf=true∧x.deep+d≤16∧2*x.parts+3*n1≤3*n+3
theorem Ga.leaf {d n n1:Nat} {k:Int} {c:Str} {ng:Bool} {rs:List Row} {lo hi:Int} {lz:Bool} (hw:(Rx.mk k c ng rs lo hi lz []).wf=true) (hk:k≠5∧k≠6) (hd:d≤16) (hl:n1<n):Ga d n (.mk k c ng rs lo hi lz []) n1:=by
 refine⟨hw,?_,?_⟩
 ·simp only [Rx.deep,Rx.deepL];rw [Hx gj];omega
 ·simp only [Rx.parts,Rx.partsL];omega
theorem EV {r r1:List Str} {lo hi:Int} (h:me r=some (lo,hi,r1)):0≤lo∧lo≤255∧(hi=-1∨lo≤hi∧hi≤255):=by
 unfold me at h;cases h1:numL 0 0 r with
 | none=>simp only [h1] at h;cases h
 | some y =>
  obtain⟨a,s1⟩:=y;have e1:=vm _ _ _ h1;simp only [h1] at h;cases h2:kN [125] s1 with
  | some s2=>simp only [h2] at h;injection h with h;injection h with ha h;injection h with hb _;omega
  | none =>
   simp only [h2] at h;cases h3:kN [44] s1 with
   | none=>simp only [h3] at h;cases h
   | some s2 =>
    simp only [h3] at h;cases h4:kN [125] s2 with
    | some s3=>simp only [h4] at h;injection h with h;injection h with ha h;injection h with hb _;omega
    | none =>
     simp only [h4] at h;cases h5:numL 0 0 s2 with
     | none=>exact cY
     | some y =>
      obtain⟨b,s3⟩:=y;have e3:=vm _ _ _ h5;simp only [h5] at h;split at h
      ·cases h6:kN [125] s3 with
       | none=>simp only [h6] at h;cases h
       | some s4=>simp only [h6] at h;injection h with h;injection h with ha h;injection h with hb _;omega
      ·cases h
theorem quant_gd {d n n1:Nat} {x y:Rx} {r r1:List Str} (h:lJ x r=.ok (y,r1)) (hx:Ga d n x r.length) (hk:repB x.kind=true) (hn:n1=r1.length):Ga d n y n1:=by
 subst hn;have key:∀{lo hi:Int} {r2:List Str},Except.ok (qo x lo hi r2)=(Except.ok (y,r1):Res)→r2.length<r.length→0≤lo∧lo≤255∧(hi=-1∨lo≤hi∧hi≤255)→Ga d n y r1.length:=by
  intro lo hi r2 h hs hb;injection h with h
  obtain⟨⟨lz,h1⟩,h2⟩:=wX h;have h3:=mq h2;subst h1;obtain⟨g1,g2,g3⟩:=hx;refine⟨wf_rep g1 hk hb,?_,?_⟩
  ·rw [Cw];exact g2
  ·unfold repR;simp only [Rx.parts,Rx.partsL];omega
 cases r with
 | nil=>simp only [lJ] at h;injection h with h;injection h with h1 h2;subst h1 h2;exact hx
 | cons c r =>
  simp only [lJ] at h;by_cases h1:c=[42]
  ·rw [Hu h1] at h;exact key h gz gv
  rw [Hx h1] at h;by_cases h2:c=[43]
  ·rw [Hu h2] at h;exact key h gz gv
  rw [Hx h2] at h;by_cases h3:c=[63]
  ·rw [Hu h3] at h;exact key h gz gv
  rw [Hx h3] at h;by_cases h4:c=[123]
  ·rw [Hu h4] at h
   cases hb:me r with
   | none=>simp only [hb] at h;cases h
   | some z =>
    obtain⟨lo,hi,r2⟩:=z;simp only [hb] at h;have:=mq (wL hb)
    exact key h gD (EV hb)
  ·rw [Hx h4] at h
   injection h with h;injection h with h5 h6;subst h5 h6;exact hx
theorem Dg {c:Str} {rows:List Row} (h:mS c=some rows):oF rows=true:=by
 unfold mS at h;split at h
 ·rename_i b
  by_cases hb:nI b=true
  ·rw [Hu hb] at h;injection h with h;subst h
   unfold nI at hb;simp only [H8,Hp] at hb;rcases hb with(rfl|rfl)|rfl<;>decide
  ·rw [Hx hb] at h;cases h
 ·cases h
theorem big_rows {c:Str} {rows:List Row} (h:bigS c=some rows):oF rows=true:=by
 unfold bigS at h;iterate 3 (split at h;· injection h with h;subst h;decide)
 cases h
theorem esc_gd {d:Nat} {r r1:List Str} {x:Rx} (h:escM r=.ok (x,r1)) (hp:prC r) (hd:d≤16) {n:Nat} (hn:r.length≤n):Ga d n x r1.length∧repB x.kind=true:=by
 cases r with
 | nil=>cases h
 | cons c r =>
  simp only [H7] at hn;have hc:=hp c (Ik ..);simp only [escM] at h;cases hn2:mS c with
  | some rows =>
   simp only [hn2] at h;injection h with h;injection h with h1 h2;subst h1 h2
   exact⟨Ga.leaf (Fu (Dg hn2)) gv hd gj,rfl⟩
  | none =>
   simp only [hn2] at h;cases hb:bigS c with
   | some rows =>
    simp only [hb] at h;injection h with h;injection h with h1 h2;subst h1 h2
    exact⟨Ga.leaf (Fu (big_rows hb)) gv hd gj,rfl⟩
   | none =>
    simp only [hb] at h;cases hpm:mj c with
    | none=>exact fO
    | some t =>
     simp only [hpm] at h;injection h with h;injection h with h1 h2;subst h1 h2
     exact⟨Ga.leaf (wf_chr (F2 hpm hc)) gv hd gj,rfl⟩
theorem class_gd {d:Nat} {r r1:List Str} {x:Rx} (h:mx r=.ok (x,r1)) (ho:okC r) (hd:d≤16) {n:Nat} (hn:r.length≤n):Ga d n x r1.length∧repB x.kind=true:=by
 have hsx:((kN [94] r).getD r) <:+ r:=by
  exact cR
 unfold mx at h;generalize (kN [94] r).isSome=ng at h
 generalize (kN [94] r).getD r=r0 at h hsx
 simp only at h
 cases hc:ly (r0.length+1) [] r0 with
 | none=>simp only [hc] at h;cases h
 | some y =>
  obtain⟨rows,r2⟩:=y;simp only [hc] at h;injection h with h;injection h with h1 h2;subst h1 h2
  obtain⟨g1,g2,g3,g4⟩:=oe _ _ _ hc (nf hsx ho) oH;have hl0:=mq hsx;exact⟨Ga.leaf (Fu (BU _)) gv hd gj,rfl⟩
def PatGd (pat:List Str→Nat→Res) (N:Nat):Prop:=∀(r:List Str) (d:Nat) (x:Rx) (r1:List Str),r.length≤N→d≤16→okC r→prC r→pat r d=.ok (x,r1)→Gd d r.length x r1.length
theorem group_gd {pat:List Str→Nat→Res} {N:Nat} (hp:PatGd pat N) {r r1:List Str} {d:Nat} {x:Rx} (h:mw pat r d=.ok (x,r1)) (ho:okC r) (hpr:prC r) (hN:r.length≤N) {n:Nat} (hn:r.length+1≤n):Ga d n x r1.length∧repB x.kind=true:=by
 unfold mw at h;by_cases hd:16≤d
 ·exact dZ
 rw [Hx hd] at h;cases hk:nc r with
 | none=>exact d9
 | some y =>
  obtain⟨k,r0⟩:=y;obtain⟨k1,k2⟩:=nN hk;simp only [hk] at h;cases hx:pat r0 (d+1) with
  | error e=>exact cm
  | ok y =>
   obtain⟨z,r2⟩:=y;simp only [hx] at h;have hl0:=mq k1;obtain⟨f1,f2,f3⟩:=hp r0 (d+1) z r2 gj gj (nf k1 ho) (hpr.sfx k1) hx;cases ht:kN [41] r2 with
   | none=>exact ea
   | some r3 =>
    simp only [ht] at h;injection h with h;injection h with h1 h2;subst h1 h2
    have e:=mi ht;rw [e,H7] at f3;refine⟨⟨wf_grp k2 f1,by rw [xK k2];omega,by unfold grpR;simp only [Rx.parts,Rx.partsL];omega⟩,?_⟩;rcases k2 with rfl|rfl<;>rfl
theorem atom_gd {pat:List Str→Nat→Res} {N:Nat} (hp:PatGd pat N) {r r1:List Str} {d:Nat} {x:Rx} (h:lS pat r d=.ok (x,r1)) (ho:okC r) (hpr:prC r) (hN:r.length≤N+1) (hd:d≤16):Ga d r.length x r1.length∧repB x.kind=true:=by
 cases r with
 | nil=>cases h
 | cons c r =>
  simp only [H7] at hN ⊢;have hpt:prC r:=fun p hp=>hpr p (Il _ hp)
  simp only [lS] at h;by_cases h1:c=[46]
  ·rw [Hu h1] at h;injection h with h;injection h with ha hb;subst ha hb;exact⟨Ga.leaf (wf_K (.inl rfl)) gv hd gj,rfl⟩
  rw [Hx h1] at h;by_cases h2:c=[40]
  ·rw [Hu h2] at h;exact group_gd hp h ho.tail hpt gj gj
  rw [Hx h2] at h;by_cases h3:c=[91]
  ·rw [Hu h3] at h;exact class_gd h ho.tail hd gj
  rw [Hx h3] at h;by_cases h4:c=[92]
  ·rw [Hu h4] at h;exact esc_gd h hpt hd gj
  rw [Hx h4] at h;by_cases h5:ql c=true
  ·exact eb
  ·rw [Hx h5] at h;injection h with h;injection h with ha hb;subst ha hb;exact⟨Ga.leaf (wf_chr (hpr c (Ik ..))) gv hd gj,rfl⟩
theorem edge_gd {r r1:List Str} {x:Rx} {d:Nat} (hd:d≤16) (h:mF r=some (x,r1)):Ga d r.length x r1.length:=by
 cases r with
 | nil=>cases h
 | cons c r =>
  simp only [mF] at h;by_cases h1:c=[94]
  ·rw [Hu h1] at h;injection h with h;injection h with ha hb;subst ha hb;exact Ga.leaf (wf_K gv) gv hd gz
  rw [Hx h1] at h;by_cases h2:c=[36]
  ·rw [Hu h2] at h;injection h with h;injection h with ha hb;subst ha hb;exact Ga.leaf (wf_K gv) gv hd gz
  rw [Hx h2] at h;by_cases h3:c=[92]
  ·rw [Hu h3] at h
   cases h4:kN [98] r with
   | some r2 =>
    have:=mq (md h4)
    simp only [h4] at h;injection h with h;injection h with ha hb;subst ha hb;exact Ga.leaf (wf_K gv) gv hd gD
   | none =>
    simp only [h4] at h;cases h5:kN [66] r with
    | some r2 =>
     have:=mq (md h5)
     simp only [h5] at h;injection h with h;injection h with ha hb;subst ha hb;exact Ga.leaf (wf_K gv) gv hd gD
    | none=>exact cY
  ·rw [Hx h3] at h;cases h
theorem term_gd {pat:List Str→Nat→Res} {N:Nat} (hp:PatGd pat N) {r r1:List Str} {d:Nat} {x:Rx} (h:lD pat r d=.ok (x,r1)) (ho:okC r) (hpr:prC r) (hN:r.length≤N+1) (hd:d≤16):Ga d r.length x r1.length:=by
 unfold lD at h;cases he:mF r with
 | some y=>simp only [he] at h;injection h with h;subst h;exact edge_gd hd he
 | none =>
  simp only [he] at h;cases ha:lS pat r d with
  | error e=>exact ec
  | ok y =>
   obtain⟨w,r2⟩:=y;simp only [ha] at h;obtain⟨g1,g2⟩:=atom_gd hp ha ho hpr hN hd;exact quant_gd h g1 g2 rfl
theorem wfL_app:∀(a b:List Rx),Rx.wfL (a++b)=(Rx.wfL a&&Rx.wfL b)
 | [],b=>by simp [Rx.wfL]
 | x::a,b=>by simp only [IA,Rx.wfL,wfL_app a b,Bool.and_assoc]
theorem seqR_gd {ts:List Rx} (h:InvT ts) (hw:Rx.wfL ts=true):(seqR ts).wf=true∧2*(seqR ts).parts≤2*Rx.partsL ts+ts.length+2:=by
 have hf:lR 0 ts=ts:=mn fun y hy=>(h y hy).1
 rcases ts with _|⟨x,_|⟨y,l⟩⟩
 ·exact⟨rfl,by decide⟩
 ·have e:seqR [x]=x:=by unfold seqR;rw [hf]
  exact ev
 ·have e:seqR (x::y::l)=nw (x::y::l):=by unfold seqR;rw [hf]
  rw [e];refine⟨?_,by unfold nw;simp only [Rx.parts,Rx.partsL,H7];omega⟩;unfold nw;simp only [Rx.wf,hw,Ho];have ha:((x::y::l).all fun x=>decide (x.kind≠0∧x.kind≠1))=true:=List.all_eq_true.2 fun z hz=>Iw (h z hz)
  simp [lf,rU,Rx.chr,Rx.neg,Rx.rows,Rx.lo,Rx.hi,Rx.lazy]
  simpa using ha
theorem altR_gd {al:List Rx} (h:InvA al) (hw:Rx.wfL al=true) (hne:al≠[]):(altR al).wf=true∧(altR al).parts≤Rx.partsL al+(if al.length=1 then 0 else 1):=by
 have hf:lR 1 al=al:=mn h;rcases al with _|⟨x,_|⟨y,l⟩⟩
 ·exact absurd rfl hne
 ·have e:altR [x]=x:=nX (h x (Ik ..))
  exact ev
 ·have e:altR (x::y::l)=sD (x::y::l):=by unfold altR;rw [hf]
  rw [e];refine⟨?_,by rw [Hx gz];unfold sD;simp only [Rx.parts,Rx.partsL];omega⟩;unfold sD;simp only [Rx.wf,hw,Ho];have ha:((x::y::l).all fun x=>decide (x.kind≠1))=true:=List.all_eq_true.2 fun z hz=>Iw (h z hz)
  simp [lf,rU,Rx.chr,Rx.neg,Rx.rows,Rx.lo,Rx.hi,Rx.lazy]
  simpa using ha
theorem BS {f:List Str→Res} {d R:Nat}:∀(k:Nat) (alts terms:List Rx) (r:List Str) {x:Rx} {r1:List Str},patL f k alts terms r=.ok (x,r1)→InvA alts→InvT terms→Rx.wfL alts=true→Rx.wfL terms=true→Rx.deepL alts+d≤16→Rx.deepL terms+d≤16 →
  2*Rx.partsL alts+2*Rx.partsL terms+terms.length+alts.length+3*r.length≤3*R →
  (∀r' y r2,r' <:+ r→f r'=.ok (y,r2)→r2 <:+ r'∧(y.kind≠0∧y.kind≠1)∧Ga d r'.length y r2.length)→Gd d R x r1.length
 | 0,_,_,_,_,_,h,_,_,_,_,_,_,_,_=>by cases h
 | k+1,alts,terms,r,x,r1,h,iA,iT,wA,wT,dA,dT,hm,ht=>by
  obtain⟨q1,q2⟩:=seqR_gd iT wT;have iA2:InvA (alts++[seqR terms]):=iA.app fun y hy=>by rw [IC] at hy;rw [hy];exact(mK iT).1
  have wA2:Rx.wfL (alts++[seqR terms])=true:=by rw [wfL_app,wA];simp only [Rx.wfL,q1];rfl
  have fin:Gd d R (altR (alts++[seqR terms])) r.length:=by
   obtain⟨p1,p2⟩:=altR_gd iA2 wA2 gz;refine⟨p1,by rw [qX];omega,?_⟩;rw [partsL_app] at p2;simp only [Rx.partsL,Ig,H7,IE] at p2;cases alts with
   | nil=>rw [Hu gz] at p2;simp only [Rx.partsL] at p2 hm;simp only [IE] at hm;omega
   | cons a l=>rw [Hx (by simp only [H7];omega)] at p2;simp only [H7] at hm;omega
  cases r with
  | nil =>
   exact eF
  | cons c r =>
   simp only [patL] at h;by_cases h1:c=[41]
   ·exact eG
   rw [Hx h1] at h;by_cases h2:c=[124]
   ·rw [Hu h2] at h
    refine BS k _ _ r h iA2 (fun y hy=>by cases hy) wA2 rfl jM iY ?_ (fun r' y r2 q=>ht r' y r2 (lV q));rw [partsL_app];simp only [Rx.partsL,Ig,H7,IE] at hm ⊢;omega
   rw [Hx h2] at h;cases hx:f (c::r) with
   | error e=>exact cm
   | ok y =>
    obtain⟨w,r2⟩:=y;simp only [hx] at h;obtain⟨s1,s2,s3,s4,s5⟩:=ht _ _ _ (IM _) hx;refine BS k _ _ r2 h iA (iT.app fun y hy=>by rw [IC] at hy;rw [hy];exact s2) wA (by rw [wfL_app,wT];simp only [Rx.wfL,s3];rfl) dA (by rw [deepL_app];simp only [Rx.deepL];omega) ?_ (fun r' y r3 q=>ht r' y r3 (q.trans s1));rw [partsL_app];simp only [Rx.partsL,Ig,H7,IE] at hm s5 ⊢;omega
theorem pat_gd:∀(n:Nat),n≤200000→PatGd (patF n) n
 | 0,_=>fun r d x r1 _ _ _ _ h=>by cases h
 | n+1,hn=>fun r d x r1 hl hd ho hp h=>by
  have ih:=pat_gd n gj;have h':patL (fun r=>lD (patF n) r d) (r.length+1) [] [] r=.ok (x,r1):=h;exact BS (f:=fun r=>lD (patF n) r d) _ [] [] r h' (fun y hy=>by cases hy) (fun y hy=>by cases hy) rfl rfl iY iY (by simp [Rx.partsL])
   (fun r' y r2 hs hx=>by
    have hl':=mq hs;obtain⟨t1,_⟩:=qi hx (nf hs ho) gj;exact⟨t1,vN hx,term_gd ih hx (nf hs ho) (hp.sfx hs) gj hd⟩)
theorem uN:∀(n:Nat) (s:Str),s.length≤n→(kX s).count [40]≤s.count 40
 | _,[],_=>by simp [kX,ns]
 | 0,_::_,h=>by simp at h
 | n+1,c::r,h=>by
  have hl:(r.dropWhile kI).length≤r.length:=(List.dropWhile_sublist kI).length_le;have ih:=uN n (r.dropWhile kI) (by simp at h;omega);have hs:(r.dropWhile kI).count 40≤r.count 40:=(List.dropWhile_sublist kI).count_le 40;rw [mQ,List.count_cons,List.count_cons];by_cases hc:c=40
  ·subst hc;simp only [beq_self_eq_true,if_true];split<;>omega
  ·have:¬((c::r.takeWhile kI)==[40])=true:=by
    intro e;rw [Hp] at e;injection e with e _;exact hc e
   rw [Hx this];omega
theorem Cf {s:Str} {x:Rx} (h:qy s=.ok x):mayB x=true∧x.groups≤s.count 40∧x.parts≤2*s.length+1:=by
 obtain⟨a1,a2,a3⟩:=readM_ok.1 h;have hl:=nR s;have ho:okC (kX s):=sb gj;obtain⟨f1,f2,f3,f4⟩:=qA _ _ _ _ _ gj a3 ho;obtain⟨g1,g2,g3⟩:=pat_gd _ gj (kX s) 0 x [] gj gj ho (Ad _ s (Ia _) a2) a3;have hc:=uN _ s (Ia _);simp only [IE,List.count_nil] at f2 f3 g3;refine⟨?_,by omega,by omega⟩;simp only [mayB,okB,Ie,Hs];exact⟨⟨g1,by omega⟩,by omega⟩
def rxZ:Rx→Bool|.mk k c ng rs lo hi lz ks=>decide (k=0)&&(c.isEmpty&&(!ng&&(rs.isEmpty&&(decide (lo=0)&&(decide (hi=0)&&(!lz&&ks.isEmpty))))))
def tfZ (f:Tf):Bool:=rxZ f.rx&&(f.fs.isEmpty&&(!f.fold&&!f.all))
def oY (f:Tf):Bool:=mayB f.rx&&tO f.fs
def nk (x:Sn):Bool:=!x.has&&(!x.turned&&(x.kids.isEmpty&&tfZ x.form))
def lv (x:Sn):Bool:=if x.has=true then(if x.turned=true then false else tfZ x.form) else if x.turned=true then x.kids.isEmpty&&oY x.form else nk x
def r7 (x:Sn):Bool:=decide (0≤x.n∧x.n≤9999)
def l6 (x:Sn):Bool :=
 if x.kind=0 then !x.text.isEmpty&&(decide (x.n=0)&&(x.opts.isEmpty&&nk x))
 else if x.kind=1 then x.text.isEmpty&&(r7 x&&(x.opts.isEmpty&&lv x))
 else if x.kind=2 then x.text.isEmpty&&(r7 x&&(!x.opts.isEmpty&&nk x))
 else if x.kind=3 then od x.text&&(decide (x.n=0)&&(x.opts.isEmpty&&lv x))
 else false
def adjS:Bool→List Sn→Bool
 | _,[]=>true
 | pt,x::r=>!(decide (x.kind=0)&&pt)&&adjS (decide (x.kind=0)) r
namespace Sn
mutual
def wf:Sn→Bool
 | mk k t n h u f o ks=>l6 (mk k t n h u f o ks)&&(!h||(adjS false ks&&wfL ks))
def wfL:List Sn→Bool
 | []=>true
 | x::r=>wf x&&wfL r
end
theorem wfL_app:∀a b:List Sn,wfL (a++b)=(wfL a&&wfL b)
 | [],b=>by simp [wfL]
 | x::a,b=>by simp only [IA,wfL,wfL_app a b,Bool.and_assoc]
end Sn
def oB (l:List Sn):Bool:=adjS false l&&Sn.wfL l&&decide (Sn.deepL l≤32)
theorem CE:∀(a:List Sn) (pt:Bool) (x:Sn) (b:List Sn),adjS pt a=true→x.kind≠0→adjS false b=true→adjS pt (a++x::b)=true
 | [],pt,x,b,_,hx,hb=>by simp [adjS,hx,hb]
 | y::a,pt,x,b,ha,hx,hb=>by
  simp only [adjS,Ie] at ha;simp only [IA,adjS,Ie];exact⟨ha.1,CE a _ x b ha.2 hx hb⟩
theorem rq (t:Str):adjS false (lw [] t)=true:=by
 unfold lw;split<;>simp [adjS]
theorem Ea:tfZ tf0=true:=rfl
theorem wf_text {t:Str} (h:t≠[]):(o7 t).wf=true:=by
 have:t.isEmpty=false:=by cases t with|nil=>exact absurd rfl h|cons a b=>rfl
 simp [o7,Sn.wf,l6,Sn.kind,Sn.text,Sn.n,Sn.opts,nk,Sn.has,Sn.turned,Sn.kids,Sn.form,Ea,this]
theorem sN (t:Str):Sn.wfL (lw [] t)=true:=by
 unfold lw;split
 ·rfl
 ·rename_i h;simp [Sn.wfL,wf_text h]
def tl (t:Str):Nat:=if t=[] then 0 else 1
theorem o6 (t:Str):Sn.partsL (lw [] t)=tl t:=by
 unfold lw tl;split<;>simp [Sn.partsL,o7,Sn.parts]
theorem mU (t:Str):Sn.deepL (lw [] t)=0:=by
 unfold lw;split<;>simp [Sn.deepL,o7,Sn.deep]
def Hd (x:Sn):Prop:=(∃n,n≤9999∧x=mT n)∨(∃t,od t=true∧x=varS t)
theorem nT {r:Str} {x:Sn} {s:Str} (h:ni r=some (x,s)):Hd x:=by
 unfold ni at h;split at h
 ·rename_i heq
  injection h with h;injection h with h _;exact .inl ⟨_,yb heq,h.symm⟩
 ·unfold sQ at h
  split at h
  ·rename_i hb
   injection h with h;injection h with h _;exact .inr ⟨_,hb,h.symm⟩
  ·cases h
theorem Hd.kind {x:Sn} (h:Hd x):x.kind≠0:=by
 rcases h with⟨n,_,rfl⟩|⟨t,_,rfl⟩
 ·exact(by decide:(1:Int)≠0)
 ·exact(by decide:(3:Int)≠0)
theorem Hd.wf {x:Sn} (h:Hd x):x.wf=true:=by
 rcases h with⟨n,hn,rfl⟩|⟨t,ht,rfl⟩
 ·simp only [mT,Sn.wf,l6,Sn.kind,Sn.text,Sn.n,Sn.opts,r7,lv,nk,Sn.has,Sn.turned,Sn.kids,Sn.form,Ea];simp;omega
 ·simp only [varS,Sn.wf,l6,Sn.kind,Sn.text,Sn.n,Sn.opts,ht,lv,nk,Sn.has,Sn.turned,Sn.kids,Sn.form,Ea];simp
theorem Hd.parts {x:Sn} (h:Hd x):x.parts=1:=by
 rcases h with⟨n,hn,rfl⟩|⟨t,ht,rfl⟩<;>rfl
theorem Hd.deep {x:Sn} (h:Hd x):x.deep=0:=by
 rcases h with⟨n,hn,rfl⟩|⟨t,ht,rfl⟩<;>rfl
theorem Hd.give {x:Sn} (h:Hd x) {ks:List Sn} (h1:adjS false ks=true) (h2:Sn.wfL ks=true):(x.give ks).wf=true∧(x.give ks).kind≠0∧(x.give ks).parts=1+Sn.partsL ks∧(x.give ks).deep=Sn.deepL ks+1:=by
 rcases h with⟨n,hn,rfl⟩|⟨t,ht,rfl⟩
 ·refine⟨?_,(by decide:(1:Int)≠0),rfl,rfl⟩
  simp only [mT,Sn.give,Sn.wf,l6,Sn.kind,Sn.text,Sn.n,Sn.opts,r7,lv,Sn.has,Sn.turned,Sn.form,Ea,h1,h2];simp;omega
 ·refine⟨?_,(by decide:(3:Int)≠0),rfl,rfl⟩
  simp only [varS,Sn.give,Sn.wf,l6,Sn.kind,Sn.text,Sn.n,Sn.opts,ht,lv,Sn.has,Sn.turned,Sn.form,Ea,h1,h2];simp
theorem Hd.turn {x:Sn} (h:Hd x) {f:Tf} (hf:oY f=true):(x.turn f).wf=true∧(x.turn f).kind≠0∧(x.turn f).parts=1∧(x.turn f).deep=0:=by
 rcases h with⟨n,hn,rfl⟩|⟨t,ht,rfl⟩
 ·refine⟨?_,(by decide:(1:Int)≠0),rfl,rfl⟩
  simp only [mT,Sn.turn,Sn.wf,l6,Sn.kind,Sn.text,Sn.n,Sn.opts,r7,lv,Sn.has,Sn.turned,Sn.form,Sn.kids,hf];simp;omega
 ·refine⟨?_,(by decide:(3:Int)≠0),rfl,rfl⟩
  simp only [varS,Sn.turn,Sn.wf,l6,Sn.kind,Sn.text,Sn.n,Sn.opts,ht,lv,Sn.has,Sn.turned,Sn.form,Sn.kids,hf];simp
theorem Hd.choose {x:Sn} (h:Hd x) (hk:x.kind=1) {o:List Str} (ho:o≠[]):(x.choose o).wf=true∧(x.choose o).kind≠0∧(x.choose o).parts=1∧(x.choose o).deep=0:=by
 rcases h with⟨n,hn,rfl⟩|⟨t,ht,rfl⟩
 ·refine⟨?_,(by decide:(2:Int)≠0),rfl,rfl⟩
  have:o.isEmpty=false:=by cases o with|nil=>exact absurd rfl ho|cons a b=>rfl
  simp only [mT,Sn.choose,Sn.wf,l6,Sn.kind,Sn.text,Sn.n,Sn.opts,r7,nk,Sn.has,Sn.turned,Sn.form,Sn.kids,Ea,this];simp;omega
 ·exact absurd hk (by decide:¬((3:Int)=1))
theorem rG {x:Rx} {fs:List Fm} {r:Str} {f:Tf} {s:Str} (h:sZ x fs r=some (f,s)):f.rx=x∧f.fs=fs:=by
 unfold sZ at h;split at h
 ·cases h
 ·split at h
  ·cases h
  ·injection h with h;injection h with h _;subst h;exact⟨rfl,rfl⟩
theorem zz {r:Str} {f:Tf} {s:Str} (h:nO r=some (f,s)):oY f=true:=by
 cases r with
 | nil=>cases h
 | cons c r =>
  simp only [nO] at h;split at h
  ·split at h
   ·cases h
   ·split at h
    ·cases h
    ·rename_i hx
     split at h
     ·cases h
     ·cases h
     ·rename_i heq2
      obtain⟨h1,h2⟩:=rG h;unfold oY;rw [h1,h2,(Cf hx).1,(EA heq2).1];rfl
  ·cases h
theorem Bh:∀(n:Nat) (r:Str) (o:List Str) (t:Str),r.length≤n→(optL r o t).1≠[]
 | _,[],o,t,_=>by simp [optL]
 | 0,_::_,_,_,h=>by simp at h
 | n+1,c::r,o,t,h=>by
  simp only [H7] at h;rw [mR];split
  ·simp
  ·split
   ·exact Bh n r _ _ gj
   ·have:=(oz fiveS c r).length_le
    exact Bh n _ _ _ gj
theorem wN {x:Sn} {r:Str} {y:Sn} {s:Str} (h:qM x r=some (y,s)):∃o,o≠[]∧y=x.choose o:=by
 unfold qM at h;split at h
 ·split at h
  ·injection h with h;injection h with h _;exact⟨_,Bh _ r [] [] (Ia _),h.symm⟩
  ·cases h
 ·cases h
def cnt (s:Str):Nat:=s.count 123
theorem sW {s r:Str} (h:s <:+ r):cnt s≤cnt r:=h.sublist.count_le _
theorem ue (c:UInt8) (r:Str):cnt r≤cnt (c::r):=sW (IL c r)
def GoodX (r:Str) (x:Sn) (s:Str):Prop:=x.wf=true∧x.kind≠0∧x.parts+s.length≤r.length∧x.deep+cnt s≤cnt r
def GoodL (t r:Str) (l:List Sn) (s:Str):Prop:=adjS false l=true∧Sn.wfL l=true∧Sn.partsL l+s.length≤tl t+r.length∧Sn.deepL l+cnt s≤cnt r
theorem Bu {ps:Str→List Sn × Str} {x y:Sn} {r s:Str} (hx:Hd x) (hps:∀t,t.length<r.length→(ps t).2 <:+ t∧GoodL [] t (ps t).1 (ps t).2) (h:lc ps x r=some (y,s)) :
  y.wf=true∧y.kind≠0∧y.parts+s.length≤r.length∧y.deep+cnt s≤cnt r+1:=by
 have hsf:=uX (fun t ht=>(hps t ht).1) h;have hc:=sW hsf;cases r with
 | nil=>cases h
 | cons c r =>
  have hcc:=ue c r;simp only [lc] at h;split at h
  ·injection h with h;injection h with h h';subst h;subst h'
   exact⟨hx.wf,hx.kind,by rw [hx.parts];simp;omega,by rw [hx.deep];omega⟩
  ·split at h
   ·obtain⟨h1,g1,g2,g3,g4⟩:=hps r gz
    split at h
    ·cases h
    ·rename_i d r2 heq
     rw [heq] at h1 g3 g4;injection h with h;injection h with h h';subst h;subst h'
     obtain⟨a,b,e,f⟩:=hx.give g1 g2;have:=ue d r2
     refine⟨a,b,?_,?_⟩
     ·rw [e];simp [tl] at g3 ⊢;omega
     ·rw [f];omega
   ·split at h
    ·rename_i hk
     obtain⟨o,ho,rfl⟩:=wN h;obtain⟨a,b,e,f⟩:=hx.choose hk.2 ho;have:=ut h
     exact⟨a,b,by rw [e];simp;omega,by rw [f];omega⟩
    ·split at h
     ·cases h
     ·rename_i f' r2 heq
      injection h with h;injection h with h h';subst h;subst h'
      obtain⟨a,b,e,f⟩:=hx.turn (zz heq);have:=vf heq
      exact⟨a,b,by rw [e];omega,by rw [f];omega⟩
theorem Er {r:Str} {x:Sn} {s:Str} (hps:∀t,t.length<r.length→GoodL [] t (kP true [] [] t).1 (kP true [] [] t).2) (h:lI r=some (x,s)):GoodX r x s:=by
 rw [oD] at h;cases r with
 | nil=>cases h
 | cons c r =>
  simp only [oq] at h;split at h
  ·rename_i hc
   split at h
   ·cases h
   ·rename_i y r2 heq
    have h1:=mI heq;have h2:=sW (sk heq);obtain⟨a,b,e,f⟩:=Bu (nT heq) (fun t ht=>⟨tm true [] [] t,hps t gD⟩) h;have hc1:c=123:=Ht.1 hc;refine⟨a,b,by simp;omega,?_⟩;subst hc1;have:cnt (123::r)=cnt r+1:=by unfold cnt;simp
    omega
  ·have h1:=mI h
   have h2:=sW (sk h);have hx:=nT h;exact⟨hx.wf,hx.kind,by rw [hx.parts];omega,by rw [hx.deep];omega⟩
theorem tl_le (t:Str):tl t≤1:=by unfold tl;split<;>omega
theorem re:∀(N:Nat),(∀r x s,r.length≤N→lI r=some (x,s)→GoodX r x s)∧(∀ins t r,r.length≤N→GoodL t r (kP ins [] t r).1 (kP ins [] t r).2)
 | 0=>by
  refine⟨fun r x s h hp=>?_,fun ins t r h=>?_⟩
  ·exact bO
  ·have:r=[]:=Hv gj
   subst this;rw [lW];exact⟨rq _,sN _,IN (by rw [o6]),IN j0⟩
 | N+1=>by
  obtain⟨ih1,ih2⟩:=re N;have k1:∀r x s,r.length≤N+1→lI r=some (x,s)→GoodX r x s:=fun r x s hr h=>Er (fun t ht=>ih2 true [] t gj) h
  refine⟨k1,fun ins t r hr=>?_⟩;cases r with
  | nil=>rw [lW];exact⟨rq _,sN _,IN (by rw [o6]),IN j0⟩
  | cons c r =>
   simp only [H7] at hr;rw [lF];split
   ·exact⟨rq _,sN _,IN (by rw [o6]),IN j0⟩
   ·split
    ·rename_i x r2 he
     have hx:lI r=some (x,r2):=by
      exact cO
     obtain⟨a,b,e,f⟩:=k1 r x r2 gj hx;have h1:=nA hx;have h2:=sW (tm ins [] [] r2);obtain⟨g1,g2,g3,g4⟩:=ih2 ins [] r2 gj;have hcc:=ue c r;have ht:=tl_le t;rw [m9 ins r2.length (lw [] t++[x]) [] r2 (Ia _)];refine⟨?_,?_,?_,?_⟩
     ·simp only [II,IA,Iz];exact CE _ _ _ _ (rq t) b g1
     ·simp only [Sn.wfL_app,Sn.wfL,sN,a,g2];rfl
     ·simp only [Sn.partsL_app,Sn.partsL,o6];simp [tl] at g3 ⊢;omega
     ·simp only [Sn.deepL_app,Sn.deepL,mU];omega
    ·have h1:=oz three c r
     have hl:=h1.length_le;have hn:=sW h1;have hcc:=ue c r;obtain⟨g1,g2,g3,g4⟩:=ih2 ins (t++[(nxtM three (c::r)).1]) (nxtM three (c::r)).2 gj;refine⟨g1,g2,?_,by omega⟩;have e1:tl (t++[(nxtM three (c::r)).1])=1:=by unfold tl;simp
     rw [e1] at g3;simp;omega
open Go.RowKit
structure SnAt (w:World) (S:Nat→Prop) (cc:List Value) (k:Int) (t:Str) (n:Int) (h u:Bool) (f:Tf) (os:List Str) (ks:List Sn) (fc:List Value) (oa:Option Addr) (oc:Nat) (ka:Option Addr) (kc:Nat):Prop where
 eq:cc=snc k t n h u fc oa os.length oc ka ks.length kc
 len:cc.length=18
 c0:cc[0]?=some (.int .i64 k)
 c1:cc[1]?=some (.string ⟨t.toArray⟩)
 c2:cc[2]?=some (.int .i64 n)
 c3:cc[3]?=some (.bool h)
 c4:cc[4]?=some (.bool u)
 c16:cc[16]?=some (.slice oa os.length oc)
 c17:cc[17]?=some (.slice ka ks.length kc)
 cf:∀(j:Nat) v,fc[j]?=some v→cc[5+j]?=some v
 fl:fc.length=11
 fv:TfV w S fc f
 ov:SlS w S oa 1 os.length (l8 os)
 kv:SnSl w S ka ks.length ks
theorem SnV.at_ {w:World} {S:Nat→Prop} {cc:List Value} {k:Int} {t:Str} {n:Int} {h u:Bool} {f:Tf} {os:List Str} {ks:List Sn} (hv:SnV w S cc (.mk k t n h u f os ks)):∃fc oa oc ka kc,SnAt w S cc k t n h u f os ks fc oa oc ka kc:=by
 have hl:=hv.len;obtain⟨fc,oa,oc,ka,kc,rfl,h0,h1,h2⟩:=hv.open_;have hf:=h0.len;refine⟨fc,oa,oc,ka,kc,rfl,hl,rfl,rfl,rfl,rfl,rfl,?_,?_,fun j v hj=>?_,hf,h0,h1,h2⟩
 ·unfold snc
  rw [Ih (by simp [hf])];simp [hf]
 ·unfold snc
  rw [Ih (by simp [hf])];simp [hf]
 ·have hj':=(Id.1 hj).1
  unfold snc;rw [Ij gD,Ih gz];simpa using hj
theorem SnAt.box {w w':World} {S:Nat→Prop} {cc:List Value} {k:Int} {t:Str} {n:Int} {h u:Bool} {f:Tf} {os:List Str} {ks:List Sn} {fc:List Value} {oa:Option Addr} {oc:Nat} {ka:Option Addr} {kc:Nat} (hA:SnAt w S cc k t n h u f os ks fc oa oc ka kc) {b:Nat} {ty:TypeId} {fr:Nat × Nat} (hb:w'.heap[b]?=some (.cells cc.toArray ty fr)) :
  w'.cell? ⟨b,0,none⟩=some (.int .i64 k)∧w'.cell? ⟨b,1,none⟩=some (.string ⟨t.toArray⟩)∧w'.cell? ⟨b,2,none⟩=some (.int .i64 n)∧w'.cell? ⟨b,3,none⟩=some (.bool h)∧w'.cell? ⟨b,4,none⟩=some (.bool u) ∧
  w'.cell? ⟨b,16,none⟩=some (.slice oa os.length oc)∧w'.cell? ⟨b,17,none⟩=some (.slice ka ks.length kc)∧w'.rangeAt b 5 fc:=by
 refine⟨?_,?_,?_,?_,?_,?_,?_,fun j v hj=>?_⟩
 ·rw [Ic hb];simpa using hA.c0
 ·rw [Ic hb];simpa using hA.c1
 ·rw [Ic hb];simpa using hA.c2
 ·rw [Ic hb];simpa using hA.c3
 ·rw [Ic hb];simpa using hA.c4
 ·rw [Ic hb];simpa using hA.c16
 ·rw [Ic hb];simpa using hA.c17
 ·rw [Ic hb];simpa using hA.cf j v hj
def Tf.small (f:Tf):Prop:=f.rx.small∧f.rx.parts≤1000000∧f.fs.length≤1000000
mutual
def Sn.small:Sn→Prop
 | .mk _ t _ _ _ f os ks=>f.small∧os.length≤1000000∧ks.length≤1000000∧t.length≤1000000∧Sn.smallL ks
def Sn.smallL:List Sn→Prop
 | []=>True
 | x::r=>x.small∧Sn.smallL r
end
theorem Sn.small_mem:∀{l:List Sn},Sn.smallL l→∀x∈l,x.small
 | [],_,x,h=>by cases h
 | y::r,hl,x,h=>by
  simp only [Sn.smallL] at hl;rcases Ii.1 h with rfl|h
  ·exact hl.1
  ·exact Sn.small_mem hl.2 x h
theorem Sn.smallL_app:∀{a b:List Sn},Sn.smallL (a++b)↔Sn.smallL a∧Sn.smallL b
 | [],b=>by simp [Sn.smallL]
 | x::a,b=>by simp only [IA,Sn.smallL,Sn.smallL_app (a:=a)];constructor<;>intro h<;>simp_all
theorem sn:tf0.small:=⟨by simp [tf0,rx0,Rx.small,Rx.small1,Rx.smallL],by decide,by decide⟩
end Go.Proofs.YtdcnncgpomcaaaaGreatDoor
