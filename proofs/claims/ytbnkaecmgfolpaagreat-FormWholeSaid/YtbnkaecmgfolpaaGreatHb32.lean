/- Snippets as trees: the plain functions on them; what is read of a text. -/
import Derived.Test.YtbnkaecmgfolpaaGreatHb0c
import Derived.Test.YtbnkaecmgfolpaaGreatHb25
import Derived.Test.YtbnkaecmgfolpaaGreatHb27
set_option maxRecDepth 100000
set_option maxHeartbeats 4000000
namespace Go.Proofs.YtbnkaecmgfolpaaGreat
namespace Sn
theorem lv:∀a b:List Sn,deepL (a++b)=max (deepL a) (deepL b)
 | [],b=>by simp [deepL]
 | x::a,b=>by simp only [Ay,deepL,lv a b];omega
end Sn
end Go.Proofs.YtbnkaecmgfolpaaGreat
namespace Go.Proofs.YtbnkaecmgfolpaaGreat
theorem term_sfx {n:Nat} {r r1:List Str} {d:Nat} {x:Rx} (h:lB (patF n) r d=.ok (x,r1)) (ho:okC r) (hl:r.length≤200000):r1 <:+ r∧r1.length<r.length:=by
 obtain⟨f,g⟩:=oL (nd n) h ho fg (zP _);exact⟨f.2.2.2,g⟩
def InvA (l:List Rx):Prop:=∀y∈l,y.kind≠1
def InvT (l:List Rx):Prop:=∀y∈l,y.kind≠0∧y.kind≠1
theorem InvA.app {a b:List Rx} (h1:InvA a) (h2:InvA b):InvA (a++b):=fun y hy=>(Aq.1 hy).elim (h1 y) (h2 y)
theorem InvT.app {a b:List Rx} (h1:InvT a) (h2:InvT b):InvT (a++b):=fun y hy=>(Aq.1 hy).elim (h1 y) (h2 y)
theorem nr {kd:Int}:∀{l:List Rx},(∀y∈l,y.kind≠kd)→jT kd l=l
 | [],_=>rfl
 | x::l,h=>by
  rw [no,zO (h x (Ao ..)),nr (fun y hy=>h y (Ap _ hy))];rfl
theorem xI {l:List Rx} (h:InvT l):(seqR l).kind≠1∧jT 0 [seqR l]=l:=by
 have hf:jT 0 l=l:=nr fun y hy=>(h y hy).1
 rcases l with _|⟨x,_|⟨y,l⟩⟩
 ·exact⟨by decide,rfl⟩
 ·have e:seqR [x]=x:=by unfold seqR;rw [hf]
  have hx:=h x (Ao ..);rw [e];exact⟨hx.2,nr fun y hy=>by rw [AA] at hy;rw [hy];exact hx.1⟩
 ·have e:seqR (x::y::l)=mE (x::y::l):=by unfold seqR;rw [hf]
  rw [e];exact⟨by show (0:Int)≠1;decide,by rw [no];simp [mE,Rx.kind,Rx.kids,jT]⟩
theorem ye {x:Rx} (h:x.kind≠1):altR [x]=x:=by
 unfold altR;rw [nr (fun y hy=>by rw [AA] at hy;rw [hy];exact h)]
theorem wN {x y:Rx} {r r1:List Str} (h:kj x r=.ok (y,r1)) (hx:x.kind≠0∧x.kind≠1):y.kind≠0∧y.kind≠1:=by
 rcases pW h with⟨rfl,_⟩|⟨⟨lo,hi,lz,rfl⟩,_⟩
 ·exact hx
 ·exact⟨by show (7:Int)≠0;decide,by show (7:Int)≠1;decide⟩
theorem xV {pat:List Str→Nat→Res} {r r1:List Str} {d:Nat} {x:Rx} (h:lh pat r d=.ok (x,r1)):x.kind≠0∧x.kind≠1:=by
 have lit:∀k:Int,k≠0→k≠1→∀y:Rx,y.kind=k→y.kind≠0∧y.kind≠1:=fun k h0 h1 y hy=>by rw [hy];exact⟨h0,h1⟩
 cases r with
 | nil=>cases h
 | cons c r =>
  simp only [lh] at h;by_cases h1:c=[46]
  ·rw [zL h1] at h;injection h with h;injection h with ha _;subst ha;exact lit 3 fo fo _ rfl
  rw [zO h1] at h;by_cases h2:c=[40]
  ·rw [zL h2] at h
   unfold lO at h;by_cases hd:16≤d
   ·rw [zL hd] at h;cases h
   rw [zO hd] at h;cases hk:nH r with
   | none=>simp only [hk] at h;cases h
   | some y =>
    obtain⟨k,r0⟩:=y;have hk2:=(oO hk).2;simp only [hk] at h;cases hx:pat r0 (d+1) with
    | error e=>simp only [hx] at h;cases h
    | ok y =>
     simp only [hx] at h;cases ht:jk [41] y.2 with
     | none=>simp only [ht] at h;cases h
     | some r3 =>
      simp only [ht] at h;injection h with h;injection h with ha _;subst ha
      rcases hk2 with rfl|rfl
      ·exact lit 5 fo fo _ rfl
      ·exact lit 6 fo fo _ rfl
  rw [zO h2] at h;by_cases h3:c=[91]
  ·rw [zL h3] at h
   unfold kP at h;simp only at h
   generalize jO _ _ _=q at h
   cases q with
   | none=>simp only at h;cases h
   | some y=>simp only at h;injection h with h;injection h with ha _;subst ha;exact lit 4 fo fo _ rfl
  rw [zO h3] at h;by_cases h4:c=[92]
  ·rw [zL h4] at h
   cases r with
   | nil=>cases h
   | cons c2 r2 =>
    simp only [escM] at h;cases hn:kU c2 with
    | some rows=>simp only [hn] at h;injection h with h;injection h with ha _;subst ha;exact lit 4 fo fo _ rfl
    | none =>
     simp only [hn] at h;cases hb:bigS c2 with
     | some rows=>simp only [hb] at h;injection h with h;injection h with ha _;subst ha;exact lit 4 fo fo _ rfl
     | none =>
      simp only [hb] at h;cases hpm:kg c2 with
      | none=>exact dR
      | some t=>simp only [hpm] at h;injection h with h;injection h with ha _;subst ha;exact lit 2 fo fo _ rfl
  rw [zO h4] at h;by_cases h5:rG c=true
  ·rw [zL h5] at h;cases h
  ·rw [zO h5] at h;injection h with h;injection h with ha _;subst ha;exact lit 2 fo fo _ rfl
theorem xQ {pat:List Str→Nat→Res} {r r1:List Str} {d:Nat} {x:Rx} (h:lB pat r d=.ok (x,r1)):x.kind≠0∧x.kind≠1:=by
 unfold lB at h;cases he:oi r with
 | some y =>
  simp only [he] at h;injection h with h;subst h
  cases r with
  | nil=>cases he
  | cons c r =>
   simp only [oi] at he;by_cases h1:c=[94]
   ·rw [zL h1] at he;injection he with he;injection he with ha _;subst ha;exact⟨by decide,by decide⟩
   rw [zO h1] at he;by_cases h2:c=[36]
   ·rw [zL h2] at he;injection he with he;injection he with ha _;subst ha;exact⟨by decide,by decide⟩
   rw [zO h2] at he;by_cases h3:c=[92]
   ·rw [zL h3] at he
    cases h4:jk [98] r with
    | some r2=>simp only [h4] at he;injection he with he;injection he with ha _;subst ha;exact⟨by decide,by decide⟩
    | none =>
     simp only [h4] at he;cases h5:jk [66] r with
     | some r2=>simp only [h5] at he;injection he with he;injection he with ha _;subst ha;exact⟨by decide,by decide⟩
     | none=>simp only [h5] at he;cases he
   ·rw [zO h3] at he;cases he
 | none =>
  simp only [he] at h;cases ha:lh pat r d with
  | error e=>simp only [ha] at h;cases h
  | ok y =>
   simp only [ha] at h;exact wN h (xV ha)
end Go.Proofs.YtbnkaecmgfolpaaGreat
set_option maxRecDepth 100000
namespace Go.Proofs.YtbnkaecmgfolpaaGreat
theorem lv:∀(a b:List Rx),Rx.deepL (a++b)=max (Rx.deepL a) (Rx.deepL b)
 | [],b=>by simp [Rx.deepL]
 | x::a,b=>by simp only [Ay,Rx.deepL,lv a b];omega
theorem zj {x:Rx} (h:x.kind=0∨x.kind=1):Rx.deepL x.kids=x.deep:=by
 obtain⟨k,c,ng,rs,lo,hi,lz,ks⟩:=x;simp only [Rx.kind] at h;simp only [Rx.kids,Rx.deep];rw [zO fg];omega
theorem qt {kd:Int} (hk:kd=0∨kd=1):∀xs:List Rx,Rx.deepL (jT kd xs)=Rx.deepL xs
 | []=>rfl
 | x::xs=>by
  rw [no,lv,qt hk xs];simp only [Rx.deepL];by_cases h:x.kind=kd
  ·rw [zL h,zj (by rw [h];exact hk)]
  ·rw [zO h];simp only [Rx.deepL];omega
theorem s7 (xs:List Rx):(seqR xs).deep=Rx.deepL xs:=by
 have h:=qt (kd:=0) (.inl rfl) xs;unfold seqR;split
 ·rename_i y hy;rw [hy] at h;simp only [Rx.deepL] at h;omega
 ·rename_i l _;unfold mE;simp only [Rx.deep];rw [zO fo,h];rfl
theorem yt (xs:List Rx):(altR xs).deep=Rx.deepL xs:=by
 have h:=qt (kd:=1) (.inr rfl) xs;unfold altR;split
 ·rename_i hy;rw [hy] at h;exact h
 ·rename_i y hy;rw [hy] at h;simp only [Rx.deepL] at h;omega
 ·unfold pZ;simp only [Rx.deep];rw [zO fo,h];rfl
theorem end_deep (alts terms:List Rx):(altR (alts++[seqR terms])).deep=max (Rx.deepL alts) (Rx.deepL terms):=by
 rw [yt,lv];simp only [Rx.deepL,s7];omega
theorem rep_deep (lo hi:Int) (lz:Bool) (x:Rx):(repR lo hi lz x).deep=x.deep:=by
 unfold repR;simp only [Rx.deep,Rx.deepL];rw [zO fo];omega
theorem grp_deep {k:Int} (hk:k=5∨k=6) (x:Rx):(grpR k x).deep=x.deep+1:=by
 unfold grpR;simp only [Rx.deep,Rx.deepL];rw [zL hk];omega
theorem x8 {a b c:Str} (h1:leS a b=true) (h2:leS b c=true):leS a c=true:=by
 unfold leS at *;rw [Ai,zI] at *;rcases h1 with h1|rfl
 ·rcases h2 with h2|rfl
  ·exact .inl (lR h1 h2)
  ·exact .inl h1
 ·exact h2
theorem x9 {out:List Row} {r:Row} (h:mI out=true) (hr:rowB r=true):mI (mrgS out r)=true:=by
 have app:∀(l:List Row) (p:Option Str) (x:Row),mc p (l++[x])=(mc p l&&mc (match l.getLast? with|none=>p|some q=>some q.2) [x]):=by
  intro l;induction l with
  | nil=>intro p x;simp [mc]
  | cons y l ih =>
   intro p x;rw [Ay];show (rowB y&&_&&mc (some y.2) (l++[x]))=(rowB y&&_&&mc (some y.2) l&&_)
   rw [ih];cases l with
   | nil=>simp [mc,Bool.and_assoc]
   | cons z l =>
    rw [List.getLast?_cons_cons];obtain⟨q,hq⟩:∃q,(z::l).getLast?=some q:=by
     rcases List.eq_nil_or_concat (z::l) with h|⟨B,q,h⟩
     ·cases h
     ·rw [h,List.concat_eq_append,List.getLast?_concat];exact⟨_,rfl⟩
    simp only [hq,Bool.and_assoc]
 rcases List.eq_nil_or_concat out with rfl|⟨B,q,rfl⟩
 ·rw [sK];simp [mI,mc,hr]
 ·rw [List.concat_eq_append] at h ⊢
  have h':=h;unfold mI at h';rw [app] at h';have h1:=(Bool.and_eq_true_iff.1 h').1;have h2:=(Bool.and_eq_true_iff.1 h').2;cases hl:leS r.1 q.2 with
  | false =>
   rw [ux hl];unfold mI at h ⊢;rw [app,h,List.getLast?_concat];simp [mc,hr,hl]
  | true =>
   rw [uI hl];unfold mI;rw [app,h1,Ag];generalize (match B.getLast? with|none=>(none:Option Str)|some q=>some q.2)=p at h2 ⊢
   simp only [mc,zH,Am] at h2 ⊢;refine⟨?_,h2.2⟩;have hq:=h2.1;unfold rowB at hq hr ⊢;simp only [Am] at hq hr ⊢;unfold mxS;by_cases hm:Op.bytesLess q.2 r.2=true
   ·rw [zL hm]
    refine⟨⟨hq.1.1,hr.1.2⟩,?_⟩;have h3:leS q.2 r.2=true:=by unfold leS;rw [hm,Bool.true_or]
    exact x8 hq.2 h3
   ·rw [zO hm];exact hq
theorem uk (rs:List Row):mI (kG rs)=true:=by
 have h1:∀q∈stL (filR rs),rowB q=true:=fun q hq=>(List.mem_filter.1 ((rq _).1.mem_iff.1 hq)).2
 unfold kG mrgL;have key:∀(l out:List Row),(∀q∈l,rowB q=true)→mI out=true→mI (l.foldl mrgS out)=true:=by
  intro l;induction l with
  | nil=>intro out _ h;exact h
  | cons r l ih=>intro out h1 h2;exact ih _ (fun q hq=>h1 q (Ap _ hq)) (x9 h2 (h1 r (Ao ..)))
 exact key _ _ h1 rfl
def prC (l:List Str):Prop:=∀p∈l,jS p=true
theorem prC.sfx {r r1:List Str} (h:prC r) (hs:r1 <:+ r):prC r1:=fun p hp=>h p (hs.subset hp)
theorem rg:∀r:Str,headP (r.dropWhile iU)
 | []=>trivial
 | c::r=>by
  rw [List.dropWhile_cons];cases h:iU c with
  | true=>exact rg r
  | false=>exact h
theorem tT:∀(n:Nat) (s:Str),s.length≤n→headP s→prC (iP s)
 | _,[],_,_=>fun p hp=>by cases hp
 | 0,_::_,h,_=>by simp at h
 | n+1,c::r,h,hh=>by
  rw [nb];intro p hp;rcases An.1 hp with rfl|hp
  ·show (!iU c&&(r.takeWhile iU).all iU)=true
   rw [List.all_takeWhile,zH];have:iU c=false:=hh
   rw [this];rfl
  ·have hl:(r.dropWhile iU).length≤r.length:=(List.dropWhile_sublist iU).length_le
   exact tT n _ (by simp at h;omega) (rg r) p hp
theorem xY {c t:Str} (h:kg c=some t) (hc:jS c=true):jS t=true:=by
 unfold kg at h;split at h
 ·cases h
 iterate 5 (split at h;· injection h with h;subst h;decide)
 split at h
 ·injection h with h;subst h;exact hc
 ·cases h
theorem xR {k:Int} {c:Str} {ng:Bool} {rs:List Row} {lo hi:Int} {lz:Bool} (h:jn (.mk k c ng rs lo hi lz [])=true):(Rx.mk k c ng rs lo hi lz []).wf=true:=by
 simp only [Rx.wf,h,Rx.wfL,zH]
theorem wf_chr {c:Str} (h:jS c=true):(chrR c).wf=true:=xR gL
theorem zD {rs:List Row} {ng:Bool} (h:mI rs=true):(setR rs ng).wf=true:=xR gL
theorem wf_K {k:Int} (h:k=3∨k=8∨k=9∨k=10∨k=11):(rxK k).wf=true:=by
 rcases h with rfl|rfl|rfl|rfl|rfl<;>decide
theorem wf_grp {k:Int} {x:Rx} (hk:k=5∨k=6) (h:x.wf=true):(grpR k x).wf=true:=by
 rcases hk with rfl|rfl<;>simp [grpR,Rx.wf,Rx.wfL,jn,nK,h,Rx.chr,Rx.neg,Rx.rows,Rx.lo,Rx.hi,Rx.lazy]
theorem wf_rep {lo hi:Int} {lz:Bool} {x:Rx} (h:x.wf=true) (hk:repB x.kind=true) (hb:0≤lo∧lo≤255∧(hi=-1∨lo≤hi∧hi≤255)):(repR lo hi lz x).wf=true:=by
 simp [repR,Rx.wf,Rx.wfL,jn,nK,h,hk,hb,Rx.chr,Rx.neg,Rx.rows,Rx.lo,Rx.hi,Rx.lazy]
def Ga (d n:Nat) (x:Rx) (n1:Nat):Prop:=x.wf=true∧x.deep+d≤16∧2*x.parts+1+3*n1≤3*n
def Gd (d n:Nat) (x:Rx) (n1:Nat):Prop:=x.wf=true∧x.deep+d≤16∧2*x.parts+3*n1≤3*n+3
theorem Ga.leaf {d n n1:Nat} {k:Int} {c:Str} {ng:Bool} {rs:List Row} {lo hi:Int} {lz:Bool} (hw:(Rx.mk k c ng rs lo hi lz []).wf=true) (hk:k≠5∧k≠6) (hd:d≤16) (hl:n1<n):Ga d n (.mk k c ng rs lo hi lz []) n1:=by
 refine⟨hw,?_,?_⟩
 ·simp only [Rx.deep,Rx.deepL];rw [zO fg];omega
 ·simp only [Rx.parts,Rx.partsL];omega
theorem yR {r r1:List Str} {lo hi:Int} (h:kY r=some (lo,hi,r1)):0≤lo∧lo≤255∧(hi=-1∨lo≤hi∧hi≤255):=by
 unfold kY at h;cases h1:numL 0 0 r with
 | none=>simp only [h1] at h;cases h
 | some y =>
  obtain⟨a,s1⟩:=y;have e1:=pQ _ _ _ h1;simp only [h1] at h;cases h2:jk [125] s1 with
  | some s2=>simp only [h2] at h;injection h with h;injection h with ha h;injection h with hb _;omega
  | none =>
   simp only [h2] at h;cases h3:jk [44] s1 with
   | none=>simp only [h3] at h;cases h
   | some s2 =>
    simp only [h3] at h;cases h4:jk [125] s2 with
    | some s3=>simp only [h4] at h;injection h with h;injection h with ha h;injection h with hb _;omega
    | none =>
     simp only [h4] at h;cases h5:numL 0 0 s2 with
     | none=>simp only [h5] at h;cases h
     | some y =>
      obtain⟨b,s3⟩:=y;have e3:=pQ _ _ _ h5;simp only [h5] at h;split at h
      ·cases h6:jk [125] s3 with
       | none=>simp only [h6] at h;cases h
       | some s4=>simp only [h6] at h;injection h with h;injection h with ha h;injection h with hb _;omega
      ·cases h
theorem quant_gd {d n n1:Nat} {x y:Rx} {r r1:List Str} (h:kj x r=.ok (y,r1)) (hx:Ga d n x r.length) (hk:repB x.kind=true) (hn:n1=r1.length):Ga d n y n1:=by
 subst hn;have key:∀{lo hi:Int} {r2:List Str},Except.ok (oU x lo hi r2)=(Except.ok (y,r1):Res)→r2.length<r.length→0≤lo∧lo≤255∧(hi=-1∨lo≤hi∧hi≤255)→Ga d n y r1.length:=by
  intro lo hi r2 h hs hb;injection h with h
  obtain⟨⟨lz,h1⟩,h2⟩:=ry h;have h3:=ku h2;subst h1;obtain⟨g1,g2,g3⟩:=hx;refine⟨wf_rep g1 hk hb,?_,?_⟩
  ·rw [rep_deep];exact g2
  ·unfold repR;simp only [Rx.parts,Rx.partsL];omega
 cases r with
 | nil=>simp only [kj] at h;injection h with h;injection h with h1 h2;subst h1 h2;exact hx
 | cons c r =>
  simp only [kj] at h;by_cases h1:c=[42]
  ·rw [zL h1] at h;exact key h fq fo
  rw [zO h1] at h;by_cases h2:c=[43]
  ·rw [zL h2] at h;exact key h fq fo
  rw [zO h2] at h;by_cases h3:c=[63]
  ·rw [zL h3] at h;exact key h fq fo
  rw [zO h3] at h;by_cases h4:c=[123]
  ·rw [zL h4] at h
   cases hb:kY r with
   | none=>simp only [hb] at h;cases h
   | some z =>
    obtain⟨lo,hi,r2⟩:=z;simp only [hb] at h;have:=ku (rD hb)
    exact key h fr (yR hb)
  ·rw [zO h4] at h
   injection h with h;injection h with h5 h6;subst h5 h6;exact hx
theorem wS {c:Str} {rows:List Row} (h:kU c=some rows):mI rows=true:=by
 unfold kU at h;split at h
 ·rename_i b
  by_cases hb:lf b=true
  ·rw [zL hb] at h;injection h with h;subst h
   unfold lf at hb;simp only [Ai,zI] at hb;rcases hb with(rfl|rfl)|rfl<;>decide
  ·rw [zO hb] at h;cases h
 ·cases h
theorem big_rows {c:Str} {rows:List Row} (h:bigS c=some rows):mI rows=true:=by
 unfold bigS at h;iterate 3 (split at h;· injection h with h;subst h;decide)
 cases h
theorem esc_gd {d:Nat} {r r1:List Str} {x:Rx} (h:escM r=.ok (x,r1)) (hp:prC r) (hd:d≤16) {n:Nat} (hn:r.length≤n):Ga d n x r1.length∧repB x.kind=true:=by
 cases r with
 | nil=>cases h
 | cons c r =>
  simp only [zW] at hn;have hc:=hp c (Ao ..);simp only [escM] at h;cases hn2:kU c with
  | some rows =>
   simp only [hn2] at h;injection h with h;injection h with h1 h2;subst h1 h2
   exact⟨Ga.leaf (zD (wS hn2)) fo hd fg,rfl⟩
  | none =>
   simp only [hn2] at h;cases hb:bigS c with
   | some rows =>
    simp only [hb] at h;injection h with h;injection h with h1 h2;subst h1 h2
    exact⟨Ga.leaf (zD (big_rows hb)) fo hd fg,rfl⟩
   | none =>
    simp only [hb] at h;cases hpm:kg c with
    | none=>exact dR
    | some t =>
     simp only [hpm] at h;injection h with h;injection h with h1 h2;subst h1 h2
     exact⟨Ga.leaf (wf_chr (xY hpm hc)) fo hd fg,rfl⟩
theorem class_gd {d:Nat} {r r1:List Str} {x:Rx} (h:kP r=.ok (x,r1)) (ho:okC r) (hd:d≤16) {n:Nat} (hn:r.length≤n):Ga d n x r1.length∧repB x.kind=true:=by
 have hsx:((jk [94] r).getD r) <:+ r:=by
  exact dN
 unfold kP at h;generalize (jk [94] r).isSome=ng at h
 generalize (jk [94] r).getD r=r0 at h hsx
 simp only at h
 cases hc:jO (r0.length+1) [] r0 with
 | none=>simp only [hc] at h;cases h
 | some y =>
  obtain⟨rows,r2⟩:=y;simp only [hc] at h;injection h with h;injection h with h1 h2;subst h1 h2
  obtain⟨g1,g2,g3,g4⟩:=kT _ _ _ hc (o8 hsx ho) lp;have hl0:=ku hsx;exact⟨Ga.leaf (zD (uk _)) fo hd fg,rfl⟩
def PatGd (pat:List Str→Nat→Res) (N:Nat):Prop:=∀(r:List Str) (d:Nat) (x:Rx) (r1:List Str),r.length≤N→d≤16→okC r→prC r→pat r d=.ok (x,r1)→Gd d r.length x r1.length
theorem group_gd {pat:List Str→Nat→Res} {N:Nat} (hp:PatGd pat N) {r r1:List Str} {d:Nat} {x:Rx} (h:lO pat r d=.ok (x,r1)) (ho:okC r) (hpr:prC r) (hN:r.length≤N) {n:Nat} (hn:r.length+1≤n):Ga d n x r1.length∧repB x.kind=true:=by
 unfold lO at h;by_cases hd:16≤d
 ·rw [zL hd] at h;cases h
 rw [zO hd] at h;cases hk:nH r with
 | none=>simp only [hk] at h;cases h
 | some y =>
  obtain⟨k,r0⟩:=y;obtain⟨k1,k2⟩:=oO hk;simp only [hk] at h;cases hx:pat r0 (d+1) with
  | error e=>simp only [hx] at h;cases h
  | ok y =>
   obtain⟨z,r2⟩:=y;simp only [hx] at h;have hl0:=ku k1;obtain⟨f1,f2,f3⟩:=hp r0 (d+1) z r2 fg fg (o8 k1 ho) (hpr.sfx k1) hx;cases ht:jk [41] r2 with
   | none=>simp only [ht] at h;cases h
   | some r3 =>
    simp only [ht] at h;injection h with h;injection h with h1 h2;subst h1 h2
    have e:=j8 ht;rw [e,zW] at f3;refine⟨⟨wf_grp k2 f1,by rw [grp_deep k2];omega,by unfold grpR;simp only [Rx.parts,Rx.partsL];omega⟩,?_⟩;rcases k2 with rfl|rfl<;>rfl
theorem atom_gd {pat:List Str→Nat→Res} {N:Nat} (hp:PatGd pat N) {r r1:List Str} {d:Nat} {x:Rx} (h:lh pat r d=.ok (x,r1)) (ho:okC r) (hpr:prC r) (hN:r.length≤N+1) (hd:d≤16):Ga d r.length x r1.length∧repB x.kind=true:=by
 cases r with
 | nil=>cases h
 | cons c r =>
  simp only [zW] at hN ⊢;have hpt:prC r:=fun p hp=>hpr p (Ap _ hp)
  simp only [lh] at h;by_cases h1:c=[46]
  ·rw [zL h1] at h;injection h with h;injection h with ha hb;subst ha hb;exact⟨Ga.leaf (wf_K (.inl rfl)) fo hd fg,rfl⟩
  rw [zO h1] at h;by_cases h2:c=[40]
  ·rw [zL h2] at h;exact group_gd hp h ho.tail hpt fg fg
  rw [zO h2] at h;by_cases h3:c=[91]
  ·rw [zL h3] at h;exact class_gd h ho.tail hd fg
  rw [zO h3] at h;by_cases h4:c=[92]
  ·rw [zL h4] at h;exact esc_gd h hpt hd fg
  rw [zO h4] at h;by_cases h5:rG c=true
  ·rw [zL h5] at h;cases h
  ·rw [zO h5] at h;injection h with h;injection h with ha hb;subst ha hb;exact⟨Ga.leaf (wf_chr (hpr c (Ao ..))) fo hd fg,rfl⟩
theorem edge_gd {r r1:List Str} {x:Rx} {d:Nat} (hd:d≤16) (h:oi r=some (x,r1)):Ga d r.length x r1.length:=by
 cases r with
 | nil=>cases h
 | cons c r =>
  simp only [oi] at h;by_cases h1:c=[94]
  ·rw [zL h1] at h;injection h with h;injection h with ha hb;subst ha hb;exact Ga.leaf (wf_K fo) fo hd fq
  rw [zO h1] at h;by_cases h2:c=[36]
  ·rw [zL h2] at h;injection h with h;injection h with ha hb;subst ha hb;exact Ga.leaf (wf_K fo) fo hd fq
  rw [zO h2] at h;by_cases h3:c=[92]
  ·rw [zL h3] at h
   cases h4:jk [98] r with
   | some r2 =>
    have:=ku (jM h4)
    simp only [h4] at h;injection h with h;injection h with ha hb;subst ha hb;exact Ga.leaf (wf_K fo) fo hd fr
   | none =>
    simp only [h4] at h;cases h5:jk [66] r with
    | some r2 =>
     have:=ku (jM h5)
     simp only [h5] at h;injection h with h;injection h with ha hb;subst ha hb;exact Ga.leaf (wf_K fo) fo hd fr
    | none=>simp only [h5] at h;cases h
  ·rw [zO h3] at h;cases h
theorem term_gd {pat:List Str→Nat→Res} {N:Nat} (hp:PatGd pat N) {r r1:List Str} {d:Nat} {x:Rx} (h:lB pat r d=.ok (x,r1)) (ho:okC r) (hpr:prC r) (hN:r.length≤N+1) (hd:d≤16):Ga d r.length x r1.length:=by
 unfold lB at h;cases he:oi r with
 | some y=>simp only [he] at h;injection h with h;subst h;exact edge_gd hd he
 | none =>
  simp only [he] at h;cases ha:lh pat r d with
  | error e=>simp only [ha] at h;cases h
  | ok y =>
   obtain⟨w,r2⟩:=y;simp only [ha] at h;obtain⟨g1,g2⟩:=atom_gd hp ha ho hpr hN hd;exact quant_gd h g1 g2 rfl
theorem pO:∀(a b:List Rx),Rx.wfL (a++b)=(Rx.wfL a&&Rx.wfL b)
 | [],b=>by simp [Rx.wfL]
 | x::a,b=>by simp only [Ay,Rx.wfL,pO a b,Bool.and_assoc]
theorem seqR_gd {ts:List Rx} (h:InvT ts) (hw:Rx.wfL ts=true):(seqR ts).wf=true∧2*(seqR ts).parts≤2*Rx.partsL ts+ts.length+2:=by
 have hf:jT 0 ts=ts:=nr fun y hy=>(h y hy).1
 rcases ts with _|⟨x,_|⟨y,l⟩⟩
 ·exact⟨rfl,by decide⟩
 ·have e:seqR [x]=x:=by unfold seqR;rw [hf]
  exact dL
 ·have e:seqR (x::y::l)=mE (x::y::l):=by unfold seqR;rw [hf]
  rw [e];refine⟨?_,by unfold mE;simp only [Rx.parts,Rx.partsL,zW];omega⟩;unfold mE;simp only [Rx.wf,hw,zH];have ha:((x::y::l).all fun x=>decide (x.kind≠0∧x.kind≠1))=true:=List.all_eq_true.2 fun z hz=>Av (h z hz)
  simp [jn,nK,Rx.chr,Rx.neg,Rx.rows,Rx.lo,Rx.hi,Rx.lazy]
  simpa using ha
theorem altR_gd {al:List Rx} (h:InvA al) (hw:Rx.wfL al=true) (hne:al≠[]):(altR al).wf=true∧(altR al).parts≤Rx.partsL al+(if al.length=1 then 0 else 1):=by
 have hf:jT 1 al=al:=nr h;rcases al with _|⟨x,_|⟨y,l⟩⟩
 ·exact absurd rfl hne
 ·have e:altR [x]=x:=ye (h x (Ao ..))
  exact dL
 ·have e:altR (x::y::l)=pZ (x::y::l):=by unfold altR;rw [hf]
  rw [e];refine⟨?_,by rw [zO fq];unfold pZ;simp only [Rx.parts,Rx.partsL];omega⟩;unfold pZ;simp only [Rx.wf,hw,zH];have ha:((x::y::l).all fun x=>decide (x.kind≠1))=true:=List.all_eq_true.2 fun z hz=>Av (h z hz)
  simp [jn,nK,Rx.chr,Rx.neg,Rx.rows,Rx.lo,Rx.hi,Rx.lazy]
  simpa using ha
theorem ut {f:List Str→Res} {d R:Nat}:∀(k:Nat) (alts terms:List Rx) (r:List Str) {x:Rx} {r1:List Str},patL f k alts terms r=.ok (x,r1)→InvA alts→InvT terms→Rx.wfL alts=true→Rx.wfL terms=true→Rx.deepL alts+d≤16→Rx.deepL terms+d≤16 →
  2*Rx.partsL alts+2*Rx.partsL terms+terms.length+alts.length+3*r.length≤3*R →
  (∀r' y r2,r' <:+ r→f r'=.ok (y,r2)→r2 <:+ r'∧(y.kind≠0∧y.kind≠1)∧Ga d r'.length y r2.length)→Gd d R x r1.length
 | 0,_,_,_,_,_,h,_,_,_,_,_,_,_,_=>by cases h
 | k+1,alts,terms,r,x,r1,h,iA,iT,wA,wT,dA,dT,hm,ht=>by
  obtain⟨q1,q2⟩:=seqR_gd iT wT;have iA2:InvA (alts++[seqR terms]):=iA.app fun y hy=>by rw [AA] at hy;rw [hy];exact(xI iT).1
  have wA2:Rx.wfL (alts++[seqR terms])=true:=by rw [pO,wA];simp only [Rx.wfL,q1];rfl
  have fin:Gd d R (altR (alts++[seqR terms])) r.length:=by
   obtain⟨p1,p2⟩:=altR_gd iA2 wA2 fq;refine⟨p1,by rw [end_deep];omega,?_⟩;rw [jR] at p2;simp only [Rx.partsL,zX,zW,zY] at p2;cases alts with
   | nil=>rw [zL fq] at p2;simp only [Rx.partsL] at p2 hm;simp only [zY] at hm;omega
   | cons a l=>rw [zO (by simp only [zW];omega)] at p2;simp only [zW] at hm;omega
  cases r with
  | nil =>
   simp only [patL] at h;injection h with h;injection h with h1 h2;subst h1 h2;exact fin
  | cons c r =>
   simp only [patL] at h;by_cases h1:c=[41]
   ·rw [zL h1] at h;injection h with h;injection h with h1 h2;subst h1 h2;exact fin
   rw [zO h1] at h;by_cases h2:c=[124]
   ·rw [zL h2] at h
    refine ut k _ _ r h iA2 (fun y hy=>by cases hy) wA2 rfl (by rw [lv];simp only [Rx.deepL,s7];omega) iH ?_ (fun r' y r2 q=>ht r' y r2 (lF q));rw [jR];simp only [Rx.partsL,zX,zW,zY] at hm ⊢;omega
   rw [zO h2] at h;cases hx:f (c::r) with
   | error e=>simp only [hx] at h;cases h
   | ok y =>
    obtain⟨w,r2⟩:=y;simp only [hx] at h;obtain⟨s1,s2,s3,s4,s5⟩:=ht _ _ _ (AD _) hx;refine ut k _ _ r2 h iA (iT.app fun y hy=>by rw [AA] at hy;rw [hy];exact s2) wA (by rw [pO,wT];simp only [Rx.wfL,s3];rfl) dA (by rw [lv];simp only [Rx.deepL];omega) ?_ (fun r' y r3 q=>ht r' y r3 (q.trans s1));rw [jR];simp only [Rx.partsL,zX,zW,zY] at hm s5 ⊢;omega
theorem pat_gd:∀(n:Nat),n≤200000→PatGd (patF n) n
 | 0,_=>fun r d x r1 _ _ _ _ h=>by cases h
 | n+1,hn=>fun r d x r1 hl hd ho hp h=>by
  have ih:=pat_gd n fg;have h':patL (fun r=>lB (patF n) r d) (r.length+1) [] [] r=.ok (x,r1):=h;exact ut (f:=fun r=>lB (patF n) r d) _ [] [] r h' (fun y hy=>by cases hy) (fun y hy=>by cases hy) rfl rfl iH iH (by simp [Rx.partsL])
   (fun r' y r2 hs hx=>by
    have hl':=ku hs;obtain⟨t1,_⟩:=term_sfx hx (o8 hs ho) fg;exact⟨t1,xQ hx,term_gd ih hx (o8 hs ho) (hp.sfx hs) fg hd⟩)
theorem pS:∀(n:Nat) (s:Str),s.length≤n→(iP s).count [40]≤s.count 40
 | _,[],_=>by simp [iP,jH]
 | 0,_::_,h=>by simp at h
 | n+1,c::r,h=>by
  have hl:(r.dropWhile iU).length≤r.length:=(List.dropWhile_sublist iU).length_le;have ih:=pS n (r.dropWhile iU) (by simp at h;omega);have hs:(r.dropWhile iU).count 40≤r.count 40:=(List.dropWhile_sublist iU).count_le 40;rw [nb,List.count_cons,List.count_cons];by_cases hc:c=40
  ·subst hc;simp only [beq_self_eq_true,if_true];split<;>omega
  ·have:¬((c::r.takeWhile iU)==[40])=true:=by
    intro e;rw [zI] at e;injection e with e _;exact hc e
   rw [zO this];omega
theorem read_may {s:Str} {x:Rx} (h:lK s=.ok x):mayB x=true∧x.groups≤s.count 40∧x.parts≤2*s.length+1:=by
 obtain⟨a1,a2,a3⟩:=readM_ok.1 h;have hl:=re s;have ho:okC (iP s):=tS fg;obtain⟨f1,f2,f3,f4⟩:=nd _ _ _ _ _ fg a3 ho;obtain⟨g1,g2,g3⟩:=pat_gd _ fg (iP s) 0 x [] fg fg ho (tT _ s (zP _) a2) a3;have hc:=pS _ s (zP _);simp only [zY,List.count_nil] at f2 f3 g3;refine⟨?_,by omega,by omega⟩;simp only [mayB,okB,Am,zJ];exact⟨⟨g1,by omega⟩,by omega⟩
namespace Sn
theorem pO:∀a b:List Sn,wfL (a++b)=(wfL a&&wfL b)
 | [],b=>by simp [wfL]
 | x::a,b=>by simp only [Ay,wfL,pO a b,Bool.and_assoc]
end Sn
structure Wide (fs:List Fm) (n:Nat):Prop where
 lo:∀p t,p.length≤(putF (p::t) fs).length
 hi:∀ps,(∀p∈ps,p.length≤n)→(putF ps fs).length≤2*n+1
theorem vi {s:Str} {fold:Bool} {fs:List Fm} {n:Nat} (hn:n=s.length) (hw:Wide fs n) (hs:s.length≤40):∀(ms:List Mt) (k:Nat) (out:Str) (j:Nat),Chain (rcM fold s) j ms→k≤j→k≤(iP s).length→out.length+(41-j)*121≤5000 →
  ∃at_ out',goM s (jl (iP s) 0) fs ms ((jl (iP s) 0).getD k 0) out=some (at_,out')∧out'.length≤5000∧(out++s.drop ((jl (iP s) 0).getD k 0)).length≤(out'++s.drop at_).length ∧
   ((∀p t,putF (p::t) fs=p)→out'++s.drop at_=out++s.drop ((jl (iP s) 0).getD k 0))
 | [],k,out,j,_,_,_,h=>⟨_,out,rfl,by omega,zP _,fun _=>rfl⟩
 | m::r,k,out,j,hc,hkj,hk,h=>by
  obtain⟨h1,h2,h3,_,h4⟩:=hc;replace h3:m.2.1≤(iP s).length:=h3;have hsl:=kV s;have e1:putF (kF s (jl (iP s) 0) m) fs=putF (jN s ((jl (iP s) 0).getD m.1 0) ((jl (iP s) 0).getD m.2.1 0)::m.2.2.map (mJ s)) fs:=rfl;have h5:=hw.hi _ (fun p hp=>by rw [hn];exact mZ s (jl (iP s) 0) m p hp);have h6:=hw.lo (jN s ((jl (iP s) 0).getD m.1 0) ((jl (iP s) 0).getD m.2.1 0)) (m.2.2.map (mJ s));rw [←e1] at h6;have h7:=sM s ((jl (iP s) 0).getD k 0) ((jl (iP s) 0).getD m.1 0);have e2:putM (kF s (jl (iP s) 0) m) fs (out++jN s ((jl (iP s) 0).getD k 0) ((jl (iP s) 0).getD m.1 0))=out++jN s ((jl (iP s) 0).getD k 0) ((jl (iP s) 0).getD m.1 0)++putF (kF s (jl (iP s) 0) m) fs :=
   uP _ _ _ gj
  rw [goM];simp only [e2];rw [zO ie];have hj:j<(if m.1=m.2.1 then m.2.1+1 else m.2.1):=by split<;>omega
  have hj2:m.2.1≤(if m.1=m.2.1 then m.2.1+1 else m.2.1):=by split<;>omega
  obtain⟨at_,out',h8,h9,h10,h11⟩:=vi hn hw hs r m.2.1 (out++jN s ((jl (iP s) 0).getD k 0) ((jl (iP s) 0).getD m.1 0)++putF (kF s (jl (iP s) 0) m) fs) _ h4 hj2 h3 (by
   generalize (if m.1=m.2.1 then m.2.1+1 else m.2.1)=j' at hj
   simp only [zX];omega)
  have e3:s.drop ((jl (iP s) 0).getD k 0)=jN s ((jl (iP s) 0).getD k 0) ((jl (iP s) 0).getD m.1 0)++(jN s ((jl (iP s) 0).getD m.1 0) ((jl (iP s) 0).getD m.2.1 0)++s.drop ((jl (iP s) 0).getD m.2.1 0)):=by
   rw [nk s fg fg,nk s h2 h3,oe s h3,oe s hk,←List.flatten_append,←List.flatten_append];congr 1
   rw [show (iP s).drop m.2.1=((iP s).drop m.1).drop (m.2.1-m.1) by rw [List.drop_drop];congr 1;omega,List.take_append_drop,
    show (iP s).drop m.1=((iP s).drop k).drop (m.1-k) by rw [List.drop_drop];congr 1;omega,List.take_append_drop]
  refine⟨at_,out',h8,h9,?_,fun hp=>?_⟩
  ·rw [e3]
   simp only [zX] at h10 ⊢;omega
  ·rw [h11 hp,e3,e1,hp]
   simp only [Az]
theorem qB {x:Rx} {fs:List Fm} {fold all:Bool} {s:Str} {z:Int} (hx:mayB x=true) (hf:lC fs=true) (hw:Wide fs s.length) (hs:s.length≤40) :
  ((jy x fold all s z).2.out=true∧lW x fs fold all s z=([],0,9)) ∨
  ((jy x fold all s z).2.out=false∧∃t:Str,lW x fs fold all s z=(t,((jy x fold all s z).2.fuel:Int),0)∧s.length≤t.length∧t.length≤6000∧((∀p t,putF (p::t) fs=p)→t=s)):=by
 unfold lW;rw [hx,hf,zH,zO fo];by_cases ho:(jy x fold all s z).2.out=true
 ·exact .inl ⟨ho,by rw [zL ho]⟩
 ·refine .inr ⟨by simpa using ho,?_⟩
  rw [zO ho];have h00:(jl (iP s) 0).getD 0 0=0:=by rw [jI _ 0 (Nat.zero_le _)];rfl
  obtain⟨at_,out',h1,h2,h3,h4⟩:=vi rfl hw hs (jy x fold all s z).1 0 [] 0 (nT x fold all s z) (zP _) (Nat.zero_le _) fq;rw [h00] at h1 h3 h4;simp only [Ax,AF] at h3 h4;unfold ti;by_cases hm:(jy x fold all s z).1=[]
  ·rw [zL hm]
   exact⟨s,rfl,zP _,by omega,fun _=>rfl⟩
  ·rw [zO hm]
   rw [show (rcM fold s).offs=jl (iP s) 0 from rfl,h1];simp only
   rw [zO fg];exact⟨_,rfl,h3,by rw [zX,Aw];omega,h4⟩
def wf1:List Fm:=[⟨1,0,0,[],[]⟩]
def wf2:List Fm:=[⟨0,0,0,[60],[]⟩,⟨1,0,0,[],[]⟩,⟨1,99,0,[],[]⟩]
theorem xH (p:Str) (t:List Str):putF (p::t) wf1=p:=by
 have h:lC [⟨1,0,0,[],[]⟩]=true:=fo;simp [putF,wf1,lx,h,kC,ld]
theorem wf1_may:lC wf1=true:=by decide
theorem wf2_may:lC wf2=true:=by decide
theorem wf1_wide (n:Nat):Wide wf1 n:=⟨fun p t=>by rw [xH];exact zP _,fun ps hp=>by
 have h:lC [⟨1,0,0,[],[]⟩]=true:=fo;have h2:=nw hp 0;simp [putF,wf1,lx,h,kC]
 omega⟩
theorem yQ (ps:List Str):putF ps wf2=[60]++ld ps 0++ld ps 99:=by
 have h:lC [⟨1,0,0,[],[]⟩]=true:=fo;have h2:lC [⟨1,99,0,[],[]⟩]=true:=fo;have h3:lC [⟨0,0,0,[60],[]⟩]=true:=fo;simp [putF,wf2,lx,h,h2,h3,kC]
theorem wf2_wide (n:Nat):Wide wf2 n:=⟨fun p t=>by
 rw [yQ];have:ld (p::t) 0=p:=rfl
 rw [this];simp only [zX];omega,fun ps hp=>by
 have h2:=nw hp 0;have h3:=nw hp 99;rw [yQ];simp only [zX,zW,zY];omega⟩
open Go.RowKit
theorem Read_big (s:Str) (w:World) (hl:256<s.length) (hs:s.length≤maxLen) :
  Calls Tryz.prog 20 #[.string ⟨s.toArray⟩] w fun e w'=>e=.returned (.tuple #[rxv0,.int .i64 4])∧Below w.heap.size w w':=by
 unfold maxLen at hs;have hbl:Below w.heap.size w (w.alloc (.cells #[.int .i64 0,.string ⟨#[]⟩,.bool false,.slice none 0 0,.int .i64 0,.int .i64 0,.bool false,.slice none 0 0] 25)):=(Below.refl _ _).alloc (zP _) _;have hby:(w.alloc (.cells #[.int .i64 0,.string ⟨#[]⟩,.bool false,.slice none 0 0,.int .i64 0,.int .i64 0,.bool false,.slice none 0 0] 25)).heap[w.heap.size]?=some (.cells #[.int .i64 0,.string ⟨#[]⟩,.bool false,.slice none 0 0,.int .i64 0,.int .i64 0,.bool false,.slice none 0 0] 25 (0,0)):=heap_alloc_new w _;obtain⟨f0,f1,f2,f3,f4,f5,f6,f7,f8⟩:=iR (c:=[]) hby;clear hby;go_enter Tryz.func20,Tryz.ntmps20
 go_wp2
 refine Al (v:=.tuple #[.agg #[.int .i64 0,.string ⟨[].toArray⟩,.bool false,.slice none 0 0,.int .i64 0,.int .i64 0,.bool false,.slice none 0 0],.int .i64 4]) fI rfl ?_;exact⟨rfl,hbl⟩
def rdE (s:Str):Int:=match lK s with|.ok _=>0|.error q=>q
def RdU (s:Str) (w:World) (e:Ending) (w':World):Prop :=
 ∃(rk:Int) (rch:Str) (rng:Bool) (ra:Option Addr) (rn rcp:Nat) (rlo rhi:Int) (rlz:Bool) (rka:Option Addr) (kn rkc:Nat),
  e=.returned (.tuple #[.agg #[.int .i64 rk,.string ⟨rch.toArray⟩,.bool rng,.slice ra rn rcp,.int .i64 rlo,.int .i64 rhi,.bool rlz,.slice rka kn rkc],.int .i64 (rdE s)])∧Below w.heap.size w w' ∧
  ∀x,lK s=.ok x→RxV w' (fun b=>w.heap.size≤b) [.int .i64 rk,.string ⟨rch.toArray⟩,.bool rng,.slice ra rn rcp,.int .i64 rlo,.int .i64 rhi,.bool rlz,.slice rka kn rkc] x
theorem ReadU (s:Str) (w:World) (hs:s.length≤maxLen):Calls Tryz.prog 20 #[.string ⟨s.toArray⟩] w (RdU s w):=by
 by_cases hl:256<s.length
 ·have hr:lK s=.error 4:=by unfold lK;rw [zL hl]
  refine(Read_big s w hl hs).mono fun e w'=>?_
  rintro⟨rfl,hb⟩;refine⟨0,[],false,none,0,0,0,0,false,none,0,0,by unfold rdE;rw [hr];rfl,hb,fun x hx=>?_⟩;rw [hr] at hx;cases hx
 ·refine(pm s w fg).mono fun e w'=>?_
  rintro⟨hb,hp⟩;cases hr:lK s with
  | error q =>
   rw [hr] at hp;refine⟨0,[],false,none,0,0,0,0,false,none,0,0,by unfold rdE;rw [hr];exact hp,hb,fun x hx=>?_⟩;rw [hr] at hx;cases hx
  | ok x =>
   rw [hr] at hp;obtain⟨cc,he,hv⟩:=hp;obtain⟨k,c,ng,rs,lo,hi,lz,ks⟩:=x;obtain⟨ra,rc,ka,kc,rfl,_,_⟩:=hv.open_;refine⟨k,c,ng,ra,rs.length,rc,lo,hi,lz,ka,ks.length,kc,by unfold rdE;rw [hr];exact he,hb,fun x hx=>?_⟩;rw [hr] at hx;injection hx with hx
   subst hx;exact hv
set_option maxRecDepth 100000 in
theorem sy (r s:Str) (fold all:Bool) (w:World) (x:Rx) (hx:lK r=.ok x) (hr:r.length≤30) (hs:s.length≤40) :
  Calls Tryz.prog 6 #[.string ⟨r.toArray⟩,.bool fold,.bool all,.string ⟨s.toArray⟩] w fun e w'=>e=.returned (.bool true)∧Below w.heap.size w w':=by
 have H1:=ab (ReadU r w (by simp only [maxLen];omega));have hE:rdE r=0:=by unfold rdE;rw [hx]
 unfold RdU at H1;rw [hE] at H1;have hmx:=(read_may hx).1;obtain⟨hsm,hpt⟩:=pP hx;have HX:=ab hx;have HW1:=ab (qB (fold:=fold) (all:=all) (z:=3000) hmx wf1_may (wf1_wide s.length) hs);have HW2:=ab (qB (fold:=fold) (all:=all) (z:=3000) hmx wf2_may (wf2_wide s.length) hs);have HSM:=ab hsm;have HPL:=ab (fun m (_:m∈(jy x fold all s 3000).1) p hp=>zR (mZ s (rcM fold s).offs m p hp) hs);clear hE hx hmx hsm;go_enter Tryz.func6,Tryz.ntmps6
 go_wp2_with (go_at_call 20;refine H1.out.mono ?_)
 rintro e w1 ⟨ak,ach,ang,aa,an,acp,alo,ahi,alz,aka,akn,akc,rfl,hb1,hv1⟩;have HV1:=ab (hv1 x HX.out);have HB1:=ab hb1;clear hv1 hb1 H1;obtain⟨W1,hW1⟩:∃W1,W1=w1.alloc (.cells #[.int .i64 ak,.string ⟨ach.toArray⟩,.bool ang,.slice aa an acp,.int .i64 alo,.int .i64 ahi,.bool alz,.slice aka akn akc] 25):=⟨_,rfl⟩;have hbW1:Below w1.heap.size w1 W1:=by rw [hW1];exact(Below.refl _ _).alloc (zP _) _
 have hlW1:W1.heap[w1.heap.size]?=some (.cells #[.int .i64 ak,.string ⟨ach.toArray⟩,.bool ang,.slice aa an acp,.int .i64 alo,.int .i64 ahi,.bool alz,.slice aka akn akc] 25 (0,0)):=by rw [hW1];exact heap_alloc_new w1 _
 have HL1:=ab hlW1;have HBW1:=ab hbW1;have HWE1:=ab hW1;clear hW1 hbW1 hlW1;go_upto_region 2 with fail
 rw [←HWE1.out];clear HWE1;obtain⟨W3,hW3⟩:∃W3,W3=(W1.alloc (.cells #[.int .i64 1,.int .i64 0,.int .i64 0,.string ⟨[].toArray⟩,.string ⟨[].toArray⟩] 43)).alloc (.cells #[.int .i64 ak,.string ⟨ach.toArray⟩,.bool ang,.slice aa an acp,.int .i64 alo,.int .i64 ahi,.bool alz,.slice aka akn akc,.slice (some ⟨W1.heap.size,0,none⟩) 1 1,.bool fold,.bool all] 28):=⟨_,rfl⟩;have hbW3:Below W1.heap.size W1 W3:=by rw [hW3];exact((Below.refl _ _).alloc (zP _) _).alloc fq _
 have hlf:W3.heap[W1.heap.size]?=some (.cells #[.int .i64 1,.int .i64 0,.int .i64 0,.string ⟨[].toArray⟩,.string ⟨[].toArray⟩] 43 (0,0)):=by rw [hW3,Below.heap_alloc _ _ _ fq];exact heap_alloc_new W1 _
 have hl3:W3.heap[W1.heap.size+1]?=some (.cells #[.int .i64 ak,.string ⟨ach.toArray⟩,.bool ang,.slice aa an acp,.int .i64 alo,.int .i64 ahi,.bool alz,.slice aka akn akc,.slice (some ⟨W1.heap.size,0,none⟩) 1 1,.bool fold,.bool all] 28 (0,0)):=by
  have:=heap_alloc_new (W1.alloc (.cells #[.int .i64 1,.int .i64 0,.int .i64 0,.string ⟨[].toArray⟩,.string ⟨[].toArray⟩] 43)) (.cells #[.int .i64 ak,.string ⟨ach.toArray⟩,.bool ang,.slice aa an acp,.int .i64 alo,.int .i64 ahi,.bool alz,.slice aka akn akc,.slice (some ⟨W1.heap.size,0,none⟩) 1 1,.bool fold,.bool all] 28)
  rw [hW3];simpa using this
 have hv0:RxV w1 (fun b=>b<w1.heap.size) [.int .i64 ak,.string ⟨ach.toArray⟩,.bool ang,.slice aa an acp,.int .i64 alo,.int .i64 ahi,.bool alz,.slice aka akn akc] x:=HV1.out.mono fun b _ hlt=>hlt
 have hz1:w1.heap.size≤W1.heap.size:=HBW1.out.size;have hv3:RxV W3 (fun b=>b<W1.heap.size∨b=W1.heap.size) [.int .i64 ak,.string ⟨ach.toArray⟩,.bool ang,.slice aa an acp,.int .i64 alo,.int .i64 ahi,.bool alz,.slice aka akn akc] x:=((hv0.later HBW1.out).later hbW3).mono fun b hb _=>.inl (zS hb hz1)
 have hv5:=(hv0.later HBW1.out).later hbW3;have htf:TfV W3 (fun b=>b<W1.heap.size∨b=W1.heap.size) [.int .i64 ak,.string ⟨ach.toArray⟩,.bool ang,.slice aa an acp,.int .i64 alo,.int .i64 ahi,.bool alz,.slice aka akn akc,.slice (some ⟨W1.heap.size,0,none⟩) 1 1,.bool fold,.bool all] ⟨x,wf1,fold,all⟩:=TfV.lit (fs:=wf1) hv3 hlf (.inr rfl) rfl;have HTF:=ab htf;have HV5:=ab hv5;have HL3:=ab hl3;have HB3:=ab (bel2 (bel2 HB1.out HBW1.out) hbW3);have HW3:=ab hW3;have HZ3:Hid (W1.heap.size+1<W3.heap.size):=ab (iN hl3);clear hW3 hbW3 hlf hl3 hv0 hv3 hv5 htf;go_upto_region 5 with(refine jr rfl 25 (.tmp 9) rfl w1.heap.size 0 rfl [.int .i64 ak,.string ⟨ach.toArray⟩,.bool ang,.slice aa an acp,.int .i64 alo,.int .i64 ahi,.bool alz,.slice aka akn akc] _ (jt (ds:=[]) HL1.out) me rfl g8 ?_)
 rw [←HW3.out];clear HW3;rcases HW1.out with⟨ho,e1⟩|⟨ho,t,e1,_,_,h3⟩
 ·have HA1:=ab (jQ _ ⟨x,wf1,fold,all⟩ _ W3 HTF.out (s:=s) (z:=3000) e1 ⟨HSM.out,by show x.parts≤1000000;omega,by show 1≤1000000;decide⟩ (by show 1≤1000;decide) (mf:=40) fo (by simp [wf1]) fg HPL.out)
  clear ho e1;go_wp2_with (first
   | (refine jr rfl 28 (.tmp 11) rfl (W1.heap.size+1) 0 rfl [.int .i64 ak,.string ⟨ach.toArray⟩,.bool ang,.slice aa an acp,.int .i64 alo,.int .i64 ahi,.bool alz,.slice aka akn akc,.slice (some ⟨W1.heap.size,0,none⟩) 1 1,.bool fold,.bool all] _ (jt (ds:=[]) HL3.out) jJ rfl fT ?_)
   | (go_at_call 12;refine HA1.out.mono ?_;rintro e w4 ⟨rfl,hb4⟩)
   | (go_at_call 11;refine(lA _).mono ?_;rintro e w9 ⟨rfl,hb9⟩))
  go_ret
  exact⟨rfl,bel2 (bel2 HB3.out hb4) hb9⟩
 ·obtain rfl:=h3 xH
  rcases HW2.out with⟨h4,_⟩|⟨_,u,e2,h5,h6,_⟩
  ·rw [ho] at h4;cases h4
  obtain⟨n,hn⟩:∃n,(jy x fold all t 3000).2.fuel=n:=⟨_,rfl⟩;rw [hn] at e1 e2;have HA1:=ab (jQ _ ⟨x,wf1,fold,all⟩ _ W3 HTF.out (s:=t) (z:=3000) e1 ⟨HSM.out,by show x.parts≤1000000;omega,by show 1≤1000000;decide⟩ (by show 1≤1000;decide) (mf:=40) fo (by simp [wf1]) fg HPL.out);have HE2:=ab e2;clear ho e1 e2 h3 hn;go_wp2_with (first
   | (refine jr rfl 28 (.tmp 11) rfl (W1.heap.size+1) 0 rfl [.int .i64 ak,.string ⟨ach.toArray⟩,.bool ang,.slice aa an acp,.int .i64 alo,.int .i64 ahi,.bool alz,.slice aka akn akc,.slice (some ⟨W1.heap.size,0,none⟩) 1 1,.bool fold,.bool all] _ (jt (ds:=[]) HL3.out) jJ rfl fT ?_)
   | (go_at_call 12;refine HA1.out.mono ?_))
  first|rintro e w4 rfl hb4|rintro e w4 ⟨rfl,hb4⟩
  have hl4:=(hb4.block _ (iN HL3.out)).trans HL3.out;have f8:=lg hl4 8;have c8:=iQ hl4 8 rfl;have hz4:W1.heap.size+1<w4.heap.size:=zS HZ3.out hb4.size;have hv4:=(HV5.out.later hb4).mono (S':=fun b=>b<w1.heap.size) fun b hb _=>hb
  obtain⟨W5,hW5⟩:∃W5,W5=w4.setCell ⟨W1.heap.size+1,8,none⟩ (.slice (some ⟨w4.heap.size,0,none⟩) 3 3):=⟨_,rfl⟩;have hz5:W5.heap.size=w4.heap.size:=by rw [hW5];simp [World.setCell]
  obtain⟨W6,hW6⟩:∃W6,W6=W5.alloc (.cells #[.int .i64 0,.int .i64 0,.int .i64 0,.string ⟨([60]).toArray⟩,.string ⟨[].toArray⟩,.int .i64 1,.int .i64 0,.int .i64 0,.string ⟨[].toArray⟩,.string ⟨[].toArray⟩,.int .i64 1,.int .i64 99,.int .i64 0,.string ⟨[].toArray⟩,.string ⟨[].toArray⟩] 43):=⟨_,rfl⟩;have hb56:Below W5.heap.size W5 W6:=by rw [hW6];exact(Below.refl _ _).alloc (zP _) _
  have hl5:W5.heap[W1.heap.size+1]?=some (.cells #[.int .i64 ak,.string ⟨ach.toArray⟩,.bool ang,.slice aa an acp,.int .i64 alo,.int .i64 ahi,.bool alz,.slice aka akn akc,.slice (some ⟨w4.heap.size,0,none⟩) 3 3,.bool fold,.bool all] 28 (0,0)):=by
   rw [hW5];simp [World.setCell,Array.getElem?_modify,hl4]
  have hl6:=(hb56.block _ (iN hl5)).trans hl5;have hlg:W6.heap[w4.heap.size]?=some (.cells #[.int .i64 0,.int .i64 0,.int .i64 0,.string ⟨([60]).toArray⟩,.string ⟨[].toArray⟩,.int .i64 1,.int .i64 0,.int .i64 0,.string ⟨[].toArray⟩,.string ⟨[].toArray⟩,.int .i64 1,.int .i64 99,.int .i64 0,.string ⟨[].toArray⟩,.string ⟨[].toArray⟩] 43 (0,0)):=by
   rw [hW6,←hz5];exact heap_alloc_new W5 _
  have hv5:RxV W5 (fun b=>b<w1.heap.size) [.int .i64 ak,.string ⟨ach.toArray⟩,.bool ang,.slice aa an acp,.int .i64 alo,.int .i64 ahi,.bool alz,.slice aka akn akc] x:=hv4.keep ⟨by omega,fun b hb _=>by
   rw [hW5];exact heap_setCell_other _ _ _ _ (by have hb:b<w1.heap.size:=hb;simp;omega)⟩
  have hv6:RxV W6 (fun b=>b<w1.heap.size∨b=w4.heap.size) [.int .i64 ak,.string ⟨ach.toArray⟩,.bool ang,.slice aa an acp,.int .i64 alo,.int .i64 ahi,.bool alz,.slice aka akn akc] x:=(hv5.later hb56).mono fun b hb _=>.inl hb
  have htf:TfV W6 (fun b=>b<w1.heap.size∨b=w4.heap.size) [.int .i64 ak,.string ⟨ach.toArray⟩,.bool ang,.slice aa an acp,.int .i64 alo,.int .i64 ahi,.bool alz,.slice aka akn akc,.slice (some ⟨w4.heap.size,0,none⟩) 3 3,.bool fold,.bool all] ⟨x,wf2,fold,all⟩:=TfV.lit (fs:=wf2) hv6 hlg (.inr rfl) rfl;have hb6:Below w.heap.size w W6:=by
   refine Below.trans (b:=W5) ?_ (hb56.mono (by have h1:=(bel2 HB3.out hb4).size;omega));rw [hW5];exact(bel2 HB3.out hb4).setCell (by have h1:=HB1.out.size;simp;omega) _
  have HA2:=ab (jQ _ ⟨x,wf2,fold,all⟩ _ W6 htf (s:=t) (z:=3000) HE2.out ⟨HSM.out,by show x.parts≤1000000;omega,by show 3≤1000000;decide⟩ (by show 3≤1000;decide) (mf:=40) fo (by simp [wf2]) fg HPL.out);have HL6:=ab hl6;have HB6:=ab hb6;have HW6:=ab hW6;have HW5:=ab hW5;clear hW5 hl5 hl4 hv4 hv5 hW6 hl6 hlg hz5 hv6 htf hb6 hb56 hb4;go_upto_region 9 with fail
  rw [←HW5.out,←HW6.out];clear HW5 HW6;have h5i:(t.length:Int)≤u.length:=fg;go_wp2_with (first
   | (refine jr rfl 28 (.tmp 11) rfl (W1.heap.size+1) 0 rfl [.int .i64 ak,.string ⟨ach.toArray⟩,.bool ang,.slice aa an acp,.int .i64 alo,.int .i64 ahi,.bool alz,.slice aka akn akc,.slice (some ⟨w4.heap.size,0,none⟩) 3 3,.bool fold,.bool all] _ (jt (ds:=[]) HL6.out) jJ rfl fT ?_)
   | (go_at_call 12;refine HA2.out.mono ?_;first|rintro e w7 rfl hb7|rintro e w7 ⟨rfl,hb7⟩)
   | (go_at_call 11;refine(lA _).mono ?_;rintro e w9 ⟨rfl,hb9⟩))
  go_ret
  exact⟨rfl,bel2 (bel2 HB6.out hb7) hb9⟩
theorem nh (r s:Str) (fold all:Bool) (w:World) (hr:r.length≤maxLen) (hs:s.length≤maxLen) (h:30<r.length∨40<s.length∨rdE r≠0) :
  Calls Tryz.prog 6 #[.string ⟨r.toArray⟩,.bool fold,.bool all,.string ⟨s.toArray⟩] w fun e w'=>e=.returned (.bool true)∧Below w.heap.size w w':=by
 have H1:=ab (ReadU r w hr);unfold RdU at H1;unfold maxLen at hr hs;obtain⟨E,hE⟩:∃E,rdE r=E:=⟨_,rfl⟩;rw [hE] at H1 h;clear hE;by_cases h1:30<r.length
 ·clear h
  exact bm
 ·by_cases h2:40<s.length
  ·clear h
   exact bm
  ·have h3:E≠0:=by
    rcases h with h|h|h
    ·exact absurd h h1
    ·exact absurd h h2
    ·exact h
   have g1:(E==0)=false:=by rw [Aj];exact h3
   have g2:(E != 0)=true:=by rw [bne_iff_ne];exact h3
   clear h h3;exact bm
theorem qR (r s:Str) (fold all:Bool) (w:World) (hr:r.length≤maxLen) (hs:s.length≤maxLen) :
  Calls Tryz.prog 6 #[.string ⟨r.toArray⟩,.bool fold,.bool all,.string ⟨s.toArray⟩] w fun e w'=>e=.returned (.bool true)∧Below w.heap.size w w':=by
 by_cases h1:30<r.length
 ·exact nh r s fold all w hr hs (.inl h1)
 by_cases h2:40<s.length
 ·exact nh r s fold all w hr hs (.inr (.inl h2))
 cases hx:lK r with
 | ok x=>exact sy r s fold all w x hx fg fg
 | error q=>exact nh r s fold all w hr hs (.inr (.inr (by unfold rdE;rw [hx];exact tJ hx)))
end Go.Proofs.YtbnkaecmgfolpaaGreat
