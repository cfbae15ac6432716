/- How long what is told of a snippet that was read is: plain laws. -/
import Derived.Test.YtdcnncgpomcaaaaGreatDoorSc36
import Derived.Test.YtdcnncgpomcaaaaGreatDoorSc37
set_option maxRecDepth 100000
set_option maxHeartbeats 4000000
namespace Go.Proofs.YtdcnncgpomcaaaaGreatDoor
theorem pd (one:Int):∀(r t:Str) {u s:Str},ld one r t=some (u,s)→u.length+s.length≤t.length+r.length
 | [],t,u,s,h=>by simp [ld] at h
 | [c],t,u,s,h=>by
  simp only [ld] at h;split at h
  ·injection h with h;injection h with h h';subst h;subst h';simp
  ·cases h
 | c::d::r,t,u,s,h=>by
  simp only [ld] at h;split at h
  ·injection h with h;injection h with h h';subst h;subst h';simp
  ·split at h
   ·have:=pd one r _ h;simp at this ⊢;omega
   ·have:=pd one (d::r) _ h;simp at this ⊢;omega
theorem AW {r:Str} {n:Nat} {f:Fm} {s:Str} (h:lU r n=some (f,s)):f.thn.length+f.els.length+s.length≤r.length:=by
 have hl:=uG h;cases r with
 | nil=>cases h
 | cons c r =>
  simp only [lU] at h;split at h
  ·split at h
   ·cases h
   ·split at h
    ·cases h
    ·injection h with h;injection h with h h';subst h;subst h';simp at hl ⊢;omega
  ·split at h
   ·exact ci
   ·split at h
    ·split at h
     ·rename_i heq
      have h1:=pd _ _ _ heq;split at h
      ·rename_i heq2
       have h2:=pd _ _ _ heq2;injection h with h;injection h with h h';subst h;subst h';simp at h1 h2 ⊢;omega
      ·cases h
     ·cases h
    ·split at h
     ·exact ci
     ·exact ci
theorem As {r:Str} {f:Fm} {s:Str} (h:ow r=some (f,s)):f.thn.length+f.els.length+s.length+1≤r.length:=by
 have hl:=qz h;unfold ow at h;split at h
 ·injection h with h;injection h with h h';subst h;subst h';simp;omega
 ·unfold AR at h
  cases r with
  | nil=>cases h
  | cons c r =>
   simp only at h
   split at h
   ·split at h
    ·cases h
    ·rename_i p hp
     have h1:=ub (m:=p.1) (s:=p.2) hp;unfold sX at h;split at h
     ·cases h
     ·rename_i heq
      rw [heq] at h1;split at h
      ·injection h with h;injection h with h h';subst h;subst h';simp at hl ⊢;omega
      ·split at h
       ·have:=AW h;simp at h1 ⊢;omega
       ·cases h
   ·cases h
theorem Aj (a b:List Fm):mt (a++b)=mt a++mt b:=by simp [mt]
theorem uF (tx:Str) (fs:List Fm):(mt (mB tx fs)).length≤(mt fs).length+2*tx.length:=by
 unfold mB;split
 ·omega
 ·rw [Aj,Ig]
  have:mt [(⟨0,0,0,tx,[]⟩:Fm)]=quot four tx:=by simp [mt,ox]
  rw [this];have:=nj four tx
  omega
theorem qx:∀(k:Nat) (r tx:Str) (fs:List Fm) {gs:List Fm} {s:Str},oO k r tx fs=some (gs,s)→(mt gs).length+24*s.length≤(mt fs).length+2*tx.length+24*r.length
 | 0,_,_,_,_,_,h=>by cases h
 | _+1,[],_,_,_,_,h=>by cases h
 | k+1,c::r,tx,fs,gs,s,h=>by
  simp only [oO] at h;split at h
  ·injection h with h;injection h with h h';subst h;subst h'
   have:=uF tx fs
   omega
  ·split at h
   ·split at h
    ·rename_i p hp
     obtain⟨f,s'⟩:=p;have h1:=As hp;have h2:=qx k _ _ _ h;have h3:=uF tx fs;have h4:=CV (Ac hp).1;rw [Aj,Ig] at h2;have e:mt [f]=ox f:=by simp [mt]
     rw [e] at h2;simp only [H7,IE] at h2 ⊢;omega
    ·have h2:=qx k _ _ _ h
     simp at h2 ⊢;omega
   ·split at h
    ·have h2:=qx k _ _ _ h
     simp at h2 ⊢
     have:(min 1 r.length)≤1:=Nat.min_le_left _ _
     omega
    ·have h2:=qx k _ _ _ h
     simp at h2 ⊢;omega
theorem zd {r:Str} {gs:List Fm} {s:Str} (h:nP r [] []=some (gs,s)):(mt gs).length+24*s.length≤24*r.length:=by
 have:=qx _ _ _ _ h
 simpa [mt] using this
theorem GV {r:Str} {f:Tf} {s:Str} (h:nO r=some (f,s)) (hs:f.rx.tell.length≤256):(qK f).length+40*s.length≤40*r.length+101:=by
 cases r with
 | nil=>cases h
 | cons c r =>
  simp only [nO] at h;have h1:=tZ r [];split at h
  ·split at h
   ·cases h
   ·rename_i heq
    rw [heq] at h1;split at h
    ·cases h
    ·split at h
     ·cases h
     ·cases h
     ·rename_i heq2
      have h2:=zd heq2;have h3:=zk h;obtain⟨e1,e2⟩:=rG h;have h4:=zm f;have h5:=(oS _ _ _ _ heq2).1;unfold qK;rw [e2];simp only [H7,Ig] at *;omega
  ·cases h
theorem Am {r:Str} {x:Sn} {s:Str} (h:ni r=some (x,s)):(qg x.kind x.text x.n).length+4*s.length≤4*r.length:=by
 have hl:=mI h;unfold ni at h;split at h
 ·rename_i n r2 heq
  injection h with h;injection h with h h';subst h;subst h'
  have h1:=yb heq;have h2:=qL (n:=(n:Int)) gj gj;have e:qg (mT n).kind (mT n).text (mT n).n=dec n:=rfl;rw [e];omega
 ·unfold sQ at h
  split at h
  ·injection h with h;injection h with h h';subst h;subst h'
   have h1:=Hy List.length (Hz (p:=mW) (l:=r));rw [Ig] at h1;have e:qg (varS (r.takeWhile mW)).kind (varS (r.takeWhile mW)).text (varS (r.takeWhile mW)).n=r.takeWhile mW:=rfl;rw [e];omega
  ·cases h
theorem sK:∀a b:List Str,pb (a++b)=pb a+pb b
 | [],b=>by simp [pb]
 | x::a,b=>by simp only [IA,pb,sK a b];omega
theorem ul:∀(n:Nat) (r:Str) (o:List Str) (t:Str),r.length≤n→pb (optL r o t).1+2*(optL r o t).2.length≤pb o+2*t.length+1+2*r.length
 | _,[],o,t,_=>by simp [optL,sK,pb];omega
 | 0,_::_,_,_,h=>by simp at h
 | n+1,c::r,o,t,h=>by
  simp only [H7] at h;rw [mR];split
  ·simp [sK,pb];omega
  ·split
   ·have:=ul n r (o++[t]) [] gj
    simp only [sK,pb,IE,H7] at this ⊢;omega
   ·have hl:=(oz fiveS c r).length_le
    have:=ul n (nxtM fiveS (c::r)).2 o (t++[(nxtM fiveS (c::r)).1]) gj
    exact db
theorem GM {x:Sn} {r:Str} {y:Sn} {s:Str} (h:qM x r=some (y,s)):∃o,y=x.choose o∧(oZ o).length+2*s.length≤1+2*r.length:=by
 have h1:=ul _ r [] [] (Ia _);have h2:=vR (optL r [] []).1;unfold qM at h;split at h
 ·rename_i heq
  rw [heq] at h1;split at h
  ·injection h with h;injection h with h h';subst h'
   refine⟨_,h.symm,?_⟩;simp only [pb,IE,H7] at h1;omega
  ·cases h
 ·cases h
theorem Ap:∀a b:List Sn,Sn.tellL (a++b)=Sn.tellL a++Sn.tellL b
 | [],b=>by simp [Sn.tellL]
 | x::a,b=>by simp [Sn.tellL,Ap a b]
theorem xd:∀a b:List Sn,Sn.shortL (a++b)=(Sn.shortL a&&Sn.shortL b)
 | [],b=>by simp [Sn.shortL]
 | x::a,b=>by simp [Sn.shortL,xd a b,Bool.and_assoc]
theorem pV (t:Str):(Sn.tellL (lw [] t)).length≤2*t.length:=by
 unfold lw;split
 ·simp [Sn.tellL]
 ·have:=nj three t
  simpa [Sn.tellL,o7,Sn.tell] using this
theorem D0 {ps:Str→List Sn × Str} {x y:Sn} {r s:Str} (hx:Hd x) (hps:∀t,t.length<r.length→Sn.shortL (ps t).1=true→(Sn.tellL (ps t).1).length+40*(ps t).2.length≤40*t.length) (h:lc ps x r=some (y,s)) (hs:y.short=true) :
  y.tell.length+40*s.length≤(qg x.kind x.text x.n).length+40*r.length+104:=by
 cases r with
 | nil=>cases h
 | cons c r =>
  simp only [lc] at h;split at h
  ·injection h with h;injection h with h h';subst h;subst h'
   rcases hx with⟨n,_,rfl⟩|⟨t,_,rfl⟩<;>(simp [mT,varS,Sn.tell,Sn.kind,Sn.text,Sn.n];omega)
  ·split at h
   ·have hp:=hps r gz
    split at h
    ·cases h
    ·rename_i d r2 heq
     rw [heq] at hp;injection h with h;injection h with h h';subst h;subst h'
     rcases hx with⟨n,_,rfl⟩|⟨t,_,rfl⟩
     all_goals
      simp only [mT,varS,Sn.give,Sn.short,Ie] at hs;have hp':=hp hs.2;simp [mT,varS,Sn.give,Sn.tell,Sn.kind,Sn.text,Sn.n] at hp' ⊢
      omega
   ·split at h
    ·rename_i hk
     obtain⟨o,rfl,ho⟩:=GM h;rcases hx with⟨n,hn,rfl⟩|⟨t,_,rfl⟩
     ·simp [mT,Sn.choose,Sn.tell,Sn.kind,Sn.n,qg];omega
     ·exact absurd hk.2 (by decide:¬((3:Int)=1))
    ·split at h
     ·cases h
     ·rename_i f r2 heq
      injection h with h;injection h with h h';subst h;subst h'
      have hl:f.rx.tell.length≤256:=by
       rcases hx with⟨n,_,rfl⟩|⟨t,_,rfl⟩<;>(simp [mT,varS,Sn.turn,Sn.short,Sn.shortL] at hs;exact hs)
      have hf:=GV heq hl;rcases hx with⟨n,_,rfl⟩|⟨t,_,rfl⟩
      all_goals
       simp [mT,varS,Sn.turn,Sn.tell,Sn.kind,Sn.text,Sn.n] at hf ⊢
       omega
theorem Gg {r:Str} {x:Sn} {s:Str} (hps:∀t,t.length<r.length→Sn.shortL (kP true [] [] t).1=true→(Sn.tellL (kP true [] [] t).1).length+40*(kP true [] [] t).2.length≤40*t.length)
  (h:lI r=some (x,s)) (hs:x.short=true):x.tell.length+40*s.length≤40*(r.length+1):=by
 rw [oD] at h;cases r with
 | nil=>cases h
 | cons c r =>
  simp only [oq] at h;split at h
  ·split at h
   ·cases h
   ·rename_i y r2 heq
    have h1:=mI heq;have h2:=Am heq;have h3:=D0 (nT heq) (fun t ht=>hps t gD) h hs;simp;omega
  ·have h1:=mI h
   have h2:=Am h;have hx:=nT h;rcases hx with⟨n,_,rfl⟩|⟨t,_,rfl⟩
   all_goals
    simp [mT,varS,Sn.tell,Sn.kind,Sn.text,Sn.n] at h1 h2 ⊢
    omega
theorem zj:∀(N:Nat),(∀r x s,r.length≤N→lI r=some (x,s)→x.short=true→x.tell.length+40*s.length≤40*(r.length+1)) ∧
  (∀ins t r,r.length≤N→Sn.shortL (kP ins [] t r).1=true→(Sn.tellL (kP ins [] t r).1).length+40*(kP ins [] t r).2.length≤2*t.length+40*r.length)
 | 0=>by
  refine⟨fun r x s h hp=>?_,fun ins t r h _=>?_⟩
  ·exact bO
  ·have:r=[]:=Hv gj
   subst this;rw [lW];have:=pV t;simpa using this
 | N+1=>by
  obtain⟨ih1,ih2⟩:=zj N;have k1:∀r x s,r.length≤N+1→lI r=some (x,s)→x.short=true→x.tell.length+40*s.length≤40*(r.length+1):=fun r x s hr h=>Gg (fun t ht hs=>by have:=ih2 true [] t gj hs;simpa using this) h
  refine⟨k1,fun ins t r hr hs=>?_⟩;cases r with
  | nil=>rw [lW];have:=pV t;simpa using this
  | cons c r =>
   simp only [H7] at hr;rw [lF] at hs ⊢;split
   ·have:=pV t;simp;omega
   ·rename_i hb
    rw [Hx hb] at hs;split
    ·rename_i x r2 he
     rw [he] at hs;simp only at hs
     have hx:lI r=some (x,r2):=by
      exact cO
     rw [m9 ins r2.length (lw [] t++[x]) [] r2 (Ia _)] at hs ⊢;simp only [xd,Ie,Sn.shortL] at hs;have h1:=k1 r x r2 gj hx hs.1.2.1;have h2:=ih2 ins [] r2 (by have:=nA hx;omega) hs.2;have h3:=pV t;simp only [Ap,Sn.tellL,Ig,IK,H7,IE] at h2 ⊢;omega
    ·rename_i he
     rw [he] at hs;simp only at hs
     have hl:=(oz three c r).length_le;have:=ih2 ins (t++[(nxtM three (c::r)).1]) (nxtM three (c::r)).2 gj hs
     exact db
theorem snip_len {r:Str} (hs:Sn.shortL (mG r)=true):(Sn.tellL (mG r)).length≤40*r.length:=by
 rw [nW] at hs ⊢;have:=(zj r.length).2 false [] r (Ia _) hs
 simp at this;omega
def Wc:List Str→Nat
 | []=>0
 | p::r=>1+p.length+Wc r
theorem B4:∀{r r1:List Str},r1 <:+ r→Wc r1≤Wc r∧(r1.length<r.length→Wc r1+1≤Wc r)
 | [],r1,h=>by
  obtain rfl:=List.suffix_nil.1 h;exact⟨Ia _,fun h=>by simp at h⟩
 | p::r,r1,h=>by
  rcases List.suffix_cons_iff.1 h with rfl|h
  ·exact⟨Ia _,fun h=>by simp at h⟩
  ·obtain⟨i1,_⟩:=B4 h
   simp only [Wc];exact⟨by omega,fun _=>by omega⟩
theorem vp {c:Str} {r r1:List Str} (h:kN c r=some r1):Wc r=1+c.length+Wc r1:=by rw [mi h];rfl
theorem te:∀a b:List Row,rwt (a++b)=rwt a+rwt b
 | [],b=>by simp [rwt]
 | x::a,b=>by simp only [IA,rwt,te a b];omega
theorem rwt_perm {a b:List Row} (h:a.Perm b):rwt a=rwt b:=by
 induction h with
 | nil=>rfl
 | cons x _ ih=>simp only [rwt,ih]
 | swap x y l=>simp only [rwt];omega
 | trans _ _ h1 h2=>exact h1.trans h2
theorem xb (p:Row→Bool):∀a:List Row,rwt (a.filter p)≤rwt a
 | []=>by simp
 | x::a=>by
  have:=xb p a
  cases h:p x
  ·rw [List.filter_cons_of_neg (by simp [h])];simp only [rwt];omega
  ·rw [List.filter_cons_of_pos h];simp only [rwt];omega
theorem rwt_mrgS (out:List Row) (r:Row):rwt (mrgS out r)≤rwt out+rwt [r]:=by
 rcases List.eq_nil_or_concat out with rfl|⟨B,q,rfl⟩
 ·rw [tQ];simp [rwt]
 ·rw [List.concat_eq_append]
  cases hl:leS r.1 q.2 with
  | false=>rw [uq hl,te];exact Ia _
  | true =>
   rw [yp hl,te,te];have:(mxS q.2 r.2).length≤q.2.length+r.2.length:=by unfold mxS;split<;>omega
   simp only [rwt];omega
theorem Gu (rs:List Row):rwt (mJ rs)≤rwt rs:=by
 have h1:=rwt_perm (ru (filR rs)).1;have h2:=xb rowB rs;have key:∀(l out:List Row),rwt (l.foldl mrgS out)≤rwt out+rwt l:=by
  intro l;induction l with
  | nil=>intro out;simp [rwt]
  | cons r l ih =>
   intro out;have h3:=ih (mrgS out r);have h4:=rwt_mrgS out r;simp only [Iv,rwt] at h3 h4 ⊢;omega
 have h3:=key (stL (filR rs)) [];unfold mJ mrgL;unfold filR at h1 h3 ⊢;simp only [rwt] at h3;omega
theorem uy (b:UInt8):rwt (lQ b)≤12:=by
 unfold lQ;split
 ·decide
 split
 ·decide
 split
 ·decide
 ·decide
theorem Fw {r r1:List Str} {c:Str} {nm:List Row} (h:nv r=some (c,nm,r1)):rwt nm+1+2*c.length+16*Wc r1≤16*Wc r:=by
 cases r with
 | nil=>cases h
 | cons p r =>
  simp only [nv] at h;by_cases h1:p=[93]
  ·rw [Hu h1] at h;cases h
  rw [Hx h1] at h;by_cases h2:p=[92]
  ·rw [Hu h2] at h
   subst h2;cases r with
   | nil=>cases h
   | cons c2 r2 =>
    simp only at h
    cases hn:mS c2 with
    | some rows =>
     obtain⟨b,rfl,_,rfl⟩:=oT hn;simp only [hn] at h;injection h with h;injection h with h3 h;injection h with h4 h5
     subst h3 h4 h5;have:=uy b
     simp only [Wc,H7,IE];omega
    | none =>
     simp only [hn] at h;cases hpm:mj c2 with
     | none=>exact fO
     | some t =>
      have:=ri hpm
      simp only [hpm] at h;injection h with h;injection h with h3 h;injection h with h4 h5
      subst h3 h4 h5;simp only [Wc,rwt,H7,IE];omega
  ·rw [Hx h2] at h
   injection h with h;injection h with h3 h;injection h with h4 h5
   subst h3 h4 h5;simp only [Wc,rwt];omega
theorem vB:∀(n:Nat) (rows:List Row) (r:List Str) {rows':List Row} {r1:List Str},ly n rows r=some (rows',r1)→rwt rows'+32+16*Wc r1≤rwt rows+16*Wc r
 | 0,_,_,_,_,h=>by cases h
 | n+1,rows,r,rows',r1,h=>by
  simp only [ly] at h;cases ht:kN [93] r with
  | some r0 =>
   simp only [ht] at h;injection h with h;injection h with h1 h2
   subst h1 h2;have:=vp ht
   simp only [H7,IE] at this;omega
  | none =>
   simp only [ht] at h;cases hi:nv r with
   | none=>simp only [hi] at h;cases h
   | some y =>
    obtain⟨c,nm,r2⟩:=y;simp only [hi] at h;have f1:=Fw hi;by_cases hnm:nm≠[]
    ·rw [Hu hnm] at h
     have g:=vB n _ _ h;rw [te] at g;omega
    ·rw [Hx hnm] at h
     cases ht2:kN [45] r2 with
     | none =>
      simp only [ht2] at h;exact dy
     | some r3 =>
      have e3:=vp ht2;simp only [ht2] at h;by_cases ht3:kN [93] r3=none
      ·rw [Hu ht3] at h
       cases hi2:nv r3 with
       | none=>simp only [hi2] at h;cases h
       | some y =>
        obtain⟨t,nm2,r4⟩:=y;simp only [hi2] at h;have f2:=Fw hi2;by_cases hb:nm2≠[]∨Op.bytesLess t c=true
        ·rw [Hu hb] at h;cases h
        ·rw [Hx hb] at h
         exact dy
      ·rw [Hx ht3] at h
       exact dy
theorem o8 (k:Int) (c:Str) (ng:Bool) (rs:List Row) (lo hi:Int) (lz:Bool):(Rx.mk k c ng rs lo hi lz []).wt=1+c.length+rwt rs:=by simp only [Rx.wt,Rx.wtL];omega
theorem esc_wt {r r1:List Str} {x:Rx} (h:escM r=.ok (x,r1)):x.wt+16*Wc r1≤16*Wc r:=by
 cases r with
 | nil=>cases h
 | cons c r =>
  simp only [escM] at h;cases hn:mS c with
  | some rows =>
   obtain⟨b,rfl,_,rfl⟩:=oT hn;simp only [hn] at h;injection h with h;injection h with h1 h2;subst h1 h2
   have:=uy b
   unfold setR;rw [o8];simp only [Wc,H7,IE];omega
  | none =>
   simp only [hn] at h;cases hb:bigS c with
   | some rows =>
    simp only [hb] at h;injection h with h;injection h with h1 h2;subst h1 h2
    have hr:rwt rows≤12∧c.length=1:=by
     unfold bigS at hb;iterate 3 (split at hb;· rename_i hc;injection hb with hb;subst hb hc;exact⟨uy _,rfl⟩)
     cases hb
    unfold setR;rw [o8];simp only [Wc,IE];omega
   | none =>
    simp only [hb] at h;cases hp:mj c with
    | none=>simp only [hp] at h;cases h
    | some t =>
     have:=ri hp
     simp only [hp] at h;injection h with h;injection h with h1 h2;subst h1 h2
     unfold chrR;rw [o8];simp only [Wc,rwt];omega
theorem class_wt {r r1:List Str} {x:Rx} (h:mx r=.ok (x,r1)):x.wt+16*Wc r1≤16*Wc r:=by
 have hsx:((kN [94] r).getD r) <:+ r:=by
  exact cR
 unfold mx at h;generalize (kN [94] r).isSome=ng at h
 generalize (kN [94] r).getD r=r0 at h hsx
 simp only at h
 cases hc:ly (r0.length+1) [] r0 with
 | none=>simp only [hc] at h;cases h
 | some y =>
  obtain⟨rows,r2⟩:=y;simp only [hc] at h;injection h with h;injection h with h1 h2;subst h1 h2
  have g:=vB _ _ _ hc;have hu:=Gu rows;have:=(B4 hsx).1
  unfold setR;rw [o8];simp only [rwt,IE] at g ⊢;omega
def PatWt (pat:List Str→Nat→Res):Prop:=∀(r:List Str) (d:Nat) (x:Rx) (r1:List Str),pat r d=.ok (x,r1)→x.wt+16*Wc r1≤16*Wc r+8
theorem group_wt {pat:List Str→Nat→Res} (hp:PatWt pat) {r r1:List Str} {d:Nat} {x:Rx} (h:mw pat r d=.ok (x,r1)):x.wt+8+16*Wc r1≤16*Wc r:=by
 unfold mw at h;by_cases hd:16≤d
 ·exact dZ
 rw [Hx hd] at h;cases hk:nc r with
 | none=>exact d9
 | some y =>
  obtain⟨k,r0⟩:=y;obtain⟨k1,k2⟩:=nN hk;simp only [hk] at h;cases hx:pat r0 (d+1) with
  | error e=>exact cm
  | ok y =>
   obtain⟨z,r2⟩:=y;simp only [hx] at h;have f:=hp r0 (d+1) z r2 hx;have:=(B4 k1).1
   cases ht:kN [41] r2 with
   | none=>exact ea
   | some r3 =>
    simp only [ht] at h;injection h with h;injection h with h1 h2;subst h1 h2
    have e:=vp ht;unfold grpR;simp only [Rx.wt,Rx.wtL,rwt,H7,IE] at e ⊢;omega
theorem atom_wt {pat:List Str→Nat→Res} (hp:PatWt pat) {r r1:List Str} {d:Nat} {x:Rx} (h:lS pat r d=.ok (x,r1)):x.wt+8+16*Wc r1≤16*Wc r:=by
 cases r with
 | nil=>cases h
 | cons c r =>
  simp only [lS] at h;by_cases h1:c=[46]
  ·rw [Hu h1] at h;injection h with h;injection h with ha hb;subst ha hb;unfold rxK;rw [o8];subst h1;simp only [Wc,rwt,H7,IE];omega
  rw [Hx h1] at h;by_cases h2:c=[40]
  ·rw [Hu h2] at h;have:=group_wt hp h;simp only [Wc];omega
  rw [Hx h2] at h;by_cases h3:c=[91]
  ·rw [Hu h3] at h;have:=class_wt h;simp only [Wc];omega
  rw [Hx h3] at h;by_cases h4:c=[92]
  ·rw [Hu h4] at h;have:=esc_wt h;simp only [Wc];omega
  rw [Hx h4] at h;by_cases h5:ql c=true
  ·exact eb
  ·rw [Hx h5] at h;injection h with h;injection h with ha hb;subst ha hb;unfold chrR;rw [o8];simp only [Wc,rwt];omega
theorem edge_wt {r r1:List Str} {x:Rx} (h:mF r=some (x,r1)):x.wt+8+16*Wc r1≤16*Wc r:=by
 cases r with
 | nil=>cases h
 | cons c r =>
  simp only [mF] at h;by_cases h1:c=[94]
  ·rw [Hu h1] at h;injection h with h;injection h with ha hb;subst ha hb;subst h1;unfold rxK;rw [o8];simp only [Wc,rwt,H7,IE];omega
  rw [Hx h1] at h;by_cases h2:c=[36]
  ·rw [Hu h2] at h;injection h with h;injection h with ha hb;subst ha hb;subst h2;unfold rxK;rw [o8];simp only [Wc,rwt,H7,IE];omega
  rw [Hx h2] at h;by_cases h3:c=[92]
  ·rw [Hu h3] at h
   cases h4:kN [98] r with
   | some r2 =>
    have e:=vp h4;simp only [h4] at h;injection h with h;injection h with ha hb;subst ha hb;unfold rxK;rw [o8];simp only [Wc,rwt,IE];omega
   | none =>
    simp only [h4] at h;cases h5:kN [66] r with
    | some r2 =>
     have e:=vp h5;simp only [h5] at h;injection h with h;injection h with ha hb;subst ha hb;unfold rxK;rw [o8];simp only [Wc,rwt,IE];omega
    | none=>exact cY
  ·rw [Hx h3] at h;cases h
theorem term_wt {pat:List Str→Nat→Res} (hp:PatWt pat) {r r1:List Str} {d:Nat} {x:Rx} (h:lD pat r d=.ok (x,r1)):x.wt+16*Wc r1≤16*Wc r:=by
 unfold lD at h;cases he:mF r with
 | some y=>simp only [he] at h;injection h with h;subst h;have:=edge_wt he;omega
 | none =>
  simp only [he] at h;cases ha:lS pat r d with
  | error e=>exact ec
  | ok y =>
   obtain⟨w,r2⟩:=y;simp only [ha] at h;have g:=atom_wt hp ha;rcases qe h with⟨rfl,rfl⟩|⟨⟨lo,hi,lz,rfl⟩,hs,hl⟩
   ·omega
   ·have:=(B4 hs).2 hl
    unfold repR;simp only [Rx.wt,Rx.wtL,rwt,IE];omega
theorem xF:∀(a b:List Rx),Rx.wtL (a++b)=Rx.wtL a+Rx.wtL b
 | [],b=>by simp [Rx.wtL]
 | x::a,b=>by simp only [IA,Rx.wtL,xF a b];omega
theorem seqR_wt {ts:List Rx} (h:InvT ts):(seqR ts).wt≤1+Rx.wtL ts:=by
 have hf:lR 0 ts=ts:=mn fun y hy=>(h y hy).1
 unfold seqR;rw [hf];split
 ·simp only [Rx.wtL];omega
 ·unfold nw;simp only [Rx.wt,rwt,IE];omega
theorem altR_wt {al:List Rx} (h:InvA al):(altR al).wt≤1+Rx.wtL al:=by
 have hf:lR 1 al=al:=mn h;unfold altR;rw [hf];split
 ·unfold nw;simp only [Rx.wt,Rx.wtL,rwt,IE];omega
 ·simp only [Rx.wtL];omega
 ·unfold sD;simp only [Rx.wt,rwt,IE];omega
theorem A4 {f:List Str→Res} {R:Nat}:∀(k:Nat) (alts terms:List Rx) (r:List Str) {x:Rx} {r1:List Str},patL f k alts terms r=.ok (x,r1)→InvA alts→InvT terms→Rx.wtL alts+Rx.wtL terms+16*Wc r≤16*R →
  (∀r' y r2,f r'=.ok (y,r2)→(y.kind≠0∧y.kind≠1)∧y.wt+16*Wc r2≤16*Wc r')→x.wt+16*Wc r1≤16*R+8
 | 0,_,_,_,_,_,h,_,_,_,_=>by cases h
 | k+1,alts,terms,r,x,r1,h,iA,iT,hm,ht=>by
  have q:=seqR_wt iT;have iA2:InvA (alts++[seqR terms]):=iA.app fun y hy=>by rw [IC] at hy;rw [hy];exact(mK iT).1
  have fin:(altR (alts++[seqR terms])).wt+16*Wc r≤16*R+8:=by
   have p:=altR_wt iA2;rw [xF] at p;simp only [Rx.wtL] at p;omega
  cases r with
  | nil =>
   exact eF
  | cons c r =>
   simp only [patL] at h;by_cases h1:c=[41]
   ·exact eG
   rw [Hx h1] at h;by_cases h2:c=[124]
   ·rw [Hu h2] at h
    refine A4 k _ _ r h iA2 (fun y hy=>by cases hy) ?_ ht;rw [xF];simp only [Rx.wtL,Wc] at hm ⊢;omega
   rw [Hx h2] at h;cases hx:f (c::r) with
   | error e=>exact cm
   | ok y =>
    obtain⟨w,r2⟩:=y;simp only [hx] at h;obtain⟨s2,s3⟩:=ht _ _ _ hx;refine A4 k _ _ r2 h iA (iT.app fun y hy=>by rw [IC] at hy;rw [hy];exact s2) ?_ ht;rw [xF];simp only [Rx.wtL] at hm ⊢;omega
theorem pat_wt:∀(n:Nat),PatWt (patF n)
 | 0=>fun r d x r1 h=>by cases h
 | n+1=>fun r d x r1 h=>by
  have ih:=pat_wt n;have h':patL (fun r=>lD (patF n) r d) (r.length+1) [] [] r=.ok (x,r1):=h;exact A4 (f:=fun r=>lD (patF n) r d) _ [] [] r h' (fun y hy=>by cases hy) (fun y hy=>by cases hy) (by simp [Rx.wtL]) (fun r' y r2 hx=>⟨vN hx,term_wt ih hx⟩)
theorem Dd:∀(n:Nat) (s:Str),s.length≤n→Wc (kX s)≤2*s.length
 | _,[],_=>by simp [kX,ns,Wc]
 | 0,_::_,h=>by simp at h
 | n+1,c::r,h=>by
  have e:(r.takeWhile kI).length+(r.dropWhile kI).length=r.length:=by
   rw [←Ig,Hz]
  simp only [H7] at h;have ih:=Dd n (r.dropWhile kI) gj;rw [mQ];simp only [Wc,H7];omega
theorem read_wt {s:Str} {x:Rx} (h:qy s=.ok x):x.wt≤9000:=by
 obtain⟨a1,a2,a3⟩:=readM_ok.1 h;have h1:=pat_wt _ _ _ _ _ a3;have h2:=Dd _ s (Ia _);simp only [Wc] at h1;omega
theorem Ep {s:Str} {x:Rx} (h:qy s=.ok x):mayB x=true∧x.small∧x.parts≤9000∧x.tell.length≤200000:=by
 have h1:=read_wt h;obtain⟨h2,_,_⟩:=Cf h;have hwf:x.wf=true:=by
  have h:=h2;simp only [mayB,okB,Ie] at h;exact h.1.1
 have h3:=xU _ x (Ia _) hwf;have h4:=uk _ x (Ia _);exact⟨h2,xJ _ x (Ia _) gj,by omega,by omega⟩
open Go.RowKit
def thnB (B:Nat) (fs:List Fm):Prop:=∀f∈fs,f.thn.length≤B∧f.els.length≤B
theorem wH {B:Nat} {tx:Str} {fs:List Fm} (h:thnB B fs) (ht:tx.length≤B):thnB B (mB tx fs):=by
 unfold mB;split
 ·exact h
 ·intro f hf
  rcases IB.1 hf with hf|hf
  ·exact h f hf
  ·rw [IC] at hf;subst hf;exact⟨ht,by simp⟩
theorem qD (B:Nat):∀(k:Nat) (r tx:Str) (fs:List Fm) {gs:List Fm} {s:Str},oO k r tx fs=some (gs,s)→thnB B fs→tx.length+r.length≤B→thnB B gs
 | 0,_,_,_,_,_,h,_,_=>by cases h
 | _+1,[],_,_,_,_,h,_,_=>by cases h
 | k+1,c::r,tx,fs,gs,s,h,hf,hB=>by
  simp only [oO] at h;simp only [H7] at hB;split at h
  ·injection h with h;injection h with h h';subst h;subst h'
   exact wH hf gj
  ·split at h
   ·split at h
    ·rename_i p hp
     obtain⟨f,s'⟩:=p;have h1:=As hp;refine qD B k _ _ _ h ?_ gD;intro g hg;rcases IB.1 hg with hg|hg
     ·exact wH hf gj g hg
     ·rw [IC] at hg;subst hg
      exact⟨by omega,by omega⟩
    ·exact qD B k _ _ _ h hf gD
   ·split at h
    ·refine qD B k _ _ _ h hf ?_
     simp only [Ig,Is,Iy];have:(min 1 r.length)≤1:=Nat.min_le_left _ _
     omega
    ·exact qD B k _ _ _ h hf gD
theorem Em {r:Str} {f:Tf} {s:Str} (h:nO r=some (f,s)) (hr:r.length≤400):f.tiny:=by
 have hsm:=uA h gj;cases r with
 | nil=>cases h
 | cons c r =>
  simp only [nO] at h;split at h
  ·split at h
   ·cases h
   ·rename_i heq
    split at h
    ·cases h
    ·rename_i hx
     split at h
     ·cases h
     ·cases h
     ·rename_i heq2
      obtain⟨h1,h2⟩:=rG h;have h3:=pA _ _ _ _ heq2;have h4:=(sm r []).length_le;rw [heq] at h4;simp only [H7,IE] at h3 h4 hr;have h5:=qD 10000 _ _ _ _ heq2 (fun _ hg=>by cases hg) gD;have h6:=zd heq2;obtain⟨_,_,_,h7⟩:=Ep hx;refine⟨hsm,by rw [h2];omega,by rw [h2];exact h5,by rw [h1];omega,by rw [h2];omega⟩
  ·cases h
theorem zE:∀{o:List Str} {a:Str},a∈o→a.length≤pb o
 | b::l,a,h=>by
  simp only [pb];rcases Ii.1 h with rfl|h
  ·omega
  ·have:=zE h;omega
theorem Hd.tiny {x:Sn} (h:Hd x):x.tiny:=by
 rcases h with⟨n,_,rfl⟩|⟨t,ht,rfl⟩
 ·exact⟨sq,by simp,by simp,fun _ h=>by simp at h,by simp,trivial⟩
 ·refine⟨sq,?_,by simp,fun _ h=>by simp at h,by simp,trivial⟩
  exact dH
theorem Eg {t:Str} (h:t.length≤1000000):(o7 t).tiny:=⟨sq,h,by simp,fun _ h=>by simp at h,by simp,trivial⟩
theorem rz {t:Str} (h:t.length≤1000000):Sn.tinyL (lw [] t):=by
 unfold lw;split
 ·trivial
 ·exact⟨Eg h,trivial⟩
theorem tinyL_app:∀{a b:List Sn},Sn.tinyL (a++b)↔Sn.tinyL a∧Sn.tinyL b
 | [],b=>by simp [Sn.tinyL]
 | x::a,b=>by simp only [IA,Sn.tinyL,tinyL_app (a:=a),and_assoc]
theorem Bm {ps:Str→List Sn × Str} {x y:Sn} {r s:Str} (hx:Hd x) (hr:r.length≤400) (hps:∀t,t.length<r.length→Sn.tinyL (ps t).1∧(ps t).1.length≤1000000) (h:lc ps x r=some (y,s)):y.tiny:=by
 have hxt:=hx.tiny;cases r with
 | nil=>cases h
 | cons c r =>
  simp only [lc] at h;split at h
  ·injection h with h;injection h with h h';subst h;exact hxt
  ·split at h
   ·split at h
    ·cases h
    ·injection h with h;injection h with h h';subst h
     obtain⟨k,t,n,hh,u,f,o,l⟩:=x;obtain⟨h1,h2⟩:=hps r gz;obtain⟨a,b,c,d,_,_⟩:=hxt;exact⟨a,b,c,d,h2,h1⟩
   ·split at h
    ·unfold qM at h
     have hsum:=ul r.length r [] [] (Ia _);split at h
     ·rename_i heq
      split at h
      ·injection h with h;injection h with h h';subst h
       have:=tR r.length r [] [] (Ia _)
       simp at this hr
       simp only [pb,IE] at hsum;obtain⟨k,t,n,hh,u,f,o,l⟩:=x;obtain⟨a,b,c,d,e,g⟩:=hxt;exact⟨a,b,by omega,fun s hs=>by have:=zE hs;omega,e,g⟩
      ·cases h
     ·cases h
    ·split at h
     ·cases h
     ·rename_i heq
      injection h with h;injection h with h h';subst h
      obtain⟨k,t,n,hh,u,f,o,l⟩:=x;obtain⟨_,b,c,d,e,g⟩:=hxt;exact⟨Em heq hr,b,c,d,e,g⟩
theorem wI:∀(N:Nat),N≤400→(∀r x s,r.length≤N→lI r=some (x,s)→x.tiny)∧(∀ins t r,r.length≤N→t.length+r.length≤100000→Sn.tinyL (kP ins [] t r).1)
 | 0,_=>by
  refine⟨fun r x s h hp=>?_,fun ins t r h ht=>?_⟩
  ·exact bO
  ·have:r=[]:=Hv gj
   subst this;rw [lW];exact rz gj
 | N+1,hN=>by
  obtain⟨ih1,ih2⟩:=wI N gj;have k1:∀r x s,r.length≤N+1→lI r=some (x,s)→x.tiny:=fun r x s hr h=>by
   rw [oD] at h;cases r with
   | nil=>cases h
   | cons c r =>
    simp only [H7] at hr;simp only [oq] at h;split at h
    ·split at h
     ·cases h
     ·rename_i heq
      have h1:=mI heq;exact Bm (nT heq) gj (fun t ht=>⟨ih2 true [] t gj gD,by have:=sV true [] t;omega⟩) h
    ·exact(nT h).tiny
  refine⟨k1,fun ins t r hr ht=>?_⟩;cases r with
  | nil=>rw [lW];exact rz (by simp at ht;omega)
  | cons c r =>
   simp only [H7] at hr ht;rw [lF];split
   ·exact rz gj
   ·split
    ·rename_i x r2 he
     have hx:lI r=some (x,r2):=by
      exact cO
     have h1:=nA hx;rw [m9 ins r2.length (lw [] t++[x]) [] r2 (Ia _)];refine tinyL_app.2 ⟨tinyL_app.2 ⟨rz gj,k1 r x r2 gj hx,trivial⟩,ih2 ins [] r2 gj gD⟩
    ·exact dG
theorem EL {s:Str} (h:s.length≤400):Sn.tinyL (mG s):=by
 rw [nW];exact(wI s.length h).2 false [] s (Ia _) gD
open Go.RowKit Go.Maps Go.MapKept
theorem SRead_no {s:Str} {q:Int} (w:World) (hs:s.length≤1000000000) (h:qp s=.error q) :
  Calls Tryz.prog 13 #[.string ⟨s.toArray⟩] w fun e w'=>e=.returned (.tuple #[.slice none 0 0,.int .i64 q])∧Below w.heap.size w w':=by
 refine(zw s w hs).mono ?_
 rintro e w' ⟨h1,h2⟩;rw [h] at h2;exact⟨h2,h1⟩
theorem vL (s:Str) (w:World) (ht:Tab w) (hs:s.length≤maxLen):Calls Tryz.prog 4 #[.string ⟨s.toArray⟩] w fun e w'=>e=.returned (.bool true)∧Below w.heap.size w w':=by
 unfold maxLen at hs;have HAW:=ab qf;have HT:=ab ht;by_cases hl:s.length≤150
 ·have dg:decide ((150:Int)<(s.length:Int))=false:=Ix gj
  obtain⟨hg1,hg2,hg3,hg4⟩:=zy s;have hsm:=rB (s:=s) gj;have hti:=EL (s:=s) gj;have hlen:=snip_len (r:=s);obtain⟨L,hL⟩:∃L,mG s=L:=⟨_,rfl⟩;have hsn:qp s=if 32<Sn.deepL L then .error 8 else .ok L:=by unfold qp;rw [Hx gj,hL]
  rw [hL] at hg1 hg2 hg3 hg4 hsm hti hlen;by_cases hd:32<Sn.deepL L
  ·rw [Hu hd] at hsn
   have HR:=ab (fun w=>SRead_no (s:=s) w gj hsn);clear hg1 hg2 hg3 hg4 hsm hti hlen hL hsn hd ht;go_enter Tryz.func4,Tryz.ntmps4
   go_wp2_with (go_at_call 13;refine(HR.out _).mono ?_)
   first|rintro e w2 rfl hb2|rintro e w2 ⟨rfl,hb2⟩
   go_wp2_with (go_at_call 9;refine(HAW.out _ (HT.out.keep hb2)).mono ?_;rintro e w9 ⟨rfl,hb9⟩)
   go_ret
   exact⟨rfl,bel2 hb2 hb9⟩
  ·rw [Hx hd] at hsn
   have hmay:oB L=true:=by unfold oB;rw [hg1,hg2];simpa using (by omega:Sn.deepL L≤32)
   have HR:=ab (uD hsn gj);have HSH:=ab (fun S a c w h h'=>n9 S (Sn.partsL L+1) L gj hti hsm.2.1 hg2 a c w h h');cases hsh:Sn.shortL L with
   | false =>
    rw [hsh] at HSH;clear hg1 hg2 hg3 hg4 hsm hti hlen hL hsn hd ht hmay hsh;go_enter Tryz.func4,Tryz.ntmps4
    go_wp2_with (go_at_call 13;refine(HR.out _ _ rfl).mono ?_)
    rintro e w2 ⟨a2,c2,rfl,hb2,hs2⟩;have HS2:=ab (HSH.out _ a2 c2 w2 hs2 (HT.out.keep hb2));clear hs2;go_wp2_with (go_at_call 12;refine HS2.out.mono ?_)
    first|rintro e w3 rfl hb3|rintro e w3 ⟨rfl,hb3⟩
    have hbw3:=bel2 hb2 hb3;exact bU
   | true =>
    rw [hsh] at HSH;have htl:=hlen hsh;have hS:=fun(a:Option Addr) (c:Nat) (w':World) (hb:Below w.heap.size w w') (hx:SnSl w' Any a L.length L)=>np (fun b=>b<w'.heap.size) L hti hsm.2.1 hmay gj a c w' (fun _ h=>h) (ht.keep hb) (hx.mono (fun _ _ h=>h))
    have hrd:=sL hmay hsh gj;obtain⟨T,hT⟩:∃T,Sn.tellL L=T:=⟨_,rfl⟩;rw [hT] at hS hrd htl;have HS:=ab hS;have HRD:=ab (uD hrd gj);have HSM:=ab (Hh hsm.1 hsm.2.1);have hTl:T.length≤6000:=gj;clear hg1 hg2 hg3 hg4 hsm hti hlen hL hsn hd ht hmay hsh htl hS hrd hT;go_enter Tryz.func4,Tryz.ntmps4
    go_wp2_with (go_at_call 13;refine(HR.out _ _ rfl).mono ?_)
    rintro e w2 ⟨a2,c2,rfl,hb2,hs2⟩;have HS2:=ab (HSH.out _ a2 c2 w2 hs2 (HT.out.keep hb2));have HX2:=ab (hs2.mono (fun _ _ _=>trivial):SnSl w2 Any a2 L.length L);clear hs2;go_wp2_with (go_at_call 12;refine HS2.out.mono ?_)
    first|rintro e w3 rfl hb3|rintro e w3 ⟨rfl,hb3⟩
    have hbw3:=bel2 hb2 hb3;have HC3:=ab (HS.out a2 c2 w3 hbw3 (HX2.out.later hb3));go_wp2_with (go_at_call 10;refine HC3.out.mono ?_)
    first|rintro e w4 rfl hb4|rintro e w4 ⟨rfl,hb4⟩
    have hbw4:=bel2 hbw3 hb4;have HX4:=ab (HX2.out.later (bel2 hb3 hb4));clear hb3 hb4 hbw3;go_wp2_with (go_at_call 13;refine(HRD.out _ _ rfl).mono ?_)
    rintro e w5 ⟨a5,c5,rfl,hb5,hs5⟩;have hbw5:=bel2 hbw4 hb5;have HX5:=ab (hs5.mono (fun _ _ _=>trivial):SnSl w5 Any a5 L.length L);have HC5:=ab (HS.out a5 c5 w5 hbw5 HX5.out);have HY5:=ab (HX4.out.later hb5);clear hs5 hb5 hbw4;go_wp2_with (go_at_call 10;refine HC5.out.mono ?_)
    first|rintro e w6 rfl hb6|rintro e w6 ⟨rfl,hb6⟩
    have hbw6:=bel2 hbw5 hb6;have HS6:=ab (HSM.out _ _ a2 a5 c2 c5 w6 (HY5.out.later hb6) (HX5.out.later hb6));clear hb6 hbw5;go_wp2_with (go_at_call 14;refine HS6.out.mono ?_)
    first|rintro e w7 rfl hb7|rintro e w7 ⟨rfl,hb7⟩
    have hbw7:=bel2 hbw6 hb7;go_wp2_with (go_at_call 9;refine(HAW.out _ (HT.out.keep hbw7)).mono ?_;rintro e w9 ⟨rfl,hb9⟩)
    go_ret
    exact⟨rfl,bel2 hbw7 hb9⟩
 ·have dg:decide ((150:Int)<(s.length:Int))=true:=Iw gj
  clear ht;go_enter Tryz.func4,Tryz.ntmps4
  go_wp2_with (go_at_call 9;refine(HAW.out _ HT.out).mono ?_;rintro e w9 ⟨rfl,hb9⟩)
  go_ret
  exact⟨rfl,hb9⟩
end Go.Proofs.YtdcnncgpomcaaaaGreatDoor
