/- How long what is told of a snippet that was read is: plain laws. -/
import Derived.Test.YtdcnncgpomcaaaaGreatDoorRc0b
import Derived.Test.YtdcnncgpomcaaaaGreatDoorRc34
import Derived.Test.YtdcnncgpomcaaaaGreatDoorRc36
import Derived.Test.YtdcnncgpomcaaaaGreatDoorRc33
set_option maxRecDepth 100000
namespace Go.Proofs.YtdcnncgpomcaaaaGreatDoor
theorem qe (one:Int):∀(r t:Str) {u s:Str},lH one r t=some (u,s)→u.length+s.length≤t.length+r.length
 | [],t,u,s,h=>by simp [lH] at h
 | [c],t,u,s,h=>by
  simp only [lH] at h;split at h
  ·injection h with h;injection h with h h';subst h;subst h';simp
  ·cases h
 | c::d::r,t,u,s,h=>by
  simp only [lH] at h;split at h
  ·injection h with h;injection h with h h';subst h;subst h';simp
  ·split at h
   ·have:=qe one r _ h;simp at this ⊢;omega
   ·have:=qe one (d::r) _ h;simp at this ⊢;omega
theorem B8 {r:Str} {n:Nat} {f:Fm} {s:Str} (h:mo r n=some (f,s)):f.thn.length+f.els.length+s.length≤r.length:=by
 have hl:=vy h;cases r with
 | nil=>cases h
 | cons c r =>
  simp only [mo] at h;split at h
  ·split at h
   ·cases h
   ·split at h
    ·cases h
    ·injection h with h;injection h with h h';subst h;subst h';simp at hl ⊢;omega
  ·split at h
   ·exact cm
   ·split at h
    ·split at h
     ·rename_i heq
      have h1:=qe _ _ _ heq;split at h
      ·rename_i heq2
       have h2:=qe _ _ _ heq2;injection h with h;injection h with h h';subst h;subst h';simp at h1 h2 ⊢;omega
      ·cases h
     ·cases h
    ·split at h
     ·exact cm
     ·exact cm
theorem AT {r:Str} {f:Fm} {s:Str} (h:o6 r=some (f,s)):f.thn.length+f.els.length+s.length+1≤r.length:=by
 have hl:=rD h;unfold o6 at h;split at h
 ·injection h with h;injection h with h h';subst h;subst h';simp;omega
 ·unfold Cq at h
  cases r with
  | nil=>cases h
  | cons c r =>
   simp only at h
   split at h
   ·split at h
    ·cases h
    ·rename_i p hp
     have h1:=vl (m:=p.1) (s:=p.2) hp;unfold uf at h;split at h
     ·cases h
     ·rename_i heq
      rw [heq] at h1;split at h
      ·injection h with h;injection h with h h';subst h;subst h';simp at hl ⊢;omega
      ·split at h
       ·have:=B8 h;simp at h1 ⊢;omega
       ·cases h
   ·cases h
theorem Am (a b:List Fm):mN (a++b)=mN a++mN b:=by simp [mN]
theorem wL (tx:Str) (fs:List Fm):(mN (m9 tx fs)).length≤(mN fs).length+2*tx.length:=by
 unfold m9;split
 ·omega
 ·rw [Am,JA]
  have:mN [(⟨0,0,0,tx,[]⟩:Fm)]=quot four tx:=by simp [mN,o4]
  rw [this];have:=nV four tx
  omega
theorem rG:∀(k:Nat) (r tx:Str) (fs:List Fm) {gs:List Fm} {s:Str},pE k r tx fs=some (gs,s)→(mN gs).length+24*s.length≤(mN fs).length+2*tx.length+24*r.length
 | 0,_,_,_,_,_,h=>by cases h
 | _+1,[],_,_,_,_,h=>by cases h
 | k+1,c::r,tx,fs,gs,s,h=>by
  simp only [pE] at h;split at h
  ·injection h with h;injection h with h h';subst h;subst h'
   have:=wL tx fs
   omega
  ·split at h
   ·split at h
    ·rename_i p hp
     obtain⟨f,s'⟩:=p;have h1:=AT hp;have h2:=rG k _ _ _ h;have h3:=wL tx fs;have h4:=DS (BR hp).1;rw [Am,JA] at h2;have e:mN [f]=o4 f:=by simp [mN]
     rw [e] at h2;simp only [Jr,J0] at h2 ⊢;omega
    ·have h2:=rG k _ _ _ h
     simp at h2 ⊢;omega
   ·split at h
    ·have h2:=rG k _ _ _ h
     simp at h2 ⊢
     have:(min 1 r.length)≤1:=Nat.min_le_left _ _
     omega
    ·have h2:=rG k _ _ _ h
     simp at h2 ⊢;omega
theorem Bz {r:Str} {gs:List Fm} {s:Str} (h:oB r [] []=some (gs,s)):(mN gs).length+24*s.length≤24*r.length:=by
 have:=rG _ _ _ _ h
 simpa [mN] using this
theorem Av {r:Str} {x:Sn} {s:Str} (h:nD r=some (x,s)):(pK x.kind x.text x.n).length+4*s.length≤4*r.length:=by
 have hl:=mD h;unfold nD at h;split at h
 ·rename_i n r2 heq
  injection h with h;injection h with h h';subst h;subst h'
  have h1:=yQ heq;have h2:=rm (n:=(n:Int)) gN gN;have e:pK (no n).kind (no n).text (no n).n=dec n:=rfl;rw [e];omega
 ·unfold tS at h
  split at h
  ·injection h with h;injection h with h h';subst h;subst h'
   have h1:=Jp List.length (Jq (p:=ny) (l:=r));rw [JA] at h1;have e:pK (varS (r.takeWhile ny)).kind (varS (r.takeWhile ny)).text (varS (r.takeWhile ny)).n=r.takeWhile ny:=rfl;rw [e];omega
  ·cases h
theorem tH:∀a b:List Str,pV (a++b)=pV a+pV b
 | [],b=>by simp [pV]
 | x::a,b=>by simp only [JW,pV,tH a b];omega
theorem vg:∀(n:Nat) (r:Str) (o:List Str) (t:Str),r.length≤n→pV (optL r o t).1+2*(optL r o t).2.length≤pV o+2*t.length+1+2*r.length
 | _,[],o,t,_=>by simp [optL,tH,pV];omega
 | 0,_::_,_,_,h=>by simp at h
 | n+1,c::r,o,t,h=>by
  simp only [Jr] at h;rw [nG];split
  ·simp [tH,pV];omega
  ·split
   ·have:=vg n r (o++[t]) [] gN
    simp only [tH,pV,J0,Jr] at this ⊢;omega
   ·have hl:=(o9 fiveS c r).length_le
    have:=vg n (nxtM fiveS (c::r)).2 o (t++[(nxtM fiveS (c::r)).1]) gN
    exact cC
theorem F9 {x:Sn} {r:Str} {y:Sn} {s:Str} (h:re x r=some (y,s)):∃o,y=x.choose o∧(pb o).length+2*s.length≤1+2*r.length:=by
 have h1:=vg _ r [] [] (Ju _);have h2:=wK (optL r [] []).1;unfold re at h;split at h
 ·rename_i heq
  rw [heq] at h1;split at h
  ·injection h with h;injection h with h h';subst h'
   refine⟨_,h.symm,?_⟩;simp only [pV,J0,Jr] at h1;omega
  ·cases h
 ·cases h
theorem Ax:∀a b:List Sn,Sn.tellL (a++b)=Sn.tellL a++Sn.tellL b
 | [],b=>by simp [Sn.tellL]
 | x::a,b=>by simp [Sn.tellL,Ax a b]
theorem qB (t:Str):(Sn.tellL (lO [] t)).length≤2*t.length:=by
 unfold lO;split
 ·simp [Sn.tellL]
 ·have:=nV three t
  simpa [Sn.tellL,pM,Sn.tell] using this
def Wc:List Str→Nat
 | []=>0
 | p::r=>1+p.length+Wc r
theorem Ds:∀{r r1:List Str},r1 <:+ r→Wc r1≤Wc r∧(r1.length<r.length→Wc r1+1≤Wc r)
 | [],r1,h=>by
  obtain rfl:=List.suffix_nil.1 h;exact⟨Ju _,fun h=>by simp at h⟩
 | p::r,r1,h=>by
  rcases List.suffix_cons_iff.1 h with rfl|h
  ·exact⟨Ju _,fun h=>by simp at h⟩
  ·obtain⟨i1,_⟩:=Ds h
   simp only [Wc];exact⟨by omega,fun _=>by omega⟩
theorem vT {c:Str} {r r1:List Str} (h:lq c r=some r1):Wc r=1+c.length+Wc r1:=by rw [mO h];rfl
theorem uh:∀a b:List Row,rwt (a++b)=rwt a+rwt b
 | [],b=>by simp [rwt]
 | x::a,b=>by simp only [JW,rwt,uh a b];omega
theorem rwt_perm {a b:List Row} (h:a.Perm b):rwt a=rwt b:=by
 induction h with
 | nil=>rfl
 | cons x _ ih=>simp only [rwt,ih]
 | swap x y l=>simp only [rwt];omega
 | trans _ _ h1 h2=>exact h1.trans h2
theorem xK (p:Row→Bool):∀a:List Row,rwt (a.filter p)≤rwt a
 | []=>by simp
 | x::a=>by
  have:=xK p a
  cases h:p x
  ·rw [List.filter_cons_of_neg (by simp [h])];simp only [rwt];omega
  ·rw [List.filter_cons_of_pos h];simp only [rwt];omega
theorem rwt_mrgS (out:List Row) (r:Row):rwt (mrgS out r)≤rwt out+rwt [r]:=by
 rcases List.eq_nil_or_concat out with rfl|⟨B,q,rfl⟩
 ·rw [uZ];simp [rwt]
 ·rw [List.concat_eq_append]
  cases hl:leS r.1 q.2 with
  | false=>rw [vE hl,uh];exact Ju _
  | true =>
   rw [zC hl,uh,uh];have:(mxS q.2 r.2).length≤q.2.length+r.2.length:=by unfold mxS;split<;>omega
   simp only [rwt];omega
theorem IW (rs:List Row):rwt (nk rs)≤rwt rs:=by
 have h1:=rwt_perm (sa (filR rs)).1;have h2:=xK rowB rs;have key:∀(l out:List Row),rwt (l.foldl mrgS out)≤rwt out+rwt l:=by
  intro l;induction l with
  | nil=>intro out;simp [rwt]
  | cons r l ih =>
   intro out;have h3:=ih (mrgS out r);have h4:=rwt_mrgS out r;simp only [JQ,rwt] at h3 h4 ⊢;omega
 have h3:=key (stL (filR rs)) [];unfold nk mrgL;unfold filR at h1 h3 ⊢;simp only [rwt] at h3;omega
theorem wv (b:UInt8):rwt (mh b)≤12:=by
 unfold mh;split
 ·decide
 split
 ·decide
 split
 ·decide
 ·decide
theorem H9 {r r1:List Str} {c:Str} {nm:List Row} (h:og r=some (c,nm,r1)):rwt nm+1+2*c.length+16*Wc r1≤16*Wc r:=by
 cases r with
 | nil=>cases h
 | cons p r =>
  simp only [og] at h;by_cases h1:p=[93]
  ·rw [Jl h1] at h;cases h
  rw [Jo h1] at h;by_cases h2:p=[92]
  ·rw [Jl h2] at h
   subst h2;cases r with
   | nil=>cases h
   | cons c2 r2 =>
    simp only at h
    cases hn:nF c2 with
    | some rows =>
     obtain⟨b,rfl,_,rfl⟩:=pq hn;simp only [hn] at h;injection h with h;injection h with h3 h;injection h with h4 h5
     subst h3 h4 h5;have:=wv b
     simp only [Wc,Jr,J0];omega
    | none =>
     simp only [hn] at h;cases hpm:mR c2 with
     | none=>exact gq
     | some t =>
      have:=rW hpm
      simp only [hpm] at h;injection h with h;injection h with h3 h;injection h with h4 h5
      subst h3 h4 h5;simp only [Wc,rwt,Jr,J0];omega
  ·rw [Jo h2] at h
   injection h with h;injection h with h3 h;injection h with h4 h5
   subst h3 h4 h5;simp only [Wc,rwt];omega
theorem vX:∀(n:Nat) (rows:List Row) (r:List Str) {rows':List Row} {r1:List Str},lV n rows r=some (rows',r1)→rwt rows'+32+16*Wc r1≤rwt rows+16*Wc r
 | 0,_,_,_,_,h=>by cases h
 | n+1,rows,r,rows',r1,h=>by
  simp only [lV] at h;cases ht:lq [93] r with
  | some r0 =>
   simp only [ht] at h;injection h with h;injection h with h1 h2
   subst h1 h2;have:=vT ht
   simp only [Jr,J0] at this;omega
  | none =>
   simp only [ht] at h;cases hi:og r with
   | none=>simp only [hi] at h;cases h
   | some y =>
    obtain⟨c,nm,r2⟩:=y;simp only [hi] at h;have f1:=H9 hi;by_cases hnm:nm≠[]
    ·rw [Jl hnm] at h
     have g:=vX n _ _ h;rw [uh] at g;omega
    ·rw [Jo hnm] at h
     cases ht2:lq [45] r2 with
     | none =>
      simp only [ht2] at h;exact dG
     | some r3 =>
      have e3:=vT ht2;simp only [ht2] at h;by_cases ht3:lq [93] r3=none
      ·rw [Jl ht3] at h
       cases hi2:og r3 with
       | none=>simp only [hi2] at h;cases h
       | some y =>
        obtain⟨t,nm2,r4⟩:=y;simp only [hi2] at h;have f2:=H9 hi2;by_cases hb:nm2≠[]∨Op.bytesLess t c=true
        ·rw [Jl hb] at h;cases h
        ·rw [Jo hb] at h
         exact dG
      ·rw [Jo ht3] at h
       exact dG
theorem pT (k:Int) (c:Str) (ng:Bool) (rs:List Row) (lo hi:Int) (lz:Bool):(Rx.mk k c ng rs lo hi lz []).wt=1+c.length+rwt rs:=by simp only [Rx.wt,Rx.wtL];omega
theorem esc_wt {r r1:List Str} {x:Rx} (h:escM r=.ok (x,r1)):x.wt+16*Wc r1≤16*Wc r:=by
 cases r with
 | nil=>cases h
 | cons c r =>
  simp only [escM] at h;cases hn:nF c with
  | some rows =>
   obtain⟨b,rfl,_,rfl⟩:=pq hn;simp only [hn] at h;injection h with h;injection h with h1 h2;subst h1 h2
   have:=wv b
   unfold setR;rw [pT];simp only [Wc,Jr,J0];omega
  | none =>
   simp only [hn] at h;cases hb:bigS c with
   | some rows =>
    simp only [hb] at h;injection h with h;injection h with h1 h2;subst h1 h2
    have hr:rwt rows≤12∧c.length=1:=by
     unfold bigS at hb;iterate 3 (split at hb;· rename_i hc;injection hb with hb;subst hb hc;exact⟨wv _,rfl⟩)
     cases hb
    unfold setR;rw [pT];simp only [Wc,J0];omega
   | none =>
    simp only [hb] at h;cases hp:mR c with
    | none=>simp only [hp] at h;cases h
    | some t =>
     have:=rW hp
     simp only [hp] at h;injection h with h;injection h with h1 h2;subst h1 h2
     unfold chrR;rw [pT];simp only [Wc,rwt];omega
theorem class_wt {r r1:List Str} {x:Rx} (h:mY r=.ok (x,r1)):x.wt+16*Wc r1≤16*Wc r:=by
 have hsx:((lq [94] r).getD r) <:+ r:=by
  exact cX
 unfold mY at h;generalize (lq [94] r).isSome=ng at h
 generalize (lq [94] r).getD r=r0 at h hsx
 simp only at h
 cases hc:lV (r0.length+1) [] r0 with
 | none=>simp only [hc] at h;cases h
 | some y =>
  obtain⟨rows,r2⟩:=y;simp only [hc] at h;injection h with h;injection h with h1 h2;subst h1 h2
  have g:=vX _ _ _ hc;have hu:=IW rows;have:=(Ds hsx).1
  unfold setR;rw [pT];simp only [rwt,J0] at g ⊢;omega
def PatWt (pat:List Str→Nat→Res):Prop:=∀(r:List Str) (d:Nat) (x:Rx) (r1:List Str),pat r d=.ok (x,r1)→x.wt+16*Wc r1≤16*Wc r+8
theorem group_wt {pat:List Str→Nat→Res} (hp:PatWt pat) {r r1:List Str} {d:Nat} {x:Rx} (h:mZ pat r d=.ok (x,r1)):x.wt+8+16*Wc r1≤16*Wc r:=by
 unfold mZ at h;by_cases hd:16≤d
 ·exact el
 rw [Jo hd] at h;cases hk:nP r with
 | none=>exact em
 | some y =>
  obtain⟨k,r0⟩:=y;obtain⟨k1,k2⟩:=oF hk;simp only [hk] at h;cases hx:pat r0 (d+1) with
  | error e=>exact ct
  | ok y =>
   obtain⟨z,r2⟩:=y;simp only [hx] at h;have f:=hp r0 (d+1) z r2 hx;have:=(Ds k1).1
   cases ht:lq [41] r2 with
   | none=>exact en
   | some r3 =>
    simp only [ht] at h;injection h with h;injection h with h1 h2;subst h1 h2
    have e:=vT ht;unfold grpR;simp only [Rx.wt,Rx.wtL,rwt,Jr,J0] at e ⊢;omega
theorem atom_wt {pat:List Str→Nat→Res} (hp:PatWt pat) {r r1:List Str} {d:Nat} {x:Rx} (h:mj pat r d=.ok (x,r1)):x.wt+8+16*Wc r1≤16*Wc r:=by
 cases r with
 | nil=>cases h
 | cons c r =>
  simp only [mj] at h;by_cases h1:c=[46]
  ·rw [Jl h1] at h;injection h with h;injection h with ha hb;subst ha hb;unfold rxK;rw [pT];subst h1;simp only [Wc,rwt,Jr,J0];omega
  rw [Jo h1] at h;by_cases h2:c=[40]
  ·rw [Jl h2] at h;have:=group_wt hp h;simp only [Wc];omega
  rw [Jo h2] at h;by_cases h3:c=[91]
  ·rw [Jl h3] at h;have:=class_wt h;simp only [Wc];omega
  rw [Jo h3] at h;by_cases h4:c=[92]
  ·rw [Jl h4] at h;have:=esc_wt h;simp only [Wc];omega
  rw [Jo h4] at h;by_cases h5:qZ c=true
  ·exact eo
  ·rw [Jo h5] at h;injection h with h;injection h with ha hb;subst ha hb;unfold chrR;rw [pT];simp only [Wc,rwt];omega
theorem edge_wt {r r1:List Str} {x:Rx} (h:ni r=some (x,r1)):x.wt+8+16*Wc r1≤16*Wc r:=by
 cases r with
 | nil=>cases h
 | cons c r =>
  simp only [ni] at h;by_cases h1:c=[94]
  ·rw [Jl h1] at h;injection h with h;injection h with ha hb;subst ha hb;subst h1;unfold rxK;rw [pT];simp only [Wc,rwt,Jr,J0];omega
  rw [Jo h1] at h;by_cases h2:c=[36]
  ·rw [Jl h2] at h;injection h with h;injection h with ha hb;subst ha hb;subst h2;unfold rxK;rw [pT];simp only [Wc,rwt,Jr,J0];omega
  rw [Jo h2] at h;by_cases h3:c=[92]
  ·rw [Jl h3] at h
   cases h4:lq [98] r with
   | some r2 =>
    have e:=vT h4;simp only [h4] at h;injection h with h;injection h with ha hb;subst ha hb;unfold rxK;rw [pT];simp only [Wc,rwt,J0];omega
   | none =>
    simp only [h4] at h;cases h5:lq [66] r with
    | some r2 =>
     have e:=vT h5;simp only [h5] at h;injection h with h;injection h with ha hb;subst ha hb;unfold rxK;rw [pT];simp only [Wc,rwt,J0];omega
    | none=>exact dh
  ·rw [Jo h3] at h;cases h
theorem term_wt {pat:List Str→Nat→Res} (hp:PatWt pat) {r r1:List Str} {d:Nat} {x:Rx} (h:lZ pat r d=.ok (x,r1)):x.wt+16*Wc r1≤16*Wc r:=by
 unfold lZ at h;cases he:ni r with
 | some y=>simp only [he] at h;injection h with h;subst h;have:=edge_wt he;omega
 | none =>
  simp only [he] at h;cases ha:mj pat r d with
  | error e=>exact ep
  | ok y =>
   obtain⟨w,r2⟩:=y;simp only [ha] at h;have g:=atom_wt hp ha;rcases qE h with⟨rfl,rfl⟩|⟨⟨lo,hi,lz,rfl⟩,hs,hl⟩
   ·omega
   ·have:=(Ds hs).2 hl
    unfold repR;simp only [Rx.wt,Rx.wtL,rwt,J0];omega
theorem zY:∀(a b:List Rx),Rx.wtL (a++b)=Rx.wtL a+Rx.wtL b
 | [],b=>by simp [Rx.wtL]
 | x::a,b=>by simp only [JW,Rx.wtL,zY a b];omega
theorem seqR_wt {ts:List Rx} (h:InvT ts):(seqR ts).wt≤1+Rx.wtL ts:=by
 have hf:mi 0 ts=ts:=mT fun y hy=>(h y hy).1
 unfold seqR;rw [hf];split
 ·simp only [Rx.wtL];omega
 ·unfold ow;simp only [Rx.wt,rwt,J0];omega
theorem altR_wt {al:List Rx} (h:InvA al):(altR al).wt≤1+Rx.wtL al:=by
 have hf:mi 1 al=al:=mT h;unfold altR;rw [hf];split
 ·unfold ow;simp only [Rx.wt,Rx.wtL,rwt,J0];omega
 ·simp only [Rx.wtL];omega
 ·unfold tR;simp only [Rx.wt,rwt,J0];omega
theorem CP {f:List Str→Res} {R:Nat}:∀(k:Nat) (alts terms:List Rx) (r:List Str) {x:Rx} {r1:List Str},patL f k alts terms r=.ok (x,r1)→InvA alts→InvT terms→Rx.wtL alts+Rx.wtL terms+16*Wc r≤16*R →
  (∀r' y r2,f r'=.ok (y,r2)→(y.kind≠0∧y.kind≠1)∧y.wt+16*Wc r2≤16*Wc r')→x.wt+16*Wc r1≤16*R+8
 | 0,_,_,_,_,_,h,_,_,_,_=>by cases h
 | k+1,alts,terms,r,x,r1,h,iA,iT,hm,ht=>by
  have q:=seqR_wt iT;have iA2:InvA (alts++[seqR terms]):=iA.app fun y hy=>by rw [JY] at hy;rw [hy];exact(np iT).1
  have fin:(altR (alts++[seqR terms])).wt+16*Wc r≤16*R+8:=by
   have p:=altR_wt iA2;rw [zY] at p;simp only [Rx.wtL] at p;omega
  cases r with
  | nil =>
   exact eS
  | cons c r =>
   simp only [patL] at h;by_cases h1:c=[41]
   ·exact eV
   rw [Jo h1] at h;by_cases h2:c=[124]
   ·rw [Jl h2] at h
    refine CP k _ _ r h iA2 (fun y hy=>by cases hy) ?_ ht;rw [zY];simp only [Rx.wtL,Wc] at hm ⊢;omega
   rw [Jo h2] at h;cases hx:f (c::r) with
   | error e=>exact ct
   | ok y =>
    obtain⟨w,r2⟩:=y;simp only [hx] at h;obtain⟨s2,s3⟩:=ht _ _ _ hx;refine CP k _ _ r2 h iA (iT.app fun y hy=>by rw [JY] at hy;rw [hy];exact s2) ?_ ht;rw [zY];simp only [Rx.wtL] at hm ⊢;omega
theorem G7:∀(n:Nat),PatWt (patF n)
 | 0=>fun r d x r1 h=>by cases h
 | n+1=>fun r d x r1 h=>by
  have ih:=G7 n;have h':patL (fun r=>lZ (patF n) r d) (r.length+1) [] [] r=.ok (x,r1):=h;exact CP (f:=fun r=>lZ (patF n) r d) _ [] [] r h' (fun y hy=>by cases hy) (fun y hy=>by cases hy) (by simp [Rx.wtL]) (fun r' y r2 hx=>⟨vO hx,term_wt ih hx⟩)
theorem yN:∀(n:Nat) (s:Str),s.length≤n→Wc (lA s)≤2*s.length
 | _,[],_=>by simp [lA,n8,Wc]
 | 0,_::_,h=>by simp at h
 | n+1,c::r,h=>by
  have e:(r.takeWhile lf).length+(r.dropWhile lf).length=r.length:=by
   rw [←JA,Jq]
  simp only [Jr] at h;have ih:=yN n (r.dropWhile lf) gN;rw [nh];simp only [Wc,Jr];omega
theorem read_wt {s:Str} {x:Rx} (h:qU s=.ok x):x.wt≤9000:=by
 obtain⟨a1,a2,a3⟩:=readM_ok.1 h;have h1:=G7 _ _ _ _ _ a3;have h2:=yN _ s (Ju _);simp only [Wc] at h1;omega
theorem FK {s:Str} {x:Rx} (h:qU s=.ok x):mayB x=true∧x.small∧x.parts≤9000∧x.tell.length≤200000:=by
 have h1:=read_wt h;obtain⟨h2,_,_⟩:=zN h;have hwf:x.wf=true:=by
  have h:=h2;simp only [mayB,okB,Jy] at h;exact h.1.1
 have h3:=uV _ x (Ju _) hwf;have h4:=uQ _ x (Ju _);exact⟨h2,yP _ x (Ju _) gN,by omega,by omega⟩
open Go.RowKit
def thnB (B:Nat) (fs:List Fm):Prop:=∀f∈fs,f.thn.length≤B∧f.els.length≤B
theorem yF {B:Nat} {tx:Str} {fs:List Fm} (h:thnB B fs) (ht:tx.length≤B):thnB B (m9 tx fs):=by
 unfold m9;split
 ·exact h
 ·intro f hf
  rcases JX.1 hf with hf|hf
  ·exact h f hf
  ·rw [JY] at hf;subst hf;exact⟨ht,by simp⟩
theorem ry (B:Nat):∀(k:Nat) (r tx:Str) (fs:List Fm) {gs:List Fm} {s:Str},pE k r tx fs=some (gs,s)→thnB B fs→tx.length+r.length≤B→thnB B gs
 | 0,_,_,_,_,_,h,_,_=>by cases h
 | _+1,[],_,_,_,_,h,_,_=>by cases h
 | k+1,c::r,tx,fs,gs,s,h,hf,hB=>by
  simp only [pE] at h;simp only [Jr] at hB;split at h
  ·injection h with h;injection h with h h';subst h;subst h'
   exact yF hf gN
  ·split at h
   ·split at h
    ·rename_i p hp
     obtain⟨f,s'⟩:=p;have h1:=AT hp;refine ry B k _ _ _ h ?_ gV;intro g hg;rcases JX.1 hg with hg|hg
     ·exact yF hf gN g hg
     ·rw [JY] at hg;subst hg
      exact⟨by omega,by omega⟩
    ·exact ry B k _ _ _ h hf gV
   ·split at h
    ·refine ry B k _ _ _ h hf ?_
     simp only [JA,JN,JU];have:(min 1 r.length)≤1:=Nat.min_le_left _ _
     omega
    ·exact ry B k _ _ _ h hf gV
theorem ED {r:Str} {f:Tf} {s:Str} (h:oq r=some (f,s)) (hr:r.length≤400):f.tiny:=by
 have hsm:=wX h gN;cases r with
 | nil=>cases h
 | cons c r =>
  simp only [oq] at h;split at h
  ·split at h
   ·cases h
   ·rename_i heq
    split at h
    ·cases h
    ·rename_i hx
     split at h
     ·cases h
     ·cases h
     ·rename_i heq2
      obtain⟨h1,h2⟩:=qu h;have h3:=pW _ _ _ _ heq2;have h4:=(tE r []).length_le;rw [heq] at h4;simp only [Jr,J0] at h3 h4 hr;have h5:=ry 10000 _ _ _ _ heq2 (fun _ hg=>by cases hg) gV;have h6:=Bz heq2;obtain⟨_,_,_,h7⟩:=FK hx;refine⟨hsm,by rw [h2];omega,by rw [h2];exact h5,by rw [h1];omega,by rw [h2];omega⟩
  ·cases h
theorem A5:∀{o:List Str} {a:Str},a∈o→a.length≤pV o
 | b::l,a,h=>by
  simp only [pV];rcases JC.1 h with rfl|h
  ·omega
  ·have:=A5 h;omega
theorem Hd.tiny {x:Sn} (h:Hd x):x.tiny:=by
 rcases h with⟨n,_,rfl⟩|⟨t,ht,rfl⟩
 ·exact⟨sZ,by simp,by simp,fun _ h=>by simp at h,by simp,trivial⟩
 ·refine⟨sZ,?_,by simp,fun _ h=>by simp at h,by simp,trivial⟩
  exact dP
theorem E9 {t:Str} (h:t.length≤1000000):(pM t).tiny:=⟨sZ,h,by simp,fun _ h=>by simp at h,by simp,trivial⟩
theorem sb {t:Str} (h:t.length≤1000000):Sn.tinyL (lO [] t):=by
 unfold lO;split
 ·trivial
 ·exact⟨E9 h,trivial⟩
theorem tinyL_app:∀{a b:List Sn},Sn.tinyL (a++b)↔Sn.tinyL a∧Sn.tinyL b
 | [],b=>by simp [Sn.tinyL]
 | x::a,b=>by simp only [JW,Sn.tinyL,tinyL_app (a:=a),and_assoc]
theorem CG {ps:Str→List Sn × Str} {x y:Sn} {r s:Str} (hx:Hd x) (hr:r.length≤400) (hps:∀t,t.length<r.length→Sn.tinyL (ps t).1∧(ps t).1.length≤1000000) (h:lE ps x r=some (y,s)):y.tiny:=by
 have hxt:=hx.tiny;cases r with
 | nil=>cases h
 | cons c r =>
  simp only [lE] at h;split at h
  ·injection h with h;injection h with h h';subst h;exact hxt
  ·split at h
   ·split at h
    ·cases h
    ·injection h with h;injection h with h h';subst h
     obtain⟨k,t,n,hh,u,f,o,l⟩:=x;obtain⟨h1,h2⟩:=hps r gU;obtain⟨a,b,c,d,_,_⟩:=hxt;exact⟨a,b,c,d,h2,h1⟩
   ·split at h
    ·unfold re at h
     have hsum:=vg r.length r [] [] (Ju _);split at h
     ·rename_i heq
      split at h
      ·injection h with h;injection h with h h';subst h
       have:=vi r.length r [] [] (Ju _)
       simp at this hr
       simp only [pV,J0] at hsum;obtain⟨k,t,n,hh,u,f,o,l⟩:=x;obtain⟨a,b,c,d,e,g⟩:=hxt;exact⟨a,b,by omega,fun s hs=>by have:=A5 hs;omega,e,g⟩
      ·cases h
     ·cases h
    ·split at h
     ·cases h
     ·rename_i heq
      injection h with h;injection h with h h';subst h
      obtain⟨k,t,n,hh,u,f,o,l⟩:=x;obtain⟨_,b,c,d,e,g⟩:=hxt;exact⟨ED heq hr,b,c,d,e,g⟩
theorem xN:∀(N:Nat),N≤400→(∀r x s,r.length≤N→l7 r=some (x,s)→x.tiny)∧(∀ins t r,r.length≤N→t.length+r.length≤100000→Sn.tinyL (lu ins [] t r).1)
 | 0,_=>by
  refine⟨fun r x s h hp=>?_,fun ins t r h ht=>?_⟩
  ·exact bK
  ·have:r=[]:=Jm gN
   subst this;rw [me];exact sb gN
 | N+1,hN=>by
  obtain⟨ih1,ih2⟩:=xN N gN;have k1:∀r x s,r.length≤N+1→l7 r=some (x,s)→x.tiny:=fun r x s hr h=>by
   rw [oL] at h;cases r with
   | nil=>cases h
   | cons c r =>
    simp only [Jr] at hr;simp only [oO] at h;split at h
    ·split at h
     ·cases h
     ·rename_i heq
      have h1:=mD heq;exact CG (nW heq) gN (fun t ht=>⟨ih2 true [] t gN gV,by have:=uj true [] t;omega⟩) h
    ·exact(nW h).tiny
  refine⟨k1,fun ins t r hr ht=>?_⟩;cases r with
  | nil=>rw [me];exact sb (by simp at ht;omega)
  | cons c r =>
   simp only [Jr] at hr ht;rw [l6];split
   ·exact sb gN
   ·split
    ·rename_i x r2 he
     have hx:l7 r=some (x,r2):=by
      exact cG
     have h1:=nR hx;rw [nB ins r2.length (lO [] t++[x]) [] r2 (Ju _)];refine tinyL_app.2 ⟨tinyL_app.2 ⟨sb gN,k1 r x r2 gN hx,trivial⟩,ih2 ins [] r2 gN gV⟩
    ·exact dO
theorem Ij {s:Str} (h:s.length≤400):Sn.tinyL (nn s):=by
 rw [oz];exact(xN s.length h).2 false [] s (Ju _) gV
open Go.RowKit Go.Maps Go.MapKept
theorem DN {s:Str} {q:Int} (w:World) (hs:s.length≤1000000000) (h:pz s=.error q) :
  Calls Tryz.prog 13 #[.string ⟨s.toArray⟩] w fun e w'=>e=.returned (.tuple #[.slice none 0 0,.int .i64 q])∧Below w.heap.size w w':=by
 refine(Bb s w hs).mono ?_
 rintro e w' ⟨h1,h2⟩;rw [h] at h2;exact⟨h2,h1⟩
open Go.RowKit
def readU (s:Str):Except Int Rx:=match lA s with
 | []=>uq []
 | c::r=>if l5 c=true then uq (c::r) else .error 10
theorem readU_ok {s:Str} {x:Rx} (h1:oe s) (h2:patF ((lA s).length+1) (lA s) 0=.ok (x,[])):readU s=.ok x:=by
 have rc:uq (lA s)=.ok x:=by unfold uq;rw [h2]
 unfold readU;cases s with
 | nil=>exact rc
 | cons c r =>
  rw [nh] at rc ⊢;have hp:l5 (c::r.takeWhile lf)=!lf c:=by
   exact du
  have hc:lf c=false:=h1;simp only [hp,hc,Bool.not_false,if_true];exact rc
theorem Fc {x:Rx} (hm:mayB x=true) (hl:x.tellN.length≤100000):readU x.tellN=.ok x:=by
 simp only [mayB,okB,Jy,Jj] at hm;obtain⟨g1,g2,_⟩:=zF _ x (Ju _) hm.1.1 gN hl;exact readU_ok g1 g2.2
def Bx:Str→Option (Tf × Str)
 | []=>none
 | c::r=>if c.toNat=47 then(match (rxSp r []).2 with
  | []=>none
  | _::r3=>match readU (rxSp r []).1 with
   | .error _=>none
   | .ok x=>match oB r3 [] [] with
    | none=>none
    | some (_,[])=>none
    | some (fs,_::r5)=>tC x fs r5) else none
def nx (ps:Str→List Sn × Str) (x:Sn) (r:Str):Option (Sn × Str):=match r with
 | []=>none
 | c::r1=>if c.toNat=125 then some (x,r1)
  else if c.toNat=58 then(match (ps r1).2 with|[]=>none|_::r2=>some (x.give (ps r1).1,r2))
  else if c.toNat=124∧x.kind=1 then re x r1
  else match Bx (c::r1) with|none=>none|some (f,r2)=>some (x.turn f,r2)
def rQ (ps:Str→List Sn × Str) (r:Str):Option (Sn × Str):=match r with
 | []=>none
 | c::r1=>if c.toNat=123 then(match nD r1 with|none=>none|some (x,r2)=>nx ps x r2) else nD (c::r1)
def uz:Nat→Str→Option (Sn × Str)
 | 0,_=>none
 | n+1,r=>rQ (fun r=>pI (uz n) true (r.length+1) [] [] r) r
def I3 (r:Str):List Sn:=(pI (uz (r.length+1)) false (r.length+1) [] [] r).1
theorem Ff {r:Str} {f:Tf} {s:Str} (h:Bx r=some (f,s)):s.length<r.length:=by
 cases r with
 | nil=>cases h
 | cons c r =>
  simp only [Bx] at h;exact cq
theorem AA {ps:Str→List Sn × Str} {x y:Sn} {r s:Str} (hps:∀t,t.length<r.length→(ps t).2.length≤t.length) (h:nx ps x r=some (y,s)):s.length<r.length:=by
 cases r with
 | nil=>cases h
 | cons c r =>
  simp only [nx] at h;split at h
  ·injection h with h;injection h with _ h;subst h;simp
  ·split at h
   ·exact gH
   ·split at h
    ·have:=tD h;simp;omega
    ·split at h
     ·cases h
     ·rename_i heq
      have:=Ff heq
      exact d9
theorem Dc {ps:Str→List Sn × Str} {y:Sn} {r s:Str} (hps:∀t,t.length<r.length→(ps t).2.length≤t.length) (h:rQ ps r=some (y,s)):s.length<r.length:=by
 cases r with
 | nil=>cases h
 | cons c r =>
  simp only [rQ] at h;split at h
  ·split at h
   ·cases h
   ·rename_i heq
    have h1:=mD heq;have h2:=AA (fun t ht=>hps t gV) h;simp;omega
  ·exact mD h
theorem qg:∀(n:Nat) (r:Str) {x:Sn} {s:Str},uz n r=some (x,s)→s.length<r.length
 | 0,r,x,s,h=>by cases h
 | n+1,r,x,s,h=>Dc (fun t _=>su _ _ _ _ fun t x s _ ht=>qg n t ht) h
theorem xi {ps qs:Str→List Sn × Str} (x:Sn) {r:Str} (h:∀t,t.length<r.length→ps t=qs t):nx ps x r=nx qs x r:=by
 cases r with
 | nil=>rfl
 | cons c r=>simp only [nx,h r gU]
theorem tF {ps qs:Str→List Sn × Str} {r:Str} (h:∀t,t.length<r.length→ps t=qs t):rQ ps r=rQ qs r:=by
 cases r with
 | nil=>rfl
 | cons c r =>
  simp only [rQ];split
  ·split
   ·rfl
   ·rename_i heq
    have:=mD heq
    exact xi _ fun t ht=>h t gV
  ·rfl
theorem sO:∀(N:Nat) (n n':Nat) (r:Str),r.length≤N→r.length<n→r.length<n'→uz n r=uz n' r
 | N,0,_,_,_,h,_=>by omega
 | N,_+1,0,_,_,_,h=>by omega
 | 0,n+1,n'+1,r,hN,h,h'=>by
  have:r=[]:=Jm gN
  subst this;rfl
 | N+1,n+1,n'+1,r,hN,h,h'=>by
  simp only [uz];refine tF fun t ht=>?_
  exact mS _ _ _ _ _ gN gN (fun t2 ht2=>sO N n n' t2 gN gN gN) (fun t2 x s _ h2=>qg n t2 h2)
def pG (r:Str):Option (Sn × Str):=uz (r.length+1) r
def mC (ins:Bool) (out:List Sn) (text r:Str):List Sn × Str:=pI pG ins (r.length+1) out text r
theorem xH {r:Str} {x:Sn} {s:Str} (h:pG r=some (x,s)):s.length<r.length:=qg _ r h
theorem Id (r:Str):pG r=rQ (mC true [] []) r:=by
 unfold pG;simp only [uz];refine tF fun t ht=>?_
 exact mS _ _ _ _ _ gN gN (fun t2 ht2=>sO r.length _ _ t2 gN gN gN) (fun t2 x s _ h2=>qg _ t2 h2)
theorem C6 (ins:Bool) (out:List Sn) (text:Str):mC ins out text []=(lO out text,[]):=rfl
theorem rj (ins:Bool) (out:List Sn) (text:Str) (c:UInt8) (r:Str):mC ins out text (c::r) =
  if ins=true∧c.toNat=125 then(lO out text,c::r)
  else match dolM pG c r with
  | some (x,r2)=>mC ins (lO out text++[x]) [] r2
  | none=>mC ins out (text++[(nxtM three (c::r)).1]) (nxtM three (c::r)).2:=by
 unfold mC;have e:(c::r).length=r.length+1:=rfl;rw [e];simp only [pI];by_cases hc:ins=true∧c.toNat=125
 ·rw [Jl hc,Jl hc]
 ·rw [Jo hc,Jo hc]
  cases he:dolM pG c r with
  | some y =>
   obtain⟨x,r2⟩:=y;simp only
   have hr:r2.length<r.length:=by
    unfold dolM at he;split at he
    ·exact xH he
    ·cases he
   exact eA
  | none =>
   simp only
   have hr:=nU three c r;exact eA
theorem IR (r:Str):I3 r=(mC false [] [] r).1:=by
 unfold I3 mC;exact Jp Prod.fst (mS _ _ _ _ _ gN gN (fun t ht=>sO r.length _ _ t gN gN gN) (fun t x s _ h=>qg _ t h))
theorem GR {c:UInt8} (h:c.toNat≠36) (r:Str):dolM pG c r=none:=by unfold dolM;rw [Jo h]
theorem vR (ins:Bool) (out:List Sn) (text:Str) {c:UInt8} {r:Str} (h1:¬(ins=true∧c.toNat=125)) (h2:dolM pG c r=none) :
  mC ins out text (c::r)=mC ins out (text++[(nxtM three (c::r)).1]) (nxtM three (c::r)).2:=by
 rw [rj,Jo h1,h2]
theorem sT (ins:Bool) (out:List Sn):∀(s text r:Str),mC ins out text (quot three s++r)=mC ins out (text++s) r
 | [],text,r=>by simp [quot]
 | c::s,text,r=>by
  cases hc:three.contains c with
  | true =>
   simp only [quot,hc,if_true,JW,JV];rw [vR ins out text gU (GR gR _),Da hc];rw [sT ins out s,J3];rfl
  | false =>
   have hn:¬(c.toNat=36∨c.toNat=125∨c.toNat=92):=fun h=>by rw [(AD c).2 h] at hc;cases hc
   simp only [quot,hc,J1,if_false,JW,JV];rw [vR ins out text gN (GR gN _),vV gN];rw [sT ins out s,J3];rfl
theorem B5 (ins:Bool) (out:List Sn) (text r:Str) {x:Sn} {r2:Str} (h:pG r=some (x,r2)):mC ins out text (36::r)=mC ins (lO out text++[x]) [] r2:=by
 have h2:dolM pG 36 r=some (x,r2):=by unfold dolM;rw [Jl gR,h]
 rw [rj,Jo gU,h2]
theorem BO (out:List Sn) (text r:Str):mC true out text (125::r)=(lO out text,125::r):=by
 rw [rj,Jl ⟨rfl,by decide⟩]
theorem uD (r:Str):pG (123::r)=match nD r with|none=>none|some (x,r2)=>nx (mC true [] []) x r2:=by
 rw [Id];simp only [rQ];rw [Jl gR]
theorem yM (x:Sn) (r:Str):nx (mC true [] []) x (125::r)=some (x,r):=by
 simp only [nx];rw [Jl gR]
theorem yT (x:Sn) {r r2:Str} {ks:List Sn} (h:mC true [] [] r=(ks,125::r2)):nx (mC true [] []) x (58::r)=some (x.give ks,r2):=by
 simp only [nx];rw [Jo gR,Jl gR,h]
theorem A3 {n:Nat} (h:n≤9999) (a:Str) (l:List Str) (r:Str):pG (123::(Lib.decDigits n++124::(pb (a::l)++124::125::r)))=some ((no n).choose (a::l),r):=by
 rw [uD,yR h (by rintro c t e;injection e with e _;subst e;decide)];simp only [nx];rw [Jo gR,Jo gR,Jl ⟨by decide,rfl⟩,DW]
theorem E5 {f:Tf} (hm:oZ f=true) (hl:f.rx.tell.length≤100000) (r:Str):Bx (pH f++125::r)=some (f,r):=by
 unfold oZ at hm;rw [Jy] at hm;have hw:=hm.1;unfold mayB okB at hw;simp only [Jy,Jj] at hw;have hsp:=CM _ f.rx (Ju _) hw.1.1;have e:pH f++125::r=47::(f.rx.tell++47::(mN f.fs++47::(vA f++125::r))):=by unfold pH;simp
 have h2:=tz (vA f++125::r) f.fs [] false [] hm.2 (fun _=>rfl);rw [e];simp only [Bx];rw [Jl gR,DA hsp];simp only [Fc hm.1 (Jv hsp.len hl)];rw [h2];simp only [m9,if_true,JV];exact AM f r
namespace Sn
mutual
def shortU:Sn→Bool
 | mk _ _ _ _ u f _ ks=>(!u||decide (f.rx.tell.length≤100000))&&shortLU ks
def shortLU:List Sn→Bool
 | []=>true
 | x::r=>shortU x&&shortLU r
end
end Sn
theorem rF {y:Sn} (h:Hd y) (c:UInt8) (h1:ny c=false) (r:Str):pG (123::(pK y.kind y.text y.n++c::r))=nx (mC true [] []) y (c::r):=by
 rw [uD,Gy h h1]
theorem sE:∀{l:List Sn},Sn.shortLU l=true→∀x∈l,x.shortU=true
 | [],_,x,h=>by simp at h
 | y::r,hs,x,h=>by
  simp only [Sn.shortLU,Jy] at hs;rcases JC.1 h with rfl|h
  ·exact hs.1
  ·exact sE hs.2 x h
theorem Bd (l:List Sn) (hx:∀x∈l,x.kind=0∧x.tell=quot three x.text∨x.kind≠0∧∃t,x.tell=36::t∧∀r,pG (t++r)=some (x,r)) :
  ∀(ins:Bool) (out:List Sn) (text r:Str),mC ins out text (Sn.tellL l++r)=mC ins (nI (out,text) l).1 (nI (out,text) l).2 r:=by
 induction l with
 | nil=>intro ins out text r;simp [Sn.tellL,nI]
 | cons x l ih =>
  intro ins out text r;have ih':=ih fun y hy=>hx y (JF _ hy)
  simp only [Sn.tellL,J3,nI,JQ];rcases hx x (JE ..) with⟨hk,e⟩|⟨hk,t,e,hp⟩
  ·rw [e,sT,ih']
   simp [tT,hk,nI]
  ·rw [e,JW,B5 ins out text _ (hp _),ih']
   simp [tT,hk,nI]
theorem xF:∀(N:Nat) (x:Sn),x.parts≤N→x.wf=true→x.shortU=true→x.kind≠0→∃t,x.tell=36::t∧∀r,pG (t++r)=some (x,r)
 | 0,x,h,_,_,_=>by have:=Sn.parts_pos x;omega
 | N+1,x,hp,hw,hs,hk=>by
  rcases Ic hw hk with⟨y,hd,rfl|⟨ks,h1,h2,rfl⟩|⟨f,hf,rfl⟩⟩|⟨n,o,l,hn,rfl⟩
  ·refine⟨123::(pK x.kind x.text x.n++[125]),?_,fun r=>?_⟩
   ·exact eI
   ·rw [JW,J3,JW,JV,rF hd 125 gR];exact yM _ _
  ·have hs':Sn.shortLU ks=true:=by
    rcases hd with⟨n,_,rfl⟩|⟨t,_,rfl⟩<;>(simp only [no,varS,Sn.give,Sn.shortU,Jy] at hs;exact hs.2)
   have hpk:Sn.partsL ks≤N:=by
    have:=(hd.give h1 h2).2.2.1
    omega
   have hin:∀r,mC true [] [] (Sn.tellL ks++125::r)=(ks,125::r):=fun r=>by
    rw [Bd ks (fun z hz=>by
     by_cases hz0:z.kind=0
     ·exact eU
     ·exact .inr ⟨hz0,xF N z (by have:=Sn.parts_mem hz;omega) (qL h2 z hz) (sE hs' z hz) hz0⟩),BO]
    have:=sv ks [] [] h1 h2
    rw [this];simp [lO]
   refine⟨123::(pK y.kind y.text y.n++58::(Sn.tellL ks++[125])),?_,fun r=>?_⟩
   ·exact er
   ·rw [JW,J3,JW,J3,JW,JV,rF hd 58 gR]
    exact yT _ (hin r)
  ·have hl:f.rx.tell.length≤100000:=by
    rcases hd with⟨n,_,rfl⟩|⟨t,_,rfl⟩<;>(simp [no,varS,Sn.turn,Sn.shortU,Sn.shortLU] at hs;exact hs)
   refine⟨123::(pK y.kind y.text y.n++(pH f++[125])),?_,fun r=>?_⟩
   ·exact eu
   ·have hft:=E5 hf hl r
    have e:pH f++125::r=47::(f.rx.tell++47::(mN f.fs++47::vA f)++125::r):=by unfold pH;simp
    rw [JW,J3,J3,JW,JV];rw [e] at hft ⊢;rw [rF hd 47 gR];simp only [nx];exact eT
  ·refine⟨123::(dec n++124::(pb (o::l)++[124,125])),by simp [no,Sn.choose,Sn.tell],fun r=>?_⟩
   have:=A3 hn o l r
   exact dI
theorem Hy {l:List Sn} (hw:Sn.wfL l=true) (hs:Sn.shortLU l=true) (ins:Bool) (out:List Sn) (text r:Str):mC ins out text (Sn.tellL l++r)=mC ins (nI (out,text) l).1 (nI (out,text) l).2 r :=
 Bd l (fun z hz=>by
  by_cases hz0:z.kind=0
  ·exact eU
  ·exact .inr ⟨hz0,xF _ z (Ju _) (qL hw z hz) (sE hs z hz) hz0⟩) ins out text r
theorem yb {l:List Sn} (ha:adjS false l=true) (hw:Sn.wfL l=true) (hs:Sn.shortLU l=true):I3 (Sn.tellL l)=l:=by
 have h:=Hy hw hs false [] [] [];rw [J5,C6,sv l [] [] ha hw] at h;rw [IR,h];simp [lO]
open Go.RowKit
theorem Fg {s:Str} {x:Rx} (h:qU s=.ok x) (hl:s.length≤200):x.tell.length≤100000:=by
 exact ck
theorem EI {r:Str} {f:Tf} {s:Str} (h:oq r=some (f,s)) (hr:r.length≤200):f.rx.tell.length≤100000:=by
 cases r with
 | nil=>cases h
 | cons c r =>
  simp only [oq] at h;have h1:=s7 r [];split at h
  ·split at h
   ·cases h
   ·split at h
    ·cases h
    ·rename_i hx
     split at h
     ·cases h
     ·cases h
     ·obtain⟨h2,_⟩:=qu h
      simp only [Jr,J0] at hr h1;rw [h2];exact Fg hx gN
  ·cases h
theorem Hd.shortU {x:Sn} (h:Hd x):x.shortU=true:=by
 rcases h with⟨n,_,rfl⟩|⟨t,ht,rfl⟩<;>simp [no,varS,Sn.shortU,Sn.shortLU]
theorem pR (t:Str):Sn.shortLU (lO [] t)=true:=by
 unfold lO;split
 ·rfl
 ·simp [Sn.shortLU,pM,Sn.shortU]
theorem ww:∀a b:List Sn,Sn.shortLU (a++b)=(Sn.shortLU a&&Sn.shortLU b)
 | [],b=>by simp [Sn.shortLU]
 | x::a,b=>by simp only [JW,Sn.shortLU,ww a b,Bool.and_assoc]
theorem zv {ps:Str→List Sn × Str} {x y:Sn} {r s:Str} (hx:Hd x) (hr:r.length≤200) (hps:∀t,t.length<r.length→Sn.shortLU (ps t).1=true) (h:lE ps x r=some (y,s)):y.shortU=true:=by
 have hxt:=hx.shortU;cases r with
 | nil=>cases h
 | cons c r =>
  simp only [lE] at h;split at h
  ·injection h with h;injection h with h h';subst h;exact hxt
  ·split at h
   ·split at h
    ·cases h
    ·injection h with h;injection h with h h';subst h
     have h1:=hps r gU;obtain⟨k,t,n,hh,u,f,o,l⟩:=x;simp only [Sn.shortU,Jy] at hxt;show ((!u||decide (f.rx.tell.length≤100000))&&Sn.shortLU (ps r).1)=true
     rw [h1,hxt.1];rfl
   ·split at h
    ·obtain⟨o,ho,rfl⟩:=ug h
     obtain⟨k,t,n,hh,u,f,o,l⟩:=x;exact hxt
    ·split at h
     ·cases h
     ·rename_i heq
      rename_i f' s'
      injection h with h;injection h with h h';subst h
      obtain⟨k,t,n,hh,u,f,o,l⟩:=x;simp only [Sn.shortU,Jy] at hxt;show ((!true||decide (f'.rx.tell.length≤100000))&&Sn.shortLU l)=true
      rw [hxt.2,JR (EI heq hr)];rfl
theorem uC:∀(N:Nat),N≤200→(∀r x s,r.length≤N→l7 r=some (x,s)→x.shortU=true)∧(∀ins t r,r.length≤N→Sn.shortLU (lu ins [] t r).1=true)
 | 0,_=>by
  refine⟨fun r x s h hp=>?_,fun ins t r h=>?_⟩
  ·exact bK
  ·have:r=[]:=Jm gN
   subst this;rw [me];exact pR t
 | N+1,hN=>by
  obtain⟨ih1,ih2⟩:=uC N gN;have k1:∀r x s,r.length≤N+1→l7 r=some (x,s)→x.shortU=true:=fun r x s hr h=>by
   rw [oL] at h;cases r with
   | nil=>cases h
   | cons c r =>
    simp only [Jr] at hr;simp only [oO] at h;split at h
    ·split at h
     ·cases h
     ·rename_i heq
      have h1:=mD heq;exact zv (nW heq) gN (fun t ht=>ih2 true [] t gN) h
    ·exact(nW h).shortU
  refine⟨k1,fun ins t r hr=>?_⟩;cases r with
  | nil=>rw [me];exact pR t
  | cons c r =>
   simp only [Jr] at hr;rw [l6];split
   ·exact pR t
   ·split
    ·rename_i x r2 he
     have hx:l7 r=some (x,r2):=by
      exact cG
     have h1:=nR hx;rw [nB ins r2.length (lO [] t++[x]) [] r2 (Ju _)];simp only [ww,Sn.shortLU,pR,k1 r x r2 gN hx,ih2 ins [] r2 gN];rfl
    ·have hl:=nU three c r
     exact ih2 ins (t++[(nxtM three (c::r)).1]) (nxtM three (c::r)).2 gN
theorem CZ {s:Str} (h:s.length≤200):Sn.shortLU (nn s)=true:=by
 rw [oz];exact(uC s.length h).2 false [] s (Ju _)
mutual
theorem Bl:∀x:Sn,x.short=true→x.shortU=true
 | .mk k t n h u f o ks,hs=>by
  simp only [Sn.short,Jy] at hs;simp only [Sn.shortU,Jy];refine⟨?_,mm ks hs.2⟩;cases u with
  | false=>rfl
  | true =>
   have h9:=hs.1;simp only [Bool.not_true,Bool.false_or,Jj] at h9 ⊢;omega
theorem mm:∀l:List Sn,Sn.shortL l=true→Sn.shortLU l=true
 | [],_=>rfl
 | x::r,hs=>by
  simp only [Sn.shortL,Jy] at hs;simp only [Sn.shortLU,Jy];exact⟨Bl x hs.1,mm r hs.2⟩
end
theorem uU {l m:List Sn} (hl:nM l=true) (hm:nM m=true) (h1:Sn.shortLU l=true) (h2:Sn.shortLU m=true) (h:Sn.tellL l=Sn.tellL m):l=m:=by
 unfold nM at hl hm;simp only [Jy] at hl hm;have a:=yb hl.1.1 hl.1.2 h1;have b:=yb hm.1.1 hm.1.2 h2;rw [h] at a;exact a.symm.trans b
open Go.RowKit
theorem zq:∀(r a:Str),(rxSp r a).1.length+(rxSp r a).2.length≤a.length+r.length
 | [],a=>by simp [rxSp]
 | [c],a=>by simp only [rxSp];split<;>simp
 | c::d::r,a=>by
  simp only [rxSp];split
  ·simp
  ·split
   ·have:=zq r (if d.toNat=47 then a++[d] else a++[92,d])
    have h2:(if d.toNat=47 then a++[d] else a++[92,d]).length≤a.length+2:=by split<;>simp
    simp only [Jr];omega
   ·have:=zq (d::r) (a++[c])
    exact cC
theorem CU {s:Str} {x:Rx} (h:qU s=.ok x):x.tell.length≤480*s.length+120:=by
 exact ck
theorem E4 {r:Str} {f:Tf} {s:Str} (h:oq r=some (f,s)):(pH f).length+600*s.length≤600*r.length:=by
 cases r with
 | nil=>cases h
 | cons c r =>
  simp only [oq] at h;have h1:=zq r [];split at h
  ·split at h
   ·cases h
   ·rename_i heq
    rw [heq] at h1;split at h
    ·cases h
    ·rename_i hx
     split at h
     ·cases h
     ·cases h
     ·rename_i heq2
      have h2:=Bz heq2;have h3:=Bp h;obtain⟨e1,e2⟩:=qu h;have h4:=AE f;have h5:=(pD _ _ _ _ heq2).1;have h6:=CU hx;unfold pH;rw [e2,e1];simp only [Jr,JA,J0] at *;omega
  ·cases h
theorem CJ {ps:Str→List Sn × Str} {x y:Sn} {r s:Str} (hx:Hd x) (hps:∀t,t.length<r.length→(Sn.tellL (ps t).1).length+600*(ps t).2.length≤600*t.length) (h:lE ps x r=some (y,s)) :
  y.tell.length+600*s.length≤(pK x.kind x.text x.n).length+600*r.length+4:=by
 cases r with
 | nil=>cases h
 | cons c r =>
  simp only [lE] at h;split at h
  ·injection h with h;injection h with h h';subst h;subst h'
   rcases hx with⟨n,_,rfl⟩|⟨t,_,rfl⟩<;>(simp [no,varS,Sn.tell,Sn.kind,Sn.text,Sn.n];omega)
  ·split at h
   ·have hp:=hps r gU
    split at h
    ·cases h
    ·rename_i d r2 heq
     rw [heq] at hp;injection h with h;injection h with h h';subst h;subst h'
     rcases hx with⟨n,_,rfl⟩|⟨t,_,rfl⟩
     all_goals
      have hp':=hp;simp [no,varS,Sn.give,Sn.tell,Sn.kind,Sn.text,Sn.n] at hp' ⊢
      omega
   ·split at h
    ·rename_i hk
     obtain⟨o,rfl,ho⟩:=F9 h;rcases hx with⟨n,hn,rfl⟩|⟨t,_,rfl⟩
     ·simp [no,Sn.choose,Sn.tell,Sn.kind,Sn.n,pK];omega
     ·exact absurd hk.2 (by decide:¬((3:Int)=1))
    ·split at h
     ·cases h
     ·rename_i f r2 heq
      injection h with h;injection h with h h';subst h;subst h'
      have hf:=E4 heq;rcases hx with⟨n,_,rfl⟩|⟨t,_,rfl⟩
      all_goals
       simp [no,varS,Sn.turn,Sn.tell,Sn.kind,Sn.text,Sn.n] at hf ⊢
       omega
theorem Fi {r:Str} {x:Sn} {s:Str} (hps:∀t,t.length<r.length→(Sn.tellL (lu true [] [] t).1).length+600*(lu true [] [] t).2.length≤600*t.length)
  (h:l7 r=some (x,s)):x.tell.length+600*s.length≤600*(r.length+1):=by
 rw [oL] at h;cases r with
 | nil=>cases h
 | cons c r =>
  simp only [oO] at h;split at h
  ·split at h
   ·cases h
   ·rename_i y r2 heq
    have h1:=mD heq;have h2:=Av heq;have h3:=CJ (nW heq) (fun t ht=>hps t gV) h;simp;omega
  ·have h1:=mD h
   have h2:=Av h;have hx:=nW h;rcases hx with⟨n,_,rfl⟩|⟨t,_,rfl⟩
   all_goals
    simp [no,varS,Sn.tell,Sn.kind,Sn.text,Sn.n] at h1 h2 ⊢
    omega
theorem xT:∀(N:Nat),(∀r x s,r.length≤N→l7 r=some (x,s)→x.tell.length+600*s.length≤600*(r.length+1)) ∧
  (∀ins t r,r.length≤N→(Sn.tellL (lu ins [] t r).1).length+600*(lu ins [] t r).2.length≤2*t.length+600*r.length)
 | 0=>by
  refine⟨fun r x s h hp=>?_,fun ins t r h=>?_⟩
  ·exact bK
  ·have:r=[]:=Jm gN
   subst this;rw [me];have:=qB t;simpa using this
 | N+1=>by
  obtain⟨ih1,ih2⟩:=xT N;have k1:∀r x s,r.length≤N+1→l7 r=some (x,s)→x.tell.length+600*s.length≤600*(r.length+1):=fun r x s hr h=>Fi (fun t ht=>by have:=ih2 true [] t gN;simpa using this) h
  refine⟨k1,fun ins t r hr=>?_⟩;cases r with
  | nil=>rw [me];have:=qB t;simpa using this
  | cons c r =>
   simp only [Jr] at hr;rw [l6];split
   ·have:=qB t;simp;omega
   ·split
    ·rename_i x r2 he
     have hx:l7 r=some (x,r2):=by
      exact cG
     rw [nB ins r2.length (lO [] t++[x]) [] r2 (Ju _)];have h1:=k1 r x r2 gN hx;have h2:=ih2 ins [] r2 (by have:=nR hx;omega);have h3:=qB t;simp only [Ax,Sn.tellL,JA,J5,Jr,J0] at h2 ⊢;omega
    ·have hl:=(o9 three c r).length_le
     have:=ih2 ins (t++[(nxtM three (c::r)).1]) (nxtM three (c::r)).2 gN
     exact cC
theorem Il (r:Str):(Sn.tellL (nn r)).length≤600*r.length:=by
 rw [oz];have:=(xT r.length).2 false [] r (Ju _)
 simp at this;omega
end Go.Proofs.YtdcnncgpomcaaaaGreatDoor
