/- Plain laws on snippets: what is read leaves a suffix; without } nothing in braces ends. -/
import Derived.Test.YtdcnncgpomcaaaaGreatDoorSc17
set_option maxRecDepth 100000
namespace Go.Proofs.YtdcnncgpomcaaaaGreatDoor
theorem oE {c:UInt8} {r s:Str} (h:s <:+ r):s <:+ c::r:=h.trans (IL c r)
theorem sw:∀(r:Str) (k n:Nat) {m:Nat} {s:Str},mD r k n=some (m,s)→s <:+ r
 | [],k,n,m,s,h=>by
  simp only [mD] at h;exact cl
 | c::r,k,n,m,s,h=>by
  simp only [mD] at h;split at h
  ·split at h
   ·cases h
   ·exact oE (sw r (k+1) _ h)
  ·exact cl
theorem E5 {r:Str} {x:Sn} {s:Str} (h:sQ r=some (x,s)):s <:+ r:=by
 unfold sQ at h;split at h
 ·injection h with h;injection h with _ h;subst h;exact List.dropWhile_suffix _
 ·cases h
theorem sk {r:Str} {x:Sn} {s:Str} (h:ni r=some (x,s)):s <:+ r:=by
 unfold ni at h;split at h
 ·rename_i heq
  injection h with h;injection h with _ h;subst h;exact sw _ _ _ heq
 ·exact E5 h
theorem oL (one:Int):∀(r t:Str) {u s:Str},ld one r t=some (u,s)→s <:+ r
 | [],t,u,s,h=>by simp [ld] at h
 | [c],t,u,s,h=>by
  simp only [ld] at h;split at h
  ·simp at h;rw [←h.2];exact IM _
  ·cases h
 | c::d::r,t,u,s,h=>by
  simp only [ld] at h;split at h
  ·simp at h;rw [←h.2];exact IM _
  ·split at h
   ·exact oE (oE (oL one r _ h))
   ·exact oE (oL one (d::r) _ h)
theorem Bz {r:Str} {n:Nat} {f:Fm} {s:Str} (h:lU r n=some (f,s)):s <:+ r:=by
 cases r with
 | nil=>cases h
 | cons c r =>
  simp only [lU] at h;split at h
  ·split at h
   ·cases h
   ·rename_i x r2 heq
    split at h
    ·cases h
    ·injection h with h;injection h with _ h;subst h
     have:=List.dropWhile_suffix (p:=mo) (l:=r)
     rw [heq] at this;exact oE ((IL _ _).trans this)
  ·split at h
   ·exact di
   ·split at h
    ·split at h
     ·rename_i heq
      split at h
      ·rename_i heq2
       injection h with h;injection h with _ h;subst h
       exact oE (((IL _ _).trans (oL _ _ _ heq2)).trans ((IL _ _).trans (oL _ _ _ heq)))
      ·cases h
     ·cases h
    ·split at h
     ·exact di
     ·split at h
      ·rename_i heq
       injection h with h;injection h with _ h;subst h
       exact(IL _ _).trans (oL _ _ _ heq)
      ·cases h
theorem EQ {r:Str} {f:Fm} {s:Str} (h:ow r=some (f,s)):s <:+ r:=by
 unfold ow at h;split at h
 ·rename_i p heq
  obtain⟨m,s'⟩:=p;injection h with h;injection h with _ h;subst h;exact sw _ _ _ heq
 ·cases r with
  | nil=>cases h
  | cons c r =>
   simp only [AR] at h;split at h
   ·split at h
    ·cases h
    ·rename_i p heq
     obtain⟨m,s'⟩:=p;have h1:=sw _ _ _ heq;cases s' with
     | nil=>cases h
     | cons d r3 =>
      simp only [sX] at h;have h2:r3 <:+ r:=(IL d r3).trans h1;split at h
      ·injection h with h;injection h with _ h;subst h;exact oE h2
      ·split at h
       ·exact oE ((Bz h).trans h2)
       ·cases h
   ·cases h
theorem qJ:∀(k:Nat) (r tx:Str) (fs:List Fm) {gs:List Fm} {s:Str},oO k r tx fs=some (gs,s)→s <:+ r
 | 0,_,_,_,_,_,h=>by cases h
 | _+1,[],_,_,_,_,h=>by cases h
 | k+1,c::r,tx,fs,gs,s,h=>by
  simp only [oO] at h;split at h
  ·injection h with h;injection h with _ h;subst h;exact IM _
  ·split at h
   ·split at h
    ·rename_i p hp
     obtain⟨f,s'⟩:=p;exact oE ((qJ k _ _ _ h).trans (EQ hp))
    ·exact oE (qJ k _ _ _ h)
   ·split at h
    ·exact oE ((qJ k _ _ _ h).trans (List.drop_suffix _ _))
    ·exact oE (qJ k _ _ _ h)
theorem sm:∀(r a:Str),(rxSp r a).2 <:+ r
 | [],a=>IM _
 | [c],a=>by
  simp only [rxSp];split
  ·exact IM _
  ·exact List.nil_suffix
 | c::d::r,a=>by
  simp only [rxSp];split
  ·exact IM _
  ·split
   ·exact oE (oE (sm r _))
   ·exact oE (sm (d::r) _)
theorem Fp {x:Rx} {fs:List Fm} {r:Str} {f:Tf} {s:Str} (h:sZ x fs r=some (f,s)):s <:+ r∧125∈r:=by
 unfold sZ at h;have hd:=List.dropWhile_suffix (p:=mo) (l:=r);split at h
 ·cases h
 ·rename_i c r2 heq
  rw [heq] at hd;have hc:mo c=false:=by
   have:=List.head_dropWhile_not (p:=mo) (l:=r) (by rw [heq];simp)
   simpa [heq] using this
  have h125:c=125:=by
   unfold mo at hc;simp at hc
   exact Ht.1 hc
  subst h125;split at h
  ·cases h
  ·injection h with h;injection h with _ h;subst h
   exact⟨(IL _ _).trans hd,hd.subset (Ik ..)⟩
theorem Fj {r:Str} {f:Tf} {s:Str} (h:nO r=some (f,s)):s <:+ r∧125∈r:=by
 cases r with
 | nil=>cases h
 | cons c r =>
  simp only [nO] at h;have h1:=sm r [];split at h
  ·split at h
   ·cases h
   ·rename_i heq
    rw [heq] at h1;split at h
    ·cases h
    ·split at h
     ·cases h
     ·cases h
     ·rename_i heq2
      have h2:=qJ _ _ _ _ heq2;obtain⟨h3,h4⟩:=Fp h;have h5:=((IL _ _).trans h2).trans ((IL _ _).trans h1);exact⟨oE (h3.trans h5),Il _ (h5.subset h4)⟩
  ·cases h
theorem oz (th:Str) (c:UInt8) (r:Str):(nxtM th (c::r)).2 <:+ r:=by
 cases r with
 | nil=>exact IM _
 | cons d r =>
  simp only [nxtM];split
  ·exact IL _ _
  ·exact IM _
theorem xV:∀(n:Nat) (r:Str) (o:List Str) (t:Str),r.length≤n→(optL r o t).2 <:+ r
 | _,[],o,t,_=>IM _
 | 0,_::_,_,_,h=>by simp at h
 | n+1,c::r,o,t,h=>by
  simp only [H7] at h;rw [mR];split
  ·exact IM _
  ·split
   ·exact oE (xV n r _ _ gj)
   ·have h1:=oz fiveS c r
    exact oE ((xV n _ _ _ jR).trans h1)
theorem Fv {x:Sn} {r:Str} {y:Sn} {s:Str} (h:qM x r=some (y,s)):s <:+ r∧125∈r:=by
 have h1:=xV _ r [] [] (Ia _);unfold qM at h;split at h
 ·rename_i c d r2 heq
  rw [heq] at h1;split at h
  ·rename_i hcd
   injection h with h;injection h with _ h;subst h
   have hd:d=125:=Ht.1 hcd.2;subst hd;exact⟨(IL _ _).trans ((IL _ _).trans h1),h1.subset gz⟩
  ·cases h
 ·cases h
theorem uX {ps:Str→List Sn × Str} {x y:Sn} {r s:Str} (hps:∀t,t.length<r.length→(ps t).2 <:+ t) (h:lc ps x r=some (y,s)):s <:+ r:=by
 cases r with
 | nil=>cases h
 | cons c r =>
  simp only [lc] at h;split at h
  ·injection h with h;injection h with _ h;subst h;exact IL _ _
  ·split at h
   ·have h1:=hps r gz
    split at h
    ·cases h
    ·rename_i heq
     rw [heq] at h1;injection h with h;injection h with _ h;subst h
     exact oE ((IL _ _).trans h1)
   ·split at h
    ·exact oE (Fv h).1
    ·split at h
     ·cases h
     ·rename_i heq
      injection h with h;injection h with _ h;subst h;exact(Fj heq).1
theorem vb:∀(N:Nat),(∀r x s,r.length≤N→lI r=some (x,s)→s <:+ r)∧(∀ins out text r,r.length≤N→(kP ins out text r).2 <:+ r)
 | 0=>by
  refine⟨fun r x s h hp=>?_,fun ins out text r h=>?_⟩
  ·exact bO
  ·exact eA
 | N+1=>by
  obtain⟨ih1,ih2⟩:=vb N;have k1:∀r x s,r.length≤N+1→lI r=some (x,s)→s <:+ r:=by
   intro r x s hr h;rw [oD] at h;cases r with
   | nil=>cases h
   | cons c r =>
    simp only [H7] at hr;simp only [oq] at h;split at h
    ·split at h
     ·cases h
     ·rename_i heq
      have h1:=sk heq;exact oE ((uX (fun t ht=>ih2 _ _ _ t jR) h).trans h1)
    ·exact sk h
  refine⟨k1,fun ins out text r hr=>?_⟩;have key:∀(n:Nat) (out:List Sn) (text r:Str),r.length≤n→n≤N+1→(kP ins out text r).2 <:+ r:=by
   intro n;induction n with
   | zero =>
    intro out text r h _;exact eA
   | succ n ih =>
    intro out text r h hn;cases r with
    | nil=>exact IM _
    | cons c r =>
     simp only [H7] at h;rw [lF];split
     ·exact IM _
     ·split
      ·rename_i x r2 he
       have h1:r2 <:+ r:=by
        unfold dolM at he;split at he
        ·exact k1 r x r2 gj he
        ·cases he
       exact oE ((ih _ _ r2 jR gj).trans h1)
      ·have h1:=oz three c r
       exact oE ((ih _ _ _ jR gj).trans h1)
  exact key r.length out text r (Ia _) hr
theorem zP {r:Str} {x:Sn} {s:Str} (h:lI r=some (x,s)):s <:+ r:=(vb r.length).1 r x s (Ia _) h
theorem tm (ins:Bool) (out:List Sn) (text r:Str):(kP ins out text r).2 <:+ r:=(vb r.length).2 ins out text r (Ia _)
theorem pI (out:List Sn) (t:Str):lw out t=out++lw [] t:=by unfold lw;split<;>simp
theorem m9 (ins:Bool):∀(n:Nat) (out:List Sn) (text r:Str),r.length≤n→kP ins out text r=(out++(kP ins [] text r).1,(kP ins [] text r).2)
 | _,out,text,[],_=>by rw [lW,lW,pI]
 | 0,_,_,_::_,h=>by simp at h
 | n+1,out,text,c::r,h=>by
  simp only [H7] at h;rw [lF,lF];split
  ·rw [pI]
  ·split
   ·rename_i x r2 he
    have h1:r2.length≤r.length:=by
     unfold dolM at he;split at he
     ·exact(zP he).length_le
     ·cases he
    rw [m9 ins n (lw out text++[x]) [] r2 gj,m9 ins n (lw [] text++[x]) [] r2 gj,pI out];simp
   ·have h1:=(oz three c r).length_le
    exact m9 ins n out _ _ gj
theorem mf {c:Str} {r r1:List Str} (z:List Str) (h:kN c r=some r1):kN c (r++z)=some (r1++z):=by
 rw [mi h];simp [kN]
theorem mC {c:Str} {r:List Str} (z:List Str) (h:kN c r=none) (hr:r≠[]):kN c (r++z)=none:=by
 cases r with
 | nil=>exact absurd rfl hr
 | cons p r =>
  simp only [kN] at h;by_cases hp:p=c
  ·rw [Hu hp] at h;cases h
  ·simp only [IA,kN,Hx hp]
theorem CU {r r1:List Str} {c:Str} {nm:List Row} (z:List Str) (h:nv r=some (c,nm,r1)):nv (r++z)=some (c,nm,r1++z):=by
 cases r with
 | nil=>cases h
 | cons p r =>
  simp only [nv,IA] at h ⊢;by_cases h1:p=[93]
  ·rw [Hu h1] at h;cases h
  rw [Hx h1] at h ⊢;by_cases h2:p=[92]
  ·rw [Hu h2] at h ⊢
   cases r with
   | nil=>cases h
   | cons c2 r2 =>
    simp only [IA] at h ⊢;cases hn:mS c2 with
    | some rows =>
     simp only [hn] at h ⊢;exact cW
    | none =>
     simp only [hn] at h ⊢;cases hpm:mj c2 with
     | none=>exact fO
     | some t =>
      simp only [hpm] at h ⊢;exact cW
  ·rw [Hx h2] at h ⊢
   exact cW
theorem yS {n:Nat} {rows rows':List Row} {r r1:List Str} (h:ly n rows r=some (rows',r1)):r≠[]:=by
 rintro rfl;cases n with
 | zero=>cases h
 | succ n=>simp only [ly,kN,nv] at h;cases h
theorem oN (z:List Str):∀(n m:Nat) (rows:List Row) (r:List Str) {rows':List Row} {r1:List Str},n≤m→ly n rows r=some (rows',r1)→ly m rows (r++z)=some (rows',r1++z)
 | 0,_,_,_,_,_,_,h=>by cases h
 | n+1,m,rows,r,rows',r1,hm,h=>by
  obtain⟨m,rfl⟩:∃m',m=m'+1:=⟨m-1,by omega⟩;have hm':n≤m:=gj;have hr:=yS h;simp only [ly] at h ⊢;cases ht:kN [93] r with
  | some r0 =>
   simp only [ht] at h;rw [mf z ht];injection h with h;injection h with h1 h2
   subst h1 h2;rfl
  | none =>
   simp only [ht] at h;rw [mC z ht hr];cases hi:nv r with
   | none=>simp only [hi] at h;cases h
   | some y =>
    obtain⟨c,nm,r2⟩:=y;simp only [hi] at h;simp only [CU z hi];by_cases hnm:nm≠[]
    ·rw [Hu hnm] at h ⊢
     exact oN z n m _ _ hm' h
    ·rw [Hx hnm] at h ⊢
     cases ht2:kN [45] r2 with
     | none =>
      simp only [ht2] at h;simp only [mC z ht2 (yS h)];exact oN z n m _ _ hm' h
     | some r3 =>
      simp only [ht2] at h;simp only [mf z ht2];by_cases ht3:kN [93] r3=none
      ·rw [Hu ht3] at h
       cases hi2:nv r3 with
       | none=>simp only [hi2] at h;cases h
       | some y =>
        obtain⟨t,nm2,r4⟩:=y;simp only [hi2] at h;have h3:r3≠[]:=by rintro rfl;cases hi2
        rw [Hu (mC z ht3 h3)];simp only [CU z hi2];by_cases hb:nm2≠[]∨Op.bytesLess t c=true
        ·rw [Hu hb] at h;cases h
        ·rw [Hx hb] at h ⊢
         exact oN z n m _ _ hm' h
      ·rw [Hx ht3] at h
       obtain⟨r5,h5⟩:∃r5,kN [93] r3=some r5:=by
        cases hx:kN [93] r3 with
        | none=>exact absurd hx ht3
        | some r5=>exact⟨r5,rfl⟩
       rw [Hx (by rw [mf z h5];simp)];exact oN z n m _ _ hm' h
theorem zF {r r1:List Str} {x:Rx} (z:List Str) (h:mx r=.ok (x,r1)):mx (r++z)=.ok (x,r1++z):=by
 unfold mx at h ⊢;simp only at h ⊢
 have hr:r≠[]:=by rintro rfl;simp [kN,ly,nv] at h
 cases ht:kN [94] r with
 | some r0 =>
  rw [mf z ht];simp only [ht,Option.isSome_some,Option.getD_some] at h ⊢;cases hc:ly (r0.length+1) [] r0 with
  | none=>simp only [hc] at h;cases h
  | some y =>
   obtain⟨rows,r2⟩:=y;simp only [hc] at h;injection h with h;injection h with h1 h2;subst h1 h2
   rw [oN z _ ((r0++z).length+1) _ _ gz hc]
 | none =>
  rw [mC z ht hr];simp only [ht,Option.isSome_none,Option.getD_none] at h ⊢;cases hc:ly (r.length+1) [] r with
  | none=>simp only [hc] at h;cases h
  | some y =>
   obtain⟨rows,r2⟩:=y;simp only [hc] at h;injection h with h;injection h with h1 h2;subst h1 h2
   rw [oN z _ ((r++z).length+1) _ _ gz hc]
theorem Fz {r r1:List Str} {x:Rx} (z:List Str) (h:escM r=.ok (x,r1)):escM (r++z)=.ok (x,r1++z):=by
 cases r with
 | nil=>cases h
 | cons c r =>
  simp only [escM,IA] at h ⊢;cases hn:mS c with
  | some rows=>simp only [hn] at h ⊢;injection h with h;injection h with h1 h2;subst h1 h2;rfl
  | none =>
   simp only [hn] at h ⊢;cases hb:bigS c with
   | some rows=>simp only [hb] at h ⊢;injection h with h;injection h with h1 h2;subst h1 h2;rfl
   | none =>
    simp only [hb] at h ⊢;cases hp:mj c with
    | none=>simp only [hp] at h;cases h
    | some t=>simp only [hp] at h ⊢;injection h with h;injection h with h1 h2;subst h1 h2;rfl
theorem yE (z:List Str):∀(r:List Str) (k n:Nat) {m:Nat} {r1:List Str},numL k n r=some (m,r1)→r1≠[]→numL k n (r++z)=some (m,r1++z)
 | [],k,n,m,r1,h,hr=>by
  unfold numL at h;split at h
  ·injection h with h;injection h with _ h;exact absurd h.symm hr
  ·cases h
 | c::r,k,n,m,r1,h,hr=>by
  simp only [numL,IA] at h ⊢;cases hd:digS c with
  | some d =>
   simp only [hd] at h ⊢;by_cases hk:k=3
   ·rw [Hu hk] at h;cases h
   ·rw [Hx hk] at h ⊢;exact yE z r _ _ h hr
  | none =>
   simp only [hd] at h ⊢;by_cases hc:0<k∧n≤255
   ·rw [Hu hc] at h ⊢;injection h with h;injection h with h1 h2;subst h1 h2;rfl
   ·rw [Hx hc] at h;cases h
theorem DP {r r1:List Str} {lo hi:Int} (z:List Str) (h:me r=some (lo,hi,r1)):me (r++z)=some (lo,hi,r1++z):=by
 unfold me at h ⊢;cases h1:numL 0 0 r with
 | none=>simp only [h1] at h;cases h
 | some y =>
  obtain⟨a,s1⟩:=y;simp only [h1] at h;have hs1:s1≠[]:=by rintro rfl;simp [kN] at h
  simp only [yE z r _ _ h1 hs1];cases h2:kN [125] s1 with
  | some s2 =>
   simp only [h2] at h;simp only [mf z h2];injection h with h;injection h with h3 h;injection h with h4 h;subst h3 h4 h;rfl
  | none =>
   simp only [h2] at h;simp only [mC z h2 hs1];cases h3:kN [44] s1 with
   | none=>simp only [h3] at h;cases h
   | some s2 =>
    simp only [h3] at h;simp only [mf z h3];have hs2:s2≠[]:=by rintro rfl;simp [kN,numL] at h
    cases h4:kN [125] s2 with
    | some s3 =>
     simp only [h4] at h;simp only [mf z h4];injection h with h;injection h with h5 h;injection h with h6 h;subst h5 h6 h;rfl
    | none =>
     simp only [h4] at h;simp only [mC z h4 hs2];cases h5:numL 0 0 s2 with
     | none=>exact cY
     | some y =>
      obtain⟨b,s3⟩:=y;simp only [h5] at h;by_cases hle:a≤b
      ·rw [Hu gj] at h
       have hs3:s3≠[]:=by rintro rfl;simp [kN] at h
       simp only [yE z s2 _ _ h5 hs3];rw [Hu gj];cases h6:kN [125] s3 with
       | none=>simp only [h6] at h;cases h
       | some s4 =>
        simp only [h6] at h;simp only [mf z h6];injection h with h;injection h with h7 h;injection h with h8 h;subst h7 h8 h;rfl
      ·rw [Hx gj] at h;cases h
def noQ:List Str→Prop
 | []=>True
 | c::_=>c≠[42]∧c≠[43]∧c≠[63]∧c≠[123]
theorem noQ_take {z:List Str} (h:noQ z):kN [63] z=none:=by
 cases z with
 | nil=>rfl
 | cons c z=>simp only [kN,Hx h.2.2.1]
theorem lazy_app {x y:Rx} {lo hi:Int} {r r1:List Str} (z:List Str) (h:qo x lo hi r=(y,r1)) (hz:r1≠[]∨noQ z):qo x lo hi (r++z)=(y,r1++z):=by
 unfold qo at h ⊢;cases ht:kN [63] r with
 | some r2 =>
  simp only [ht] at h;simp only [mf z ht];injection h with h1 h2;subst h1 h2;rfl
 | none =>
  simp only [ht] at h;injection h with h1 h2;subst h1 h2
  have:kN [63] (r++z)=none:=by
   by_cases hr:r=[]
   ·subst hr;exact noQ_take (hz.resolve_left (fun q=>q rfl))
   ·exact mC z ht hr
  simp only [this]
theorem zN {x y:Rx} {r r1:List Str} (z:List Str) (h:lJ x r=.ok (y,r1)) (hz:r1≠[]∨noQ z):lJ x (r++z)=.ok (y,r1++z):=by
 cases r with
 | nil =>
  simp only [lJ] at h;injection h with h;injection h with h1 h2;subst h1 h2
  have hq:=hz.resolve_left (fun q=>q rfl);cases z with
  | nil=>rfl
  | cons c z=>simp only [Iz,lJ,Hx hq.1,Hx hq.2.1,Hx hq.2.2.1,Hx hq.2.2.2]
 | cons c r =>
  simp only [lJ,IA] at h ⊢;have key:∀{lo hi:Int} {r2:List Str},Except.ok (qo x lo hi r2)=(Except.ok (y,r1):Res)→Except.ok (qo x lo hi (r2++z))=(Except.ok (y,r1++z):Res):=by
   intro lo hi r2 h;injection h with h
   rw [lazy_app z h hz]
  by_cases h1:c=[42]
  ·rw [Hu h1] at h ⊢;exact key h
  rw [Hx h1] at h ⊢;by_cases h2:c=[43]
  ·rw [Hu h2] at h ⊢;exact key h
  rw [Hx h2] at h ⊢;by_cases h3:c=[63]
  ·rw [Hu h3] at h ⊢;exact key h
  rw [Hx h3] at h ⊢;by_cases h4:c=[123]
  ·rw [Hu h4] at h ⊢
   cases hb:me r with
   | none=>simp only [hb] at h;cases h
   | some w =>
    obtain⟨lo,hi,r2⟩:=w;simp only [hb] at h;simp only [DP z hb];exact key h
  ·rw [Hx h4] at h ⊢
   injection h with h;injection h with h5 h6;subst h5 h6;rfl
theorem wh {r r0:List Str} {k:Int} (z:List Str) (h:nc r=some (k,r0)) (hr:r≠[]):nc (r++z)=some (k,r0++z):=by
 unfold nc at h ⊢;cases h1:kN [63] r with
 | none =>
  simp only [h1] at h;simp only [mC z h1 hr];exact dU
 | some r1 =>
  simp only [h1] at h;simp only [mf z h1];cases h2:kN [58] r1 with
  | none=>simp only [h2] at h;cases h
  | some r2 =>
   simp only [h2] at h;simp only [mf z h2];exact dU
def C0 (pat:List Str→Nat→Res) (z:List Str) (N:Nat):Prop:=∀(r:List Str) (d:Nat) (x:Rx) (r1:List Str),r.length+z.length≤N→okC r→pat r d=.ok (x,r1)→r1≠[]→pat (r++z) d=.ok (x,r1++z)
theorem Fl {pat:List Str→Nat→Res} {z:List Str} {N:Nat} (hp:C0 pat z N) (hnil:∀d,pat [] d=.ok (nw [],[])∨∃e,pat [] d=.error e) {r r1:List Str} {d:Nat} {x:Rx} (h:mw pat r d=.ok (x,r1)) (ho:okC r) (hN:r.length+z.length≤N):mw pat (r++z) d=.ok (x,r1++z):=by
 unfold mw at h ⊢;by_cases hd:16≤d
 ·exact dZ
 rw [Hx hd] at h ⊢;cases hk:nc r with
 | none=>exact d9
 | some y =>
  obtain⟨k,r0⟩:=y;have ks:=(nN hk).1;simp only [hk] at h;have hr:r≠[]:=by
   exact cV
  simp only [wh z hk hr];cases hx:pat r0 (d+1) with
  | error e=>exact cm
  | ok y =>
   obtain⟨w,r2⟩:=y;simp only [hx] at h;cases ht:kN [41] r2 with
   | none=>exact ea
   | some r3 =>
    simp only [ht] at h;have h2:r2≠[]:=by rintro rfl;cases ht
    have hl:=mq ks;rw [hp r0 (d+1) w r2 gj (nf ks ho) hx h2];simp only [mf z ht];injection h with h;injection h with h3 h4;subst h3 h4;rfl
theorem atom_app {pat:List Str→Nat→Res} {z:List Str} {N:Nat} (hp:C0 pat z N) (hnil:∀d,pat [] d=.ok (nw [],[])∨∃e,pat [] d=.error e) {r r1:List Str} {d:Nat} {x:Rx} (h:lS pat r d=.ok (x,r1)) (ho:okC r) (hN:r.length+z.length≤N+1):lS pat (r++z) d=.ok (x,r1++z):=by
 cases r with
 | nil=>cases h
 | cons c r =>
  simp only [H7] at hN;simp only [lS,IA] at h ⊢;by_cases h1:c=[46]
  ·exact cZ
  rw [Hx h1] at h ⊢;by_cases h2:c=[40]
  ·rw [Hu h2] at h ⊢;exact Fl hp hnil h ho.tail gj
  rw [Hx h2] at h ⊢;by_cases h3:c=[91]
  ·rw [Hu h3] at h ⊢;exact zF z h
  rw [Hx h3] at h ⊢;by_cases h4:c=[92]
  ·rw [Hu h4] at h ⊢;exact Fz z h
  rw [Hx h4] at h ⊢;by_cases h5:ql c=true
  ·exact eb
  ·rw [Hx h5] at h ⊢;injection h with h;injection h with ha hb;subst ha hb;rfl
theorem C6 {r r1:List Str} {x:Rx} (z:List Str) (h:mF r=some (x,r1)):mF (r++z)=some (x,r1++z):=by
 cases r with
 | nil=>cases h
 | cons c r =>
  simp only [mF,IA] at h ⊢;by_cases h1:c=[94]
  ·exact cZ
  rw [Hx h1] at h ⊢;by_cases h2:c=[36]
  ·rw [Hu h2] at h ⊢;injection h with h;injection h with ha hb;subst ha hb;rfl
  rw [Hx h2] at h ⊢;by_cases h3:c=[92]
  ·rw [Hu h3] at h ⊢
   cases h4:kN [98] r with
   | some r2=>simp only [h4] at h;simp only [mf z h4];injection h with h;injection h with ha hb;subst ha hb;rfl
   | none =>
    simp only [h4] at h;cases h5:kN [66] r with
    | some r2 =>
     have hr:r≠[]:=by rintro rfl;cases h5
     simp only [h5] at h;simp only [mC z h4 hr,mf z h5];exact dU
    | none=>exact cY
  ·rw [Hx h3] at h;cases h
theorem AG {r:List Str} (z:List Str) (h:mF r=none) (hr:r≠[]) (h92:r≠[[92]]):mF (r++z)=none:=by
 cases r with
 | nil=>exact absurd rfl hr
 | cons c r =>
  simp only [mF,IA] at h ⊢;by_cases h1:c=[94]
  ·rw [Hu h1] at h;cases h
  rw [Hx h1] at h ⊢;by_cases h2:c=[36]
  ·rw [Hu h2] at h;cases h
  rw [Hx h2] at h ⊢;by_cases h3:c=[92]
  ·rw [Hu h3] at h ⊢
   have hr:r≠[]:=by rintro rfl;rw [h3] at h92;exact h92 rfl
   cases h4:kN [98] r with
   | some r2=>simp only [h4] at h;cases h
   | none =>
    simp only [h4] at h;cases h5:kN [66] r with
    | some r2=>exact cY
    | none=>simp only [mC z h4 hr,mC z h5 hr]
  ·rw [Hx h3]
theorem Cx {pat:List Str→Nat→Res} {z:List Str} {N:Nat} (hp:C0 pat z N) (hnil:∀d,pat [] d=.ok (nw [],[])∨∃e,pat [] d=.error e) {r r1:List Str} {d:Nat} {x:Rx} (h:lD pat r d=.ok (x,r1)) (ho:okC r) (hN:r.length+z.length≤N+1) (hz:r1≠[]∨noQ z):lD pat (r++z) d=.ok (x,r1++z):=by
 unfold lD at h ⊢;cases he:mF r with
 | some y =>
  simp only [he] at h;obtain⟨a,b⟩:=y;injection h with h;injection h with ha hb;subst ha hb
  simp only [C6 z he]
 | none =>
  simp only [he] at h;cases ha:lS pat r d with
  | error e=>exact ec
  | ok y =>
   obtain⟨w,r2⟩:=y;simp only [ha] at h;have hr:r≠[]:=by rintro rfl;cases ha
   have h92:r≠[[92]]:=by rintro rfl;simp [lS,escM] at ha
   simp only [AG z he hr h92,atom_app hp hnil ha ho hN];exact zN z h hz
theorem BV (n:Nat) (d:Nat):patF n [] d=.ok (nw [],[])∨∃e,patF n [] d=.error e:=by
 cases n with
 | zero=>exact .inr ⟨1,rfl⟩
 | succ n=>exact .inl rfl
theorem tp {f g:List Str→Res}:∀(k:Nat) (alts terms:List Rx) (r:List Str),(∀r',r' <:+ r→f r'=g r')→(∀r' x r1,r' <:+ r→f r'=.ok (x,r1)→r1 <:+ r')→patL f k alts terms r=patL g k alts terms r
 | 0,_,_,_,_,_=>rfl
 | k+1,alts,terms,[],_,_=>rfl
 | k+1,alts,terms,c::r,h,hs=>by
  simp only [patL];by_cases h1:c=[41]
  ·rw [Hu h1,Hu h1]
  rw [Hx h1,Hx h1];by_cases h2:c=[124]
  ·rw [Hu h2,Hu h2]
   exact tp k _ _ r (fun r' hr=>h r' (lV hr)) (fun r' x r1 hr=>hs r' x r1 (lV hr))
  rw [Hx h2,Hx h2,←h (c::r) (IM _)];cases hx:f (c::r) with
  | error e=>rfl
  | ok y =>
   obtain⟨x,r1⟩:=y;have s:=hs _ _ _ (IM _) hx;exact tp k _ _ r1 (fun r' hr=>h r' (hr.trans s)) (fun r' x r2 hr=>hs r' x r2 (hr.trans s))
theorem uV {f:List Str→Res}:∀(k m:Nat) (alts terms:List Rx) (r:List Str),r.length<k→k≤m→(∀r' x r1,r' <:+ r→f r'=.ok (x,r1)→r1 <:+ r'∧r1.length<r'.length)→patL f k alts terms r=patL f m alts terms r
 | 0,_,_,_,_,h,_,_=>by omega
 | k+1,m,alts,terms,r,hk,hm,hs=>by
  obtain⟨m,rfl⟩:∃m',m=m'+1:=⟨m-1,by omega⟩;cases r with
  | nil=>rfl
  | cons c r =>
   simp only [H7] at hk;simp only [patL];by_cases h1:c=[41]
   ·rw [Hu h1,Hu h1]
   rw [Hx h1,Hx h1];by_cases h2:c=[124]
   ·rw [Hu h2,Hu h2]
    exact uV k m _ _ r gj gj (fun r' x r1 hr=>hs r' x r1 (lV hr))
   rw [Hx h2,Hx h2];cases hx:f (c::r) with
   | error e=>rfl
   | ok y =>
    obtain⟨x,r1⟩:=y;obtain⟨s,hl⟩:=hs _ _ _ (IM _) hx;simp only [H7] at hl;exact uV k m _ _ r1 gj gj (fun r' x r2 hr=>hs r' x r2 (hr.trans s))
theorem BM {p q:List Str→Nat→Res} {r:List Str} {d:Nat} (h:∀r' d',r' <:+ r→p r' d'=q r' d'):mw p r d=mw q r d:=by
 unfold mw;by_cases hd:16≤d
 ·rw [Hu hd,Hu hd]
 rw [Hx hd,Hx hd];cases hk:nc r with
 | none=>rfl
 | some y=>simp only;rw [h y.2 (d+1) (nN (k:=y.1) hk).1]
theorem DA {p q:List Str→Nat→Res} {c:Str} {r:List Str} {d:Nat} (h:∀r' d',r' <:+ r→p r' d'=q r' d'):lS p (c::r) d=lS q (c::r) d:=by
 simp only [lS,BM h]
theorem DO {p q:List Str→Nat→Res} {r:List Str} {d:Nat} (h:∀r' d',r' <:+ r→r'.length<r.length→p r' d'=q r' d'):lD p r d=lD q r d:=by
 unfold lD;cases r with
 | nil=>rfl
 | cons c r=>rw [DA (fun r' d' hs=>h r' d' (lV hs) (by have:=mq hs;simp;omega))]
theorem qi {n:Nat} {r r1:List Str} {d:Nat} {x:Rx} (h:lD (patF n) r d=.ok (x,r1)) (ho:okC r) (hl:r.length≤200000):r1 <:+ r∧r1.length<r.length:=by
 obtain⟨f,g⟩:=tr (qA n) h ho gj (Ia _);exact⟨f.2.2.2,g⟩
theorem yq:∀(n:Nat) (r:List Str) (d:Nat),r.length<n→okC r→r.length≤200000→patF n r d=patF (n+1) r d
 | 0,_,_,h,_,_=>by omega
 | n+1,r,d,h,ho,hl=>by
  show patL (fun r=>lD (patF n) r d) (r.length+1) [] [] r=patL (fun r=>lD (patF (n+1)) r d) (r.length+1) [] [] r
  refine tp _ _ _ _ (fun r' hs=>DO fun r2 d2 hs2 hl2=>?_) (fun r' x r1 hs hx=>(qi hx (nf hs ho) jI).1);have:=mq hs
  exact yq n r2 d2 gj (nf (hs2.trans hs) ho) gj
theorem sG {n m:Nat} {r:List Str} {d:Nat} (hn:r.length<n) (hm:r.length<m) (ho:okC r) (hl:r.length≤200000):patF n r d=patF m r d:=by
 have key:∀k,patF n r d=patF (n+k) r d:=by
  intro k;induction k with
  | zero=>rfl
  | succ k ih=>rw [ih];exact yq (n+k) r d gj ho hl
 have key2:∀k,patF m r d=patF (m+k) r d:=by
  intro k;induction k with
  | zero=>rfl
  | succ k ih=>rw [ih];exact yq (m+k) r d gj ho hl
 rw [key m,key2 n,Nat.add_comm]
theorem yJ {f:List Str→Res} {z:List Str}:∀(k m:Nat) (alts terms:List Rx) (r:List Str) {x:Rx} {r1:List Str},k≤m→patL f k alts terms r=.ok (x,r1)→r1≠[] →
  (∀r' y r2,r' <:+ r→f r'=.ok (y,r2)→r2≠[]→f (r'++z)=.ok (y,r2++z))→(∀r' y r2,r' <:+ r→f r'=.ok (y,r2)→r2 <:+ r')→patL f m alts terms (r++z)=.ok (x,r1++z)
 | 0,_,_,_,_,_,_,_,h,_,_,_=>by cases h
 | k+1,m,alts,terms,r,x,r1,hm,h,hr,ht,hs=>by
  obtain⟨m,rfl⟩:∃m',m=m'+1:=⟨m-1,by omega⟩;cases r with
  | nil=>simp only [patL] at h;injection h with h;injection h with _ h;exact absurd h.symm hr
  | cons c r =>
   simp only [patL,IA] at h ⊢;by_cases h1:c=[41]
   ·exact cZ
   rw [Hx h1] at h ⊢;by_cases h2:c=[124]
   ·rw [Hu h2] at h ⊢
    exact yJ k m _ _ r gj h hr (fun r' y r2 q=>ht r' y r2 (lV q)) (fun r' y r2 q=>hs r' y r2 (lV q))
   rw [Hx h2] at h ⊢;cases hx:f (c::r) with
   | error e=>exact cm
   | ok y =>
    obtain⟨w,r2⟩:=y;simp only [hx] at h;have s:=hs _ _ _ (IM _) hx;have h2':r2≠[]:=by
     rintro rfl;cases k with
     | zero=>cases h
     | succ k=>simp only [patL] at h;injection h with h;injection h with _ h;exact hr h.symm
    have hx2:=ht _ _ _ (IM _) hx h2';rw [IA] at hx2;simp only [hx2];exact yJ k m _ _ r2 gj h hr (fun r' y r3 q=>ht r' y r3 (q.trans s)) (fun r' y r3 q=>hs r' y r3 (q.trans s))
theorem Gq (z:List Str):∀(n:Nat),n≤200000→C0 (patF n) z n
 | 0,_=>fun r d x r1 _ _ h _=>by cases h
 | n+1,hn=>fun r d x r1 hl ho h hr=>by
  have ih:=Gq z n gj;refine yJ (f:=fun r=>lD (patF n) r d) (r.length+1) ((r++z).length+1) [] [] r gz h hr (fun r' y r2 hs hx h2=>?_) (fun r' y r2 hs hx=>(qi hx (nf hs ho) jI).1);exact Cx ih (BV n) hx (nf hs ho) jI (.inl h2)
def InvA (l:List Rx):Prop:=∀y∈l,y.kind≠1
def InvT (l:List Rx):Prop:=∀y∈l,y.kind≠0∧y.kind≠1
theorem InvA.app {a b:List Rx} (h1:InvA a) (h2:InvA b):InvA (a++b):=fun y hy=>(IB.1 hy).elim (h1 y) (h2 y)
theorem InvT.app {a b:List Rx} (h1:InvT a) (h2:InvT b):InvT (a++b):=fun y hy=>(IB.1 hy).elim (h1 y) (h2 y)
theorem mn {kd:Int}:∀{l:List Rx},(∀y∈l,y.kind≠kd)→lR kd l=l
 | [],_=>rfl
 | x::l,h=>by
  rw [pz,Hx (h x (Ik ..)),mn (fun y hy=>h y (Il _ hy))];rfl
theorem mK {l:List Rx} (h:InvT l):(seqR l).kind≠1∧lR 0 [seqR l]=l:=by
 have hf:lR 0 l=l:=mn fun y hy=>(h y hy).1
 rcases l with _|⟨x,_|⟨y,l⟩⟩
 ·exact⟨by decide,rfl⟩
 ·have e:seqR [x]=x:=by unfold seqR;rw [hf]
  have hx:=h x (Ik ..);rw [e];exact⟨hx.2,mn fun y hy=>by rw [IC] at hy;rw [hy];exact hx.1⟩
 ·have e:seqR (x::y::l)=nw (x::y::l):=by unfold seqR;rw [hf]
  rw [e];exact⟨by show (0:Int)≠1;decide,by rw [pz];simp [nw,Rx.kind,Rx.kids,lR]⟩
theorem nX {x:Rx} (h:x.kind≠1):altR [x]=x:=by
 unfold altR;rw [mn (fun y hy=>by rw [IC] at hy;rw [hy];exact h)]
theorem zg {l:List Rx} (h:InvA l) (hl:l≠[]):lR 1 [altR l]=l:=by
 have hf:lR 1 l=l:=mn h;rcases l with _|⟨x,_|⟨y,l⟩⟩
 ·exact absurd rfl hl
 ·rw [nX (h x (Ik ..))];exact hf
 ·have e:altR (x::y::l)=sD (x::y::l):=by unfold altR;rw [hf]
  rw [e,pz];simp [sD,Rx.kind,Rx.kids,lR]
theorem AD {l:List Rx} (h:InvA l) (hl:2≤l.length):(altR l).kind=1:=by
 have hf:lR 1 l=l:=mn h;rcases l with _|⟨x,_|⟨y,l⟩⟩
 ·simp at hl
 ·simp at hl
 ·unfold altR;rw [hf];rfl
theorem zu (kd:Int) (a b:List Rx):lR kd (a++b)=lR kd a++lR kd b:=by simp [lR]
theorem C7 {a b:List Rx} (ha:InvA a) (hb:InvA b) (ha0:a≠[]) (hb0:b≠[]):altR [altR a,altR b]=altR (a++b):=by
 have h1:lR 1 [altR a,altR b]=a++b:=by
  rw [show [altR a,altR b]=[altR a]++[altR b] from rfl,zu,zg ha ha0,zg hb hb0]
 have h2:lR 1 (a++b)=a++b:=mn (ha.app hb);unfold altR;rw [h2];unfold altR at h1;rw [h1]
theorem CA {a b:List Rx} (ha:InvT a) (hb:InvT b):seqR [seqR a,seqR b]=seqR (a++b):=by
 have h1:lR 0 [seqR a,seqR b]=a++b:=by
  rw [show [seqR a,seqR b]=[seqR a]++[seqR b] from rfl,zu,(mK ha).2,(mK hb).2]
 have h2:lR 0 (a++b)=a++b:=mn fun y hy=>((ha.app hb) y hy).1
 unfold seqR;rw [h2];unfold seqR at h1;rw [h1]
theorem DU {x y:Rx} {r r1:List Str} (h:lJ x r=.ok (y,r1)) (hx:x.kind≠0∧x.kind≠1):y.kind≠0∧y.kind≠1:=by
 rcases qe h with⟨rfl,_⟩|⟨⟨lo,hi,lz,rfl⟩,_⟩
 ·exact hx
 ·exact⟨by show (7:Int)≠0;decide,by show (7:Int)≠1;decide⟩
theorem Fh {pat:List Str→Nat→Res} {r r1:List Str} {d:Nat} {x:Rx} (h:lS pat r d=.ok (x,r1)):x.kind≠0∧x.kind≠1:=by
 have lit:∀k:Int,k≠0→k≠1→∀y:Rx,y.kind=k→y.kind≠0∧y.kind≠1:=fun k h0 h1 y hy=>by rw [hy];exact⟨h0,h1⟩
 cases r with
 | nil=>cases h
 | cons c r =>
  simp only [lS] at h;by_cases h1:c=[46]
  ·rw [Hu h1] at h;injection h with h;injection h with ha _;subst ha;exact lit 3 gv gv _ rfl
  rw [Hx h1] at h;by_cases h2:c=[40]
  ·rw [Hu h2] at h
   unfold mw at h;by_cases hd:16≤d
   ·exact dZ
   rw [Hx hd] at h;cases hk:nc r with
   | none=>exact d9
   | some y =>
    obtain⟨k,r0⟩:=y;have hk2:=(nN hk).2;simp only [hk] at h;cases hx:pat r0 (d+1) with
    | error e=>exact cm
    | ok y =>
     simp only [hx] at h;cases ht:kN [41] y.2 with
     | none=>exact ea
     | some r3 =>
      simp only [ht] at h;injection h with h;injection h with ha _;subst ha
      rcases hk2 with rfl|rfl
      ·exact lit 5 gv gv _ rfl
      ·exact lit 6 gv gv _ rfl
  rw [Hx h2] at h;by_cases h3:c=[91]
  ·rw [Hu h3] at h
   unfold mx at h;simp only at h
   generalize ly _ _ _=q at h
   cases q with
   | none=>simp only at h;cases h
   | some y=>simp only at h;injection h with h;injection h with ha _;subst ha;exact lit 4 gv gv _ rfl
  rw [Hx h3] at h;by_cases h4:c=[92]
  ·rw [Hu h4] at h
   cases r with
   | nil=>cases h
   | cons c2 r2 =>
    simp only [escM] at h;cases hn:mS c2 with
    | some rows=>simp only [hn] at h;injection h with h;injection h with ha _;subst ha;exact lit 4 gv gv _ rfl
    | none =>
     simp only [hn] at h;cases hb:bigS c2 with
     | some rows=>simp only [hb] at h;injection h with h;injection h with ha _;subst ha;exact lit 4 gv gv _ rfl
     | none =>
      simp only [hb] at h;cases hpm:mj c2 with
      | none=>exact fO
      | some t=>simp only [hpm] at h;injection h with h;injection h with ha _;subst ha;exact lit 2 gv gv _ rfl
  rw [Hx h4] at h;by_cases h5:ql c=true
  ·exact eb
  ·rw [Hx h5] at h;injection h with h;injection h with ha _;subst ha;exact lit 2 gv gv _ rfl
theorem vN {pat:List Str→Nat→Res} {r r1:List Str} {d:Nat} {x:Rx} (h:lD pat r d=.ok (x,r1)):x.kind≠0∧x.kind≠1:=by
 unfold lD at h;cases he:mF r with
 | some y =>
  simp only [he] at h;injection h with h;subst h
  cases r with
  | nil=>cases he
  | cons c r =>
   simp only [mF] at he;by_cases h1:c=[94]
   ·rw [Hu h1] at he;injection he with he;injection he with ha _;subst ha;exact⟨by decide,by decide⟩
   rw [Hx h1] at he;by_cases h2:c=[36]
   ·rw [Hu h2] at he;injection he with he;injection he with ha _;subst ha;exact⟨by decide,by decide⟩
   rw [Hx h2] at he;by_cases h3:c=[92]
   ·rw [Hu h3] at he
    cases h4:kN [98] r with
    | some r2=>simp only [h4] at he;injection he with he;injection he with ha _;subst ha;exact⟨by decide,by decide⟩
    | none =>
     simp only [h4] at he;cases h5:kN [66] r with
     | some r2=>simp only [h5] at he;injection he with he;injection he with ha _;subst ha;exact⟨by decide,by decide⟩
     | none=>simp only [h5] at he;cases he
   ·rw [Hx h3] at he;cases he
 | none =>
  simp only [he] at h;cases ha:lS pat r d with
  | error e=>exact ec
  | ok y =>
   simp only [ha] at h;exact DU h (Fh ha)
theorem Bq {f:List Str→Res} {z:List Str} (hq:noQ z):∀(k m:Nat) (alts terms:List Rx) (r:List Str) {x:Rx},k≤m→(r++z).length<m→patL f k alts terms r=.ok (x,[])→InvA alts→InvT terms →
  (∀r' y r2,r' <:+ r→f r'=.ok (y,r2)→f (r'++z)=.ok (y,r2++z))→(∀r' y r2,r' <:+ r→f r'=.ok (y,r2)→r2 <:+ r'∧r2.length<r'.length∧y.kind≠0∧y.kind≠1) →
  ∃alts' terms' m',x=altR (alts'++[seqR terms'])∧patL f m alts terms (r++z)=patL f m' alts' terms' z∧z.length<m'∧InvA alts'∧InvT terms'∧(alts≠[]→alts'≠[])
 | 0,_,_,_,_,_,_,_,h,_,_,_,_=>by cases h
 | k+1,m,alts,terms,r,x,hm,hl,h,ha,ht,he,hs=>by
  obtain⟨m,rfl⟩:∃m',m=m'+1:=⟨m-1,by omega⟩;cases r with
  | nil =>
   simp only [patL] at h;injection h with h;injection h with h1 _
   exact⟨alts,terms,m+1,h1.symm,rfl,by simpa using hl,ha,ht,fun q=>q⟩
  | cons c r =>
   simp only [IA,H7] at hl;simp only [patL] at h;simp only [IA];by_cases h1:c=[41]
   ·rw [Hu h1] at h;injection h with h;injection h with _ h;cases h
   rw [Hx h1] at h;by_cases h2:c=[124]
   ·rw [Hu h2] at h
    obtain⟨a',t',m',g1,g2,g3,g4,g5,g6⟩:=Bq hq k m (alts++[seqR terms]) [] r gj gj h (ha.app fun y hy=>by rw [IC] at hy;rw [hy];exact(mK ht).1) (fun y hy=>by cases hy) (fun r' y r2 q=>he r' y r2 (lV q)) (fun r' y r2 q=>hs r' y r2 (lV q));refine⟨a',t',m',g1,?_,g3,g4,g5,fun _=>g6 gz⟩;rw [←g2];simp only [patL,Hx h1,Hu h2]
   rw [Hx h2] at h;cases hx:f (c::r) with
   | error e=>exact cm
   | ok y =>
    obtain⟨w,r2⟩:=y;simp only [hx] at h;obtain⟨s1,s2,s3⟩:=hs _ _ _ (IM _) hx;have hx2:=he _ _ _ (IM _) hx;rw [IA] at hx2;simp only [H7] at s2;simp only [Ig] at hl;obtain⟨a',t',m',g1,g2,g3,g4,g5,g6⟩:=Bq hq k m alts (terms++[w]) r2 gj iE h ha (ht.app fun y hy=>by rw [IC] at hy;rw [hy];exact s3) (fun r' y r3 q=>he r' y r3 (q.trans s1)) (fun r' y r3 q=>hs r' y r3 (q.trans s1));refine⟨a',t',m',g1,?_,g3,g4,g5,g6⟩;rw [←g2];simp only [patL,Hx h1,Hx h2,hx2]
theorem uo {f:List Str→Res}:∀(k:Nat) (alts terms:List Rx) (r:List Str) {x:Rx} {r1:List Str},patL f k alts terms r=.ok (x,r1)→InvT terms→(∀r' y r2,r' <:+ r→f r'=.ok (y,r2)→r2 <:+ r'∧y.kind≠0∧y.kind≠1) →
  ∃B,B≠[]∧InvA B∧x=altR (alts++B)∧∀A,patL f k (A++alts) terms r=.ok (altR (A++(alts++B)),r1)
 | 0,_,_,_,_,_,h,_,_=>by cases h
 | k+1,alts,terms,r,x,r1,h,ht,hs=>by
  have h1B:InvA [seqR terms]:=fun y hy=>by rw [IC] at hy;rw [hy];exact(mK ht).1
  cases r with
  | nil =>
   simp only [patL] at h;injection h with h;injection h with h1 h2
   exact⟨[seqR terms],by simp,h1B,h1.symm,fun A=>by simp only [patL,II];rw [h2]⟩
  | cons c r =>
   simp only [patL] at h;by_cases h1:c=[41]
   ·rw [Hu h1] at h;injection h with h;injection h with ha hb
    exact⟨[seqR terms],by simp,h1B,ha.symm,fun A=>by simp only [patL,Hu h1,II];rw [hb]⟩
   rw [Hx h1] at h;by_cases h2:c=[124]
   ·rw [Hu h2] at h
    obtain⟨B,b1,b2,b3,b4⟩:=uo k (alts++[seqR terms]) [] r h (fun y hy=>by cases hy) (fun r' y r2 q=>hs r' y r2 (lV q));refine⟨seqR terms::B,by simp,InvA.app h1B b2,by rw [b3];simp,fun A=>?_⟩;have:=b4 A
    simp only [patL,Hx h1,Hu h2];rw [←II] at this;rw [this];simp
   rw [Hx h2] at h;cases hx:f (c::r) with
   | error e=>exact cm
   | ok y =>
    obtain⟨w,r2⟩:=y;simp only [hx] at h;obtain⟨s1,s3⟩:=hs _ _ _ (IM _) hx;obtain⟨B,b1,b2,b3,b4⟩:=uo k alts (terms++[w]) r2 h (ht.app fun y hy=>by rw [IC] at hy;rw [hy];exact s3) (fun r' y r3 q=>hs r' y r3 (q.trans s1));refine⟨B,b1,b2,b3,fun A=>?_⟩;simp only [patL,Hx h1,Hx h2,hx];exact b4 A
theorem CB {f:List Str→Res}:∀(k:Nat) (terms:List Rx) (r:List Str) {x:Rx} {r1:List Str},patL f k [] terms r=.ok (x,r1)→x.kind≠1→InvT terms→(∀r' y r2,r' <:+ r→f r'=.ok (y,r2)→r2 <:+ r'∧y.kind≠0∧y.kind≠1) →
  ∃T,InvT T∧x=seqR (terms++T)∧∀S,InvT S→patL f k [] (S++terms) r=.ok (seqR (S++(terms++T)),r1)
 | 0,_,_,_,_,h,_,_,_=>by cases h
 | k+1,terms,r,x,r1,h,hk,ht,hs=>by
  have fin:∀S,InvT S→altR ([]++[seqR (S++terms)])=seqR (S++(terms++[])):=fun S hS=>by
   rw [Iz,IK,nX (mK (hS.app ht)).1]
  cases r with
  | nil =>
   simp only [patL] at h;injection h with h;injection h with h1 h2
   have e:=fin [] (fun y hy=>by cases hy);exact⟨[],fun y hy=>(by cases hy),by rw [←h1];simpa using e,fun S hS=>by simp only [patL];rw [fin S hS,h2]⟩
  | cons c r =>
   simp only [patL] at h;by_cases h1:c=[41]
   ·rw [Hu h1] at h;injection h with h;injection h with ha hb
    have e:=fin [] (fun y hy=>by cases hy);exact⟨[],fun y hy=>(by cases hy),by rw [←ha];simpa using e,fun S hS=>by simp only [patL,Hu h1];rw [fin S hS,hb]⟩
   rw [Hx h1] at h;by_cases h2:c=[124]
   ·rw [Hu h2] at h
    obtain⟨B,b1,b2,b3,_⟩:=uo k ([]++[seqR terms]) [] r h (fun y hy=>by cases hy) (fun r' y r2 q=>hs r' y r2 (lV q));exfalso;apply hk
    rw [b3];refine AD (InvA.app (fun y hy=>?_) b2) ?_
    ·rw [Iz,IC] at hy;rw [hy];exact(mK ht).1
    ·cases B with
     | nil=>exact absurd rfl b1
     | cons b B=>simp
   rw [Hx h2] at h;cases hx:f (c::r) with
   | error e=>exact cm
   | ok y =>
    obtain⟨w,r2⟩:=y;simp only [hx] at h;obtain⟨s1,s3⟩:=hs _ _ _ (IM _) hx;have hw:InvT [w]:=fun y hy=>by rw [IC] at hy;rw [hy];exact s3
    obtain⟨T,b1,b2,b3⟩:=CB k (terms++[w]) r2 h hk (ht.app hw) (fun r' y r3 q=>hs r' y r3 (q.trans s1));refine⟨w::T,InvT.app hw b1,by rw [b2];simp,fun S hS=>?_⟩;have:=b3 S hS
    simp only [patL,Hx h1,Hx h2,hx];rw [II,this];simp
theorem term_ext {n d:Nat} {z:List Str} (hn:n≤200000) (hq:noQ z) {r y r2} (ho:okC r) (hl:r.length+z.length≤n+1) (h:lD (patF n) r d=.ok (y,r2)):lD (patF n) (r++z) d=.ok (y,r2++z) :=
 Cx (Gq z n hn) (BV n) h ho hl (.inr hq)
theorem xW {n d:Nat} {r y r2} (h:lD (patF n) r d=.ok (y,r2)) (ho:okC r) (hl:r.length≤200000):r2 <:+ r∧r2.length<r.length∧y.kind≠0∧y.kind≠1 :=
 ⟨(qi h ho hl).1,(qi h ho hl).2,vN h⟩
theorem ur {a b:List Str} (h1:okC a) (h2:okC b):okC (a++b):=fun p hp=>(IB.1 hp).elim (h1 p) (h2 p)
theorem FA {l z:List Str} {x:Rx} {d n:Nat} (ho:okC l) (hq:noQ z) (hl:l.length+z.length≤n) (hn:n≤200000) (h:patF (l.length+1) l d=.ok (x,[])) :
  ∃alts terms m,x=altR (alts++[seqR terms])∧patL (fun r=>lD (patF n) r d) ((l++z).length+1) [] [] (l++z)=patL (fun r=>lD (patF n) r d) m alts terms z∧z.length<m∧InvA alts∧InvT terms:=by
 rw [sG (n:=l.length+1) (m:=n+1) gj gj ho gj] at h;obtain⟨a,t,m,g1,g2,g3,g4,g5,_⟩:=Bq (f:=fun r=>lD (patF n) r d) hq (l.length+1) ((l++z).length+1) [] [] l gz gj h (fun y hy=>by cases hy) (fun y hy=>by cases hy)
  (fun r' y r2 q hx=>term_ext hn hq (nf q ho) jJ hx) (fun r' y r2 q hx=>xW hx (nf q ho) jJ)
 exact⟨a,t,m,g1,g2,g3,g4,g5⟩
theorem C8 {l:List Str} {x:Rx} {d n m:Nat} (ho:okC l) (hl:l.length≤n) (hm:l.length<m) (hn:n≤200000) (h:patF (l.length+1) l d=.ok (x,[])):patL (fun r=>lD (patF n) r d) m [] [] l=.ok (x,[]):=by
 rw [sG (n:=l.length+1) (m:=n+1) gj gj ho gj] at h;have h2:patL (fun r=>lD (patF n) r d) (l.length+1) [] [] l=.ok (x,[]):=h;rw [←uV (f:=fun r=>lD (patF n) r d) (l.length+1) m [] [] l gj gj (fun r' y r2 q hx=>qi hx (nf q ho) jJ)];exact h2
theorem G3 {l1 l2:List Str} {x y:Rx} {d:Nat} (o1:okC l1) (o2:okC l2) (hl:l1.length+l2.length≤100000) (h1:patF (l1.length+1) l1 d=.ok (x,[])) (h2:patF (l2.length+1) l2 d=.ok (y,[])) :
  patF ((l1++[124]::l2).length+1) (l1++[124]::l2) d=.ok (altR [x,y],[]):=by
 have hlen:(l1++[124]::l2).length=l1.length+(l2.length+1):=gz;obtain⟨a,t,m,g1,g2,g3,g4,g5⟩:=FA (n:=(l1++[124]::l2).length) (z:=[124]::l2) o1 ⟨by decide,by decide,by decide,by decide⟩ gz gj h1;show patL (fun r=>lD (patF (l1++[124]::l2).length) r d) ((l1++[124]::l2).length+1) [] [] (l1++[124]::l2)=_
 rw [g2];obtain⟨m,rfl⟩:∃m',m=m'+1:=⟨m-1,by omega⟩;simp only [H7] at g3;have h2':=C8 (n:=(l1++[124]::l2).length) (m:=m) o2 gj gj gj h2;obtain⟨B,b1,b2,b3,b4⟩:=uo m [] [] l2 h2' (fun y hy=>by cases hy) (fun r' y r2 q hx=>by
  have:=xW hx (nf q o2) jJ;exact⟨this.1,this.2.2⟩)
 have h4:=b4 (a++[seqR t]);rw [IK] at h4;simp only [patL,Hx (show ¬([124]:Str)=[41] by decide),Hu,h4];have hA:InvA (a++[seqR t]):=g4.app fun y hy=>by rw [IC] at hy;rw [hy];exact(mK g5).1
 rw [g1,b3,Iz,C7 hA b2 gz b1]
theorem noQ_ok {l:List Str} {x:Rx} {d n:Nat} (h:patF n l d=.ok (x,[])):noQ l:=by
 cases n with
 | zero=>cases h
 | succ n =>
  cases l with
  | nil=>trivial
  | cons c r =>
   have h':patL (fun r=>lD (patF n) r d) ((c::r).length+1) [] [] (c::r)=.ok (x,[]):=h;have bad:∀c:Str,c≠[41]→c≠[124]→ql c=true→c≠[46]→c≠[40]→c≠[91]→c≠[92]→c≠[94]→c≠[36]→patL (fun r=>lD (patF n) r d) ((c::r).length+1) [] [] (c::r)≠.ok (x,[]):=by
    intro c c1 c2 c3 c4 c5 c6 c7 c8 c9 h;have ht:lD (patF n) (c::r) d=.error 10:=by
     unfold lD;have he:mF (c::r)=none:=by simp only [mF,Hx c8,Hx c9,Hx c7]
     have ha:lS (patF n) (c::r) d=.error 10:=by simp only [lS,Hx c4,Hx c5,Hx c6,Hx c7,Hu c3]
     simp only [he,ha]
    simp only [patL,Hx c1,Hx c2,ht] at h;cases h
   refine⟨?_,?_,?_,?_⟩
   ·rintro rfl;exact bad [42] gv gv gv gv gv gv gv gv gv h'
   ·rintro rfl;exact bad [43] gv gv gv gv gv gv gv gv gv h'
   ·rintro rfl;exact bad [63] gv gv gv gv gv gv gv gv gv h'
   ·rintro rfl;exact bad [123] gv gv gv gv gv gv gv gv gv h'
theorem FW {l1 l2:List Str} {x y:Rx} {d:Nat} (o1:okC l1) (o2:okC l2) (hl:l1.length+l2.length≤100000) (h1:patF (l1.length+1) l1 d=.ok (x,[])) (h2:patF (l2.length+1) l2 d=.ok (y,[])) (hx:x.kind≠1) (hy:y.kind≠1) :
  patF ((l1++l2).length+1) (l1++l2) d=.ok (seqR [x,y],[]):=by
 have hlen:(l1++l2).length=l1.length+l2.length:=gz;obtain⟨a,t,m,g1,g2,g3,g4,g5⟩:=FA (n:=(l1++l2).length) (z:=l2) o1 (noQ_ok h2) gj gj h1;show patL (fun r=>lD (patF (l1++l2).length) r d) ((l1++l2).length+1) [] [] (l1++l2)=_
 rw [g2];have ha:a=[]:=by
  rcases a with _|⟨u,a⟩
  ·rfl
  ·exfalso;apply hx;rw [g1]
   exact AD (g4.app fun y hy=>by rw [IC] at hy;rw [hy];exact(mK g5).1) gz
 subst ha;have h2':=C8 (n:=(l1++l2).length) (m:=m) o2 gj g3 gj h2;obtain⟨T,b1,b2,b3⟩:=CB m [] l2 h2' hy (fun y hy=>by cases hy) (fun r' y r2 q hx=>by
  have:=xW hx (nf q o2) jJ;exact⟨this.1,this.2.2⟩)
 have h4:=b3 t g5;rw [IK,Iz] at h4;rw [h4,g1,b2,Iz,Iz,nX (mK g5).1,CA g5 b1]
theorem DV:∀(k:Nat) (l:Str),l.length≤k→ns k l=kX l
 | k,l,h=>by
  have key:∀(n k:Nat) (l:Str),l.length≤n→n≤k→ns k l=ns n l:=by
   intro n;induction n with
   | zero=>intro k l h1 h2;obtain rfl:=Hv (Nat.le_zero.1 h1);cases k<;>rfl
   | succ n ih =>
    intro k l h1 h2;obtain⟨k,rfl⟩:∃k',k=k'+1:=⟨k-1,by omega⟩;cases l with
    | nil=>rfl
    | cons c r =>
     have hd:(r.dropWhile kI).length≤r.length:=(List.dropWhile_suffix kI).length_le;simp only [H7] at h1;simp only [ns];rw [ih k _ gj gj]
  exact key l.length k l (Ia _) h
theorem mQ (c:UInt8) (r:Str):kX (c::r)=(c::r.takeWhile kI)::kX (r.dropWhile kI):=by
 have hd:(r.dropWhile kI).length≤r.length:=(List.dropWhile_suffix kI).length_le;show ns (r.length+1) (c::r)=_
 simp only [ns];rw [DV r.length _ hd]
def nE:Str→Prop
 | []=>True
 | c::_=>kI c=false
theorem xC {p:UInt8→Bool} {a b:Str} (hb:∀c r,b=c::r→p c=false):(a++b).takeWhile p=a.takeWhile p∧(a++b).dropWhile p=a.dropWhile p++b:=by
 induction a with
 | nil =>
  cases b with
  | nil=>exact⟨rfl,rfl⟩
  | cons c r=>have:=hb c r rfl;simp [this]
 | cons x a ih =>
  cases hx:p x with
  | true=>simp [hx,ih.1,ih.2]
  | false=>simp [hx]
theorem lO:∀(n:Nat) (s t:Str),s.length≤n→nE t→kX (s++t)=kX s++kX t
 | _,[],t,_,_=>rfl
 | 0,c::r,t,h,_=>by simp at h
 | n+1,c::r,t,h,ht=>by
  have hd:(r.dropWhile kI).length≤r.length:=(List.dropWhile_suffix kI).length_le;simp only [H7] at h;obtain⟨e1,e2⟩:=xC (p:=kI) (a:=r) (b:=t) (fun c' r' e=>by subst e;exact ht);rw [IA,mQ,mQ,e1,e2,lO n _ t gj ht];rfl
theorem nR (s:Str):(kX s).length≤s.length:=(o5 s.length s).2
theorem sb {s:Str} (h:s.length≤1000000):okC (kX s):=fun p hp=>by
 have:=(o5 s.length s).1 p hp
 exact⟨this.1,by omega⟩
theorem readM_ok {s:Str} {x:Rx}:qy s=.ok x↔s.length≤256∧nE s∧patF ((kX s).length+1) (kX s) 0=.ok (x,[]):=by
 unfold qy;have rc:∀l:List Str,ye l=.ok x↔patF (l.length+1) l 0=.ok (x,[]):=by
  intro l;unfold ye;cases patF (l.length+1) l 0 with
  | error e=>simp
  | ok y =>
   obtain⟨y,r⟩:=y;cases r with
   | nil=>simp
   | cons c r=>simp
 by_cases hl:256<s.length
 ·rw [Hu hl]
  exact⟨(fun h=>by cases h),fun h=>by omega⟩
 rw [Hx hl];cases s with
 | nil =>
  have:kX []=[]:=rfl
  rw [this];simp only [rc];exact⟨fun h=>⟨by simp,trivial,h⟩,fun h=>h.2.2⟩
 | cons c r =>
  rw [mQ];have hp:lG (c::r.takeWhile kI)=!kI c:=by
   show (!kI c&&(r.takeWhile kI).all kI)=_
   have:(r.takeWhile kI).all kI=true:=List.all_takeWhile ..
   rw [this,Ho]
  simp only [hp];cases hc:kI c with
  | true=>simp [nE,hc]
  | false =>
   simp only [Bool.not_false,if_true];rw [rc];exact⟨fun h=>⟨by omega,hc,h⟩,fun h=>h.2.2⟩
theorem deepL_app:∀(a b:List Rx),Rx.deepL (a++b)=max (Rx.deepL a) (Rx.deepL b)
 | [],b=>by simp [Rx.deepL]
 | x::a,b=>by simp only [IA,Rx.deepL,deepL_app a b];omega
theorem E4 {x:Rx} (h:x.kind=0∨x.kind=1):Rx.deepL x.kids=x.deep:=by
 obtain⟨k,c,ng,rs,lo,hi,lz,ks⟩:=x;simp only [Rx.kind] at h;simp only [Rx.kids,Rx.deep];rw [Hx gj];omega
theorem uz {kd:Int} (hk:kd=0∨kd=1):∀xs:List Rx,Rx.deepL (lR kd xs)=Rx.deepL xs
 | []=>rfl
 | x::xs=>by
  rw [pz,deepL_app,uz hk xs];simp only [Rx.deepL];by_cases h:x.kind=kd
  ·rw [Hu h,E4 (by rw [h];exact hk)]
  ·rw [Hx h];simp only [Rx.deepL];omega
theorem vK (xs:List Rx):(seqR xs).deep=Rx.deepL xs:=by
 have h:=uz (kd:=0) (.inl rfl) xs;unfold seqR;split
 ·rename_i y hy;rw [hy] at h;simp only [Rx.deepL] at h;omega
 ·rename_i l _;unfold nw;simp only [Rx.deep];rw [Hx gv,h];rfl
theorem FR (xs:List Rx):(altR xs).deep=Rx.deepL xs:=by
 have h:=uz (kd:=1) (.inr rfl) xs;unfold altR;split
 ·rename_i hy;rw [hy] at h;exact h
 ·rename_i y hy;rw [hy] at h;simp only [Rx.deepL] at h;omega
 ·unfold sD;simp only [Rx.deep];rw [Hx gv,h];rfl
theorem qX (alts terms:List Rx):(altR (alts++[seqR terms])).deep=max (Rx.deepL alts) (Rx.deepL terms):=by
 rw [FR,deepL_app];simp only [Rx.deepL,vK];omega
theorem Cw (lo hi:Int) (lz:Bool) (x:Rx):(repR lo hi lz x).deep=x.deep:=by
 unfold repR;simp only [Rx.deep,Rx.deepL];rw [Hx gv];omega
theorem xK {k:Int} (hk:k=5∨k=6) (x:Rx):(grpR k x).deep=x.deep+1:=by
 unfold grpR;simp only [Rx.deep,Rx.deepL];rw [Hu hk];omega
def yw (pat:List Str→Nat→Res) (z:List Str) (N:Nat):Prop:=∀(r:List Str) (d:Nat) (x:Rx) (r1:List Str) (d':Nat),r.length+z.length≤N→okC r→pat r d=.ok (x,r1)→d'≤16 →
 (x.deep+d'≤16→(r1≠[]∨z=[])→pat (r++z) d'=.ok (x,r1++z))∧(16<x.deep+d'→pat (r++z) d'=.error 8)
theorem Dq {pat:List Str→Nat→Res} {z:List Str} {N:Nat} (hp:yw pat z N) (hnil:∀d,pat [] d=.ok (nw [],[])∨∃e,pat [] d=.error e) {r r1:List Str} {d d':Nat} {x:Rx} (h:mw pat r d=.ok (x,r1)) (ho:okC r) (hN:r.length+z.length≤N) (hd':d'≤16) :
  (x.deep+d'≤16→mw pat (r++z) d'=.ok (x,r1++z))∧(16<x.deep+d'→mw pat (r++z) d'=.error 8):=by
 unfold mw at h ⊢;by_cases hd:16≤d
 ·exact dZ
 rw [Hx hd] at h;cases hk:nc r with
 | none=>exact d9
 | some y =>
  obtain⟨k,r0⟩:=y;obtain⟨ks,kk⟩:=nN hk;simp only [hk] at h;have hr:r≠[]:=by
   exact cV
  cases hx:pat r0 (d+1) with
  | error e=>exact cm
  | ok y =>
   obtain⟨w,r2⟩:=y;simp only [hx] at h;cases ht:kN [41] r2 with
   | none=>exact ea
   | some r3 =>
    simp only [ht] at h;injection h with h;injection h with h3 h4;subst h3 h4
    have h2:r2≠[]:=by rintro rfl;cases ht
    have hl:=mq ks;have hde:=xK kk w;by_cases h16:16≤d'
    ·rw [Hu h16]
     exact⟨fun q=>by omega,fun _=>rfl⟩
    rw [Hx h16];simp only [wh z hk hr];obtain⟨p1,p2⟩:=hp r0 (d+1) w r2 (d'+1) gj (nf ks ho) hx gj;refine⟨fun q=>?_,fun q=>?_⟩
    ·simp only [p1 gj (.inl h2),mf z ht]
    ·simp only [p2 gj]
theorem F3 {pat:List Str→Nat→Res} {z:List Str} {N:Nat} (hp:yw pat z N) (hnil:∀d,pat [] d=.ok (nw [],[])∨∃e,pat [] d=.error e) {r r1:List Str} {d d':Nat} {x:Rx} (h:lS pat r d=.ok (x,r1)) (ho:okC r) (hN:r.length+z.length≤N+1) (hd':d'≤16) :
  (x.deep+d'≤16→lS pat (r++z) d'=.ok (x,r1++z))∧(16<x.deep+d'→lS pat (r++z) d'=.error 8):=by
 cases r with
 | nil=>cases h
 | cons c r =>
  simp only [H7] at hN;simp only [lS,IA] at h ⊢;have flat:∀{res:Res},x.deep=0→res=.ok (x,r1++z)→(x.deep+d'≤16→res=.ok (x,r1++z))∧(16<x.deep+d'→res=.error 8):=fun h0 hr=>⟨fun _=>hr,fun q=>by omega⟩
  by_cases h1:c=[46]
  ·rw [Hu h1] at h ⊢;injection h with h;injection h with ha hb;subst ha hb;exact flat rfl rfl
  rw [Hx h1] at h ⊢;by_cases h2:c=[40]
  ·rw [Hu h2] at h ⊢;exact Dq hp hnil h ho.tail gj hd'
  rw [Hx h2] at h ⊢;by_cases h3:c=[91]
  ·rw [Hu h3] at h ⊢
   refine flat ?_ (zF z h);exact cM
  rw [Hx h3] at h ⊢;by_cases h4:c=[92]
  ·rw [Hu h4] at h ⊢
   refine flat ?_ (Fz z h);exact bG
  rw [Hx h4] at h ⊢;by_cases h5:ql c=true
  ·exact eb
  ·rw [Hx h5] at h ⊢;injection h with h;injection h with ha hb;subst ha hb;exact flat rfl rfl
theorem EU {r r1:List Str} {x:Rx} (h:mF r=some (x,r1)):x.deep=0:=by
 cases r with
 | nil=>cases h
 | cons c r =>
  simp only [mF] at h;by_cases h1:c=[94]
  ·rw [Hu h1] at h;injection h with h;injection h with ha _;subst ha;rfl
  rw [Hx h1] at h;by_cases h2:c=[36]
  ·rw [Hu h2] at h;injection h with h;injection h with ha _;subst ha;rfl
  rw [Hx h2] at h;by_cases h3:c=[92]
  ·rw [Hu h3] at h
   cases h4:kN [98] r with
   | some r2=>simp only [h4] at h;injection h with h;injection h with ha _;subst ha;rfl
   | none =>
    simp only [h4] at h;cases h5:kN [66] r with
    | some r2=>simp only [h5] at h;injection h with h;injection h with ha _;subst ha;rfl
    | none=>exact cY
  ·rw [Hx h3] at h;cases h
theorem FM {pat:List Str→Nat→Res} {z:List Str} {N:Nat} (hp:yw pat z N) (hnil:∀d,pat [] d=.ok (nw [],[])∨∃e,pat [] d=.error e) {r r1:List Str} {d d':Nat} {x:Rx} (h:lD pat r d=.ok (x,r1)) (ho:okC r) (hN:r.length+z.length≤N+1) (hd':d'≤16) :
  (x.deep+d'≤16→(r1≠[]∨noQ z)→lD pat (r++z) d'=.ok (x,r1++z))∧(16<x.deep+d'→lD pat (r++z) d'=.error 8):=by
 unfold lD at h ⊢;cases he:mF r with
 | some y =>
  simp only [he] at h;obtain⟨a,b⟩:=y;injection h with h;injection h with ha hb;subst ha hb
  have h0:=EU he;simp only [C6 z he];exact⟨fun _ _=>(by first|rfl|trivial),fun q=>by omega⟩
 | none =>
  simp only [he] at h;cases ha:lS pat r d with
  | error e=>exact ec
  | ok y =>
   obtain⟨w,r2⟩:=y;simp only [ha] at h;have hr:r≠[]:=by rintro rfl;cases ha
   have h92:r≠[[92]]:=by rintro rfl;simp [lS,escM] at ha
   have hde:x.deep=w.deep:=by
    rcases qe h with⟨rfl,_⟩|⟨⟨lo,hi,lz,rfl⟩,_⟩
    ·rfl
    ·exact Cw _ _ _ _
   obtain⟨p1,p2⟩:=F3 hp hnil ha ho hN hd';simp only [AG z he hr h92];refine⟨fun q hz=>?_,fun q=>?_⟩
   ·simp only [p1 gj];exact zN z h hz
   ·simp only [p2 gj]
theorem sg {f:List Str→Res} {k:Nat} {alts terms:List Rx} {x:Rx} {r1:List Str} (h:patL f k alts terms []=.ok (x,r1)):x=altR (alts++[seqR terms])∧r1=[]:=by
 cases k with
 | zero=>cases h
 | succ k=>simp only [patL] at h;injection h with h;injection h with h1 h2;exact⟨h1.symm,h2.symm⟩
theorem uM {f f':List Str→Res} {z:List Str} {d':Nat}:∀(k m:Nat) (alts terms:List Rx) (r:List Str) {x:Rx} {r1:List Str},k≤m→patL f k alts terms r=.ok (x,r1) →
  (∀r' y r2,r' <:+ r→f r'=.ok (y,r2)→(y.deep+d'≤16→(r2≠[]∨noQ z)→f' (r'++z)=.ok (y,r2++z))∧(16<y.deep+d'→f' (r'++z)=.error 8)) →
  (∀r' y r2,r' <:+ r→f r'=.ok (y,r2)→r2 <:+ r')→Rx.deepL alts+d'≤16→Rx.deepL terms+d'≤16 →
  (x.deep+d'≤16→(r1≠[]∨z=[])→patL f' m alts terms (r++z)=.ok (x,r1++z))∧(16<x.deep+d'→patL f' m alts terms (r++z)=.error 8)
 | 0,_,_,_,_,_,_,_,h,_,_,_,_=>by cases h
 | k+1,m,alts,terms,r,x,r1,hm,h,ht,hs,da,dt=>by
  obtain⟨m,rfl⟩:∃m',m=m'+1:=⟨m-1,by omega⟩;cases r with
  | nil =>
   obtain⟨e1,e2⟩:=sg h;subst e1 e2;have hd:=qX alts terms;refine⟨fun _ q=>?_,fun q=>by omega⟩;obtain rfl:=q.resolve_left (fun q=>q rfl);rfl
  | cons c r =>
   simp only [patL,IA] at h ⊢;by_cases h1:c=[41]
   ·rw [Hu h1] at h ⊢
    injection h with h;injection h with ha hb;subst ha hb
    have hd:=qX alts terms;exact⟨fun _ _=>(by first|rfl|trivial),fun q=>by omega⟩
   rw [Hx h1] at h ⊢;by_cases h2:c=[124]
   ·rw [Hu h2] at h ⊢
    have:=uM k m _ _ r gj h (fun r' y r2 q=>ht r' y r2 (lV q)) (fun r' y r2 q=>hs r' y r2 (lV q)) jM iY
    exact this
   rw [Hx h2] at h ⊢;cases hx:f (c::r) with
   | error e=>exact cm
   | ok y =>
    obtain⟨w,r2⟩:=y;simp only [hx] at h;have s:=hs _ _ _ (IM _) hx;obtain⟨t1,t2⟩:=ht _ _ _ (IM _) hx;rw [IA] at t1 t2;by_cases hw:w.deep+d'≤16
    ·have rc0:=uM k m alts (terms++[w]) r2 gj h (fun r' y r3 q=>ht r' y r3 (q.trans s)) (fun r' y r3 q=>hs r' y r3 (q.trans s)) da (by rw [deepL_app];simp only [Rx.deepL];omega)
     have hr2:r2=[]→x.deep+d'≤16:=by
      rintro rfl;obtain⟨e1,_⟩:=sg h;rw [e1,qX,deepL_app];simp only [Rx.deepL];omega
     refine⟨fun q1 q2=>?_,fun q=>?_⟩
     ·have hz:r2≠[]∨noQ z:=by
       rcases q2 with q2|q2
       ·exact .inl (by rintro rfl;exact q2 (sg h).2)
       ·exact .inr (by rw [q2];trivial)
      simp only [t1 hw hz];exact rc0.1 q1 q2
     ·have h2':r2≠[]:=fun e=>by have:=hr2 e;omega
      simp only [t1 hw (.inl h2')];exact rc0.2 q
    ·have h8:=t2 gj
     have hxd:16<x.deep+d'→True:=fun _=>trivial
     refine⟨fun q1 _=>?_,fun _=>by simp only [h8]⟩;exfalso;have key:∀(k:Nat) (alts terms:List Rx) (r:List Str) {x:Rx} {r1:List Str},patL f k alts terms r=.ok (x,r1)→Rx.deepL terms≤x.deep∧Rx.deepL alts≤x.deep:=by
      intro k;induction k with
      | zero=>intro alts terms r x r1 h;cases h
      | succ k ih =>
       intro alts terms r x r1 h;cases r with
       | nil=>obtain⟨e1,_⟩:=sg h;rw [e1,qX];omega
       | cons c r =>
        simp only [patL] at h;by_cases h1:c=[41]
        ·rw [Hu h1] at h;injection h with h;injection h with ha _;rw [←ha,qX];omega
        rw [Hx h1] at h;by_cases h2:c=[124]
        ·rw [Hu h2] at h
         have:=(ih _ _ _ h).2
         rw [deepL_app] at this;simp only [Rx.deepL,vK] at this;omega
        rw [Hx h2] at h;cases hx:f (c::r) with
        | error e=>exact cm
        | ok y =>
         simp only [hx] at h;have:=ih _ _ _ h
         rw [deepL_app] at this;simp only [Rx.deepL] at this;omega
     have:=(key _ _ _ _ h).1
     rw [deepL_app] at this;simp only [Rx.deepL] at this;omega
end Go.Proofs.YtdcnncgpomcaaaaGreatDoor
