/- Snippets as trees: the plain functions on them; what is read of a text. -/
import Derived.Test.YtjggmmaojklmpaaGreatDoorKb0b
import Derived.Test.YtjggmmaojklmpaaGreatDoorKb16
set_option maxRecDepth 100000
namespace Go.Proofs.YtjggmmaojklmpaaGreatDoor
namespace Sn
theorem ly:∀a b:List Sn,deepL (a++b)=max (deepL a) (deepL b)
 | [],b=>by simp [deepL]
 | x::a,b=>by simp only [D5,deepL,ly a b];omega
end Sn
open Go.RowKit
theorem TfV.zero (w:World) (S:Nat→Prop):TfV w S (rxc 0 [] false none ([]:List Row).length 0 0 0 false none ([]:List Rx).length 0++[.slice none 0 0,.bool false,.bool false]) tf0 :=
 ⟨_,none,0,RxV.close (SlS.none_ _ _ _ _) ⟨[],SlS.none_ _ _ _ _,.nil⟩,SlS.none_ _ _ _ _,rfl⟩
end Go.Proofs.YtjggmmaojklmpaaGreatDoor
namespace Go.Proofs.YtjggmmaojklmpaaGreatDoor
theorem wm {a b:Row} (h1:leR a b) (h2:leR b a):a=b:=by
 rcases pM a b with h|h|h
 ·exact absurd h h2
 ·exact h
 ·exact absurd h h1
theorem AW {l r:List Row} (h:l.Perm r) (h1:Srt l) (h2:Srt r):l=r :=
 List.Perm.eq_of_pairwise (le:=leR) (fun _ _ _ _ a b=>wm a b) h1 h2 h
end Go.Proofs.YtjggmmaojklmpaaGreatDoor
namespace Go.Proofs.YtjggmmaojklmpaaGreatDoor
end Go.Proofs.YtjggmmaojklmpaaGreatDoor
set_option maxRecDepth 100000
namespace Go.Proofs.YtjggmmaojklmpaaGreatDoor
theorem kM {c:Str} {r r1:List Str} (z:List Str) (h:jQ c r=some r1):jQ c (r++z)=some (r1++z):=by
 rw [ll h];simp [jQ]
theorem kZ {c:Str} {r:List Str} (z:List Str) (h:jQ c r=none) (hr:r≠[]):jQ c (r++z)=none:=by
 cases r with
 | nil=>exact absurd rfl hr
 | cons p r =>
  simp only [jQ] at h;by_cases hp:p=c
  ·rw [Dr hp] at h;cases h
  ·simp only [D5,jQ,Du hp]
theorem yE {r r1:List Str} {c:Str} {nm:List Row} (z:List Str) (h:mh r=some (c,nm,r1)):mh (r++z)=some (c,nm,r1++z):=by
 cases r with
 | nil=>cases h
 | cons p r =>
  simp only [mh,D5] at h ⊢;by_cases h1:p=[93]
  ·rw [Dr h1] at h;cases h
  rw [Du h1] at h ⊢;by_cases h2:p=[92]
  ·rw [Dr h2] at h ⊢
   cases r with
   | nil=>cases h
   | cons c2 r2 =>
    simp only [D5] at h ⊢;cases hn:l8 c2 with
    | some rows =>
     simp only [hn] at h ⊢;exact dq
    | none =>
     simp only [hn] at h ⊢;cases hpm:lr c2 with
     | none=>exact fO
     | some t =>
      simp only [hpm] at h ⊢;exact dq
  ·rw [Du h2] at h ⊢
   exact dq
theorem vl {n:Nat} {rows rows':List Row} {r r1:List Str} (h:kp n rows r=some (rows',r1)):r≠[]:=by
 rintro rfl;cases n with
 | zero=>cases h
 | succ n=>simp only [kp,jQ,mh] at h;cases h
theorem mG (z:List Str):∀(n m:Nat) (rows:List Row) (r:List Str) {rows':List Row} {r1:List Str},n≤m→kp n rows r=some (rows',r1)→kp m rows (r++z)=some (rows',r1++z)
 | 0,_,_,_,_,_,_,h=>by cases h
 | n+1,m,rows,r,rows',r1,hm,h=>by
  obtain⟨m,rfl⟩:∃m',m=m'+1:=⟨m-1,by omega⟩;have hm':n≤m:=fR;have hr:=vl h;simp only [kp] at h ⊢;cases ht:jQ [93] r with
  | some r0 =>
   simp only [ht] at h;rw [kM z ht];injection h with h;injection h with h1 h2
   subst h1 h2;rfl
  | none =>
   simp only [ht] at h;rw [kZ z ht hr];cases hi:mh r with
   | none=>simp only [hi] at h;cases h
   | some y =>
    obtain⟨c,nm,r2⟩:=y;simp only [hi] at h;simp only [yE z hi];by_cases hnm:nm≠[]
    ·rw [Dr hnm] at h ⊢
     exact mG z n m _ _ hm' h
    ·rw [Du hnm] at h ⊢
     cases ht2:jQ [45] r2 with
     | none =>
      simp only [ht2] at h;simp only [kZ z ht2 (vl h)];exact mG z n m _ _ hm' h
     | some r3 =>
      simp only [ht2] at h;simp only [kM z ht2];by_cases ht3:jQ [93] r3=none
      ·rw [Dr ht3] at h
       cases hi2:mh r3 with
       | none=>simp only [hi2] at h;cases h
       | some y =>
        obtain⟨t,nm2,r4⟩:=y;simp only [hi2] at h;have h3:r3≠[]:=by rintro rfl;cases hi2
        rw [Dr (kZ z ht3 h3)];simp only [yE z hi2];by_cases hb:nm2≠[]∨Op.bytesLess t c=true
        ·rw [Dr hb] at h;cases h
        ·rw [Du hb] at h ⊢
         exact mG z n m _ _ hm' h
      ·rw [Du ht3] at h
       obtain⟨r5,h5⟩:∃r5,jQ [93] r3=some r5:=by
        cases hx:jQ [93] r3 with
        | none=>exact absurd hx ht3
        | some r5=>exact⟨r5,rfl⟩
       rw [Du (by rw [kM z h5];simp)];exact mG z n m _ _ hm' h
theorem vC {r r1:List Str} {x:Rx} (z:List Str) (h:lq r=.ok (x,r1)):lq (r++z)=.ok (x,r1++z):=by
 unfold lq at h ⊢;simp only at h ⊢
 have hr:r≠[]:=by rintro rfl;simp [jQ,kp,mh] at h
 cases ht:jQ [94] r with
 | some r0 =>
  rw [kM z ht];simp only [ht,Option.isSome_some,Option.getD_some] at h ⊢;cases hc:kp (r0.length+1) [] r0 with
  | none=>simp only [hc] at h;cases h
  | some y =>
   obtain⟨rows,r2⟩:=y;simp only [hc] at h;injection h with h;injection h with h1 h2;subst h1 h2
   rw [mG z _ ((r0++z).length+1) _ _ fX hc]
 | none =>
  rw [kZ z ht hr];simp only [ht,Option.isSome_none,Option.getD_none] at h ⊢;cases hc:kp (r.length+1) [] r with
  | none=>simp only [hc] at h;cases h
  | some y =>
   obtain⟨rows,r2⟩:=y;simp only [hc] at h;injection h with h;injection h with h1 h2;subst h1 h2
   rw [mG z _ ((r++z).length+1) _ _ fX hc]
theorem CL {r r1:List Str} {x:Rx} (z:List Str) (h:escM r=.ok (x,r1)):escM (r++z)=.ok (x,r1++z):=by
 cases r with
 | nil=>cases h
 | cons c r =>
  simp only [escM,D5] at h ⊢;cases hn:l8 c with
  | some rows=>simp only [hn] at h ⊢;injection h with h;injection h with h1 h2;subst h1 h2;rfl
  | none =>
   simp only [hn] at h ⊢;cases hb:bigS c with
   | some rows=>simp only [hb] at h ⊢;injection h with h;injection h with h1 h2;subst h1 h2;rfl
   | none =>
    simp only [hb] at h ⊢;cases hp:lr c with
    | none=>simp only [hp] at h;cases h
    | some t=>simp only [hp] at h ⊢;injection h with h;injection h with h1 h2;subst h1 h2;rfl
theorem uk (z:List Str):∀(r:List Str) (k n:Nat) {m:Nat} {r1:List Str},numL k n r=some (m,r1)→r1≠[]→numL k n (r++z)=some (m,r1++z)
 | [],k,n,m,r1,h,hr=>by
  unfold numL at h;split at h
  ·injection h with h;injection h with _ h;exact absurd h.symm hr
  ·cases h
 | c::r,k,n,m,r1,h,hr=>by
  simp only [numL,D5] at h ⊢;cases hd:digS c with
  | some d =>
   simp only [hd] at h ⊢;by_cases hk:k=3
   ·rw [Dr hk] at h;cases h
   ·rw [Du hk] at h ⊢;exact uk z r _ _ h hr
  | none =>
   simp only [hd] at h ⊢;by_cases hc:0<k∧n≤255
   ·rw [Dr hc] at h ⊢;injection h with h;injection h with h1 h2;subst h1 h2;rfl
   ·rw [Du hc] at h;cases h
theorem AY {r r1:List Str} {lo hi:Int} (z:List Str) (h:ld r=some (lo,hi,r1)):ld (r++z)=some (lo,hi,r1++z):=by
 unfold ld at h ⊢;cases h1:numL 0 0 r with
 | none=>simp only [h1] at h;cases h
 | some y =>
  obtain⟨a,s1⟩:=y;simp only [h1] at h;have hs1:s1≠[]:=by rintro rfl;simp [jQ] at h
  simp only [uk z r _ _ h1 hs1];cases h2:jQ [125] s1 with
  | some s2 =>
   simp only [h2] at h;simp only [kM z h2];injection h with h;injection h with h3 h;injection h with h4 h;subst h3 h4 h;rfl
  | none =>
   simp only [h2] at h;simp only [kZ z h2 hs1];cases h3:jQ [44] s1 with
   | none=>simp only [h3] at h;cases h
   | some s2 =>
    simp only [h3] at h;simp only [kM z h3];have hs2:s2≠[]:=by rintro rfl;simp [jQ,numL] at h
    cases h4:jQ [125] s2 with
    | some s3 =>
     simp only [h4] at h;simp only [kM z h4];injection h with h;injection h with h5 h;injection h with h6 h;subst h5 h6 h;rfl
    | none =>
     simp only [h4] at h;simp only [kZ z h4 hs2];cases h5:numL 0 0 s2 with
     | none=>exact ei
     | some y =>
      obtain⟨b,s3⟩:=y;simp only [h5] at h;by_cases hle:a≤b
      ·rw [Dr fR] at h
       have hs3:s3≠[]:=by rintro rfl;simp [jQ] at h
       simp only [uk z s2 _ _ h5 hs3];rw [Dr fR];cases h6:jQ [125] s3 with
       | none=>simp only [h6] at h;cases h
       | some s4 =>
        simp only [h6] at h;simp only [kM z h6];injection h with h;injection h with h7 h;injection h with h8 h;subst h7 h8 h;rfl
      ·rw [Du fR] at h;cases h
def noQ:List Str→Prop
 | []=>True
 | c::_=>c≠[42]∧c≠[43]∧c≠[63]∧c≠[123]
theorem noQ_take {z:List Str} (h:noQ z):jQ [63] z=none:=by
 cases z with
 | nil=>rfl
 | cons c z=>simp only [jQ,Du h.2.2.1]
theorem lazy_app {x y:Rx} {lo hi:Int} {r r1:List Str} (z:List Str) (h:oB x lo hi r=(y,r1)) (hz:r1≠[]∨noQ z):oB x lo hi (r++z)=(y,r1++z):=by
 unfold oB at h ⊢;cases ht:jQ [63] r with
 | some r2 =>
  simp only [ht] at h;simp only [kM z ht];injection h with h1 h2;subst h1 h2;rfl
 | none =>
  simp only [ht] at h;injection h with h1 h2;subst h1 h2
  have:jQ [63] (r++z)=none:=by
   by_cases hr:r=[]
   ·subst hr;exact noQ_take (hz.resolve_left (fun q=>q rfl))
   ·exact kZ z ht hr
  simp only [this]
theorem wn {x y:Rx} {r r1:List Str} (z:List Str) (h:kz x r=.ok (y,r1)) (hz:r1≠[]∨noQ z):kz x (r++z)=.ok (y,r1++z):=by
 cases r with
 | nil =>
  simp only [kz] at h;injection h with h;injection h with h1 h2;subst h1 h2
  have hq:=hz.resolve_left (fun q=>q rfl);cases z with
  | nil=>rfl
  | cons c z=>simp only [D4,kz,Du hq.1,Du hq.2.1,Du hq.2.2.1,Du hq.2.2.2]
 | cons c r =>
  simp only [kz,D5] at h ⊢;have key:∀{lo hi:Int} {r2:List Str},Except.ok (oB x lo hi r2)=(Except.ok (y,r1):Res)→Except.ok (oB x lo hi (r2++z))=(Except.ok (y,r1++z):Res):=by
   intro lo hi r2 h;injection h with h
   rw [lazy_app z h hz]
  by_cases h1:c=[42]
  ·rw [Dr h1] at h ⊢;exact key h
  rw [Du h1] at h ⊢;by_cases h2:c=[43]
  ·rw [Dr h2] at h ⊢;exact key h
  rw [Du h2] at h ⊢;by_cases h3:c=[63]
  ·rw [Dr h3] at h ⊢;exact key h
  rw [Du h3] at h ⊢;by_cases h4:c=[123]
  ·rw [Dr h4] at h ⊢
   cases hb:ld r with
   | none=>simp only [hb] at h;cases h
   | some w =>
    obtain⟨lo,hi,r2⟩:=w;simp only [hb] at h;simp only [AY z hb];exact key h
  ·rw [Du h4] at h ⊢
   injection h with h;injection h with h5 h6;subst h5 h6;rfl
theorem tP {r r0:List Str} {k:Int} (z:List Str) (h:lW r=some (k,r0)) (hr:r≠[]):lW (r++z)=some (k,r0++z):=by
 unfold lW at h ⊢;cases h1:jQ [63] r with
 | none =>
  simp only [h1] at h;simp only [kZ z h1 hr];exact ec
 | some r1 =>
  simp only [h1] at h;simp only [kM z h1];cases h2:jQ [58] r1 with
  | none=>simp only [h2] at h;cases h
  | some r2 =>
   simp only [h2] at h;simp only [kM z h2];exact ec
def zw (pat:List Str→Nat→Res) (z:List Str) (N:Nat):Prop:=∀(r:List Str) (d:Nat) (x:Rx) (r1:List Str),r.length+z.length≤N→okC r→pat r d=.ok (x,r1)→r1≠[]→pat (r++z) d=.ok (x,r1++z)
theorem Bg {pat:List Str→Nat→Res} {z:List Str} {N:Nat} (hp:zw pat z N) (hnil:∀d,pat [] d=.ok (mB [],[])∨∃e,pat [] d=.error e) {r r1:List Str} {d:Nat} {x:Rx} (h:lu pat r d=.ok (x,r1)) (ho:okC r) (hN:r.length+z.length≤N):lu pat (r++z) d=.ok (x,r1++z):=by
 unfold lu at h ⊢;by_cases hd:16≤d
 ·rw [Dr hd] at h;cases h
 rw [Du hd] at h ⊢;cases hk:lW r with
 | none=>simp only [hk] at h;cases h
 | some y =>
  obtain⟨k,r0⟩:=y;have ks:=(ny hk).1;simp only [hk] at h;have hr:r≠[]:=by
   exact dn
  simp only [tP z hk hr];cases hx:pat r0 (d+1) with
  | error e=>exact cR
  | ok y =>
   obtain⟨w,r2⟩:=y;simp only [hx] at h;cases ht:jQ [41] r2 with
   | none=>simp only [ht] at h;cases h
   | some r3 =>
    simp only [ht] at h;have h2:r2≠[]:=by rintro rfl;cases ht
    have hl:=lT ks;rw [hp r0 (d+1) w r2 fR (mp ks ho) hx h2];simp only [kM z ht];injection h with h;injection h with h3 h4;subst h3 h4;rfl
theorem atom_app {pat:List Str→Nat→Res} {z:List Str} {N:Nat} (hp:zw pat z N) (hnil:∀d,pat [] d=.ok (mB [],[])∨∃e,pat [] d=.error e) {r r1:List Str} {d:Nat} {x:Rx} (h:kI pat r d=.ok (x,r1)) (ho:okC r) (hN:r.length+z.length≤N+1):kI pat (r++z) d=.ok (x,r1++z):=by
 cases r with
 | nil=>cases h
 | cons c r =>
  simp only [Dx] at hN;simp only [kI,D5] at h ⊢;by_cases h1:c=[46]
  ·exact dv
  rw [Du h1] at h ⊢;by_cases h2:c=[40]
  ·rw [Dr h2] at h ⊢;exact Bg hp hnil h ho.tail fR
  rw [Du h2] at h ⊢;by_cases h3:c=[91]
  ·rw [Dr h3] at h ⊢;exact vC z h
  rw [Du h3] at h ⊢;by_cases h4:c=[92]
  ·rw [Dr h4] at h ⊢;exact CL z h
  rw [Du h4] at h ⊢;by_cases h5:o6 c=true
  ·rw [Dr h5] at h;cases h
  ·rw [Du h5] at h ⊢;injection h with h;injection h with ha hb;subst ha hb;rfl
theorem zQ {r r1:List Str} {x:Rx} (z:List Str) (h:lD r=some (x,r1)):lD (r++z)=some (x,r1++z):=by
 cases r with
 | nil=>cases h
 | cons c r =>
  simp only [lD,D5] at h ⊢;by_cases h1:c=[94]
  ·exact dv
  rw [Du h1] at h ⊢;by_cases h2:c=[36]
  ·rw [Dr h2] at h ⊢;injection h with h;injection h with ha hb;subst ha hb;rfl
  rw [Du h2] at h ⊢;by_cases h3:c=[92]
  ·rw [Dr h3] at h ⊢
   cases h4:jQ [98] r with
   | some r2=>simp only [h4] at h;simp only [kM z h4];injection h with h;injection h with ha hb;subst ha hb;rfl
   | none =>
    simp only [h4] at h;cases h5:jQ [66] r with
    | some r2 =>
     have hr:r≠[]:=by rintro rfl;cases h5
     simp only [h5] at h;simp only [kZ z h4 hr,kM z h5];exact ec
    | none=>exact ei
  ·rw [Du h3] at h;cases h
theorem uW {r:List Str} (z:List Str) (h:lD r=none) (hr:r≠[]) (h92:r≠[[92]]):lD (r++z)=none:=by
 cases r with
 | nil=>exact absurd rfl hr
 | cons c r =>
  simp only [lD,D5] at h ⊢;by_cases h1:c=[94]
  ·rw [Dr h1] at h;cases h
  rw [Du h1] at h ⊢;by_cases h2:c=[36]
  ·rw [Dr h2] at h;cases h
  rw [Du h2] at h ⊢;by_cases h3:c=[92]
  ·rw [Dr h3] at h ⊢
   have hr:r≠[]:=by rintro rfl;rw [h3] at h92;exact h92 rfl
   cases h4:jQ [98] r with
   | some r2=>simp only [h4] at h;cases h
   | none =>
    simp only [h4] at h;cases h5:jQ [66] r with
    | some r2=>exact ei
    | none=>simp only [kZ z h4 hr,kZ z h5 hr]
  ·rw [Du h3]
theorem zq {pat:List Str→Nat→Res} {z:List Str} {N:Nat} (hp:zw pat z N) (hnil:∀d,pat [] d=.ok (mB [],[])∨∃e,pat [] d=.error e) {r r1:List Str} {d:Nat} {x:Rx} (h:ku pat r d=.ok (x,r1)) (ho:okC r) (hN:r.length+z.length≤N+1) (hz:r1≠[]∨noQ z):ku pat (r++z) d=.ok (x,r1++z):=by
 unfold ku at h ⊢;cases he:lD r with
 | some y =>
  simp only [he] at h;obtain⟨a,b⟩:=y;injection h with h;injection h with ha hb;subst ha hb
  simp only [zQ z he]
 | none =>
  simp only [he] at h;cases ha:kI pat r d with
  | error e=>simp only [ha] at h;cases h
  | ok y =>
   obtain⟨w,r2⟩:=y;simp only [ha] at h;have hr:r≠[]:=by rintro rfl;cases ha
   have h92:r≠[[92]]:=by rintro rfl;simp [kI,escM] at ha
   simp only [uW z he hr h92,atom_app hp hnil ha ho hN];exact wn z h hz
theorem xP (n:Nat) (d:Nat):patF n [] d=.ok (mB [],[])∨∃e,patF n [] d=.error e:=by
 cases n with
 | zero=>exact .inr ⟨1,rfl⟩
 | succ n=>exact .inl rfl
theorem qm {f g:List Str→Res}:∀(k:Nat) (alts terms:List Rx) (r:List Str),(∀r',r' <:+ r→f r'=g r')→(∀r' x r1,r' <:+ r→f r'=.ok (x,r1)→r1 <:+ r')→patL f k alts terms r=patL g k alts terms r
 | 0,_,_,_,_,_=>rfl
 | k+1,alts,terms,[],_,_=>rfl
 | k+1,alts,terms,c::r,h,hs=>by
  simp only [patL];by_cases h1:c=[41]
  ·rw [Dr h1,Dr h1]
  rw [Du h1,Du h1];by_cases h2:c=[124]
  ·rw [Dr h2,Dr h2]
   exact qm k _ _ r (fun r' hr=>h r' (kF hr)) (fun r' x r1 hr=>hs r' x r1 (kF hr))
  rw [Du h2,Du h2,←h (c::r) (Ea _)];cases hx:f (c::r) with
  | error e=>rfl
  | ok y =>
   obtain⟨x,r1⟩:=y;have s:=hs _ _ _ (Ea _) hx;exact qm k _ _ r1 (fun r' hr=>h r' (hr.trans s)) (fun r' x r2 hr=>hs r' x r2 (hr.trans s))
theorem r7 {f:List Str→Res}:∀(k m:Nat) (alts terms:List Rx) (r:List Str),r.length<k→k≤m→(∀r' x r1,r' <:+ r→f r'=.ok (x,r1)→r1 <:+ r'∧r1.length<r'.length)→patL f k alts terms r=patL f m alts terms r
 | 0,_,_,_,_,h,_,_=>by omega
 | k+1,m,alts,terms,r,hk,hm,hs=>by
  obtain⟨m,rfl⟩:∃m',m=m'+1:=⟨m-1,by omega⟩;cases r with
  | nil=>rfl
  | cons c r =>
   simp only [Dx] at hk;simp only [patL];by_cases h1:c=[41]
   ·rw [Dr h1,Dr h1]
   rw [Du h1,Du h1];by_cases h2:c=[124]
   ·rw [Dr h2,Dr h2]
    exact r7 k m _ _ r fR fR (fun r' x r1 hr=>hs r' x r1 (kF hr))
   rw [Du h2,Du h2];cases hx:f (c::r) with
   | error e=>rfl
   | ok y =>
    obtain⟨x,r1⟩:=y;obtain⟨s,hl⟩:=hs _ _ _ (Ea _) hx;simp only [Dx] at hl;exact r7 k m _ _ r1 fR fR (fun r' x r2 hr=>hs r' x r2 (hr.trans s))
theorem xe {p q:List Str→Nat→Res} {r:List Str} {d:Nat} (h:∀r' d',r' <:+ r→p r' d'=q r' d'):lu p r d=lu q r d:=by
 unfold lu;by_cases hd:16≤d
 ·rw [Dr hd,Dr hd]
 rw [Du hd,Du hd];cases hk:lW r with
 | none=>rfl
 | some y=>simp only;rw [h y.2 (d+1) (ny (k:=y.1) hk).1]
theorem AJ {p q:List Str→Nat→Res} {c:Str} {r:List Str} {d:Nat} (h:∀r' d',r' <:+ r→p r' d'=q r' d'):kI p (c::r) d=kI q (c::r) d:=by
 simp only [kI,xe h]
theorem Bb {p q:List Str→Nat→Res} {r:List Str} {d:Nat} (h:∀r' d',r' <:+ r→r'.length<r.length→p r' d'=q r' d'):ku p r d=ku q r d:=by
 unfold ku;cases r with
 | nil=>rfl
 | cons c r=>rw [AJ (fun r' d' hs=>h r' d' (kF hs) (by have:=lT hs;simp;omega))]
theorem oS {n:Nat} {r r1:List Str} {d:Nat} {x:Rx} (h:ku (patF n) r d=.ok (x,r1)) (ho:okC r) (hl:r.length≤200000):r1 <:+ r∧r1.length<r.length:=by
 obtain⟨f,g⟩:=qq (rE n) h ho fR (Dv _);exact⟨f.2.2.2,g⟩
theorem uB:∀(n:Nat) (r:List Str) (d:Nat),r.length<n→okC r→r.length≤200000→patF n r d=patF (n+1) r d
 | 0,_,_,h,_,_=>by omega
 | n+1,r,d,h,ho,hl=>by
  show patL (fun r=>ku (patF n) r d) (r.length+1) [] [] r=patL (fun r=>ku (patF (n+1)) r d) (r.length+1) [] [] r
  refine qm _ _ _ _ (fun r' hs=>Bb fun r2 d2 hs2 hl2=>?_) (fun r' x r1 hs hx=>(oS hx (mp hs ho) iW).1);have:=lT hs
  exact uB n r2 d2 fR (mp (hs2.trans hs) ho) fR
theorem pB {n m:Nat} {r:List Str} {d:Nat} (hn:r.length<n) (hm:r.length<m) (ho:okC r) (hl:r.length≤200000):patF n r d=patF m r d:=by
 have key:∀k,patF n r d=patF (n+k) r d:=by
  intro k;induction k with
  | zero=>rfl
  | succ k ih=>rw [ih];exact uB (n+k) r d fR ho hl
 have key2:∀k,patF m r d=patF (m+k) r d:=by
  intro k;induction k with
  | zero=>rfl
  | succ k ih=>rw [ih];exact uB (m+k) r d fR ho hl
 rw [key m,key2 n,Nat.add_comm]
theorem tT {f:List Str→Res} {z:List Str}:∀(k m:Nat) (alts terms:List Rx) (r:List Str) {x:Rx} {r1:List Str},k≤m→patL f k alts terms r=.ok (x,r1)→r1≠[] →
  (∀r' y r2,r' <:+ r→f r'=.ok (y,r2)→r2≠[]→f (r'++z)=.ok (y,r2++z))→(∀r' y r2,r' <:+ r→f r'=.ok (y,r2)→r2 <:+ r')→patL f m alts terms (r++z)=.ok (x,r1++z)
 | 0,_,_,_,_,_,_,_,h,_,_,_=>by cases h
 | k+1,m,alts,terms,r,x,r1,hm,h,hr,ht,hs=>by
  obtain⟨m,rfl⟩:∃m',m=m'+1:=⟨m-1,by omega⟩;cases r with
  | nil=>simp only [patL] at h;injection h with h;injection h with _ h;exact absurd h.symm hr
  | cons c r =>
   simp only [patL,D5] at h ⊢;by_cases h1:c=[41]
   ·exact dv
   rw [Du h1] at h ⊢;by_cases h2:c=[124]
   ·rw [Dr h2] at h ⊢
    exact tT k m _ _ r fR h hr (fun r' y r2 q=>ht r' y r2 (kF q)) (fun r' y r2 q=>hs r' y r2 (kF q))
   rw [Du h2] at h ⊢;cases hx:f (c::r) with
   | error e=>exact cR
   | ok y =>
    obtain⟨w,r2⟩:=y;simp only [hx] at h;have s:=hs _ _ _ (Ea _) hx;have h2':r2≠[]:=by
     rintro rfl;cases k with
     | zero=>cases h
     | succ k=>simp only [patL] at h;injection h with h;injection h with _ h;exact hr h.symm
    have hx2:=ht _ _ _ (Ea _) hx h2';rw [D5] at hx2;simp only [hx2];exact tT k m _ _ r2 fR h hr (fun r' y r3 q=>ht r' y r3 (q.trans s)) (fun r' y r3 q=>hs r' y r3 (q.trans s))
theorem BJ (z:List Str):∀(n:Nat),n≤200000→zw (patF n) z n
 | 0,_=>fun r d x r1 _ _ h _=>by cases h
 | n+1,hn=>fun r d x r1 hl ho h hr=>by
  have ih:=BJ z n fR;refine tT (f:=fun r=>ku (patF n) r d) (r.length+1) ((r++z).length+1) [] [] r fX h hr (fun r' y r2 hs hx h2=>?_) (fun r' y r2 hs hx=>(oS hx (mp hs ho) iW).1);exact zq ih (xP n) hx (mp hs ho) iW (.inl h2)
def InvA (l:List Rx):Prop:=∀y∈l,y.kind≠1
def InvT (l:List Rx):Prop:=∀y∈l,y.kind≠0∧y.kind≠1
theorem InvA.app {a b:List Rx} (h1:InvA a) (h2:InvA b):InvA (a++b):=fun y hy=>(DZ.1 hy).elim (h1 y) (h2 y)
theorem InvT.app {a b:List Rx} (h1:InvT a) (h2:InvT b):InvT (a++b):=fun y hy=>(DZ.1 hy).elim (h1 y) (h2 y)
theorem lB {kd:Int}:∀{l:List Rx},(∀y∈l,y.kind≠kd)→kD kd l=l
 | [],_=>rfl
 | x::l,h=>by
  rw [nf,Du (h x (DH ..)),lB (fun y hy=>h y (DI _ hy))];rfl
theorem lF {l:List Rx} (h:InvT l):(seqR l).kind≠1∧kD 0 [seqR l]=l:=by
 have hf:kD 0 l=l:=lB fun y hy=>(h y hy).1
 rcases l with _|⟨x,_|⟨y,l⟩⟩
 ·exact⟨by decide,rfl⟩
 ·have e:seqR [x]=x:=by unfold seqR;rw [hf]
  have hx:=h x (DH ..);rw [e];exact⟨hx.2,lB fun y hy=>by rw [D7] at hy;rw [hy];exact hx.1⟩
 ·have e:seqR (x::y::l)=mB (x::y::l):=by unfold seqR;rw [hf]
  rw [e];exact⟨by show (0:Int)≠1;decide,by rw [nf];simp [mB,Rx.kind,Rx.kids,kD]⟩
theorem mN {x:Rx} (h:x.kind≠1):altR [x]=x:=by
 unfold altR;rw [lB (fun y hy=>by rw [D7] at hy;rw [hy];exact h)]
theorem v6 {l:List Rx} (h:InvA l) (hl:l≠[]):kD 1 [altR l]=l:=by
 have hf:kD 1 l=l:=lB h;rcases l with _|⟨x,_|⟨y,l⟩⟩
 ·exact absurd rfl hl
 ·rw [mN (h x (DH ..))];exact hf
 ·have e:altR (x::y::l)=sQ (x::y::l):=by unfold altR;rw [hf]
  rw [e,nf];simp [sQ,Rx.kind,Rx.kids,kD]
theorem vr {l:List Rx} (h:InvA l) (hl:2≤l.length):(altR l).kind=1:=by
 have hf:kD 1 l=l:=lB h;rcases l with _|⟨x,_|⟨y,l⟩⟩
 ·simp at hl
 ·simp at hl
 ·unfold altR;rw [hf];rfl
theorem vf (kd:Int) (a b:List Rx):kD kd (a++b)=kD kd a++kD kd b:=by simp [kD]
theorem zE {a b:List Rx} (ha:InvA a) (hb:InvA b) (ha0:a≠[]) (hb0:b≠[]):altR [altR a,altR b]=altR (a++b):=by
 have h1:kD 1 [altR a,altR b]=a++b:=by
  rw [show [altR a,altR b]=[altR a]++[altR b] from rfl,vf,v6 ha ha0,v6 hb hb0]
 have h2:kD 1 (a++b)=a++b:=lB (ha.app hb);unfold altR;rw [h2];unfold altR at h1;rw [h1]
theorem zP {a b:List Rx} (ha:InvT a) (hb:InvT b):seqR [seqR a,seqR b]=seqR (a++b):=by
 have h1:kD 0 [seqR a,seqR b]=a++b:=by
  rw [show [seqR a,seqR b]=[seqR a]++[seqR b] from rfl,vf,(lF ha).2,(lF hb).2]
 have h2:kD 0 (a++b)=a++b:=lB fun y hy=>((ha.app hb) y hy).1
 unfold seqR;rw [h2];unfold seqR at h1;rw [h1]
theorem Ab {x y:Rx} {r r1:List Str} (h:kz x r=.ok (y,r1)) (hx:x.kind≠0∧x.kind≠1):y.kind≠0∧y.kind≠1:=by
 rcases pd h with⟨rfl,_⟩|⟨⟨lo,hi,lz,rfl⟩,_⟩
 ·exact hx
 ·exact⟨by show (7:Int)≠0;decide,by show (7:Int)≠1;decide⟩
theorem Bx {pat:List Str→Nat→Res} {r r1:List Str} {d:Nat} {x:Rx} (h:kI pat r d=.ok (x,r1)):x.kind≠0∧x.kind≠1:=by
 have lit:∀k:Int,k≠0→k≠1→∀y:Rx,y.kind=k→y.kind≠0∧y.kind≠1:=fun k h0 h1 y hy=>by rw [hy];exact⟨h0,h1⟩
 cases r with
 | nil=>cases h
 | cons c r =>
  simp only [kI] at h;by_cases h1:c=[46]
  ·rw [Dr h1] at h;injection h with h;injection h with ha _;subst ha;exact lit 3 fU fU _ rfl
  rw [Du h1] at h;by_cases h2:c=[40]
  ·rw [Dr h2] at h
   unfold lu at h;by_cases hd:16≤d
   ·rw [Dr hd] at h;cases h
   rw [Du hd] at h;cases hk:lW r with
   | none=>simp only [hk] at h;cases h
   | some y =>
    obtain⟨k,r0⟩:=y;have hk2:=(ny hk).2;simp only [hk] at h;cases hx:pat r0 (d+1) with
    | error e=>exact cR
    | ok y =>
     simp only [hx] at h;cases ht:jQ [41] y.2 with
     | none=>simp only [ht] at h;cases h
     | some r3 =>
      simp only [ht] at h;injection h with h;injection h with ha _;subst ha
      rcases hk2 with rfl|rfl
      ·exact lit 5 fU fU _ rfl
      ·exact lit 6 fU fU _ rfl
  rw [Du h2] at h;by_cases h3:c=[91]
  ·rw [Dr h3] at h
   unfold lq at h;simp only at h
   generalize kp _ _ _=q at h
   cases q with
   | none=>simp only at h;cases h
   | some y=>simp only at h;injection h with h;injection h with ha _;subst ha;exact lit 4 fU fU _ rfl
  rw [Du h3] at h;by_cases h4:c=[92]
  ·rw [Dr h4] at h
   cases r with
   | nil=>cases h
   | cons c2 r2 =>
    simp only [escM] at h;cases hn:l8 c2 with
    | some rows=>simp only [hn] at h;injection h with h;injection h with ha _;subst ha;exact lit 4 fU fU _ rfl
    | none =>
     simp only [hn] at h;cases hb:bigS c2 with
     | some rows=>simp only [hb] at h;injection h with h;injection h with ha _;subst ha;exact lit 4 fU fU _ rfl
     | none =>
      simp only [hb] at h;cases hpm:lr c2 with
      | none=>exact fO
      | some t=>simp only [hpm] at h;injection h with h;injection h with ha _;subst ha;exact lit 2 fU fU _ rfl
  rw [Du h4] at h;by_cases h5:o6 c=true
  ·rw [Dr h5] at h;cases h
  ·rw [Du h5] at h;injection h with h;injection h with ha _;subst ha;exact lit 2 fU fU _ rfl
theorem Dh {pat:List Str→Nat→Res} {r r1:List Str} {d:Nat} {x:Rx} (h:ku pat r d=.ok (x,r1)):x.kind≠0∧x.kind≠1:=by
 unfold ku at h;cases he:lD r with
 | some y =>
  simp only [he] at h;injection h with h;subst h
  cases r with
  | nil=>cases he
  | cons c r =>
   simp only [lD] at he;by_cases h1:c=[94]
   ·rw [Dr h1] at he;injection he with he;injection he with ha _;subst ha;exact⟨by decide,by decide⟩
   rw [Du h1] at he;by_cases h2:c=[36]
   ·rw [Dr h2] at he;injection he with he;injection he with ha _;subst ha;exact⟨by decide,by decide⟩
   rw [Du h2] at he;by_cases h3:c=[92]
   ·rw [Dr h3] at he
    cases h4:jQ [98] r with
    | some r2=>simp only [h4] at he;injection he with he;injection he with ha _;subst ha;exact⟨by decide,by decide⟩
    | none =>
     simp only [h4] at he;cases h5:jQ [66] r with
     | some r2=>simp only [h5] at he;injection he with he;injection he with ha _;subst ha;exact⟨by decide,by decide⟩
     | none=>simp only [h5] at he;cases he
   ·rw [Du h3] at he;cases he
 | none =>
  simp only [he] at h;cases ha:kI pat r d with
  | error e=>simp only [ha] at h;cases h
  | ok y =>
   simp only [ha] at h;exact Ab h (Bx ha)
theorem wZ {f:List Str→Res} {z:List Str} (hq:noQ z):∀(k m:Nat) (alts terms:List Rx) (r:List Str) {x:Rx},k≤m→(r++z).length<m→patL f k alts terms r=.ok (x,[])→InvA alts→InvT terms →
  (∀r' y r2,r' <:+ r→f r'=.ok (y,r2)→f (r'++z)=.ok (y,r2++z))→(∀r' y r2,r' <:+ r→f r'=.ok (y,r2)→r2 <:+ r'∧r2.length<r'.length∧y.kind≠0∧y.kind≠1) →
  ∃alts' terms' m',x=altR (alts'++[seqR terms'])∧patL f m alts terms (r++z)=patL f m' alts' terms' z∧z.length<m'∧InvA alts'∧InvT terms'∧(alts≠[]→alts'≠[])
 | 0,_,_,_,_,_,_,_,h,_,_,_,_=>by cases h
 | k+1,m,alts,terms,r,x,hm,hl,h,ha,ht,he,hs=>by
  obtain⟨m,rfl⟩:∃m',m=m'+1:=⟨m-1,by omega⟩;cases r with
  | nil =>
   simp only [patL] at h;injection h with h;injection h with h1 _
   exact⟨alts,terms,m+1,h1.symm,rfl,by simpa using hl,ha,ht,fun q=>q⟩
  | cons c r =>
   simp only [D5,Dx] at hl;simp only [patL] at h;simp only [D5];by_cases h1:c=[41]
   ·rw [Dr h1] at h;injection h with h;injection h with _ h;cases h
   rw [Du h1] at h;by_cases h2:c=[124]
   ·rw [Dr h2] at h
    obtain⟨a',t',m',g1,g2,g3,g4,g5,g6⟩:=wZ hq k m (alts++[seqR terms]) [] r fR fR h (ha.app fun y hy=>by rw [D7] at hy;rw [hy];exact(lF ht).1) (fun y hy=>by cases hy) (fun r' y r2 q=>he r' y r2 (kF q)) (fun r' y r2 q=>hs r' y r2 (kF q));refine⟨a',t',m',g1,?_,g3,g4,g5,fun _=>g6 fX⟩;rw [←g2];simp only [patL,Du h1,Dr h2]
   rw [Du h2] at h;cases hx:f (c::r) with
   | error e=>exact cR
   | ok y =>
    obtain⟨w,r2⟩:=y;simp only [hx] at h;obtain⟨s1,s2,s3⟩:=hs _ _ _ (Ea _) hx;have hx2:=he _ _ _ (Ea _) hx;rw [D5] at hx2;simp only [Dx] at s2;simp only [DE] at hl;obtain⟨a',t',m',g1,g2,g3,g4,g5,g6⟩:=wZ hq k m alts (terms++[w]) r2 fR iq h ha (ht.app fun y hy=>by rw [D7] at hy;rw [hy];exact s3) (fun r' y r3 q=>he r' y r3 (q.trans s1)) (fun r' y r3 q=>hs r' y r3 (q.trans s1));refine⟨a',t',m',g1,?_,g3,g4,g5,g6⟩;rw [←g2];simp only [patL,Du h1,Du h2,hx2]
theorem ri {f:List Str→Res}:∀(k:Nat) (alts terms:List Rx) (r:List Str) {x:Rx} {r1:List Str},patL f k alts terms r=.ok (x,r1)→InvT terms→(∀r' y r2,r' <:+ r→f r'=.ok (y,r2)→r2 <:+ r'∧y.kind≠0∧y.kind≠1) →
  ∃B,B≠[]∧InvA B∧x=altR (alts++B)∧∀A,patL f k (A++alts) terms r=.ok (altR (A++(alts++B)),r1)
 | 0,_,_,_,_,_,h,_,_=>by cases h
 | k+1,alts,terms,r,x,r1,h,ht,hs=>by
  have h1B:InvA [seqR terms]:=fun y hy=>by rw [D7] at hy;rw [hy];exact(lF ht).1
  cases r with
  | nil =>
   simp only [patL] at h;injection h with h;injection h with h1 h2
   exact⟨[seqR terms],by simp,h1B,h1.symm,fun A=>by simp only [patL,D6];rw [h2]⟩
  | cons c r =>
   simp only [patL] at h;by_cases h1:c=[41]
   ·rw [Dr h1] at h;injection h with h;injection h with ha hb
    exact⟨[seqR terms],by simp,h1B,ha.symm,fun A=>by simp only [patL,Dr h1,D6];rw [hb]⟩
   rw [Du h1] at h;by_cases h2:c=[124]
   ·rw [Dr h2] at h
    obtain⟨B,b1,b2,b3,b4⟩:=ri k (alts++[seqR terms]) [] r h (fun y hy=>by cases hy) (fun r' y r2 q=>hs r' y r2 (kF q));refine⟨seqR terms::B,by simp,InvA.app h1B b2,by rw [b3];simp,fun A=>?_⟩;have:=b4 A
    simp only [patL,Du h1,Dr h2];rw [←D6] at this;rw [this];simp
   rw [Du h2] at h;cases hx:f (c::r) with
   | error e=>exact cR
   | ok y =>
    obtain⟨w,r2⟩:=y;simp only [hx] at h;obtain⟨s1,s3⟩:=hs _ _ _ (Ea _) hx;obtain⟨B,b1,b2,b3,b4⟩:=ri k alts (terms++[w]) r2 h (ht.app fun y hy=>by rw [D7] at hy;rw [hy];exact s3) (fun r' y r3 q=>hs r' y r3 (q.trans s1));refine⟨B,b1,b2,b3,fun A=>?_⟩;simp only [patL,Du h1,Du h2,hx];exact b4 A
theorem zJ {f:List Str→Res}:∀(k:Nat) (terms:List Rx) (r:List Str) {x:Rx} {r1:List Str},patL f k [] terms r=.ok (x,r1)→x.kind≠1→InvT terms→(∀r' y r2,r' <:+ r→f r'=.ok (y,r2)→r2 <:+ r'∧y.kind≠0∧y.kind≠1) →
  ∃T,InvT T∧x=seqR (terms++T)∧∀S,InvT S→patL f k [] (S++terms) r=.ok (seqR (S++(terms++T)),r1)
 | 0,_,_,_,_,h,_,_,_=>by cases h
 | k+1,terms,r,x,r1,h,hk,ht,hs=>by
  have fin:∀S,InvT S→altR ([]++[seqR (S++terms)])=seqR (S++(terms++[])):=fun S hS=>by
   rw [D4,D8,mN (lF (hS.app ht)).1]
  cases r with
  | nil =>
   simp only [patL] at h;injection h with h;injection h with h1 h2
   have e:=fin [] (fun y hy=>by cases hy);exact⟨[],fun y hy=>(by cases hy),by rw [←h1];simpa using e,fun S hS=>by simp only [patL];rw [fin S hS,h2]⟩
  | cons c r =>
   simp only [patL] at h;by_cases h1:c=[41]
   ·rw [Dr h1] at h;injection h with h;injection h with ha hb
    have e:=fin [] (fun y hy=>by cases hy);exact⟨[],fun y hy=>(by cases hy),by rw [←ha];simpa using e,fun S hS=>by simp only [patL,Dr h1];rw [fin S hS,hb]⟩
   rw [Du h1] at h;by_cases h2:c=[124]
   ·rw [Dr h2] at h
    obtain⟨B,b1,b2,b3,_⟩:=ri k ([]++[seqR terms]) [] r h (fun y hy=>by cases hy) (fun r' y r2 q=>hs r' y r2 (kF q));exfalso;apply hk
    rw [b3];refine vr (InvA.app (fun y hy=>?_) b2) ?_
    ·rw [D4,D7] at hy;rw [hy];exact(lF ht).1
    ·cases B with
     | nil=>exact absurd rfl b1
     | cons b B=>simp
   rw [Du h2] at h;cases hx:f (c::r) with
   | error e=>exact cR
   | ok y =>
    obtain⟨w,r2⟩:=y;simp only [hx] at h;obtain⟨s1,s3⟩:=hs _ _ _ (Ea _) hx;have hw:InvT [w]:=fun y hy=>by rw [D7] at hy;rw [hy];exact s3
    obtain⟨T,b1,b2,b3⟩:=zJ k (terms++[w]) r2 h hk (ht.app hw) (fun r' y r3 q=>hs r' y r3 (q.trans s1));refine⟨w::T,InvT.app hw b1,by rw [b2];simp,fun S hS=>?_⟩;have:=b3 S hS
    simp only [patL,Du h1,Du h2,hx];rw [D6,this];simp
theorem term_ext {n d:Nat} {z:List Str} (hn:n≤200000) (hq:noQ z) {r y r2} (ho:okC r) (hl:r.length+z.length≤n+1) (h:ku (patF n) r d=.ok (y,r2)):ku (patF n) (r++z) d=.ok (y,r2++z) :=
 zq (BJ z n hn) (xP n) h ho hl (.inr hq)
theorem uN {n d:Nat} {r y r2} (h:ku (patF n) r d=.ok (y,r2)) (ho:okC r) (hl:r.length≤200000):r2 <:+ r∧r2.length<r.length∧y.kind≠0∧y.kind≠1 :=
 ⟨(oS h ho hl).1,(oS h ho hl).2,Dh h⟩
theorem sj {a b:List Str} (h1:okC a) (h2:okC b):okC (a++b):=fun p hp=>(DZ.1 hp).elim (h1 p) (h2 p)
theorem C3 {l z:List Str} {x:Rx} {d n:Nat} (ho:okC l) (hq:noQ z) (hl:l.length+z.length≤n) (hn:n≤200000) (h:patF (l.length+1) l d=.ok (x,[])) :
  ∃alts terms m,x=altR (alts++[seqR terms])∧patL (fun r=>ku (patF n) r d) ((l++z).length+1) [] [] (l++z)=patL (fun r=>ku (patF n) r d) m alts terms z∧z.length<m∧InvA alts∧InvT terms:=by
 rw [pB (n:=l.length+1) (m:=n+1) fR fR ho fR] at h;obtain⟨a,t,m,g1,g2,g3,g4,g5,_⟩:=wZ (f:=fun r=>ku (patF n) r d) hq (l.length+1) ((l++z).length+1) [] [] l fX fR h (fun y hy=>by cases hy) (fun y hy=>by cases hy)
  (fun r' y r2 q hx=>term_ext hn hq (mp q ho) i7 hx) (fun r' y r2 q hx=>uN hx (mp q ho) i7)
 exact⟨a,t,m,g1,g2,g3,g4,g5⟩
theorem yT {l:List Str} {x:Rx} {d n m:Nat} (ho:okC l) (hl:l.length≤n) (hm:l.length<m) (hn:n≤200000) (h:patF (l.length+1) l d=.ok (x,[])):patL (fun r=>ku (patF n) r d) m [] [] l=.ok (x,[]):=by
 rw [pB (n:=l.length+1) (m:=n+1) fR fR ho fR] at h;have h2:patL (fun r=>ku (patF n) r d) (l.length+1) [] [] l=.ok (x,[]):=h;rw [←r7 (f:=fun r=>ku (patF n) r d) (l.length+1) m [] [] l fR fR (fun r' y r2 q hx=>oS hx (mp q ho) i7)];exact h2
theorem BI {l1 l2:List Str} {x y:Rx} {d:Nat} (o1:okC l1) (o2:okC l2) (hl:l1.length+l2.length≤100000) (h1:patF (l1.length+1) l1 d=.ok (x,[])) (h2:patF (l2.length+1) l2 d=.ok (y,[])) :
  patF ((l1++[124]::l2).length+1) (l1++[124]::l2) d=.ok (altR [x,y],[]):=by
 have hlen:(l1++[124]::l2).length=l1.length+(l2.length+1):=fX;obtain⟨a,t,m,g1,g2,g3,g4,g5⟩:=C3 (n:=(l1++[124]::l2).length) (z:=[124]::l2) o1 ⟨by decide,by decide,by decide,by decide⟩ fX fR h1;show patL (fun r=>ku (patF (l1++[124]::l2).length) r d) ((l1++[124]::l2).length+1) [] [] (l1++[124]::l2)=_
 rw [g2];obtain⟨m,rfl⟩:∃m',m=m'+1:=⟨m-1,by omega⟩;simp only [Dx] at g3;have h2':=yT (n:=(l1++[124]::l2).length) (m:=m) o2 fR fR fR h2;obtain⟨B,b1,b2,b3,b4⟩:=ri m [] [] l2 h2' (fun y hy=>by cases hy) (fun r' y r2 q hx=>by
  have:=uN hx (mp q o2) i7;exact⟨this.1,this.2.2⟩)
 have h4:=b4 (a++[seqR t]);rw [D8] at h4;simp only [patL,Du (show ¬([124]:Str)=[41] by decide),Dr,h4];have hA:InvA (a++[seqR t]):=g4.app fun y hy=>by rw [D7] at hy;rw [hy];exact(lF g5).1
 rw [g1,b3,D4,zE hA b2 fX b1]
theorem noQ_ok {l:List Str} {x:Rx} {d n:Nat} (h:patF n l d=.ok (x,[])):noQ l:=by
 cases n with
 | zero=>cases h
 | succ n =>
  cases l with
  | nil=>trivial
  | cons c r =>
   have h':patL (fun r=>ku (patF n) r d) ((c::r).length+1) [] [] (c::r)=.ok (x,[]):=h;have bad:∀c:Str,c≠[41]→c≠[124]→o6 c=true→c≠[46]→c≠[40]→c≠[91]→c≠[92]→c≠[94]→c≠[36]→patL (fun r=>ku (patF n) r d) ((c::r).length+1) [] [] (c::r)≠.ok (x,[]):=by
    intro c c1 c2 c3 c4 c5 c6 c7 c8 c9 h;have ht:ku (patF n) (c::r) d=.error 10:=by
     unfold ku;have he:lD (c::r)=none:=by simp only [lD,Du c8,Du c9,Du c7]
     have ha:kI (patF n) (c::r) d=.error 10:=by simp only [kI,Du c4,Du c5,Du c6,Du c7,Dr c3]
     simp only [he,ha]
    simp only [patL,Du c1,Du c2,ht] at h;cases h
   refine⟨?_,?_,?_,?_⟩
   ·rintro rfl;exact bad [42] fU fU fU fU fU fU fU fU fU h'
   ·rintro rfl;exact bad [43] fU fU fU fU fU fU fU fU fU h'
   ·rintro rfl;exact bad [63] fU fU fU fU fU fU fU fU fU h'
   ·rintro rfl;exact bad [123] fU fU fU fU fU fU fU fU fU h'
theorem B9 {l1 l2:List Str} {x y:Rx} {d:Nat} (o1:okC l1) (o2:okC l2) (hl:l1.length+l2.length≤100000) (h1:patF (l1.length+1) l1 d=.ok (x,[])) (h2:patF (l2.length+1) l2 d=.ok (y,[])) (hx:x.kind≠1) (hy:y.kind≠1) :
  patF ((l1++l2).length+1) (l1++l2) d=.ok (seqR [x,y],[]):=by
 have hlen:(l1++l2).length=l1.length+l2.length:=fX;obtain⟨a,t,m,g1,g2,g3,g4,g5⟩:=C3 (n:=(l1++l2).length) (z:=l2) o1 (noQ_ok h2) fR fR h1;show patL (fun r=>ku (patF (l1++l2).length) r d) ((l1++l2).length+1) [] [] (l1++l2)=_
 rw [g2];have ha:a=[]:=by
  rcases a with _|⟨u,a⟩
  ·rfl
  ·exfalso;apply hx;rw [g1]
   exact vr (g4.app fun y hy=>by rw [D7] at hy;rw [hy];exact(lF g5).1) fX
 subst ha;have h2':=yT (n:=(l1++l2).length) (m:=m) o2 fR g3 fR h2;obtain⟨T,b1,b2,b3⟩:=zJ m [] l2 h2' hy (fun y hy=>by cases hy) (fun r' y r2 q hx=>by
  have:=uN hx (mp q o2) i7;exact⟨this.1,this.2.2⟩)
 have h4:=b3 t g5;rw [D8,D4] at h4;rw [h4,g1,b2,D4,D4,mN (lF g5).1,zP g5 b1]
theorem zY:∀(k:Nat) (l:Str),l.length≤k→kO k l=jL l
 | k,l,h=>by
  have key:∀(n k:Nat) (l:Str),l.length≤n→n≤k→kO k l=kO n l:=by
   intro n;induction n with
   | zero=>intro k l h1 h2;obtain rfl:=Ds (Nat.le_zero.1 h1);cases k<;>rfl
   | succ n ih =>
    intro k l h1 h2;obtain⟨k,rfl⟩:∃k',k=k'+1:=⟨k-1,by omega⟩;cases l with
    | nil=>rfl
    | cons c r =>
     have hd:(r.dropWhile jE).length≤r.length:=(List.dropWhile_suffix jE).length_le;simp only [Dx] at h1;simp only [kO];rw [ih k _ fR fR]
  exact key l.length k l (Dv _) h
theorem mS (c:UInt8) (r:Str):jL (c::r)=(c::r.takeWhile jE)::jL (r.dropWhile jE):=by
 have hd:(r.dropWhile jE).length≤r.length:=(List.dropWhile_suffix jE).length_le;show kO (r.length+1) (c::r)=_
 simp only [kO];rw [zY r.length _ hd]
def mb:Str→Prop
 | []=>True
 | c::_=>jE c=false
theorem t8 {p:UInt8→Bool} {a b:Str} (hb:∀c r,b=c::r→p c=false):(a++b).takeWhile p=a.takeWhile p∧(a++b).dropWhile p=a.dropWhile p++b:=by
 induction a with
 | nil =>
  cases b with
  | nil=>exact⟨rfl,rfl⟩
  | cons c r=>have:=hb c r rfl;simp [this]
 | cons x a ih =>
  cases hx:p x with
  | true=>simp [hx,ih.1,ih.2]
  | false=>simp [hx]
theorem kw:∀(n:Nat) (s t:Str),s.length≤n→mb t→jL (s++t)=jL s++jL t
 | _,[],t,_,_=>rfl
 | 0,c::r,t,h,_=>by simp at h
 | n+1,c::r,t,h,ht=>by
  have hd:(r.dropWhile jE).length≤r.length:=(List.dropWhile_suffix jE).length_le;simp only [Dx] at h;obtain⟨e1,e2⟩:=t8 (p:=jE) (a:=r) (b:=t) (fun c' r' e=>by subst e;exact ht);rw [D5,mS,mS,e1,e2,kw n _ t fR ht];rfl
theorem ns (s:Str):(jL s).length≤s.length:=(mU s.length s).2
theorem wK {s:Str} (h:s.length≤1000000):okC (jL s):=fun p hp=>by
 have:=(mU s.length s).1 p hp
 exact⟨this.1,by omega⟩
theorem readM_ok {s:Str} {x:Rx}:ql s=.ok x↔s.length≤256∧mb s∧patF ((jL s).length+1) (jL s) 0=.ok (x,[]):=by
 unfold ql;have rc:∀l:List Str,uw l=.ok x↔patF (l.length+1) l 0=.ok (x,[]):=by
  intro l;unfold uw;cases patF (l.length+1) l 0 with
  | error e=>simp
  | ok y =>
   obtain⟨y,r⟩:=y;cases r with
   | nil=>simp
   | cons c r=>simp
 by_cases hl:256<s.length
 ·rw [Dr hl]
  exact⟨(fun h=>by cases h),fun h=>by omega⟩
 rw [Du hl];cases s with
 | nil =>
  have:jL []=[]:=rfl
  rw [this];simp only [rc];exact⟨fun h=>⟨by simp,trivial,h⟩,fun h=>h.2.2⟩
 | cons c r =>
  rw [mS];have hp:kj (c::r.takeWhile jE)=!jE c:=by
   show (!jE c&&(r.takeWhile jE).all jE)=_
   have:(r.takeWhile jE).all jE=true:=List.all_takeWhile ..
   rw [this,Bool.and_true]
  simp only [hp];cases hc:jE c with
  | true=>simp [mb,hc]
  | false =>
   simp only [Bool.not_false,if_true];rw [rc];exact⟨fun h=>⟨by omega,hc,h⟩,fun h=>h.2.2⟩
theorem ly:∀(a b:List Rx),Rx.deepL (a++b)=max (Rx.deepL a) (Rx.deepL b)
 | [],b=>by simp [Rx.deepL]
 | x::a,b=>by simp only [D5,Rx.deepL,ly a b];omega
theorem C8 {x:Rx} (h:x.kind=0∨x.kind=1):Rx.deepL x.kids=x.deep:=by
 obtain⟨k,c,ng,rs,lo,hi,lz,ks⟩:=x;simp only [Rx.kind] at h;simp only [Rx.kids,Rx.deep];rw [Du fR];omega
theorem rX {kd:Int} (hk:kd=0∨kd=1):∀xs:List Rx,Rx.deepL (kD kd xs)=Rx.deepL xs
 | []=>rfl
 | x::xs=>by
  rw [nf,ly,rX hk xs];simp only [Rx.deepL];by_cases h:x.kind=kd
  ·rw [Dr h,C8 (by rw [h];exact hk)]
  ·rw [Du h];simp only [Rx.deepL];omega
theorem se (xs:List Rx):(seqR xs).deep=Rx.deepL xs:=by
 have h:=rX (kd:=0) (.inl rfl) xs;unfold seqR;split
 ·rename_i y hy;rw [hy] at h;simp only [Rx.deepL] at h;omega
 ·rename_i l _;unfold mB;simp only [Rx.deep];rw [Du fU,h];rfl
theorem BB (xs:List Rx):(altR xs).deep=Rx.deepL xs:=by
 have h:=rX (kd:=1) (.inr rfl) xs;unfold altR;split
 ·rename_i hy;rw [hy] at h;exact h
 ·rename_i y hy;rw [hy] at h;simp only [Rx.deepL] at h;omega
 ·unfold sQ;simp only [Rx.deep];rw [Du fU,h];rfl
theorem pL (alts terms:List Rx):(altR (alts++[seqR terms])).deep=max (Rx.deepL alts) (Rx.deepL terms):=by
 rw [BB,ly];simp only [Rx.deepL,se];omega
theorem rep_deep (lo hi:Int) (lz:Bool) (x:Rx):(repR lo hi lz x).deep=x.deep:=by
 unfold repR;simp only [Rx.deep,Rx.deepL];rw [Du fU];omega
theorem yO {k:Int} (hk:k=5∨k=6) (x:Rx):(grpR k x).deep=x.deep+1:=by
 unfold grpR;simp only [Rx.deep,Rx.deepL];rw [Dr hk];omega
def uh (pat:List Str→Nat→Res) (z:List Str) (N:Nat):Prop:=∀(r:List Str) (d:Nat) (x:Rx) (r1:List Str) (d':Nat),r.length+z.length≤N→okC r→pat r d=.ok (x,r1)→d'≤16 →
 (x.deep+d'≤16→(r1≠[]∨z=[])→pat (r++z) d'=.ok (x,r1++z))∧(16<x.deep+d'→pat (r++z) d'=.error 8)
theorem AG {pat:List Str→Nat→Res} {z:List Str} {N:Nat} (hp:uh pat z N) (hnil:∀d,pat [] d=.ok (mB [],[])∨∃e,pat [] d=.error e) {r r1:List Str} {d d':Nat} {x:Rx} (h:lu pat r d=.ok (x,r1)) (ho:okC r) (hN:r.length+z.length≤N) (hd':d'≤16) :
  (x.deep+d'≤16→lu pat (r++z) d'=.ok (x,r1++z))∧(16<x.deep+d'→lu pat (r++z) d'=.error 8):=by
 unfold lu at h ⊢;by_cases hd:16≤d
 ·rw [Dr hd] at h;cases h
 rw [Du hd] at h;cases hk:lW r with
 | none=>simp only [hk] at h;cases h
 | some y =>
  obtain⟨k,r0⟩:=y;obtain⟨ks,kk⟩:=ny hk;simp only [hk] at h;have hr:r≠[]:=by
   exact dn
  cases hx:pat r0 (d+1) with
  | error e=>exact cR
  | ok y =>
   obtain⟨w,r2⟩:=y;simp only [hx] at h;cases ht:jQ [41] r2 with
   | none=>simp only [ht] at h;cases h
   | some r3 =>
    simp only [ht] at h;injection h with h;injection h with h3 h4;subst h3 h4
    have h2:r2≠[]:=by rintro rfl;cases ht
    have hl:=lT ks;have hde:=yO kk w;by_cases h16:16≤d'
    ·rw [Dr h16]
     exact⟨fun q=>by omega,fun _=>rfl⟩
    rw [Du h16];simp only [tP z hk hr];obtain⟨p1,p2⟩:=hp r0 (d+1) w r2 (d'+1) fR (mp ks ho) hx fR;refine⟨fun q=>?_,fun q=>?_⟩
    ·simp only [p1 fR (.inl h2),kM z ht]
    ·simp only [p2 fR]
theorem Ch {pat:List Str→Nat→Res} {z:List Str} {N:Nat} (hp:uh pat z N) (hnil:∀d,pat [] d=.ok (mB [],[])∨∃e,pat [] d=.error e) {r r1:List Str} {d d':Nat} {x:Rx} (h:kI pat r d=.ok (x,r1)) (ho:okC r) (hN:r.length+z.length≤N+1) (hd':d'≤16) :
  (x.deep+d'≤16→kI pat (r++z) d'=.ok (x,r1++z))∧(16<x.deep+d'→kI pat (r++z) d'=.error 8):=by
 cases r with
 | nil=>cases h
 | cons c r =>
  simp only [Dx] at hN;simp only [kI,D5] at h ⊢;have flat:∀{res:Res},x.deep=0→res=.ok (x,r1++z)→(x.deep+d'≤16→res=.ok (x,r1++z))∧(16<x.deep+d'→res=.error 8):=fun h0 hr=>⟨fun _=>hr,fun q=>by omega⟩
  by_cases h1:c=[46]
  ·rw [Dr h1] at h ⊢;injection h with h;injection h with ha hb;subst ha hb;exact flat rfl rfl
  rw [Du h1] at h ⊢;by_cases h2:c=[40]
  ·rw [Dr h2] at h ⊢;exact AG hp hnil h ho.tail fR hd'
  rw [Du h2] at h ⊢;by_cases h3:c=[91]
  ·rw [Dr h3] at h ⊢
   refine flat ?_ (vC z h);exact cT
  rw [Du h3] at h ⊢;by_cases h4:c=[92]
  ·rw [Dr h4] at h ⊢
   refine flat ?_ (CL z h);exact bK
  rw [Du h4] at h ⊢;by_cases h5:o6 c=true
  ·rw [Dr h5] at h;cases h
  ·rw [Du h5] at h ⊢;injection h with h;injection h with ha hb;subst ha hb;exact flat rfl rfl
theorem BK {r r1:List Str} {x:Rx} (h:lD r=some (x,r1)):x.deep=0:=by
 cases r with
 | nil=>cases h
 | cons c r =>
  simp only [lD] at h;by_cases h1:c=[94]
  ·rw [Dr h1] at h;injection h with h;injection h with ha _;subst ha;rfl
  rw [Du h1] at h;by_cases h2:c=[36]
  ·rw [Dr h2] at h;injection h with h;injection h with ha _;subst ha;rfl
  rw [Du h2] at h;by_cases h3:c=[92]
  ·rw [Dr h3] at h
   cases h4:jQ [98] r with
   | some r2=>simp only [h4] at h;injection h with h;injection h with ha _;subst ha;rfl
   | none =>
    simp only [h4] at h;cases h5:jQ [66] r with
    | some r2=>simp only [h5] at h;injection h with h;injection h with ha _;subst ha;rfl
    | none=>exact ei
  ·rw [Du h3] at h;cases h
theorem Bl {pat:List Str→Nat→Res} {z:List Str} {N:Nat} (hp:uh pat z N) (hnil:∀d,pat [] d=.ok (mB [],[])∨∃e,pat [] d=.error e) {r r1:List Str} {d d':Nat} {x:Rx} (h:ku pat r d=.ok (x,r1)) (ho:okC r) (hN:r.length+z.length≤N+1) (hd':d'≤16) :
  (x.deep+d'≤16→(r1≠[]∨noQ z)→ku pat (r++z) d'=.ok (x,r1++z))∧(16<x.deep+d'→ku pat (r++z) d'=.error 8):=by
 unfold ku at h ⊢;cases he:lD r with
 | some y =>
  simp only [he] at h;obtain⟨a,b⟩:=y;injection h with h;injection h with ha hb;subst ha hb
  have h0:=BK he;simp only [zQ z he];exact⟨fun _ _=>(by first|rfl|trivial),fun q=>by omega⟩
 | none =>
  simp only [he] at h;cases ha:kI pat r d with
  | error e=>simp only [ha] at h;cases h
  | ok y =>
   obtain⟨w,r2⟩:=y;simp only [ha] at h;have hr:r≠[]:=by rintro rfl;cases ha
   have h92:r≠[[92]]:=by rintro rfl;simp [kI,escM] at ha
   have hde:x.deep=w.deep:=by
    rcases pd h with⟨rfl,_⟩|⟨⟨lo,hi,lz,rfl⟩,_⟩
    ·rfl
    ·exact rep_deep _ _ _ _
   obtain⟨p1,p2⟩:=Ch hp hnil ha ho hN hd';simp only [uW z he hr h92];refine⟨fun q hz=>?_,fun q=>?_⟩
   ·simp only [p1 fR];exact wn z h hz
   ·simp only [p2 fR]
theorem pC {f:List Str→Res} {k:Nat} {alts terms:List Rx} {x:Rx} {r1:List Str} (h:patL f k alts terms []=.ok (x,r1)):x=altR (alts++[seqR terms])∧r1=[]:=by
 cases k with
 | zero=>cases h
 | succ k=>simp only [patL] at h;injection h with h;injection h with h1 h2;exact⟨h1.symm,h2.symm⟩
theorem rV {f f':List Str→Res} {z:List Str} {d':Nat}:∀(k m:Nat) (alts terms:List Rx) (r:List Str) {x:Rx} {r1:List Str},k≤m→patL f k alts terms r=.ok (x,r1) →
  (∀r' y r2,r' <:+ r→f r'=.ok (y,r2)→(y.deep+d'≤16→(r2≠[]∨noQ z)→f' (r'++z)=.ok (y,r2++z))∧(16<y.deep+d'→f' (r'++z)=.error 8)) →
  (∀r' y r2,r' <:+ r→f r'=.ok (y,r2)→r2 <:+ r')→Rx.deepL alts+d'≤16→Rx.deepL terms+d'≤16 →
  (x.deep+d'≤16→(r1≠[]∨z=[])→patL f' m alts terms (r++z)=.ok (x,r1++z))∧(16<x.deep+d'→patL f' m alts terms (r++z)=.error 8)
 | 0,_,_,_,_,_,_,_,h,_,_,_,_=>by cases h
 | k+1,m,alts,terms,r,x,r1,hm,h,ht,hs,da,dt=>by
  obtain⟨m,rfl⟩:∃m',m=m'+1:=⟨m-1,by omega⟩;cases r with
  | nil =>
   obtain⟨e1,e2⟩:=pC h;subst e1 e2;have hd:=pL alts terms;refine⟨fun _ q=>?_,fun q=>by omega⟩;obtain rfl:=q.resolve_left (fun q=>q rfl);rfl
  | cons c r =>
   simp only [patL,D5] at h ⊢;by_cases h1:c=[41]
   ·rw [Dr h1] at h ⊢
    injection h with h;injection h with ha hb;subst ha hb
    have hd:=pL alts terms;exact⟨fun _ _=>(by first|rfl|trivial),fun q=>by omega⟩
   rw [Du h1] at h ⊢;by_cases h2:c=[124]
   ·rw [Dr h2] at h ⊢
    have:=rV k m _ _ r fR h (fun r' y r2 q=>ht r' y r2 (kF q)) (fun r' y r2 q=>hs r' y r2 (kF q)) (by rw [ly];simp only [Rx.deepL,se];omega) js
    exact this
   rw [Du h2] at h ⊢;cases hx:f (c::r) with
   | error e=>exact cR
   | ok y =>
    obtain⟨w,r2⟩:=y;simp only [hx] at h;have s:=hs _ _ _ (Ea _) hx;obtain⟨t1,t2⟩:=ht _ _ _ (Ea _) hx;rw [D5] at t1 t2;by_cases hw:w.deep+d'≤16
    ·have rc0:=rV k m alts (terms++[w]) r2 fR h (fun r' y r3 q=>ht r' y r3 (q.trans s)) (fun r' y r3 q=>hs r' y r3 (q.trans s)) da (by rw [ly];simp only [Rx.deepL];omega)
     have hr2:r2=[]→x.deep+d'≤16:=by
      rintro rfl;obtain⟨e1,_⟩:=pC h;rw [e1,pL,ly];simp only [Rx.deepL];omega
     refine⟨fun q1 q2=>?_,fun q=>?_⟩
     ·have hz:r2≠[]∨noQ z:=by
       rcases q2 with q2|q2
       ·exact .inl (by rintro rfl;exact q2 (pC h).2)
       ·exact .inr (by rw [q2];trivial)
      simp only [t1 hw hz];exact rc0.1 q1 q2
     ·have h2':r2≠[]:=fun e=>by have:=hr2 e;omega
      simp only [t1 hw (.inl h2')];exact rc0.2 q
    ·have h8:=t2 fR
     have hxd:16<x.deep+d'→True:=fun _=>trivial
     refine⟨fun q1 _=>?_,fun _=>by simp only [h8]⟩;exfalso;have key:∀(k:Nat) (alts terms:List Rx) (r:List Str) {x:Rx} {r1:List Str},patL f k alts terms r=.ok (x,r1)→Rx.deepL terms≤x.deep∧Rx.deepL alts≤x.deep:=by
      intro k;induction k with
      | zero=>intro alts terms r x r1 h;cases h
      | succ k ih =>
       intro alts terms r x r1 h;cases r with
       | nil=>obtain⟨e1,_⟩:=pC h;rw [e1,pL];omega
       | cons c r =>
        simp only [patL] at h;by_cases h1:c=[41]
        ·rw [Dr h1] at h;injection h with h;injection h with ha _;rw [←ha,pL];omega
        rw [Du h1] at h;by_cases h2:c=[124]
        ·rw [Dr h2] at h
         have:=(ih _ _ _ h).2
         rw [ly] at this;simp only [Rx.deepL,se] at this;omega
        rw [Du h2] at h;cases hx:f (c::r) with
        | error e=>exact cR
        | ok y =>
         simp only [hx] at h;have:=ih _ _ _ h
         rw [ly] at this;simp only [Rx.deepL] at this;omega
     have:=(key _ _ _ _ h).1
     rw [ly] at this;simp only [Rx.deepL] at this;omega
theorem uC (z:List Str):∀(n:Nat),n≤200000→uh (patF n) z n
 | 0,_=>fun r d x r1 d' _ _ h _=>by cases h
 | n+1,hn=>fun r d x r1 d' hl ho h hd'=>by
  have ih:=uC z n fR;have h':patL (fun r=>ku (patF n) r d) (r.length+1) [] [] r=.ok (x,r1):=h;exact rV (f:=fun r=>ku (patF n) r d) (f':=fun r=>ku (patF n) r d') (r.length+1) ((r++z).length+1) [] [] r fX h'
   (fun r' y r2 hs hx=>Bl ih (xP n) hx (mp hs ho) iW hd') (fun r' y r2 hs hx=>(oS hx (mp hs ho) iW).1) js js
def Rdg (l:List Str) (x:Rx):Prop:=okC l∧noQ l∧∀(n:Nat) (z:List Str) (d:Nat),(z=[]∨∃z',z=[41]::z')→okC z→d≤16→(l++z).length<n→n≤200000 →
 patF n (l++z) d=if x.deep+d≤16 then .ok (x,z) else .error 8
theorem Rdg.of {l:List Str} {x:Rx} (ho:okC l) (h:patF (l.length+1) l 0=.ok (x,[])):Rdg l x:=by
 refine⟨ho,noQ_ok h,fun n z d hz hoz hd hl hn=>?_⟩;have hll:l.length+z.length<n:=jv;have h0:patF n l 0=.ok (x,[]):=by rw [←h];exact pB fR fR ho fR
 by_cases hx:x.deep+d≤16
 ·rw [Dr hx]
  have h1:patF n l d=.ok (x,[]):=by
   have:=(uC [] n hn l 0 x [] d fY ho h0 hd).1 hx (.inr rfl)
   simpa using this
  rcases hz with rfl|⟨z',rfl⟩
  ·simpa using h1
  ·have h2:patF (l.length+1) l d=.ok (x,[]):=by rw [←h1];exact pB fR fR ho fR
   obtain⟨n,rfl⟩:∃n',n=n'+1:=⟨n-1,by omega⟩;obtain⟨a,t,m,g1,g2,g3,g4,g5⟩:=C3 (n:=n) (z:=[41]::z') ho ⟨by decide,by decide,by decide,by decide⟩ fR fR h2;show patL (fun r=>ku (patF n) r d) ((l++[41]::z').length+1) [] [] (l++[41]::z')=_
   rw [g2];obtain⟨m,rfl⟩:∃m',m=m'+1:=⟨m-1,by omega⟩;simp only [patL,if_true];rw [g1]
 ·rw [Du hx]
  exact(uC z n hn l 0 x [] d fR ho h0 hd).2 fR
def opn (bare:Bool):List Str:=if bare=true then [[40],[63],[58]] else [[40]]
theorem Rdg.term {l z:List Str} {x:Rx} (h:Rdg l x) (bare:Bool) (n d:Nat) (hoz:okC z) (hd:d≤16) (hl:(l++[41]::z).length<n) (hn:n≤200000) :
  ku (patF n) (opn bare++(l++[41]::z)) d=if x.deep+1+d≤16 then kz (grpR (gk bare) x) z else .error 8:=by
 obtain⟨h1,h2,h3⟩:=h;have hgr:∀r,lW r=some (gk bare,l++[41]::z)→lu (patF n) r d=if x.deep+1+d≤16 then .ok (grpR (gk bare) x,z) else .error 8:=by
  intro r hk;unfold lu;by_cases h16:16≤d
  ·rw [Dr h16,Du fR]
  rw [Du h16];simp only [hk];rw [h3 n ([41]::z) (d+1) (.inr ⟨z,rfl⟩) (fun p hp=>by
   rcases DF.1 hp with rfl|hp
   ·exact⟨by simp,by simp⟩
   ·exact hoz p hp) fR hl hn]
  by_cases hx:x.deep+(d+1)≤16
  ·rw [Dr hx,Dr fR];simp only [jQ,if_true]
  ·rw [Du hx,Du fR]
 have hte:∀r,lW r=some (gk bare,l++[41]::z)→ku (patF n) ([40]::r) d=if x.deep+1+d≤16 then kz (grpR (gk bare) x) z else .error 8:=by
  intro r hk;unfold ku;have he:lD ([40]::r)=none:=by simp [lD]
  have ha:kI (patF n) ([40]::r) d=lu (patF n) r d:=by simp [kI]
  simp only [he,ha,hgr r hk];by_cases hx:x.deep+1+d≤16
  ·rw [Dr hx,Dr hx]
  ·rw [Du hx,Du hx]
 cases bare with
 | true=>exact hte ([63]::[58]::(l++[41]::z)) (by simp [lW,jQ,gk])
 | false =>
  refine hte (l++[41]::z) ?_;unfold lW;have:jQ [63] (l++[41]::z)=none:=by
   cases l with
   | nil=>simp [jQ]
   | cons c l=>simp only [D5,jQ,Du h2.2.2.1]
  simp only [this];rfl
def wrp (bare:Bool) (l:List Str):List Str:=opn bare++(l++[[41]])
theorem opn_ok (bare:Bool):okC (opn bare):=by
 intro p hp;cases bare<;>simp [opn] at hp
 ·subst hp;exact⟨by simp,by simp⟩
 ·rcases hp with rfl|rfl|rfl<;>exact⟨by simp,by simp⟩
theorem yg (bare:Bool):∃r,opn bare=[40]::r:=by cases bare<;>exact⟨_,rfl⟩
theorem gk_or (bare:Bool):gk bare=5∨gk bare=6:=by cases bare<;>simp [gk]
theorem Rdg.wrap {l:List Str} {x:Rx} (h:Rdg l x) (bare:Bool):Rdg (wrp bare l) (grpR (gk bare) x):=by
 have ho:=h.1;obtain⟨ro,hro⟩:=yg bare;refine⟨sj (opn_ok bare) (sj ho fun p hp=>by rw [D7] at hp;subst hp;exact⟨by simp,by simp⟩),?_,fun n z d hz hoz hd hl hn=>?_⟩
 ·unfold wrp;rw [hro];exact⟨by decide,by decide,by decide,by decide⟩
 ·obtain⟨n,rfl⟩:∃n',n=n'+1:=⟨n-1,by omega⟩
  have e1:wrp bare l++z=opn bare++(l++[41]::z):=by simp [wrp]
  have hl':(l++[41]::z).length<n:=by
   rw [e1,DE] at hl;have:1≤(opn bare).length:=by rw [hro];simp
   omega
  have hlen:(wrp bare l++z).length=(opn bare++(l++[41]::z)).length:=by rw [e1]
  show patL (fun r=>ku (patF n) r d) ((wrp bare l++z).length+1) [] [] (wrp bare l++z)=_
  have ht:=h.term (z:=z) bare n d hoz hd hl' fR;obtain⟨K,hK⟩:∃K,(wrp bare l++z).length=K+1:=⟨(ro++(l++[41]::z)).length,by rw [hlen,hro];simp⟩;rw [hK,e1];rw [hro,D5] at ht ⊢;rw [yO (gk_or bare)];simp only [patL,Du (show ¬([40]:Str)=[41] by decide),Du (show ¬([40]:Str)=[124] by decide),ht];by_cases hx:x.deep+1+d≤16
  ·rw [Dr hx,Dr hx]
   have hkind:(grpR (gk bare) x).kind≠0∧(grpR (gk bare) x).kind≠1:=by cases bare<;>simp [grpR,gk,Rx.kind]
   have hT:InvT [grpR (gk bare) x]:=fun y hy=>by rw [D7] at hy;rw [hy];exact hkind
   have hseq:seqR [grpR (gk bare) x]=grpR (gk bare) x:=by
    unfold seqR;rw [lB (fun y hy=>(hT y hy).1)]
   have hend:altR ([]++[seqR ([]++[grpR (gk bare) x])])=grpR (gk bare) x:=by
    rw [D4,D4,hseq,mN hkind.2]
   rcases hz with rfl|⟨z',rfl⟩
   ·simp only [kz,hend]
   ·have hq:kz (grpR (gk bare) x) ([41]::z')=.ok (grpR (gk bare) x,[41]::z'):=by simp [kz]
    simp only [hq,if_true,hend]
  ·rw [Du hx,Du hx]
open Go.RowKit
def EqRel (n:Nat) (w:World) (q:Value) (wr:World):Prop:=∃i:Nat,i≤n∧q=.int .i64 i∧Below w.heap.size w wr
theorem RxV.box' {w:World} {S:Nat→Prop} {cc:List Value} {k:Int} {c:Str} {ng:Bool} {rs:List (Str × Str)} {lo hi:Int} {lz:Bool} {ks:List Rx} (h:RxV w S cc (.mk k c ng rs lo hi lz ks)) :
  ∃ra rc ka kc,cc=rxc k c ng ra rs.length rc lo hi lz ka ks.length kc∧Sl w w.heap.size ra 2 rs.length (jN rs)∧RxSl w S ka ks.length ks:=by
 obtain⟨ra,rc,ka,kc,h1,h2,h3⟩:=h.open_;exact⟨ra,rc,ka,kc,h1,h2.sl,h3⟩
open Go.RowKit
def opS (bare:Bool):Str:=if bare=true then [40,63,58] else [40]
theorem A5 {s:Str} (h:∀c∈s,jE c=false):jL s=s.map fun c=>[c]:=by
 induction s with
 | nil=>rfl
 | cons c s ih =>
  have e:jL ([c]++s)=jL [c]++jL s:=kw _ [c] s (Dv _) (by
   cases s with
   | nil=>trivial
   | cons d s=>exact h d fX)
  rw [show c::s=[c]++s from rfl,e,ih (fun d hd=>h d (DI _ hd))];rfl
theorem mM {s t:Str} (hs:mb s) (ht:mb t):mb (s++t):=by
 cases s with
 | nil=>exact ht
 | cons c s=>exact hs
theorem Ax (bare:Bool):jL (opS bare)=opn bare:=by cases bare<;>rfl
theorem s6 (bare:Bool) {s t:Str} (hs:mb s) (ht:mb t):jL (opS bare++(s++41::t))=opn bare++(jL s++[41]::jL t):=by
 have h41:mb (41::t):=show jE 41=false by decide
 rw [kw _ (opS bare) _ (Dv _) (mM hs h41),kw _ s _ (Dv _) h41,show (41:UInt8)::t=[41]++t from rfl,kw _ [41] t (Dv _) ht,Ax];rfl
def lzS (b:Bool):Str:=if b=true then [63] else []
end Go.Proofs.YtjggmmaojklmpaaGreatDoor
