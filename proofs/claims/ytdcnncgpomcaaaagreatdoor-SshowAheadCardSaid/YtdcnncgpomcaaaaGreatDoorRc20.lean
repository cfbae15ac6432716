/- A reading goes on the same with more behind it; the fuel does not matter. · A reading goes on the same with more behind it: atoms, terms, patterns; the fuel. · Two texts side by side, or with | between: on the characters. · Two texts side by side, with | between, in brackets: what is read of them. -/
import Derived.Test.YtdcnncgpomcaaaaGreatDoorRc17
set_option maxRecDepth 100000
namespace Go.Proofs.YtdcnncgpomcaaaaGreatDoor
theorem mK {c:Str} {r r1:List Str} (z:List Str) (h:lq c r=some r1):lq c (r++z)=some (r1++z):=by
 rw [mO h];simp [lq]
theorem nd {c:Str} {r:List Str} (z:List Str) (h:lq c r=none) (hr:r≠[]):lq c (r++z)=none:=by
 cases r with
 | nil=>exact absurd rfl hr
 | cons p r =>
  simp only [lq] at h;by_cases hp:p=c
  ·rw [Jl hp] at h;cases h
  ·simp only [JW,lq,Jo hp]
theorem D7 {r r1:List Str} {c:Str} {nm:List Row} (z:List Str) (h:og r=some (c,nm,r1)):og (r++z)=some (c,nm,r1++z):=by
 cases r with
 | nil=>cases h
 | cons p r =>
  simp only [og,JW] at h ⊢;by_cases h1:p=[93]
  ·rw [Jl h1] at h;cases h
  rw [Jo h1] at h ⊢;by_cases h2:p=[92]
  ·rw [Jl h2] at h ⊢
   cases r with
   | nil=>cases h
   | cons c2 r2 =>
    simp only [JW] at h ⊢;cases hn:nF c2 with
    | some rows =>
     simp only [hn] at h ⊢;exact de
    | none =>
     simp only [hn] at h ⊢;cases hpm:mR c2 with
     | none=>exact gq
     | some t =>
      simp only [hpm] at h ⊢;exact de
  ·rw [Jo h2] at h ⊢
   exact de
theorem AO {n:Nat} {rows rows':List Row} {r r1:List Str} (h:lV n rows r=some (rows',r1)):r≠[]:=by
 rintro rfl;cases n with
 | zero=>cases h
 | succ n=>simp only [lV,lq,og] at h;cases h
theorem pd (z:List Str):∀(n m:Nat) (rows:List Row) (r:List Str) {rows':List Row} {r1:List Str},n≤m→lV n rows r=some (rows',r1)→lV m rows (r++z)=some (rows',r1++z)
 | 0,_,_,_,_,_,_,h=>by cases h
 | n+1,m,rows,r,rows',r1,hm,h=>by
  obtain⟨m,rfl⟩:∃m',m=m'+1:=⟨m-1,by omega⟩;have hm':n≤m:=gN;have hr:=AO h;simp only [lV] at h ⊢;cases ht:lq [93] r with
  | some r0 =>
   simp only [ht] at h;rw [mK z ht];injection h with h;injection h with h1 h2
   subst h1 h2;rfl
  | none =>
   simp only [ht] at h;rw [nd z ht hr];cases hi:og r with
   | none=>simp only [hi] at h;cases h
   | some y =>
    obtain⟨c,nm,r2⟩:=y;simp only [hi] at h;simp only [D7 z hi];by_cases hnm:nm≠[]
    ·rw [Jl hnm] at h ⊢
     exact pd z n m _ _ hm' h
    ·rw [Jo hnm] at h ⊢
     cases ht2:lq [45] r2 with
     | none =>
      simp only [ht2] at h;simp only [nd z ht2 (AO h)];exact pd z n m _ _ hm' h
     | some r3 =>
      simp only [ht2] at h;simp only [mK z ht2];by_cases ht3:lq [93] r3=none
      ·rw [Jl ht3] at h
       cases hi2:og r3 with
       | none=>simp only [hi2] at h;cases h
       | some y =>
        obtain⟨t,nm2,r4⟩:=y;simp only [hi2] at h;have h3:r3≠[]:=by rintro rfl;cases hi2
        rw [Jl (nd z ht3 h3)];simp only [D7 z hi2];by_cases hb:nm2≠[]∨Op.bytesLess t c=true
        ·rw [Jl hb] at h;cases h
        ·rw [Jo hb] at h ⊢
         exact pd z n m _ _ hm' h
      ·rw [Jo ht3] at h
       obtain⟨r5,h5⟩:∃r5,lq [93] r3=some r5:=by
        cases hx:lq [93] r3 with
        | none=>exact absurd hx ht3
        | some r5=>exact⟨r5,rfl⟩
       rw [Jo (by rw [mK z h5];simp)];exact pd z n m _ _ hm' h
theorem Bg {r r1:List Str} {x:Rx} (z:List Str) (h:mY r=.ok (x,r1)):mY (r++z)=.ok (x,r1++z):=by
 unfold mY at h ⊢;simp only at h ⊢
 have hr:r≠[]:=by rintro rfl;simp [lq,lV,og] at h
 cases ht:lq [94] r with
 | some r0 =>
  rw [mK z ht];simp only [ht,Option.isSome_some,Option.getD_some] at h ⊢;cases hc:lV (r0.length+1) [] r0 with
  | none=>simp only [hc] at h;cases h
  | some y =>
   obtain⟨rows,r2⟩:=y;simp only [hc] at h;injection h with h;injection h with h1 h2;subst h1 h2
   rw [pd z _ ((r0++z).length+1) _ _ gU hc]
 | none =>
  rw [nd z ht hr];simp only [ht,Option.isSome_none,Option.getD_none] at h ⊢;cases hc:lV (r.length+1) [] r with
  | none=>simp only [hc] at h;cases h
  | some y =>
   obtain⟨rows,r2⟩:=y;simp only [hc] at h;injection h with h;injection h with h1 h2;subst h1 h2
   rw [pd z _ ((r++z).length+1) _ _ gU hc]
theorem GQ {r r1:List Str} {x:Rx} (z:List Str) (h:escM r=.ok (x,r1)):escM (r++z)=.ok (x,r1++z):=by
 cases r with
 | nil=>cases h
 | cons c r =>
  simp only [escM,JW] at h ⊢;cases hn:nF c with
  | some rows=>simp only [hn] at h ⊢;injection h with h;injection h with h1 h2;subst h1 h2;rfl
  | none =>
   simp only [hn] at h ⊢;cases hb:bigS c with
   | some rows=>simp only [hb] at h ⊢;injection h with h;injection h with h1 h2;subst h1 h2;rfl
   | none =>
    simp only [hb] at h ⊢;cases hp:mR c with
    | none=>simp only [hp] at h;cases h
    | some t=>simp only [hp] at h ⊢;injection h with h;injection h with h1 h2;subst h1 h2;rfl
theorem yY (z:List Str):∀(r:List Str) (k n:Nat) {m:Nat} {r1:List Str},numL k n r=some (m,r1)→r1≠[]→numL k n (r++z)=some (m,r1++z)
 | [],k,n,m,r1,h,hr=>by
  unfold numL at h;split at h
  ·injection h with h;injection h with _ h;exact absurd h.symm hr
  ·cases h
 | c::r,k,n,m,r1,h,hr=>by
  simp only [numL,JW] at h ⊢;cases hd:digS c with
  | some d =>
   simp only [hd] at h ⊢;by_cases hk:k=3
   ·rw [Jl hk] at h;cases h
   ·rw [Jo hk] at h ⊢;exact yY z r _ _ h hr
  | none =>
   simp only [hd] at h ⊢;by_cases hc:0<k∧n≤255
   ·rw [Jl hc] at h ⊢;injection h with h;injection h with h1 h2;subst h1 h2;rfl
   ·rw [Jo hc] at h;cases h
theorem Et {r r1:List Str} {lo hi:Int} (z:List Str) (h:mM r=some (lo,hi,r1)):mM (r++z)=some (lo,hi,r1++z):=by
 unfold mM at h ⊢;cases h1:numL 0 0 r with
 | none=>simp only [h1] at h;cases h
 | some y =>
  obtain⟨a,s1⟩:=y;simp only [h1] at h;have hs1:s1≠[]:=by rintro rfl;simp [lq] at h
  simp only [yY z r _ _ h1 hs1];cases h2:lq [125] s1 with
  | some s2 =>
   simp only [h2] at h;simp only [mK z h2];injection h with h;injection h with h3 h;injection h with h4 h;subst h3 h4 h;rfl
  | none =>
   simp only [h2] at h;simp only [nd z h2 hs1];cases h3:lq [44] s1 with
   | none=>simp only [h3] at h;cases h
   | some s2 =>
    simp only [h3] at h;simp only [mK z h3];have hs2:s2≠[]:=by rintro rfl;simp [lq,numL] at h
    cases h4:lq [125] s2 with
    | some s3 =>
     simp only [h4] at h;simp only [mK z h4];injection h with h;injection h with h5 h;injection h with h6 h;subst h5 h6 h;rfl
    | none =>
     simp only [h4] at h;simp only [nd z h4 hs2];cases h5:numL 0 0 s2 with
     | none=>exact dh
     | some y =>
      obtain⟨b,s3⟩:=y;simp only [h5] at h;by_cases hle:a≤b
      ·rw [Jl gN] at h
       have hs3:s3≠[]:=by rintro rfl;simp [lq] at h
       simp only [yY z s2 _ _ h5 hs3];rw [Jl gN];cases h6:lq [125] s3 with
       | none=>simp only [h6] at h;cases h
       | some s4 =>
        simp only [h6] at h;simp only [mK z h6];injection h with h;injection h with h7 h;injection h with h8 h;subst h7 h8 h;rfl
      ·rw [Jo gN] at h;cases h
def noQ:List Str→Prop
 | []=>True
 | c::_=>c≠[42]∧c≠[43]∧c≠[63]∧c≠[123]
theorem noQ_take {z:List Str} (h:noQ z):lq [63] z=none:=by
 cases z with
 | nil=>rfl
 | cons c z=>simp only [lq,Jo h.2.2.1]
theorem lazy_app {x y:Rx} {lo hi:Int} {r r1:List Str} (z:List Str) (h:rg x lo hi r=(y,r1)) (hz:r1≠[]∨noQ z):rg x lo hi (r++z)=(y,r1++z):=by
 unfold rg at h ⊢;cases ht:lq [63] r with
 | some r2 =>
  simp only [ht] at h;simp only [mK z ht];injection h with h1 h2;subst h1 h2;rfl
 | none =>
  simp only [ht] at h;injection h with h1 h2;subst h1 h2
  have:lq [63] (r++z)=none:=by
   by_cases hr:r=[]
   ·subst hr;exact noQ_take (hz.resolve_left (fun q=>q rfl))
   ·exact nd z ht hr
  simp only [this]
theorem Bv {x y:Rx} {r r1:List Str} (z:List Str) (h:ma x r=.ok (y,r1)) (hz:r1≠[]∨noQ z):ma x (r++z)=.ok (y,r1++z):=by
 cases r with
 | nil =>
  simp only [ma] at h;injection h with h;injection h with h1 h2;subst h1 h2
  have hq:=hz.resolve_left (fun q=>q rfl);cases z with
  | nil=>rfl
  | cons c z=>simp only [JV,ma,Jo hq.1,Jo hq.2.1,Jo hq.2.2.1,Jo hq.2.2.2]
 | cons c r =>
  simp only [ma,JW] at h ⊢;have key:∀{lo hi:Int} {r2:List Str},Except.ok (rg x lo hi r2)=(Except.ok (y,r1):Res)→Except.ok (rg x lo hi (r2++z))=(Except.ok (y,r1++z):Res):=by
   intro lo hi r2 h;injection h with h
   rw [lazy_app z h hz]
  by_cases h1:c=[42]
  ·rw [Jl h1] at h ⊢;exact key h
  rw [Jo h1] at h ⊢;by_cases h2:c=[43]
  ·rw [Jl h2] at h ⊢;exact key h
  rw [Jo h2] at h ⊢;by_cases h3:c=[63]
  ·rw [Jl h3] at h ⊢;exact key h
  rw [Jo h3] at h ⊢;by_cases h4:c=[123]
  ·rw [Jl h4] at h ⊢
   cases hb:mM r with
   | none=>simp only [hb] at h;cases h
   | some w =>
    obtain⟨lo,hi,r2⟩:=w;simp only [hb] at h;simp only [Et z hb];exact key h
  ·rw [Jo h4] at h ⊢
   injection h with h;injection h with h5 h6;subst h5 h6;rfl
theorem ym {r r0:List Str} {k:Int} (z:List Str) (h:nP r=some (k,r0)) (hr:r≠[]):nP (r++z)=some (k,r0++z):=by
 unfold nP at h ⊢;cases h1:lq [63] r with
 | none =>
  simp only [h1] at h;simp only [nd z h1 hr];exact ec
 | some r1 =>
  simp only [h1] at h;simp only [mK z h1];cases h2:lq [58] r1 with
  | none=>simp only [h2] at h;cases h
  | some r2 =>
   simp only [h2] at h;simp only [mK z h2];exact ec
def El (pat:List Str→Nat→Res) (z:List Str) (N:Nat):Prop:=∀(r:List Str) (d:Nat) (x:Rx) (r1:List Str),r.length+z.length≤N→okC r→pat r d=.ok (x,r1)→r1≠[]→pat (r++z) d=.ok (x,r1++z)
theorem Hf {pat:List Str→Nat→Res} {z:List Str} {N:Nat} (hp:El pat z N) (hnil:∀d,pat [] d=.ok (ow [],[])∨∃e,pat [] d=.error e) {r r1:List Str} {d:Nat} {x:Rx} (h:mZ pat r d=.ok (x,r1)) (ho:okC r) (hN:r.length+z.length≤N):mZ pat (r++z) d=.ok (x,r1++z):=by
 unfold mZ at h ⊢;by_cases hd:16≤d
 ·exact el
 rw [Jo hd] at h ⊢;cases hk:nP r with
 | none=>exact em
 | some y =>
  obtain⟨k,r0⟩:=y;have ks:=(oF hk).1;simp only [hk] at h;have hr:r≠[]:=by
   exact dc
  simp only [ym z hk hr];cases hx:pat r0 (d+1) with
  | error e=>exact ct
  | ok y =>
   obtain⟨w,r2⟩:=y;simp only [hx] at h;cases ht:lq [41] r2 with
   | none=>exact en
   | some r3 =>
    simp only [ht] at h;have h2:r2≠[]:=by rintro rfl;cases ht
    have hl:=mX ks;rw [hp r0 (d+1) w r2 gN (nN ks ho) hx h2];simp only [mK z ht];injection h with h;injection h with h3 h4;subst h3 h4;rfl
theorem atom_app {pat:List Str→Nat→Res} {z:List Str} {N:Nat} (hp:El pat z N) (hnil:∀d,pat [] d=.ok (ow [],[])∨∃e,pat [] d=.error e) {r r1:List Str} {d:Nat} {x:Rx} (h:mj pat r d=.ok (x,r1)) (ho:okC r) (hN:r.length+z.length≤N+1):mj pat (r++z) d=.ok (x,r1++z):=by
 cases r with
 | nil=>cases h
 | cons c r =>
  simp only [Jr] at hN;simp only [mj,JW] at h ⊢;by_cases h1:c=[46]
  ·exact di
  rw [Jo h1] at h ⊢;by_cases h2:c=[40]
  ·rw [Jl h2] at h ⊢;exact Hf hp hnil h ho.tail gN
  rw [Jo h2] at h ⊢;by_cases h3:c=[91]
  ·rw [Jl h3] at h ⊢;exact Bg z h
  rw [Jo h3] at h ⊢;by_cases h4:c=[92]
  ·rw [Jl h4] at h ⊢;exact GQ z h
  rw [Jo h4] at h ⊢;by_cases h5:qZ c=true
  ·exact eo
  ·rw [Jo h5] at h ⊢;injection h with h;injection h with ha hb;subst ha hb;rfl
theorem Dn {r r1:List Str} {x:Rx} (z:List Str) (h:ni r=some (x,r1)):ni (r++z)=some (x,r1++z):=by
 cases r with
 | nil=>cases h
 | cons c r =>
  simp only [ni,JW] at h ⊢;by_cases h1:c=[94]
  ·exact di
  rw [Jo h1] at h ⊢;by_cases h2:c=[36]
  ·rw [Jl h2] at h ⊢;injection h with h;injection h with ha hb;subst ha hb;rfl
  rw [Jo h2] at h ⊢;by_cases h3:c=[92]
  ·rw [Jl h3] at h ⊢
   cases h4:lq [98] r with
   | some r2=>simp only [h4] at h;simp only [mK z h4];injection h with h;injection h with ha hb;subst ha hb;rfl
   | none =>
    simp only [h4] at h;cases h5:lq [66] r with
    | some r2 =>
     have hr:r≠[]:=by rintro rfl;cases h5
     simp only [h5] at h;simp only [nd z h4 hr,mK z h5];exact ec
    | none=>exact dh
  ·rw [Jo h3] at h;cases h
theorem Bo {r:List Str} (z:List Str) (h:ni r=none) (hr:r≠[]) (h92:r≠[[92]]):ni (r++z)=none:=by
 cases r with
 | nil=>exact absurd rfl hr
 | cons c r =>
  simp only [ni,JW] at h ⊢;by_cases h1:c=[94]
  ·rw [Jl h1] at h;cases h
  rw [Jo h1] at h ⊢;by_cases h2:c=[36]
  ·rw [Jl h2] at h;cases h
  rw [Jo h2] at h ⊢;by_cases h3:c=[92]
  ·rw [Jl h3] at h ⊢
   have hr:r≠[]:=by rintro rfl;rw [h3] at h92;exact h92 rfl
   cases h4:lq [98] r with
   | some r2=>simp only [h4] at h;cases h
   | none =>
    simp only [h4] at h;cases h5:lq [66] r with
    | some r2=>exact dh
    | none=>simp only [nd z h4 hr,nd z h5 hr]
  ·rw [Jo h3]
theorem Ea {pat:List Str→Nat→Res} {z:List Str} {N:Nat} (hp:El pat z N) (hnil:∀d,pat [] d=.ok (ow [],[])∨∃e,pat [] d=.error e) {r r1:List Str} {d:Nat} {x:Rx} (h:lZ pat r d=.ok (x,r1)) (ho:okC r) (hN:r.length+z.length≤N+1) (hz:r1≠[]∨noQ z):lZ pat (r++z) d=.ok (x,r1++z):=by
 unfold lZ at h ⊢;cases he:ni r with
 | some y =>
  simp only [he] at h;obtain⟨a,b⟩:=y;injection h with h;injection h with ha hb;subst ha hb
  simp only [Dn z he]
 | none =>
  simp only [he] at h;cases ha:mj pat r d with
  | error e=>exact ep
  | ok y =>
   obtain⟨w,r2⟩:=y;simp only [ha] at h;have hr:r≠[]:=by rintro rfl;cases ha
   have h92:r≠[[92]]:=by rintro rfl;simp [mj,escM] at ha
   simp only [Bo z he hr h92,atom_app hp hnil ha ho hN];exact Bv z h hz
theorem Cj (n:Nat) (d:Nat):patF n [] d=.ok (ow [],[])∨∃e,patF n [] d=.error e:=by
 cases n with
 | zero=>exact .inr ⟨1,rfl⟩
 | succ n=>exact .inl rfl
theorem ul {f g:List Str→Res}:∀(k:Nat) (alts terms:List Rx) (r:List Str),(∀r',r' <:+ r→f r'=g r')→(∀r' x r1,r' <:+ r→f r'=.ok (x,r1)→r1 <:+ r')→patL f k alts terms r=patL g k alts terms r
 | 0,_,_,_,_,_=>rfl
 | k+1,alts,terms,[],_,_=>rfl
 | k+1,alts,terms,c::r,h,hs=>by
  simp only [patL];by_cases h1:c=[41]
  ·rw [Jl h1,Jl h1]
  rw [Jo h1,Jo h1];by_cases h2:c=[124]
  ·rw [Jl h2,Jl h2]
   exact ul k _ _ r (fun r' hr=>h r' (mq hr)) (fun r' x r1 hr=>hs r' x r1 (mq hr))
  rw [Jo h2,Jo h2,←h (c::r) (J7 _)];cases hx:f (c::r) with
  | error e=>rfl
  | ok y =>
   obtain⟨x,r1⟩:=y;have s:=hs _ _ _ (J7 _) hx;exact ul k _ _ r1 (fun r' hr=>h r' (hr.trans s)) (fun r' x r2 hr=>hs r' x r2 (hr.trans s))
theorem xe {f:List Str→Res}:∀(k m:Nat) (alts terms:List Rx) (r:List Str),r.length<k→k≤m→(∀r' x r1,r' <:+ r→f r'=.ok (x,r1)→r1 <:+ r'∧r1.length<r'.length)→patL f k alts terms r=patL f m alts terms r
 | 0,_,_,_,_,h,_,_=>by omega
 | k+1,m,alts,terms,r,hk,hm,hs=>by
  obtain⟨m,rfl⟩:∃m',m=m'+1:=⟨m-1,by omega⟩;cases r with
  | nil=>rfl
  | cons c r =>
   simp only [Jr] at hk;simp only [patL];by_cases h1:c=[41]
   ·rw [Jl h1,Jl h1]
   rw [Jo h1,Jo h1];by_cases h2:c=[124]
   ·rw [Jl h2,Jl h2]
    exact xe k m _ _ r gN gN (fun r' x r1 hr=>hs r' x r1 (mq hr))
   rw [Jo h2,Jo h2];cases hx:f (c::r) with
   | error e=>rfl
   | ok y =>
    obtain⟨x,r1⟩:=y;obtain⟨s,hl⟩:=hs _ _ _ (J7 _) hx;simp only [Jr] at hl;exact xe k m _ _ r1 gN gN (fun r' x r2 hr=>hs r' x r2 (hr.trans s))
theorem CI {p q:List Str→Nat→Res} {r:List Str} {d:Nat} (h:∀r' d',r' <:+ r→p r' d'=q r' d'):mZ p r d=mZ q r d:=by
 unfold mZ;by_cases hd:16≤d
 ·rw [Jl hd,Jl hd]
 rw [Jo hd,Jo hd];cases hk:nP r with
 | none=>rfl
 | some y=>simp only;rw [h y.2 (d+1) (oF (k:=y.1) hk).1]
theorem Fq {p q:List Str→Nat→Res} {c:Str} {r:List Str} {d:Nat} (h:∀r' d',r' <:+ r→p r' d'=q r' d'):mj p (c::r) d=mj q (c::r) d:=by
 simp only [mj,CI h]
theorem Fp {p q:List Str→Nat→Res} {r:List Str} {d:Nat} (h:∀r' d',r' <:+ r→r'.length<r.length→p r' d'=q r' d'):lZ p r d=lZ q r d:=by
 unfold lZ;cases r with
 | nil=>rfl
 | cons c r=>rw [Fq (fun r' d' hs=>h r' d' (mq hs) (by have:=mX hs;simp;omega))]
theorem qM {n:Nat} {r r1:List Str} {d:Nat} {x:Rx} (h:lZ (patF n) r d=.ok (x,r1)) (ho:okC r) (hl:r.length≤200000):r1 <:+ r∧r1.length<r.length:=by
 obtain⟨f,g⟩:=ut (rO n) h ho gN (Ju _);exact⟨f.2.2.2,g⟩
theorem ze:∀(n:Nat) (r:List Str) (d:Nat),r.length<n→okC r→r.length≤200000→patF n r d=patF (n+1) r d
 | 0,_,_,h,_,_=>by omega
 | n+1,r,d,h,ho,hl=>by
  show patL (fun r=>lZ (patF n) r d) (r.length+1) [] [] r=patL (fun r=>lZ (patF (n+1)) r d) (r.length+1) [] [] r
  refine ul _ _ _ _ (fun r' hs=>Fp fun r2 d2 hs2 hl2=>?_) (fun r' x r1 hs hx=>(qM hx (nN hs ho) j0).1);have:=mX hs
  exact ze n r2 d2 gN (nN (hs2.trans hs) ho) gN
theorem tJ {n m:Nat} {r:List Str} {d:Nat} (hn:r.length<n) (hm:r.length<m) (ho:okC r) (hl:r.length≤200000):patF n r d=patF m r d:=by
 have key:∀k,patF n r d=patF (n+k) r d:=by
  intro k;induction k with
  | zero=>rfl
  | succ k ih=>rw [ih];exact ze (n+k) r d gN ho hl
 have key2:∀k,patF m r d=patF (m+k) r d:=by
  intro k;induction k with
  | zero=>rfl
  | succ k ih=>rw [ih];exact ze (m+k) r d gN ho hl
 rw [key m,key2 n,Nat.add_comm]
theorem zb {f:List Str→Res} {z:List Str}:∀(k m:Nat) (alts terms:List Rx) (r:List Str) {x:Rx} {r1:List Str},k≤m→patL f k alts terms r=.ok (x,r1)→r1≠[] →
  (∀r' y r2,r' <:+ r→f r'=.ok (y,r2)→r2≠[]→f (r'++z)=.ok (y,r2++z))→(∀r' y r2,r' <:+ r→f r'=.ok (y,r2)→r2 <:+ r')→patL f m alts terms (r++z)=.ok (x,r1++z)
 | 0,_,_,_,_,_,_,_,h,_,_,_=>by cases h
 | k+1,m,alts,terms,r,x,r1,hm,h,hr,ht,hs=>by
  obtain⟨m,rfl⟩:∃m',m=m'+1:=⟨m-1,by omega⟩;cases r with
  | nil=>simp only [patL] at h;injection h with h;injection h with _ h;exact absurd h.symm hr
  | cons c r =>
   simp only [patL,JW] at h ⊢;by_cases h1:c=[41]
   ·exact di
   rw [Jo h1] at h ⊢;by_cases h2:c=[124]
   ·rw [Jl h2] at h ⊢
    exact zb k m _ _ r gN h hr (fun r' y r2 q=>ht r' y r2 (mq q)) (fun r' y r2 q=>hs r' y r2 (mq q))
   rw [Jo h2] at h ⊢;cases hx:f (c::r) with
   | error e=>exact ct
   | ok y =>
    obtain⟨w,r2⟩:=y;simp only [hx] at h;have s:=hs _ _ _ (J7 _) hx;have h2':r2≠[]:=by
     rintro rfl;cases k with
     | zero=>cases h
     | succ k=>simp only [patL] at h;injection h with h;injection h with _ h;exact hr h.symm
    have hx2:=ht _ _ _ (J7 _) hx h2';rw [JW] at hx2;simp only [hx2];exact zb k m _ _ r2 gN h hr (fun r' y r3 q=>ht r' y r3 (q.trans s)) (fun r' y r3 q=>hs r' y r3 (q.trans s))
theorem GU (z:List Str):∀(n:Nat),n≤200000→El (patF n) z n
 | 0,_=>fun r d x r1 _ _ h _=>by cases h
 | n+1,hn=>fun r d x r1 hl ho h hr=>by
  have ih:=GU z n gN;refine zb (f:=fun r=>lZ (patF n) r d) (r.length+1) ((r++z).length+1) [] [] r gU h hr (fun r' y r2 hs hx h2=>?_) (fun r' y r2 hs hx=>(qM hx (nN hs ho) j0).1);exact Ea ih (Cj n) hx (nN hs ho) j0 (.inl h2)
def InvA (l:List Rx):Prop:=∀y∈l,y.kind≠1
def InvT (l:List Rx):Prop:=∀y∈l,y.kind≠0∧y.kind≠1
theorem InvA.app {a b:List Rx} (h1:InvA a) (h2:InvA b):InvA (a++b):=fun y hy=>(JX.1 hy).elim (h1 y) (h2 y)
theorem InvT.app {a b:List Rx} (h1:InvT a) (h2:InvT b):InvT (a++b):=fun y hy=>(JX.1 hy).elim (h1 y) (h2 y)
theorem mT {kd:Int}:∀{l:List Rx},(∀y∈l,y.kind≠kd)→mi kd l=l
 | [],_=>rfl
 | x::l,h=>by
  rw [qi,Jo (h x (JE ..)),mT (fun y hy=>h y (JF _ hy))];rfl
theorem np {l:List Rx} (h:InvT l):(seqR l).kind≠1∧mi 0 [seqR l]=l:=by
 have hf:mi 0 l=l:=mT fun y hy=>(h y hy).1
 rcases l with _|⟨x,_|⟨y,l⟩⟩
 ·exact⟨by decide,rfl⟩
 ·have e:seqR [x]=x:=by unfold seqR;rw [hf]
  have hx:=h x (JE ..);rw [e];exact⟨hx.2,mT fun y hy=>by rw [JY] at hy;rw [hy];exact hx.1⟩
 ·have e:seqR (x::y::l)=ow (x::y::l):=by unfold seqR;rw [hf]
  rw [e];exact⟨by show (0:Int)≠1;decide,by rw [qi];simp [ow,Rx.kind,Rx.kids,mi]⟩
theorem oS {x:Rx} (h:x.kind≠1):altR [x]=x:=by
 unfold altR;rw [mT (fun y hy=>by rw [JY] at hy;rw [hy];exact h)]
theorem BC {l:List Rx} (h:InvA l) (hl:l≠[]):mi 1 [altR l]=l:=by
 have hf:mi 1 l=l:=mT h;rcases l with _|⟨x,_|⟨y,l⟩⟩
 ·exact absurd rfl hl
 ·rw [oS (h x (JE ..))];exact hf
 ·have e:altR (x::y::l)=tR (x::y::l):=by unfold altR;rw [hf]
  rw [e,qi];simp [tR,Rx.kind,Rx.kids,mi]
theorem AL {l:List Rx} (h:InvA l) (hl:2≤l.length):(altR l).kind=1:=by
 have hf:mi 1 l=l:=mT h;rcases l with _|⟨x,_|⟨y,l⟩⟩
 ·simp at hl
 ·simp at hl
 ·unfold altR;rw [hf];rfl
theorem Bi (kd:Int) (a b:List Rx):mi kd (a++b)=mi kd a++mi kd b:=by simp [mi]
theorem Do {a b:List Rx} (ha:InvA a) (hb:InvA b) (ha0:a≠[]) (hb0:b≠[]):altR [altR a,altR b]=altR (a++b):=by
 have h1:mi 1 [altR a,altR b]=a++b:=by
  rw [show [altR a,altR b]=[altR a]++[altR b] from rfl,Bi,BC ha ha0,BC hb hb0]
 have h2:mi 1 (a++b)=a++b:=mT (ha.app hb);unfold altR;rw [h2];unfold altR at h1;rw [h1]
theorem DD {a b:List Rx} (ha:InvT a) (hb:InvT b):seqR [seqR a,seqR b]=seqR (a++b):=by
 have h1:mi 0 [seqR a,seqR b]=a++b:=by
  rw [show [seqR a,seqR b]=[seqR a]++[seqR b] from rfl,Bi,(np ha).2,(np hb).2]
 have h2:mi 0 (a++b)=a++b:=mT fun y hy=>((ha.app hb) y hy).1
 unfold seqR;rw [h2];unfold seqR at h1;rw [h1]
theorem EV {x y:Rx} {r r1:List Str} (h:ma x r=.ok (y,r1)) (hx:x.kind≠0∧x.kind≠1):y.kind≠0∧y.kind≠1:=by
 rcases qE h with⟨rfl,_⟩|⟨⟨lo,hi,lz,rfl⟩,_⟩
 ·exact hx
 ·exact⟨by show (7:Int)≠0;decide,by show (7:Int)≠1;decide⟩
theorem G4 {pat:List Str→Nat→Res} {r r1:List Str} {d:Nat} {x:Rx} (h:mj pat r d=.ok (x,r1)):x.kind≠0∧x.kind≠1:=by
 have lit:∀k:Int,k≠0→k≠1→∀y:Rx,y.kind=k→y.kind≠0∧y.kind≠1:=fun k h0 h1 y hy=>by rw [hy];exact⟨h0,h1⟩
 cases r with
 | nil=>cases h
 | cons c r =>
  simp only [mj] at h;by_cases h1:c=[46]
  ·rw [Jl h1] at h;injection h with h;injection h with ha _;subst ha;exact lit 3 gR gR _ rfl
  rw [Jo h1] at h;by_cases h2:c=[40]
  ·rw [Jl h2] at h
   unfold mZ at h;by_cases hd:16≤d
   ·exact el
   rw [Jo hd] at h;cases hk:nP r with
   | none=>exact em
   | some y =>
    obtain⟨k,r0⟩:=y;have hk2:=(oF hk).2;simp only [hk] at h;cases hx:pat r0 (d+1) with
    | error e=>exact ct
    | ok y =>
     simp only [hx] at h;cases ht:lq [41] y.2 with
     | none=>exact en
     | some r3 =>
      simp only [ht] at h;injection h with h;injection h with ha _;subst ha
      rcases hk2 with rfl|rfl
      ·exact lit 5 gR gR _ rfl
      ·exact lit 6 gR gR _ rfl
  rw [Jo h2] at h;by_cases h3:c=[91]
  ·rw [Jl h3] at h
   unfold mY at h;simp only at h
   generalize lV _ _ _=q at h
   cases q with
   | none=>simp only at h;cases h
   | some y=>simp only at h;injection h with h;injection h with ha _;subst ha;exact lit 4 gR gR _ rfl
  rw [Jo h3] at h;by_cases h4:c=[92]
  ·rw [Jl h4] at h
   cases r with
   | nil=>cases h
   | cons c2 r2 =>
    simp only [escM] at h;cases hn:nF c2 with
    | some rows=>simp only [hn] at h;injection h with h;injection h with ha _;subst ha;exact lit 4 gR gR _ rfl
    | none =>
     simp only [hn] at h;cases hb:bigS c2 with
     | some rows=>simp only [hb] at h;injection h with h;injection h with ha _;subst ha;exact lit 4 gR gR _ rfl
     | none =>
      simp only [hb] at h;cases hpm:mR c2 with
      | none=>exact gq
      | some t=>simp only [hpm] at h;injection h with h;injection h with ha _;subst ha;exact lit 2 gR gR _ rfl
  rw [Jo h4] at h;by_cases h5:qZ c=true
  ·exact eo
  ·rw [Jo h5] at h;injection h with h;injection h with ha _;subst ha;exact lit 2 gR gR _ rfl
theorem vO {pat:List Str→Nat→Res} {r r1:List Str} {d:Nat} {x:Rx} (h:lZ pat r d=.ok (x,r1)):x.kind≠0∧x.kind≠1:=by
 unfold lZ at h;cases he:ni r with
 | some y =>
  simp only [he] at h;injection h with h;subst h
  cases r with
  | nil=>cases he
  | cons c r =>
   simp only [ni] at he;by_cases h1:c=[94]
   ·rw [Jl h1] at he;injection he with he;injection he with ha _;subst ha;exact⟨by decide,by decide⟩
   rw [Jo h1] at he;by_cases h2:c=[36]
   ·rw [Jl h2] at he;injection he with he;injection he with ha _;subst ha;exact⟨by decide,by decide⟩
   rw [Jo h2] at he;by_cases h3:c=[92]
   ·rw [Jl h3] at he
    cases h4:lq [98] r with
    | some r2=>simp only [h4] at he;injection he with he;injection he with ha _;subst ha;exact⟨by decide,by decide⟩
    | none =>
     simp only [h4] at he;cases h5:lq [66] r with
     | some r2=>simp only [h5] at he;injection he with he;injection he with ha _;subst ha;exact⟨by decide,by decide⟩
     | none=>simp only [h5] at he;cases he
   ·rw [Jo h3] at he;cases he
 | none =>
  simp only [he] at h;cases ha:mj pat r d with
  | error e=>exact ep
  | ok y =>
   simp only [ha] at h;exact EV h (G4 ha)
theorem CN {f:List Str→Res} {z:List Str} (hq:noQ z):∀(k m:Nat) (alts terms:List Rx) (r:List Str) {x:Rx},k≤m→(r++z).length<m→patL f k alts terms r=.ok (x,[])→InvA alts→InvT terms →
  (∀r' y r2,r' <:+ r→f r'=.ok (y,r2)→f (r'++z)=.ok (y,r2++z))→(∀r' y r2,r' <:+ r→f r'=.ok (y,r2)→r2 <:+ r'∧r2.length<r'.length∧y.kind≠0∧y.kind≠1) →
  ∃alts' terms' m',x=altR (alts'++[seqR terms'])∧patL f m alts terms (r++z)=patL f m' alts' terms' z∧z.length<m'∧InvA alts'∧InvT terms'∧(alts≠[]→alts'≠[])
 | 0,_,_,_,_,_,_,_,h,_,_,_,_=>by cases h
 | k+1,m,alts,terms,r,x,hm,hl,h,ha,ht,he,hs=>by
  obtain⟨m,rfl⟩:∃m',m=m'+1:=⟨m-1,by omega⟩;cases r with
  | nil =>
   simp only [patL] at h;injection h with h;injection h with h1 _
   exact⟨alts,terms,m+1,h1.symm,rfl,by simpa using hl,ha,ht,fun q=>q⟩
  | cons c r =>
   simp only [JW,Jr] at hl;simp only [patL] at h;simp only [JW];by_cases h1:c=[41]
   ·rw [Jl h1] at h;injection h with h;injection h with _ h;cases h
   rw [Jo h1] at h;by_cases h2:c=[124]
   ·rw [Jl h2] at h
    obtain⟨a',t',m',g1,g2,g3,g4,g5,g6⟩:=CN hq k m (alts++[seqR terms]) [] r gN gN h (ha.app fun y hy=>by rw [JY] at hy;rw [hy];exact(np ht).1) (fun y hy=>by cases hy) (fun r' y r2 q=>he r' y r2 (mq q)) (fun r' y r2 q=>hs r' y r2 (mq q));refine⟨a',t',m',g1,?_,g3,g4,g5,fun _=>g6 gU⟩;rw [←g2];simp only [patL,Jo h1,Jl h2]
   rw [Jo h2] at h;cases hx:f (c::r) with
   | error e=>exact ct
   | ok y =>
    obtain⟨w,r2⟩:=y;simp only [hx] at h;obtain⟨s1,s2,s3⟩:=hs _ _ _ (J7 _) hx;have hx2:=he _ _ _ (J7 _) hx;rw [JW] at hx2;simp only [Jr] at s2;simp only [JA] at hl;obtain⟨a',t',m',g1,g2,g3,g4,g5,g6⟩:=CN hq k m alts (terms++[w]) r2 gN iZ h ha (ht.app fun y hy=>by rw [JY] at hy;rw [hy];exact s3) (fun r' y r3 q=>he r' y r3 (q.trans s1)) (fun r' y r3 q=>hs r' y r3 (q.trans s1));refine⟨a',t',m',g1,?_,g3,g4,g5,g6⟩;rw [←g2];simp only [patL,Jo h1,Jo h2,hx2]
theorem uX {f:List Str→Res}:∀(k:Nat) (alts terms:List Rx) (r:List Str) {x:Rx} {r1:List Str},patL f k alts terms r=.ok (x,r1)→InvT terms→(∀r' y r2,r' <:+ r→f r'=.ok (y,r2)→r2 <:+ r'∧y.kind≠0∧y.kind≠1) →
  ∃B,B≠[]∧InvA B∧x=altR (alts++B)∧∀A,patL f k (A++alts) terms r=.ok (altR (A++(alts++B)),r1)
 | 0,_,_,_,_,_,h,_,_=>by cases h
 | k+1,alts,terms,r,x,r1,h,ht,hs=>by
  have h1B:InvA [seqR terms]:=fun y hy=>by rw [JY] at hy;rw [hy];exact(np ht).1
  cases r with
  | nil =>
   simp only [patL] at h;injection h with h;injection h with h1 h2
   exact⟨[seqR terms],by simp,h1B,h1.symm,fun A=>by simp only [patL,J3];rw [h2]⟩
  | cons c r =>
   simp only [patL] at h;by_cases h1:c=[41]
   ·rw [Jl h1] at h;injection h with h;injection h with ha hb
    exact⟨[seqR terms],by simp,h1B,ha.symm,fun A=>by simp only [patL,Jl h1,J3];rw [hb]⟩
   rw [Jo h1] at h;by_cases h2:c=[124]
   ·rw [Jl h2] at h
    obtain⟨B,b1,b2,b3,b4⟩:=uX k (alts++[seqR terms]) [] r h (fun y hy=>by cases hy) (fun r' y r2 q=>hs r' y r2 (mq q));refine⟨seqR terms::B,by simp,InvA.app h1B b2,by rw [b3];simp,fun A=>?_⟩;have:=b4 A
    simp only [patL,Jo h1,Jl h2];rw [←J3] at this;rw [this];simp
   rw [Jo h2] at h;cases hx:f (c::r) with
   | error e=>exact ct
   | ok y =>
    obtain⟨w,r2⟩:=y;simp only [hx] at h;obtain⟨s1,s3⟩:=hs _ _ _ (J7 _) hx;obtain⟨B,b1,b2,b3,b4⟩:=uX k alts (terms++[w]) r2 h (ht.app fun y hy=>by rw [JY] at hy;rw [hy];exact s3) (fun r' y r3 q=>hs r' y r3 (q.trans s1));refine⟨B,b1,b2,b3,fun A=>?_⟩;simp only [patL,Jo h1,Jo h2,hx];exact b4 A
theorem Ep {f:List Str→Res}:∀(k:Nat) (terms:List Rx) (r:List Str) {x:Rx} {r1:List Str},patL f k [] terms r=.ok (x,r1)→x.kind≠1→InvT terms→(∀r' y r2,r' <:+ r→f r'=.ok (y,r2)→r2 <:+ r'∧y.kind≠0∧y.kind≠1) →
  ∃T,InvT T∧x=seqR (terms++T)∧∀S,InvT S→patL f k [] (S++terms) r=.ok (seqR (S++(terms++T)),r1)
 | 0,_,_,_,_,h,_,_,_=>by cases h
 | k+1,terms,r,x,r1,h,hk,ht,hs=>by
  have fin:∀S,InvT S→altR ([]++[seqR (S++terms)])=seqR (S++(terms++[])):=fun S hS=>by
   rw [JV,J5,oS (np (hS.app ht)).1]
  cases r with
  | nil =>
   simp only [patL] at h;injection h with h;injection h with h1 h2
   have e:=fin [] (fun y hy=>by cases hy);exact⟨[],fun y hy=>(by cases hy),by rw [←h1];simpa using e,fun S hS=>by simp only [patL];rw [fin S hS,h2]⟩
  | cons c r =>
   simp only [patL] at h;by_cases h1:c=[41]
   ·rw [Jl h1] at h;injection h with h;injection h with ha hb
    have e:=fin [] (fun y hy=>by cases hy);exact⟨[],fun y hy=>(by cases hy),by rw [←ha];simpa using e,fun S hS=>by simp only [patL,Jl h1];rw [fin S hS,hb]⟩
   rw [Jo h1] at h;by_cases h2:c=[124]
   ·rw [Jl h2] at h
    obtain⟨B,b1,b2,b3,_⟩:=uX k ([]++[seqR terms]) [] r h (fun y hy=>by cases hy) (fun r' y r2 q=>hs r' y r2 (mq q));exfalso;apply hk
    rw [b3];refine AL (InvA.app (fun y hy=>?_) b2) ?_
    ·rw [JV,JY] at hy;rw [hy];exact(np ht).1
    ·cases B with
     | nil=>exact absurd rfl b1
     | cons b B=>simp
   rw [Jo h2] at h;cases hx:f (c::r) with
   | error e=>exact ct
   | ok y =>
    obtain⟨w,r2⟩:=y;simp only [hx] at h;obtain⟨s1,s3⟩:=hs _ _ _ (J7 _) hx;have hw:InvT [w]:=fun y hy=>by rw [JY] at hy;rw [hy];exact s3
    obtain⟨T,b1,b2,b3⟩:=Ep k (terms++[w]) r2 h hk (ht.app hw) (fun r' y r3 q=>hs r' y r3 (q.trans s1));refine⟨w::T,InvT.app hw b1,by rw [b2];simp,fun S hS=>?_⟩;have:=b3 S hS
    simp only [patL,Jo h1,Jo h2,hx];rw [J3,this];simp
theorem term_ext {n d:Nat} {z:List Str} (hn:n≤200000) (hq:noQ z) {r y r2} (ho:okC r) (hl:r.length+z.length≤n+1) (h:lZ (patF n) r d=.ok (y,r2)):lZ (patF n) (r++z) d=.ok (y,r2++z) :=
 Ea (GU z n hn) (Cj n) h ho hl (.inr hq)
theorem zJ {n d:Nat} {r y r2} (h:lZ (patF n) r d=.ok (y,r2)) (ho:okC r) (hl:r.length≤200000):r2 <:+ r∧r2.length<r.length∧y.kind≠0∧y.kind≠1 :=
 ⟨(qM h ho hl).1,(qM h ho hl).2,vO h⟩
theorem vG {a b:List Str} (h1:okC a) (h2:okC b):okC (a++b):=fun p hp=>(JX.1 hp).elim (h1 p) (h2 p)
theorem Gj {l z:List Str} {x:Rx} {d n:Nat} (ho:okC l) (hq:noQ z) (hl:l.length+z.length≤n) (hn:n≤200000) (h:patF (l.length+1) l d=.ok (x,[])) :
  ∃alts terms m,x=altR (alts++[seqR terms])∧patL (fun r=>lZ (patF n) r d) ((l++z).length+1) [] [] (l++z)=patL (fun r=>lZ (patF n) r d) m alts terms z∧z.length<m∧InvA alts∧InvT terms:=by
 rw [tJ (n:=l.length+1) (m:=n+1) gN gN ho gN] at h;obtain⟨a,t,m,g1,g2,g3,g4,g5,_⟩:=CN (f:=fun r=>lZ (patF n) r d) hq (l.length+1) ((l++z).length+1) [] [] l gU gN h (fun y hy=>by cases hy) (fun y hy=>by cases hy)
  (fun r' y r2 q hx=>term_ext hn hq (nN q ho) j8 hx) (fun r' y r2 q hx=>zJ hx (nN q ho) j8)
 exact⟨a,t,m,g1,g2,g3,g4,g5⟩
theorem Dz {l:List Str} {x:Rx} {d n m:Nat} (ho:okC l) (hl:l.length≤n) (hm:l.length<m) (hn:n≤200000) (h:patF (l.length+1) l d=.ok (x,[])):patL (fun r=>lZ (patF n) r d) m [] [] l=.ok (x,[]):=by
 rw [tJ (n:=l.length+1) (m:=n+1) gN gN ho gN] at h;have h2:patL (fun r=>lZ (patF n) r d) (l.length+1) [] [] l=.ok (x,[]):=h;rw [←xe (f:=fun r=>lZ (patF n) r d) (l.length+1) m [] [] l gN gN (fun r' y r2 q hx=>qM hx (nN q ho) j8)];exact h2
theorem Iy {l1 l2:List Str} {x y:Rx} {d:Nat} (o1:okC l1) (o2:okC l2) (hl:l1.length+l2.length≤100000) (h1:patF (l1.length+1) l1 d=.ok (x,[])) (h2:patF (l2.length+1) l2 d=.ok (y,[])) :
  patF ((l1++[124]::l2).length+1) (l1++[124]::l2) d=.ok (altR [x,y],[]):=by
 have hlen:(l1++[124]::l2).length=l1.length+(l2.length+1):=gU;obtain⟨a,t,m,g1,g2,g3,g4,g5⟩:=Gj (n:=(l1++[124]::l2).length) (z:=[124]::l2) o1 ⟨by decide,by decide,by decide,by decide⟩ gU gN h1;show patL (fun r=>lZ (patF (l1++[124]::l2).length) r d) ((l1++[124]::l2).length+1) [] [] (l1++[124]::l2)=_
 rw [g2];obtain⟨m,rfl⟩:∃m',m=m'+1:=⟨m-1,by omega⟩;simp only [Jr] at g3;have h2':=Dz (n:=(l1++[124]::l2).length) (m:=m) o2 gN gN gN h2;obtain⟨B,b1,b2,b3,b4⟩:=uX m [] [] l2 h2' (fun y hy=>by cases hy) (fun r' y r2 q hx=>by
  have:=zJ hx (nN q o2) j8;exact⟨this.1,this.2.2⟩)
 have h4:=b4 (a++[seqR t]);rw [J5] at h4;simp only [patL,Jo (show ¬([124]:Str)=[41] by decide),Jl,h4];have hA:InvA (a++[seqR t]):=g4.app fun y hy=>by rw [JY] at hy;rw [hy];exact(np g5).1
 rw [g1,b3,JV,Do hA b2 gU b1]
theorem noQ_ok {l:List Str} {x:Rx} {d n:Nat} (h:patF n l d=.ok (x,[])):noQ l:=by
 cases n with
 | zero=>cases h
 | succ n =>
  cases l with
  | nil=>trivial
  | cons c r =>
   have h':patL (fun r=>lZ (patF n) r d) ((c::r).length+1) [] [] (c::r)=.ok (x,[]):=h;have bad:∀c:Str,c≠[41]→c≠[124]→qZ c=true→c≠[46]→c≠[40]→c≠[91]→c≠[92]→c≠[94]→c≠[36]→patL (fun r=>lZ (patF n) r d) ((c::r).length+1) [] [] (c::r)≠.ok (x,[]):=by
    intro c c1 c2 c3 c4 c5 c6 c7 c8 c9 h;have ht:lZ (patF n) (c::r) d=.error 10:=by
     unfold lZ;have he:ni (c::r)=none:=by simp only [ni,Jo c8,Jo c9,Jo c7]
     have ha:mj (patF n) (c::r) d=.error 10:=by simp only [mj,Jo c4,Jo c5,Jo c6,Jo c7,Jl c3]
     simp only [he,ha]
    simp only [patL,Jo c1,Jo c2,ht] at h;cases h
   refine⟨?_,?_,?_,?_⟩
   ·rintro rfl;exact bad [42] gR gR gR gR gR gR gR gR gR h'
   ·rintro rfl;exact bad [43] gR gR gR gR gR gR gR gR gR h'
   ·rintro rfl;exact bad [63] gR gR gR gR gR gR gR gR gR h'
   ·rintro rfl;exact bad [123] gR gR gR gR gR gR gR gR gR h'
theorem IN {l1 l2:List Str} {x y:Rx} {d:Nat} (o1:okC l1) (o2:okC l2) (hl:l1.length+l2.length≤100000) (h1:patF (l1.length+1) l1 d=.ok (x,[])) (h2:patF (l2.length+1) l2 d=.ok (y,[])) (hx:x.kind≠1) (hy:y.kind≠1) :
  patF ((l1++l2).length+1) (l1++l2) d=.ok (seqR [x,y],[]):=by
 have hlen:(l1++l2).length=l1.length+l2.length:=gU;obtain⟨a,t,m,g1,g2,g3,g4,g5⟩:=Gj (n:=(l1++l2).length) (z:=l2) o1 (noQ_ok h2) gN gN h1;show patL (fun r=>lZ (patF (l1++l2).length) r d) ((l1++l2).length+1) [] [] (l1++l2)=_
 rw [g2];have ha:a=[]:=by
  rcases a with _|⟨u,a⟩
  ·rfl
  ·exfalso;apply hx;rw [g1]
   exact AL (g4.app fun y hy=>by rw [JY] at hy;rw [hy];exact(np g5).1) gU
 subst ha;have h2':=Dz (n:=(l1++l2).length) (m:=m) o2 gN g3 gN h2;obtain⟨T,b1,b2,b3⟩:=Ep m [] l2 h2' hy (fun y hy=>by cases hy) (fun r' y r2 q hx=>by
  have:=zJ hx (nN q o2) j8;exact⟨this.1,this.2.2⟩)
 have h4:=b3 t g5;rw [J5,JV] at h4;rw [h4,g1,b2,JV,JV,oS (np g5).1,DD g5 b1]
theorem EG:∀(k:Nat) (l:Str),l.length≤k→n8 k l=lA l
 | k,l,h=>by
  have key:∀(n k:Nat) (l:Str),l.length≤n→n≤k→n8 k l=n8 n l:=by
   intro n;induction n with
   | zero=>intro k l h1 h2;obtain rfl:=Jm (Nat.le_zero.1 h1);cases k<;>rfl
   | succ n ih =>
    intro k l h1 h2;obtain⟨k,rfl⟩:∃k',k=k'+1:=⟨k-1,by omega⟩;cases l with
    | nil=>rfl
    | cons c r =>
     have hd:(r.dropWhile lf).length≤r.length:=(List.dropWhile_suffix lf).length_le;simp only [Jr] at h1;simp only [n8];rw [ih k _ gN gN]
  exact key l.length k l (Ju _) h
theorem nh (c:UInt8) (r:Str):lA (c::r)=(c::r.takeWhile lf)::lA (r.dropWhile lf):=by
 have hd:(r.dropWhile lf).length≤r.length:=(List.dropWhile_suffix lf).length_le;show n8 (r.length+1) (c::r)=_
 simp only [n8];rw [EG r.length _ hd]
def oe:Str→Prop
 | []=>True
 | c::_=>lf c=false
theorem zK {p:UInt8→Bool} {a b:Str} (hb:∀c r,b=c::r→p c=false):(a++b).takeWhile p=a.takeWhile p∧(a++b).dropWhile p=a.dropWhile p++b:=by
 induction a with
 | nil =>
  cases b with
  | nil=>exact⟨rfl,rfl⟩
  | cons c r=>have:=hb c r rfl;simp [this]
 | cons x a ih =>
  cases hx:p x with
  | true=>simp [hx,ih.1,ih.2]
  | false=>simp [hx]
theorem md:∀(n:Nat) (s t:Str),s.length≤n→oe t→lA (s++t)=lA s++lA t
 | _,[],t,_,_=>rfl
 | 0,c::r,t,h,_=>by simp at h
 | n+1,c::r,t,h,ht=>by
  have hd:(r.dropWhile lf).length≤r.length:=(List.dropWhile_suffix lf).length_le;simp only [Jr] at h;obtain⟨e1,e2⟩:=zK (p:=lf) (a:=r) (b:=t) (fun c' r' e=>by subst e;exact ht);rw [JW,nh,nh,e1,e2,md n _ t gN ht];rfl
theorem oE (s:Str):(lA s).length≤s.length:=(pP s.length s).2
theorem tr {s:Str} (h:s.length≤1000000):okC (lA s):=fun p hp=>by
 have:=(pP s.length s).1 p hp
 exact⟨this.1,by omega⟩
theorem readM_ok {s:Str} {x:Rx}:qU s=.ok x↔s.length≤256∧oe s∧patF ((lA s).length+1) (lA s) 0=.ok (x,[]):=by
 unfold qU;have rc:∀l:List Str,uq l=.ok x↔patF (l.length+1) l 0=.ok (x,[]):=by
  intro l;unfold uq;cases patF (l.length+1) l 0 with
  | error e=>simp
  | ok y =>
   obtain⟨y,r⟩:=y;cases r with
   | nil=>simp
   | cons c r=>simp
 by_cases hl:256<s.length
 ·rw [Jl hl]
  exact⟨(fun h=>by cases h),fun h=>by omega⟩
 rw [Jo hl];cases s with
 | nil =>
  have:lA []=[]:=rfl
  rw [this];simp only [rc];exact⟨fun h=>⟨by simp,trivial,h⟩,fun h=>h.2.2⟩
 | cons c r =>
  rw [nh];have hp:l5 (c::r.takeWhile lf)=!lf c:=by
   exact du
  simp only [hp];cases hc:lf c with
  | true=>simp [oe,hc]
  | false =>
   simp only [Bool.not_false,if_true];rw [rc];exact⟨fun h=>⟨by omega,hc,h⟩,fun h=>h.2.2⟩
theorem deepL_app:∀(a b:List Rx),Rx.deepL (a++b)=max (Rx.deepL a) (Rx.deepL b)
 | [],b=>by simp [Rx.deepL]
 | x::a,b=>by simp only [JW,Rx.deepL,deepL_app a b];omega
theorem Hg {x:Rx} (h:x.kind=0∨x.kind=1):Rx.deepL x.kids=x.deep:=by
 obtain⟨k,c,ng,rs,lo,hi,lz,ks⟩:=x;simp only [Rx.kind] at h;simp only [Rx.kids,Rx.deep];rw [Jo gN];omega
theorem wW {kd:Int} (hk:kd=0∨kd=1):∀xs:List Rx,Rx.deepL (mi kd xs)=Rx.deepL xs
 | []=>rfl
 | x::xs=>by
  rw [qi,deepL_app,wW hk xs];simp only [Rx.deepL];by_cases h:x.kind=kd
  ·rw [Jl h,Hg (by rw [h];exact hk)]
  ·rw [Jo h];simp only [Rx.deepL];omega
theorem wO (xs:List Rx):(seqR xs).deep=Rx.deepL xs:=by
 have h:=wW (kd:=0) (.inl rfl) xs;unfold seqR;split
 ·rename_i y hy;rw [hy] at h;simp only [Rx.deepL] at h;omega
 ·rename_i l _;unfold ow;simp only [Rx.deep];rw [Jo gR,h];rfl
theorem Is (xs:List Rx):(altR xs).deep=Rx.deepL xs:=by
 have h:=wW (kd:=1) (.inr rfl) xs;unfold altR;split
 ·rename_i hy;rw [hy] at h;exact h
 ·rename_i y hy;rw [hy] at h;simp only [Rx.deepL] at h;omega
 ·unfold tR;simp only [Rx.deep];rw [Jo gR,h];rfl
theorem so (alts terms:List Rx):(altR (alts++[seqR terms])).deep=max (Rx.deepL alts) (Rx.deepL terms):=by
 rw [Is,deepL_app];simp only [Rx.deepL,wO];omega
theorem Dv (lo hi:Int) (lz:Bool) (x:Rx):(repR lo hi lz x).deep=x.deep:=by
 unfold repR;simp only [Rx.deep,Rx.deepL];rw [Jo gR];omega
theorem yI {k:Int} (hk:k=5∨k=6) (x:Rx):(grpR k x).deep=x.deep+1:=by
 unfold grpR;simp only [Rx.deep,Rx.deepL];rw [Jl hk];omega
def zG (pat:List Str→Nat→Res) (z:List Str) (N:Nat):Prop:=∀(r:List Str) (d:Nat) (x:Rx) (r1:List Str) (d':Nat),r.length+z.length≤N→okC r→pat r d=.ok (x,r1)→d'≤16 →
 (x.deep+d'≤16→(r1≠[]∨z=[])→pat (r++z) d'=.ok (x,r1++z))∧(16<x.deep+d'→pat (r++z) d'=.error 8)
theorem FJ {pat:List Str→Nat→Res} {z:List Str} {N:Nat} (hp:zG pat z N) (hnil:∀d,pat [] d=.ok (ow [],[])∨∃e,pat [] d=.error e) {r r1:List Str} {d d':Nat} {x:Rx} (h:mZ pat r d=.ok (x,r1)) (ho:okC r) (hN:r.length+z.length≤N) (hd':d'≤16) :
  (x.deep+d'≤16→mZ pat (r++z) d'=.ok (x,r1++z))∧(16<x.deep+d'→mZ pat (r++z) d'=.error 8):=by
 unfold mZ at h ⊢;by_cases hd:16≤d
 ·exact el
 rw [Jo hd] at h;cases hk:nP r with
 | none=>exact em
 | some y =>
  obtain⟨k,r0⟩:=y;obtain⟨ks,kk⟩:=oF hk;simp only [hk] at h;have hr:r≠[]:=by
   exact dc
  cases hx:pat r0 (d+1) with
  | error e=>exact ct
  | ok y =>
   obtain⟨w,r2⟩:=y;simp only [hx] at h;cases ht:lq [41] r2 with
   | none=>exact en
   | some r3 =>
    simp only [ht] at h;injection h with h;injection h with h3 h4;subst h3 h4
    have h2:r2≠[]:=by rintro rfl;cases ht
    have hl:=mX ks;have hde:=yI kk w;by_cases h16:16≤d'
    ·rw [Jl h16]
     exact⟨fun q=>by omega,fun _=>rfl⟩
    rw [Jo h16];simp only [ym z hk hr];obtain⟨p1,p2⟩:=hp r0 (d+1) w r2 (d'+1) gN (nN ks ho) hx gN;refine⟨fun q=>?_,fun q=>?_⟩
    ·simp only [p1 gN (.inl h2),mK z ht]
    ·simp only [p2 gN]
theorem Gi {pat:List Str→Nat→Res} {z:List Str} {N:Nat} (hp:zG pat z N) (hnil:∀d,pat [] d=.ok (ow [],[])∨∃e,pat [] d=.error e) {r r1:List Str} {d d':Nat} {x:Rx} (h:mj pat r d=.ok (x,r1)) (ho:okC r) (hN:r.length+z.length≤N+1) (hd':d'≤16) :
  (x.deep+d'≤16→mj pat (r++z) d'=.ok (x,r1++z))∧(16<x.deep+d'→mj pat (r++z) d'=.error 8):=by
 cases r with
 | nil=>cases h
 | cons c r =>
  simp only [Jr] at hN;simp only [mj,JW] at h ⊢;have flat:∀{res:Res},x.deep=0→res=.ok (x,r1++z)→(x.deep+d'≤16→res=.ok (x,r1++z))∧(16<x.deep+d'→res=.error 8):=fun h0 hr=>⟨fun _=>hr,fun q=>by omega⟩
  by_cases h1:c=[46]
  ·rw [Jl h1] at h ⊢;injection h with h;injection h with ha hb;subst ha hb;exact flat rfl rfl
  rw [Jo h1] at h ⊢;by_cases h2:c=[40]
  ·rw [Jl h2] at h ⊢;exact FJ hp hnil h ho.tail gN hd'
  rw [Jo h2] at h ⊢;by_cases h3:c=[91]
  ·rw [Jl h3] at h ⊢
   refine flat ?_ (Bg z h);exact cS
  rw [Jo h3] at h ⊢;by_cases h4:c=[92]
  ·rw [Jl h4] at h ⊢
   refine flat ?_ (GQ z h);exact bI
  rw [Jo h4] at h ⊢;by_cases h5:qZ c=true
  ·exact eo
  ·rw [Jo h5] at h ⊢;injection h with h;injection h with ha hb;subst ha hb;exact flat rfl rfl
theorem GI {r r1:List Str} {x:Rx} (h:ni r=some (x,r1)):x.deep=0:=by
 cases r with
 | nil=>cases h
 | cons c r =>
  simp only [ni] at h;by_cases h1:c=[94]
  ·rw [Jl h1] at h;injection h with h;injection h with ha _;subst ha;rfl
  rw [Jo h1] at h;by_cases h2:c=[36]
  ·rw [Jl h2] at h;injection h with h;injection h with ha _;subst ha;rfl
  rw [Jo h2] at h;by_cases h3:c=[92]
  ·rw [Jl h3] at h
   cases h4:lq [98] r with
   | some r2=>simp only [h4] at h;injection h with h;injection h with ha _;subst ha;rfl
   | none =>
    simp only [h4] at h;cases h5:lq [66] r with
    | some r2=>simp only [h5] at h;injection h with h;injection h with ha _;subst ha;rfl
    | none=>exact dh
  ·rw [Jo h3] at h;cases h
theorem Hv {pat:List Str→Nat→Res} {z:List Str} {N:Nat} (hp:zG pat z N) (hnil:∀d,pat [] d=.ok (ow [],[])∨∃e,pat [] d=.error e) {r r1:List Str} {d d':Nat} {x:Rx} (h:lZ pat r d=.ok (x,r1)) (ho:okC r) (hN:r.length+z.length≤N+1) (hd':d'≤16) :
  (x.deep+d'≤16→(r1≠[]∨noQ z)→lZ pat (r++z) d'=.ok (x,r1++z))∧(16<x.deep+d'→lZ pat (r++z) d'=.error 8):=by
 unfold lZ at h ⊢;cases he:ni r with
 | some y =>
  simp only [he] at h;obtain⟨a,b⟩:=y;injection h with h;injection h with ha hb;subst ha hb
  have h0:=GI he;simp only [Dn z he];exact⟨fun _ _=>(by first|rfl|trivial),fun q=>by omega⟩
 | none =>
  simp only [he] at h;cases ha:mj pat r d with
  | error e=>exact ep
  | ok y =>
   obtain⟨w,r2⟩:=y;simp only [ha] at h;have hr:r≠[]:=by rintro rfl;cases ha
   have h92:r≠[[92]]:=by rintro rfl;simp [mj,escM] at ha
   have hde:x.deep=w.deep:=by
    rcases qE h with⟨rfl,_⟩|⟨⟨lo,hi,lz,rfl⟩,_⟩
    ·rfl
    ·exact Dv _ _ _ _
   obtain⟨p1,p2⟩:=Gi hp hnil ha ho hN hd';simp only [Bo z he hr h92];refine⟨fun q hz=>?_,fun q=>?_⟩
   ·simp only [p1 gN];exact Bv z h hz
   ·simp only [p2 gN]
theorem tQ {f:List Str→Res} {k:Nat} {alts terms:List Rx} {x:Rx} {r1:List Str} (h:patL f k alts terms []=.ok (x,r1)):x=altR (alts++[seqR terms])∧r1=[]:=by
 cases k with
 | zero=>cases h
 | succ k=>simp only [patL] at h;injection h with h;injection h with h1 h2;exact⟨h1.symm,h2.symm⟩
theorem vw {f f':List Str→Res} {z:List Str} {d':Nat}:∀(k m:Nat) (alts terms:List Rx) (r:List Str) {x:Rx} {r1:List Str},k≤m→patL f k alts terms r=.ok (x,r1) →
  (∀r' y r2,r' <:+ r→f r'=.ok (y,r2)→(y.deep+d'≤16→(r2≠[]∨noQ z)→f' (r'++z)=.ok (y,r2++z))∧(16<y.deep+d'→f' (r'++z)=.error 8)) →
  (∀r' y r2,r' <:+ r→f r'=.ok (y,r2)→r2 <:+ r')→Rx.deepL alts+d'≤16→Rx.deepL terms+d'≤16 →
  (x.deep+d'≤16→(r1≠[]∨z=[])→patL f' m alts terms (r++z)=.ok (x,r1++z))∧(16<x.deep+d'→patL f' m alts terms (r++z)=.error 8)
 | 0,_,_,_,_,_,_,_,h,_,_,_,_=>by cases h
 | k+1,m,alts,terms,r,x,r1,hm,h,ht,hs,da,dt=>by
  obtain⟨m,rfl⟩:∃m',m=m'+1:=⟨m-1,by omega⟩;cases r with
  | nil =>
   obtain⟨e1,e2⟩:=tQ h;subst e1 e2;have hd:=so alts terms;refine⟨fun _ q=>?_,fun q=>by omega⟩;obtain rfl:=q.resolve_left (fun q=>q rfl);rfl
  | cons c r =>
   simp only [patL,JW] at h ⊢;by_cases h1:c=[41]
   ·rw [Jl h1] at h ⊢
    injection h with h;injection h with ha hb;subst ha hb
    have hd:=so alts terms;exact⟨fun _ _=>(by first|rfl|trivial),fun q=>by omega⟩
   rw [Jo h1] at h ⊢;by_cases h2:c=[124]
   ·rw [Jl h2] at h ⊢
    have:=vw k m _ _ r gN h (fun r' y r2 q=>ht r' y r2 (mq q)) (fun r' y r2 q=>hs r' y r2 (mq q)) kg jo
    exact this
   rw [Jo h2] at h ⊢;cases hx:f (c::r) with
   | error e=>exact ct
   | ok y =>
    obtain⟨w,r2⟩:=y;simp only [hx] at h;have s:=hs _ _ _ (J7 _) hx;obtain⟨t1,t2⟩:=ht _ _ _ (J7 _) hx;rw [JW] at t1 t2;by_cases hw:w.deep+d'≤16
    ·have rc0:=vw k m alts (terms++[w]) r2 gN h (fun r' y r3 q=>ht r' y r3 (q.trans s)) (fun r' y r3 q=>hs r' y r3 (q.trans s)) da (by rw [deepL_app];simp only [Rx.deepL];omega)
     have hr2:r2=[]→x.deep+d'≤16:=by
      rintro rfl;obtain⟨e1,_⟩:=tQ h;rw [e1,so,deepL_app];simp only [Rx.deepL];omega
     refine⟨fun q1 q2=>?_,fun q=>?_⟩
     ·have hz:r2≠[]∨noQ z:=by
       rcases q2 with q2|q2
       ·exact .inl (by rintro rfl;exact q2 (tQ h).2)
       ·exact .inr (by rw [q2];trivial)
      simp only [t1 hw hz];exact rc0.1 q1 q2
     ·have h2':r2≠[]:=fun e=>by have:=hr2 e;omega
      simp only [t1 hw (.inl h2')];exact rc0.2 q
    ·have h8:=t2 gN
     have hxd:16<x.deep+d'→True:=fun _=>trivial
     refine⟨fun q1 _=>?_,fun _=>by simp only [h8]⟩;exfalso;have key:∀(k:Nat) (alts terms:List Rx) (r:List Str) {x:Rx} {r1:List Str},patL f k alts terms r=.ok (x,r1)→Rx.deepL terms≤x.deep∧Rx.deepL alts≤x.deep:=by
      intro k;induction k with
      | zero=>intro alts terms r x r1 h;cases h
      | succ k ih =>
       intro alts terms r x r1 h;cases r with
       | nil=>obtain⟨e1,_⟩:=tQ h;rw [e1,so];omega
       | cons c r =>
        simp only [patL] at h;by_cases h1:c=[41]
        ·rw [Jl h1] at h;injection h with h;injection h with ha _;rw [←ha,so];omega
        rw [Jo h1] at h;by_cases h2:c=[124]
        ·rw [Jl h2] at h
         have:=(ih _ _ _ h).2
         rw [deepL_app] at this;simp only [Rx.deepL,wO] at this;omega
        rw [Jo h2] at h;cases hx:f (c::r) with
        | error e=>exact ct
        | ok y =>
         simp only [hx] at h;have:=ih _ _ _ h
         rw [deepL_app] at this;simp only [Rx.deepL] at this;omega
     have:=(key _ _ _ _ h).1
     rw [deepL_app] at this;simp only [Rx.deepL] at this;omega
theorem yU (z:List Str):∀(n:Nat),n≤200000→zG (patF n) z n
 | 0,_=>fun r d x r1 d' _ _ h _=>by cases h
 | n+1,hn=>fun r d x r1 d' hl ho h hd'=>by
  have ih:=yU z n gN;have h':patL (fun r=>lZ (patF n) r d) (r.length+1) [] [] r=.ok (x,r1):=h;exact vw (f:=fun r=>lZ (patF n) r d) (f':=fun r=>lZ (patF n) r d') (r.length+1) ((r++z).length+1) [] [] r gU h'
   (fun r' y r2 hs hx=>Hv ih (Cj n) hx (nN hs ho) j0 hd') (fun r' y r2 hs hx=>(qM hx (nN hs ho) j0).1) jo jo
def Rdg (l:List Str) (x:Rx):Prop:=okC l∧noQ l∧∀(n:Nat) (z:List Str) (d:Nat),(z=[]∨∃z',z=[41]::z')→okC z→d≤16→(l++z).length<n→n≤200000 →
 patF n (l++z) d=if x.deep+d≤16 then .ok (x,z) else .error 8
theorem Rdg.of {l:List Str} {x:Rx} (ho:okC l) (h:patF (l.length+1) l 0=.ok (x,[])):Rdg l x:=by
 refine⟨ho,noQ_ok h,fun n z d hz hoz hd hl hn=>?_⟩;have hll:l.length+z.length<n:=jU;have h0:patF n l 0=.ok (x,[]):=by rw [←h];exact tJ gN gN ho gN
 by_cases hx:x.deep+d≤16
 ·rw [Jl hx]
  have h1:patF n l d=.ok (x,[]):=by
   have:=(yU [] n hn l 0 x [] d gV ho h0 hd).1 hx (.inr rfl)
   simpa using this
  rcases hz with rfl|⟨z',rfl⟩
  ·simpa using h1
  ·have h2:patF (l.length+1) l d=.ok (x,[]):=by rw [←h1];exact tJ gN gN ho gN
   obtain⟨n,rfl⟩:∃n',n=n'+1:=⟨n-1,by omega⟩;obtain⟨a,t,m,g1,g2,g3,g4,g5⟩:=Gj (n:=n) (z:=[41]::z') ho ⟨by decide,by decide,by decide,by decide⟩ gN gN h2;show patL (fun r=>lZ (patF n) r d) ((l++[41]::z').length+1) [] [] (l++[41]::z')=_
   rw [g2];obtain⟨m,rfl⟩:∃m',m=m'+1:=⟨m-1,by omega⟩;simp only [patL,if_true];rw [g1]
 ·rw [Jo hx]
  exact(yU z n hn l 0 x [] d gN ho h0 hd).2 gN
def opn (bare:Bool):List Str:=if bare=true then [[40],[63],[58]] else [[40]]
def gk (bare:Bool):Int:=if bare=true then 6 else 5
theorem Rdg.term {l z:List Str} {x:Rx} (h:Rdg l x) (bare:Bool) (n d:Nat) (hoz:okC z) (hd:d≤16) (hl:(l++[41]::z).length<n) (hn:n≤200000) :
  lZ (patF n) (opn bare++(l++[41]::z)) d=if x.deep+1+d≤16 then ma (grpR (gk bare) x) z else .error 8:=by
 obtain⟨h1,h2,h3⟩:=h;have hgr:∀r,nP r=some (gk bare,l++[41]::z)→mZ (patF n) r d=if x.deep+1+d≤16 then .ok (grpR (gk bare) x,z) else .error 8:=by
  intro r hk;unfold mZ;by_cases h16:16≤d
  ·rw [Jl h16,Jo gN]
  rw [Jo h16];simp only [hk];rw [h3 n ([41]::z) (d+1) (.inr ⟨z,rfl⟩) (fun p hp=>by
   rcases JC.1 hp with rfl|hp
   ·exact⟨by simp,by simp⟩
   ·exact hoz p hp) gN hl hn]
  by_cases hx:x.deep+(d+1)≤16
  ·rw [Jl hx,Jl gN];simp only [lq,if_true]
  ·rw [Jo hx,Jo gN]
 have hte:∀r,nP r=some (gk bare,l++[41]::z)→lZ (patF n) ([40]::r) d=if x.deep+1+d≤16 then ma (grpR (gk bare) x) z else .error 8:=by
  intro r hk;unfold lZ;have he:ni ([40]::r)=none:=by simp [ni]
  have ha:mj (patF n) ([40]::r) d=mZ (patF n) r d:=by simp [mj]
  simp only [he,ha,hgr r hk];by_cases hx:x.deep+1+d≤16
  ·rw [Jl hx,Jl hx]
  ·rw [Jo hx,Jo hx]
 cases bare with
 | true=>exact hte ([63]::[58]::(l++[41]::z)) (by simp [nP,lq,gk])
 | false =>
  refine hte (l++[41]::z) ?_;unfold nP;have:lq [63] (l++[41]::z)=none:=by
   cases l with
   | nil=>simp [lq]
   | cons c l=>simp only [JW,lq,Jo h2.2.2.1]
  simp only [this];rfl
def wrp (bare:Bool) (l:List Str):List Str:=opn bare++(l++[[41]])
theorem opn_ok (bare:Bool):okC (opn bare):=by
 intro p hp;cases bare<;>simp [opn] at hp
 ·subst hp;exact⟨by simp,by simp⟩
 ·rcases hp with rfl|rfl|rfl<;>exact⟨by simp,by simp⟩
theorem DX (bare:Bool):∃r,opn bare=[40]::r:=by cases bare<;>exact⟨_,rfl⟩
theorem gk_or (bare:Bool):gk bare=5∨gk bare=6:=by cases bare<;>simp [gk]
theorem Rdg.wrap {l:List Str} {x:Rx} (h:Rdg l x) (bare:Bool):Rdg (wrp bare l) (grpR (gk bare) x):=by
 have ho:=h.1;obtain⟨ro,hro⟩:=DX bare;refine⟨vG (opn_ok bare) (vG ho fun p hp=>by rw [JY] at hp;subst hp;exact⟨by simp,by simp⟩),?_,fun n z d hz hoz hd hl hn=>?_⟩
 ·unfold wrp;rw [hro];exact⟨by decide,by decide,by decide,by decide⟩
 ·obtain⟨n,rfl⟩:∃n',n=n'+1:=⟨n-1,by omega⟩
  have e1:wrp bare l++z=opn bare++(l++[41]::z):=by simp [wrp]
  have hl':(l++[41]::z).length<n:=by
   rw [e1,JA] at hl;have:1≤(opn bare).length:=by rw [hro];simp
   omega
  have hlen:(wrp bare l++z).length=(opn bare++(l++[41]::z)).length:=by rw [e1]
  show patL (fun r=>lZ (patF n) r d) ((wrp bare l++z).length+1) [] [] (wrp bare l++z)=_
  have ht:=h.term (z:=z) bare n d hoz hd hl' gN;obtain⟨K,hK⟩:∃K,(wrp bare l++z).length=K+1:=⟨(ro++(l++[41]::z)).length,by rw [hlen,hro];simp⟩;rw [hK,e1];rw [hro,JW] at ht ⊢;rw [yI (gk_or bare)];simp only [patL,Jo (show ¬([40]:Str)=[41] by decide),Jo (show ¬([40]:Str)=[124] by decide),ht];by_cases hx:x.deep+1+d≤16
  ·rw [Jl hx,Jl hx]
   have hkind:(grpR (gk bare) x).kind≠0∧(grpR (gk bare) x).kind≠1:=by cases bare<;>simp [grpR,gk,Rx.kind]
   have hT:InvT [grpR (gk bare) x]:=fun y hy=>by rw [JY] at hy;rw [hy];exact hkind
   have hseq:seqR [grpR (gk bare) x]=grpR (gk bare) x:=by
    unfold seqR;rw [mT (fun y hy=>(hT y hy).1)]
   have hend:altR ([]++[seqR ([]++[grpR (gk bare) x])])=grpR (gk bare) x:=by
    rw [JV,JV,hseq,oS hkind.2]
   rcases hz with rfl|⟨z',rfl⟩
   ·simp only [ma,hend]
   ·have hq:ma (grpR (gk bare) x) ([41]::z')=.ok (grpR (gk bare) x,[41]::z'):=by simp [ma]
    simp only [hq,if_true,hend]
  ·rw [Jo hx,Jo hx]
end Go.Proofs.YtdcnncgpomcaaaaGreatDoor
