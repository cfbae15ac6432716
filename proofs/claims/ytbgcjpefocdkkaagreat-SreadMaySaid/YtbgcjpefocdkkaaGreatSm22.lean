/- Plain laws on snippets: what is read leaves a suffix; without } nothing in braces ends. -/
import Derived.Test.YtbgcjpefocdkkaaGreatSm1
import Derived.Test.YtbgcjpefocdkkaaGreatSm2
import Derived.Test.YtbgcjpefocdkkaaGreatSm3
import Derived.Test.YtbgcjpefocdkkaaGreatSm4
import Derived.Test.YtbgcjpefocdkkaaGreatSm11
import Derived.Lib.ItoaMem
import Derived.Test.YtbgcjpefocdkkaaGreatSm13
import Derived.Test.YtbgcjpefocdkkaaGreatSm5
import Derived.Test.YtbgcjpefocdkkaaGreatSm6
import Derived.Test.YtbgcjpefocdkkaaGreatSm7
import Derived.Test.YtbgcjpefocdkkaaGreatSm8
import Derived.Test.YtbgcjpefocdkkaaGreatSm9
import Derived.Test.YtbgcjpefocdkkaaGreatSm14
import Derived.Test.YtbgcjpefocdkkaaGreatSm15
import Derived.Test.YtbgcjpefocdkkaaGreatSm10
import Derived.Test.YtbgcjpefocdkkaaGreatSm16
import Derived.Test.YtbgcjpefocdkkaaGreatSm17
import Derived.Test.YtbgcjpefocdkkaaGreatSm18
import Derived.Test.YtbgcjpefocdkkaaGreatSm12
import Derived.Test.YtbgcjpefocdkkaaGreatSm19
import Derived.Test.YtbgcjpefocdkkaaGreatSm20
import Derived.Test.YtbgcjpefocdkkaaGreatSm21
set_option maxRecDepth 100000
namespace Go.Proofs.YtbgcjpefocdkkaaGreat
theorem sfx_c {c:UInt8} {r s:Str} (h:s <:+ r):s <:+ c::r:=h.trans (List.suffix_cons c r)
theorem numLF_sfx:∀(r:Str) (k n:Nat) {m:Nat} {s:Str},numLF r k n=some (m,s)→s <:+ r
 | [],k,n,m,s,h=>by
  simp only [numLF] at h;split at h
  ·injection h with h;injection h with _ h;subst h;exact List.suffix_refl _
  ·cases h
 | c::r,k,n,m,s,h=>by
  simp only [numLF] at h;split at h
  ·split at h
   ·cases h
   ·exact sfx_c (numLF_sfx r (k+1) _ h)
  ·split at h
   ·injection h with h;injection h with _ h;subst h;exact List.suffix_refl _
   ·cases h
theorem nameM_sfx {r:Str} {x:Sn} {s:Str} (h:nameM r=some (x,s)):s <:+ r:=by
 unfold nameM at h;split at h
 ·injection h with h;injection h with _ h;subst h;exact List.dropWhile_suffix _
 ·cases h
theorem headM_sfx {r:Str} {x:Sn} {s:Str} (h:headM r=some (x,s)):s <:+ r:=by
 unfold headM at h;split at h
 ·rename_i heq
  injection h with h;injection h with _ h;subst h;exact numLF_sfx _ _ _ heq
 ·exact nameM_sfx h
theorem untilL_sfx (one:Int):∀(r t:Str) {u s:Str},untilL one r t=some (u,s)→s <:+ r
 | [],t,u,s,h=>by simp [untilL] at h
 | [c],t,u,s,h=>by
  simp only [untilL] at h;split at h
  ·simp at h;rw [←h.2];exact List.suffix_refl _
  ·cases h
 | c::d::r,t,u,s,h=>by
  simp only [untilL] at h;split at h
  ·simp at h;rw [←h.2];exact List.suffix_refl _
  ·split at h
   ·exact sfx_c (sfx_c (untilL_sfx one r _ h))
   ·exact sfx_c (untilL_sfx one (d::r) _ h)
theorem bracedR_sfx {r:Str} {n:Nat} {f:Fm} {s:Str} (h:bracedR r n=some (f,s)):s <:+ r:=by
 cases r with
 | nil=>cases h
 | cons c r =>
  simp only [bracedR] at h;split at h
  ·split at h
   ·cases h
   ·rename_i x r2 heq
    split at h
    ·cases h
    ·injection h with h;injection h with _ h;subst h
     have:=List.dropWhile_suffix (p:=ne125) (l:=r)
     rw [heq] at this;exact sfx_c ((List.suffix_cons _ _).trans this)
  ·split at h
   ·split at h
    ·rename_i heq
     injection h with h;injection h with _ h;subst h
     exact sfx_c ((List.suffix_cons _ _).trans (untilL_sfx _ _ _ heq))
    ·cases h
   ·split at h
    ·split at h
     ·rename_i heq
      split at h
      ·rename_i heq2
       injection h with h;injection h with _ h;subst h
       exact sfx_c (((List.suffix_cons _ _).trans (untilL_sfx _ _ _ heq2)).trans ((List.suffix_cons _ _).trans (untilL_sfx _ _ _ heq)))
      ·cases h
     ·cases h
    ·split at h
     ·split at h
      ·rename_i heq
       injection h with h;injection h with _ h;subst h
       exact sfx_c ((List.suffix_cons _ _).trans (untilL_sfx _ _ _ heq))
      ·cases h
     ·split at h
      ·rename_i heq
       injection h with h;injection h with _ h;subst h
       exact(List.suffix_cons _ _).trans (untilL_sfx _ _ _ heq)
      ·cases h
theorem partR_sfx {r:Str} {f:Fm} {s:Str} (h:partR r=some (f,s)):s <:+ r:=by
 unfold partR at h;split at h
 ·rename_i p heq
  obtain⟨m,s'⟩:=p;injection h with h;injection h with _ h;subst h;exact numLF_sfx _ _ _ heq
 ·cases r with
  | nil=>cases h
  | cons c r =>
   simp only [partB] at h;split at h
   ·split at h
    ·cases h
    ·rename_i p heq
     obtain⟨m,s'⟩:=p;have h1:=numLF_sfx _ _ _ heq;cases s' with
     | nil=>cases h
     | cons d r3 =>
      simp only [partC] at h;have h2:r3 <:+ r:=(List.suffix_cons d r3).trans h1;split at h
      ·injection h with h;injection h with _ h;subst h;exact sfx_c h2
      ·split at h
       ·exact sfx_c ((bracedR_sfx h).trans h2)
       ·cases h
   ·cases h
theorem readN_sfx:∀(k:Nat) (r tx:Str) (fs:List Fm) {gs:List Fm} {s:Str},readN k r tx fs=some (gs,s)→s <:+ r
 | 0,_,_,_,_,_,h=>by cases h
 | _+1,[],_,_,_,_,h=>by cases h
 | k+1,c::r,tx,fs,gs,s,h=>by
  simp only [readN] at h;split at h
  ·injection h with h;injection h with _ h;subst h;exact List.suffix_refl _
  ·split at h
   ·split at h
    ·rename_i p hp
     obtain⟨f,s'⟩:=p;exact sfx_c ((readN_sfx k _ _ _ h).trans (partR_sfx hp))
    ·exact sfx_c (readN_sfx k _ _ _ h)
   ·split at h
    ·exact sfx_c ((readN_sfx k _ _ _ h).trans (List.drop_suffix _ _))
    ·exact sfx_c (readN_sfx k _ _ _ h)
theorem rxSp_sfx:∀(r a:Str),(rxSp r a).2 <:+ r
 | [],a=>List.suffix_refl _
 | [c],a=>by
  simp only [rxSp];split
  ·exact List.suffix_refl _
  ·exact List.nil_suffix
 | c::d::r,a=>by
  simp only [rxSp];split
  ·exact List.suffix_refl _
  ·split
   ·exact sfx_c (sfx_c (rxSp_sfx r _))
   ·exact sfx_c (rxSp_sfx (d::r) _)
theorem flagT_sfx {x:Rx} {fs:List Fm} {r:Str} {f:Tf} {s:Str} (h:flagT x fs r=some (f,s)):s <:+ r∧125∈r:=by
 unfold flagT at h;have hd:=List.dropWhile_suffix (p:=ne125) (l:=r);split at h
 ·cases h
 ·rename_i c r2 heq
  rw [heq] at hd;have hc:ne125 c=false:=by
   have:=List.head_dropWhile_not (p:=ne125) (l:=r) (by rw [heq];simp)
   simpa [heq] using this
  have h125:c=125:=by
   unfold ne125 at hc;simp at hc
   exact UInt8.toNat_inj.1 hc
  subst h125;split at h
  ·cases h
  ·injection h with h;injection h with _ h;subst h
   exact⟨(List.suffix_cons _ _).trans hd,hd.subset (List.mem_cons_self ..)⟩
theorem formM_sfx {r:Str} {f:Tf} {s:Str} (h:formM r=some (f,s)):s <:+ r∧125∈r:=by
 cases r with
 | nil=>cases h
 | cons c r =>
  simp only [formM] at h;have h1:=rxSp_sfx r [];split at h
  ·split at h
   ·cases h
   ·rename_i heq
    rw [heq] at h1;split at h
    ·cases h
    ·split at h
     ·cases h
     ·cases h
     ·rename_i heq2
      have h2:=readN_sfx _ _ _ _ heq2;obtain⟨h3,h4⟩:=flagT_sfx h;have h5:=((List.suffix_cons _ _).trans h2).trans ((List.suffix_cons _ _).trans h1);exact⟨sfx_c (h3.trans h5),List.mem_cons_of_mem _ (h5.subset h4)⟩
  ·cases h
theorem nxtM_sfx (th:Str) (c:UInt8) (r:Str):(nxtM th (c::r)).2 <:+ r:=by
 cases r with
 | nil=>exact List.suffix_refl _
 | cons d r =>
  simp only [nxtM];split
  ·exact List.suffix_cons _ _
  ·exact List.suffix_refl _
theorem optL_sfx:∀(n:Nat) (r:Str) (o:List Str) (t:Str),r.length≤n→(optL r o t).2 <:+ r
 | _,[],o,t,_=>List.suffix_refl _
 | 0,_::_,_,_,h=>by simp at h
 | n+1,c::r,o,t,h=>by
  simp only [List.length_cons] at h;rw [optL_cons];split
  ·exact List.suffix_refl _
  ·split
   ·exact sfx_c (optL_sfx n r _ _ (by omega))
   ·have h1:=nxtM_sfx fiveS c r
    exact sfx_c ((optL_sfx n _ _ _ (by have:=h1.length_le;omega)).trans h1)
theorem optsM_sfx {x:Sn} {r:Str} {y:Sn} {s:Str} (h:optsM x r=some (y,s)):s <:+ r∧125∈r:=by
 have h1:=optL_sfx _ r [] [] (Nat.le_refl _);unfold optsM at h;split at h
 ·rename_i c d r2 heq
  rw [heq] at h1;split at h
  ·rename_i hcd
   injection h with h;injection h with _ h;subst h
   have hd:d=125:=UInt8.toNat_inj.1 hcd.2;subst hd;exact⟨(List.suffix_cons _ _).trans ((List.suffix_cons _ _).trans h1),h1.subset (by simp)⟩
  ·cases h
 ·cases h
theorem bracedS_sfx {ps:Str→List Sn × Str} {x y:Sn} {r s:Str} (hps:∀t,t.length<r.length→(ps t).2 <:+ t) (h:bracedS ps x r=some (y,s)):s <:+ r:=by
 cases r with
 | nil=>cases h
 | cons c r =>
  simp only [bracedS] at h;split at h
  ·injection h with h;injection h with _ h;subst h;exact List.suffix_cons _ _
  ·split at h
   ·have h1:=hps r (by simp)
    split at h
    ·cases h
    ·rename_i heq
     rw [heq] at h1;injection h with h;injection h with _ h;subst h
     exact sfx_c ((List.suffix_cons _ _).trans h1)
   ·split at h
    ·exact sfx_c (optsM_sfx h).1
    ·split at h
     ·cases h
     ·rename_i heq
      injection h with h;injection h with _ h;subst h;exact(formM_sfx heq).1
theorem parts_sfx:∀(N:Nat),(∀r x s,r.length≤N→partS r=some (x,s)→s <:+ r)∧(∀ins out text r,r.length≤N→(partsS ins out text r).2 <:+ r)
 | 0=>by
  refine⟨fun r x s h hp=>?_,fun ins out text r h=>?_⟩
  ·have:r=[]:=List.eq_nil_of_length_eq_zero (by omega)
   subst this;rw [partS_nil] at hp;cases hp
  ·have:r=[]:=List.eq_nil_of_length_eq_zero (by omega)
   subst this;exact List.suffix_refl _
 | N+1=>by
  obtain⟨ih1,ih2⟩:=parts_sfx N;have k1:∀r x s,r.length≤N+1→partS r=some (x,s)→s <:+ r:=by
   intro r x s hr h;rw [partS_eq] at h;cases r with
   | nil=>cases h
   | cons c r =>
    simp only [List.length_cons] at hr;simp only [wholeM] at h;split at h
    ·split at h
     ·cases h
     ·rename_i heq
      have h1:=headM_sfx heq;exact sfx_c ((bracedS_sfx (fun t ht=>ih2 _ _ _ t (by have:=h1.length_le;omega)) h).trans h1)
    ·exact headM_sfx h
  refine⟨k1,fun ins out text r hr=>?_⟩;have key:∀(n:Nat) (out:List Sn) (text r:Str),r.length≤n→n≤N+1→(partsS ins out text r).2 <:+ r:=by
   intro n;induction n with
   | zero =>
    intro out text r h _;have:r=[]:=List.eq_nil_of_length_eq_zero (by omega)
    subst this;exact List.suffix_refl _
   | succ n ih =>
    intro out text r h hn;cases r with
    | nil=>exact List.suffix_refl _
    | cons c r =>
     simp only [List.length_cons] at h;rw [partsS_cons];split
     ·exact List.suffix_refl _
     ·split
      ·rename_i x r2 he
       have h1:r2 <:+ r:=by
        unfold dolM at he;split at he
        ·exact k1 r x r2 (by omega) he
        ·cases he
       exact sfx_c ((ih _ _ r2 (by have:=h1.length_le;omega) (by omega)).trans h1)
      ·have h1:=nxtM_sfx three c r
       exact sfx_c ((ih _ _ _ (by have:=h1.length_le;omega) (by omega)).trans h1)
  exact key r.length out text r (Nat.le_refl _) hr
theorem partS_sfx {r:Str} {x:Sn} {s:Str} (h:partS r=some (x,s)):s <:+ r:=(parts_sfx r.length).1 r x s (Nat.le_refl _) h
theorem partsS_sfx (ins:Bool) (out:List Sn) (text r:Str):(partsS ins out text r).2 <:+ r:=(parts_sfx r.length).2 ins out text r (Nat.le_refl _)
theorem withT_app (out:List Sn) (t:Str):withT out t=out++withT [] t:=by unfold withT;split<;>simp
theorem parts_out (ins:Bool):∀(n:Nat) (out:List Sn) (text r:Str),r.length≤n→partsS ins out text r=(out++(partsS ins [] text r).1,(partsS ins [] text r).2)
 | _,out,text,[],_=>by rw [partsS_nil,partsS_nil,withT_app]
 | 0,_,_,_::_,h=>by simp at h
 | n+1,out,text,c::r,h=>by
  simp only [List.length_cons] at h;rw [partsS_cons,partsS_cons];split
  ·rw [withT_app]
  ·split
   ·rename_i x r2 he
    have h1:r2.length≤r.length:=by
     unfold dolM at he;split at he
     ·exact(partS_sfx he).length_le
     ·cases he
    rw [parts_out ins n (withT out text++[x]) [] r2 (by omega),parts_out ins n (withT [] text++[x]) [] r2 (by omega),withT_app out];simp
   ·have h1:=(nxtM_sfx three c r).length_le
    exact parts_out ins n out _ _ (by omega)
end Go.Proofs.YtbgcjpefocdkkaaGreat
set_option maxRecDepth 100000
namespace Go.Proofs.YtbgcjpefocdkkaaGreat
end Go.Proofs.YtbgcjpefocdkkaaGreat
namespace Go.Proofs.YtbgcjpefocdkkaaGreat
theorem term_sfx {n:Nat} {r r1:List Str} {d:Nat} {x:Rx} (h:termM (patF n) r d=.ok (x,r1)) (ho:okC r) (hl:r.length≤200000):r1 <:+ r∧r1.length<r.length:=by
 obtain⟨f,g⟩:=term_facts (pat_facts n) h ho (by omega) (Nat.le_refl _);exact⟨f.2.2.2,g⟩
end Go.Proofs.YtbgcjpefocdkkaaGreat
namespace Go.Proofs.YtbgcjpefocdkkaaGreat
def InvA (l:List Rx):Prop:=∀y∈l,y.kind≠1
def InvT (l:List Rx):Prop:=∀y∈l,y.kind≠0∧y.kind≠1
theorem InvA.app {a b:List Rx} (h1:InvA a) (h2:InvA b):InvA (a++b):=fun y hy=>(List.mem_append.1 hy).elim (h1 y) (h2 y)
theorem InvT.app {a b:List Rx} (h1:InvT a) (h2:InvT b):InvT (a++b):=fun y hy=>(List.mem_append.1 hy).elim (h1 y) (h2 y)
theorem flatL_id {kd:Int}:∀{l:List Rx},(∀y∈l,y.kind≠kd)→flatL kd l=l
 | [],_=>rfl
 | x::l,h=>by
  rw [flatL_cons,if_neg (h x (List.mem_cons_self ..)),flatL_id (fun y hy=>h y (List.mem_cons_of_mem _ hy))];rfl
theorem seqR_kind {l:List Rx} (h:InvT l):(seqR l).kind≠1∧flatL 0 [seqR l]=l:=by
 have hf:flatL 0 l=l:=flatL_id fun y hy=>(h y hy).1
 rcases l with _|⟨x,_|⟨y,l⟩⟩
 ·exact⟨by decide,rfl⟩
 ·have e:seqR [x]=x:=by unfold seqR;rw [hf]
  have hx:=h x (List.mem_cons_self ..);rw [e];exact⟨hx.2,flatL_id fun y hy=>by rw [List.mem_singleton] at hy;rw [hy];exact hx.1⟩
 ·have e:seqR (x::y::l)=kind0 (x::y::l):=by unfold seqR;rw [hf]
  rw [e];exact⟨by show (0:Int)≠1;decide,by rw [flatL_cons];simp [kind0,Rx.kind,Rx.kids,flatL]⟩
theorem altR_one' {x:Rx} (h:x.kind≠1):altR [x]=x:=by
 unfold altR;rw [flatL_id (fun y hy=>by rw [List.mem_singleton] at hy;rw [hy];exact h)]
theorem quant_kind {x y:Rx} {r r1:List Str} (h:quantM x r=.ok (y,r1)) (hx:x.kind≠0∧x.kind≠1):y.kind≠0∧y.kind≠1:=by
 rcases quant_facts h with⟨rfl,_⟩|⟨⟨lo,hi,lz,rfl⟩,_⟩
 ·exact hx
 ·exact⟨by show (7:Int)≠0;decide,by show (7:Int)≠1;decide⟩
theorem atom_kind {pat:List Str→Nat→Res} {r r1:List Str} {d:Nat} {x:Rx} (h:atomM pat r d=.ok (x,r1)):x.kind≠0∧x.kind≠1:=by
 have lit:∀k:Int,k≠0→k≠1→∀y:Rx,y.kind=k→y.kind≠0∧y.kind≠1:=fun k h0 h1 y hy=>by rw [hy];exact⟨h0,h1⟩
 cases r with
 | nil=>cases h
 | cons c r =>
  simp only [atomM] at h;by_cases h1:c=[46]
  ·rw [if_pos h1] at h;injection h with h;injection h with ha _;subst ha;exact lit 3 (by decide) (by decide) _ rfl
  rw [if_neg h1] at h;by_cases h2:c=[40]
  ·rw [if_pos h2] at h
   unfold groupM at h;by_cases hd:16≤d
   ·rw [if_pos hd] at h;cases h
   rw [if_neg hd] at h;cases hk:groupK r with
   | none=>simp only [hk] at h;cases h
   | some y =>
    obtain⟨k,r0⟩:=y;have hk2:=(groupK_sfx hk).2;simp only [hk] at h;cases hx:pat r0 (d+1) with
    | error e=>simp only [hx] at h;cases h
    | ok y =>
     simp only [hx] at h;cases ht:takeM [41] y.2 with
     | none=>simp only [ht] at h;cases h
     | some r3 =>
      simp only [ht] at h;injection h with h;injection h with ha _;subst ha
      rcases hk2 with rfl|rfl
      ·exact lit 5 (by decide) (by decide) _ rfl
      ·exact lit 6 (by decide) (by decide) _ rfl
  rw [if_neg h2] at h;by_cases h3:c=[91]
  ·rw [if_pos h3] at h
   unfold classM at h;simp only at h
   generalize classL _ _ _=q at h
   cases q with
   | none=>simp only at h;cases h
   | some y=>simp only at h;injection h with h;injection h with ha _;subst ha;exact lit 4 (by decide) (by decide) _ rfl
  rw [if_neg h3] at h;by_cases h4:c=[92]
  ·rw [if_pos h4] at h
   cases r with
   | nil=>cases h
   | cons c2 r2 =>
    simp only [escM] at h;cases hn:namedS c2 with
    | some rows=>simp only [hn] at h;injection h with h;injection h with ha _;subst ha;exact lit 4 (by decide) (by decide) _ rfl
    | none =>
     simp only [hn] at h;cases hb:bigS c2 with
     | some rows=>simp only [hb] at h;injection h with h;injection h with ha _;subst ha;exact lit 4 (by decide) (by decide) _ rfl
     | none =>
      simp only [hb] at h;cases hpm:plainM c2 with
      | none=>simp only [hpm] at h;cases h
      | some t=>simp only [hpm] at h;injection h with h;injection h with ha _;subst ha;exact lit 2 (by decide) (by decide) _ rfl
  rw [if_neg h4] at h;by_cases h5:noAtom c=true
  ·rw [if_pos h5] at h;cases h
  ·rw [if_neg h5] at h;injection h with h;injection h with ha _;subst ha;exact lit 2 (by decide) (by decide) _ rfl
theorem term_kind {pat:List Str→Nat→Res} {r r1:List Str} {d:Nat} {x:Rx} (h:termM pat r d=.ok (x,r1)):x.kind≠0∧x.kind≠1:=by
 unfold termM at h;cases he:edgeM r with
 | some y =>
  simp only [he] at h;injection h with h;subst h
  cases r with
  | nil=>cases he
  | cons c r =>
   simp only [edgeM] at he;by_cases h1:c=[94]
   ·rw [if_pos h1] at he;injection he with he;injection he with ha _;subst ha;exact⟨by decide,by decide⟩
   rw [if_neg h1] at he;by_cases h2:c=[36]
   ·rw [if_pos h2] at he;injection he with he;injection he with ha _;subst ha;exact⟨by decide,by decide⟩
   rw [if_neg h2] at he;by_cases h3:c=[92]
   ·rw [if_pos h3] at he
    cases h4:takeM [98] r with
    | some r2=>simp only [h4] at he;injection he with he;injection he with ha _;subst ha;exact⟨by decide,by decide⟩
    | none =>
     simp only [h4] at he;cases h5:takeM [66] r with
     | some r2=>simp only [h5] at he;injection he with he;injection he with ha _;subst ha;exact⟨by decide,by decide⟩
     | none=>simp only [h5] at he;cases he
   ·rw [if_neg h3] at he;cases he
 | none =>
  simp only [he] at h;cases ha:atomM pat r d with
  | error e=>simp only [ha] at h;cases h
  | ok y =>
   simp only [ha] at h;exact quant_kind h (atom_kind ha)
end Go.Proofs.YtbgcjpefocdkkaaGreat
namespace Go.Proofs.YtbgcjpefocdkkaaGreat
theorem split_fuel:∀(k:Nat) (l:Str),l.length≤k→splitF k l=splitM l
 | k,l,h=>by
  have key:∀(n k:Nat) (l:Str),l.length≤n→n≤k→splitF k l=splitF n l:=by
   intro n;induction n with
   | zero=>intro k l h1 h2;obtain rfl:=List.eq_nil_of_length_eq_zero (Nat.le_zero.1 h1);cases k<;>rfl
   | succ n ih =>
    intro k l h1 h2;obtain⟨k,rfl⟩:∃k',k=k'+1:=⟨k-1,by omega⟩;cases l with
    | nil=>rfl
    | cons c r =>
     have hd:(r.dropWhile insideB).length≤r.length:=(List.dropWhile_suffix insideB).length_le;simp only [List.length_cons] at h1;simp only [splitF];rw [ih k _ (by omega) (by omega)]
  exact key l.length k l (Nat.le_refl _) h
theorem splitM_cons' (c:UInt8) (r:Str):splitM (c::r)=(c::r.takeWhile insideB)::splitM (r.dropWhile insideB):=by
 have hd:(r.dropWhile insideB).length≤r.length:=(List.dropWhile_suffix insideB).length_le;show splitF (r.length+1) (c::r)=_
 simp only [splitF];rw [split_fuel r.length _ hd]
def headP:Str→Prop
 | []=>True
 | c::_=>insideB c=false
theorem splitM_len (s:Str):(splitM s).length≤s.length:=(splitF_facts s.length s).2
theorem splitM_ok {s:Str} (h:s.length≤1000000):okC (splitM s):=fun p hp=>by
 have:=(splitF_facts s.length s).1 p hp
 exact⟨this.1,by omega⟩
theorem readM_ok {s:Str} {x:Rx}:readM s=.ok x↔s.length≤256∧headP s∧patF ((splitM s).length+1) (splitM s) 0=.ok (x,[]):=by
 unfold readM;have rc:∀l:List Str,readC l=.ok x↔patF (l.length+1) l 0=.ok (x,[]):=by
  intro l;unfold readC;cases patF (l.length+1) l 0 with
  | error e=>simp
  | ok y =>
   obtain⟨y,r⟩:=y;cases r with
   | nil=>simp
   | cons c r=>simp
 by_cases hl:256<s.length
 ·rw [if_pos hl]
  exact⟨(fun h=>by cases h),fun h=>by omega⟩
 rw [if_neg hl];cases s with
 | nil =>
  have:splitM []=[]:=rfl
  rw [this];simp only [rc];exact⟨fun h=>⟨by simp,trivial,h⟩,fun h=>h.2.2⟩
 | cons c r =>
  rw [splitM_cons'];have hp:properB (c::r.takeWhile insideB)=!insideB c:=by
   show (!insideB c&&(r.takeWhile insideB).all insideB)=_
   have:(r.takeWhile insideB).all insideB=true:=List.all_takeWhile ..
   rw [this,Bool.and_true]
  simp only [hp];cases hc:insideB c with
  | true=>simp [headP,hc]
  | false =>
   simp only [Bool.not_false,if_true];rw [rc];exact⟨fun h=>⟨by omega,hc,h⟩,fun h=>h.2.2⟩
end Go.Proofs.YtbgcjpefocdkkaaGreat
set_option maxRecDepth 100000
namespace Go.Proofs.YtbgcjpefocdkkaaGreat
theorem deepL_app:∀(a b:List Rx),Rx.deepL (a++b)=max (Rx.deepL a) (Rx.deepL b)
 | [],b=>by simp [Rx.deepL]
 | x::a,b=>by simp only [List.cons_append,Rx.deepL,deepL_app a b];omega
theorem kids_deep {x:Rx} (h:x.kind=0∨x.kind=1):Rx.deepL x.kids=x.deep:=by
 obtain⟨k,c,ng,rs,lo,hi,lz,ks⟩:=x;simp only [Rx.kind] at h;simp only [Rx.kids,Rx.deep];rw [if_neg (by omega)];omega
theorem flat_deep {kd:Int} (hk:kd=0∨kd=1):∀xs:List Rx,Rx.deepL (flatL kd xs)=Rx.deepL xs
 | []=>rfl
 | x::xs=>by
  rw [flatL_cons,deepL_app,flat_deep hk xs];simp only [Rx.deepL];by_cases h:x.kind=kd
  ·rw [if_pos h,kids_deep (by rw [h];exact hk)]
  ·rw [if_neg h];simp only [Rx.deepL];omega
theorem seqR_deep (xs:List Rx):(seqR xs).deep=Rx.deepL xs:=by
 have h:=flat_deep (kd:=0) (.inl rfl) xs;unfold seqR;split
 ·rename_i y hy;rw [hy] at h;simp only [Rx.deepL] at h;omega
 ·rename_i l _;unfold kind0;simp only [Rx.deep];rw [if_neg (by decide),h];rfl
theorem altR_deep (xs:List Rx):(altR xs).deep=Rx.deepL xs:=by
 have h:=flat_deep (kd:=1) (.inr rfl) xs;unfold altR;split
 ·rename_i hy;rw [hy] at h;exact h
 ·rename_i y hy;rw [hy] at h;simp only [Rx.deepL] at h;omega
 ·unfold kind1;simp only [Rx.deep];rw [if_neg (by decide),h];rfl
theorem end_deep (alts terms:List Rx):(altR (alts++[seqR terms])).deep=max (Rx.deepL alts) (Rx.deepL terms):=by
 rw [altR_deep,deepL_app];simp only [Rx.deepL,seqR_deep];omega
theorem rep_deep (lo hi:Int) (lz:Bool) (x:Rx):(repR lo hi lz x).deep=x.deep:=by
 unfold repR;simp only [Rx.deep,Rx.deepL];rw [if_neg (by decide)];omega
theorem grp_deep {k:Int} (hk:k=5∨k=6) (x:Rx):(grpR k x).deep=x.deep+1:=by
 unfold grpR;simp only [Rx.deep,Rx.deepL];rw [if_pos hk];omega
end Go.Proofs.YtbgcjpefocdkkaaGreat
set_option maxRecDepth 100000
namespace Go.Proofs.YtbgcjpefocdkkaaGreat
def gk (bare:Bool):Int:=if bare=true then 6 else 5
end Go.Proofs.YtbgcjpefocdkkaaGreat
set_option maxRecDepth 100000
namespace Go.Proofs.YtbgcjpefocdkkaaGreat
theorem leS_trans {a b c:Str} (h1:leS a b=true) (h2:leS b c=true):leS a c=true:=by
 unfold leS at *;rw [Bool.or_eq_true,beq_iff_eq] at *;rcases h1 with h1|rfl
 ·rcases h2 with h2|rfl
  ·exact .inl (less_trans h1 h2)
  ·exact .inl h1
 ·exact h2
theorem mrgS_rows {out:List Row} {r:Row} (h:rowsB out=true) (hr:rowB r=true):rowsB (mrgS out r)=true:=by
 have app:∀(l:List Row) (p:Option Str) (x:Row),rowsL p (l++[x])=(rowsL p l&&rowsL (match l.getLast? with|none=>p|some q=>some q.2) [x]):=by
  intro l;induction l with
  | nil=>intro p x;simp [rowsL]
  | cons y l ih =>
   intro p x;rw [List.cons_append];show (rowB y&&_&&rowsL (some y.2) (l++[x]))=(rowB y&&_&&rowsL (some y.2) l&&_)
   rw [ih];cases l with
   | nil=>simp [rowsL,Bool.and_assoc]
   | cons z l =>
    rw [List.getLast?_cons_cons];obtain⟨q,hq⟩:∃q,(z::l).getLast?=some q:=by
     rcases List.eq_nil_or_concat (z::l) with h|⟨B,q,h⟩
     ·cases h
     ·rw [h,List.concat_eq_append,List.getLast?_concat];exact⟨_,rfl⟩
    simp only [hq,Bool.and_assoc]
 rcases List.eq_nil_or_concat out with rfl|⟨B,q,rfl⟩
 ·rw [mrgS_nil];simp [rowsB,rowsL,hr]
 ·rw [List.concat_eq_append] at h ⊢
  have h':=h;unfold rowsB at h';rw [app] at h';have h1:=(Bool.and_eq_true_iff.1 h').1;have h2:=(Bool.and_eq_true_iff.1 h').2;cases hl:leS r.1 q.2 with
  | false =>
   rw [mrgS_gt hl];unfold rowsB at h ⊢;rw [app,h,List.getLast?_concat];simp [rowsL,hr,hl]
  | true =>
   rw [mrgS_le hl];unfold rowsB;rw [app,h1,Bool.true_and];generalize (match B.getLast? with|none=>(none:Option Str)|some q=>some q.2)=p at h2 ⊢
   simp only [rowsL,Bool.and_true,Bool.and_eq_true] at h2 ⊢;refine⟨?_,h2.2⟩;have hq:=h2.1;unfold rowB at hq hr ⊢;simp only [Bool.and_eq_true] at hq hr ⊢;unfold mxS;by_cases hm:Op.bytesLess q.2 r.2=true
   ·rw [if_pos hm]
    refine⟨⟨hq.1.1,hr.1.2⟩,?_⟩;have h3:leS q.2 r.2=true:=by unfold leS;rw [hm,Bool.true_or]
    exact leS_trans hq.2 h3
   ·rw [if_neg hm];exact hq
theorem unionM_rows (rs:List Row):rowsB (unionM rs)=true:=by
 have h1:∀q∈stL (filR rs),rowB q=true:=fun q hq=>(List.mem_filter.1 ((stL_sorted _).1.mem_iff.1 hq)).2
 unfold unionM mrgL;have key:∀(l out:List Row),(∀q∈l,rowB q=true)→rowsB out=true→rowsB (l.foldl mrgS out)=true:=by
  intro l;induction l with
  | nil=>intro out _ h;exact h
  | cons r l ih=>intro out h1 h2;exact ih _ (fun q hq=>h1 q (List.mem_cons_of_mem _ hq)) (mrgS_rows h2 (h1 r (List.mem_cons_self ..)))
 exact key _ _ h1 rfl
def prC (l:List Str):Prop:=∀p∈l,properB p=true
theorem prC.sfx {r r1:List Str} (h:prC r) (hs:r1 <:+ r):prC r1:=fun p hp=>h p (hs.subset hp)
theorem headP_drop:∀r:Str,headP (r.dropWhile insideB)
 | []=>trivial
 | c::r=>by
  rw [List.dropWhile_cons];cases h:insideB c with
  | true=>exact headP_drop r
  | false=>exact h
theorem splitM_pr:∀(n:Nat) (s:Str),s.length≤n→headP s→prC (splitM s)
 | _,[],_,_=>fun p hp=>by cases hp
 | 0,_::_,h,_=>by simp at h
 | n+1,c::r,h,hh=>by
  rw [splitM_cons'];intro p hp;rcases List.mem_cons.1 hp with rfl|hp
  ·show (!insideB c&&(r.takeWhile insideB).all insideB)=true
   rw [List.all_takeWhile,Bool.and_true];have:insideB c=false:=hh
   rw [this];rfl
  ·have hl:(r.dropWhile insideB).length≤r.length:=(List.dropWhile_sublist insideB).length_le
   exact splitM_pr n _ (by simp at h;omega) (headP_drop r) p hp
theorem plainM_pr {c t:Str} (h:plainM c=some t) (hc:properB c=true):properB t=true:=by
 unfold plainM at h;split at h
 ·cases h
 iterate 5 (split at h;· injection h with h;subst h;decide)
 split at h
 ·injection h with h;subst h;exact hc
 ·cases h
theorem wf_leaf {k:Int} {c:Str} {ng:Bool} {rs:List Row} {lo hi:Int} {lz:Bool} (h:fieldsB (.mk k c ng rs lo hi lz [])=true):(Rx.mk k c ng rs lo hi lz []).wf=true:=by
 simp only [Rx.wf,h,Rx.wfL,Bool.and_true]
theorem wf_chr {c:Str} (h:properB c=true):(chrR c).wf=true:=wf_leaf (by simp [fieldsB,bareB,h,Rx.chr,Rx.neg,Rx.rows,Rx.lo,Rx.hi,Rx.lazy])
theorem wf_set {rs:List Row} {ng:Bool} (h:rowsB rs=true):(setR rs ng).wf=true:=wf_leaf (by simp [fieldsB,bareB,h,Rx.chr,Rx.neg,Rx.rows,Rx.lo,Rx.hi,Rx.lazy])
theorem wf_K {k:Int} (h:k=3∨k=8∨k=9∨k=10∨k=11):(rxK k).wf=true:=by
 rcases h with rfl|rfl|rfl|rfl|rfl<;>decide
theorem wf_grp {k:Int} {x:Rx} (hk:k=5∨k=6) (h:x.wf=true):(grpR k x).wf=true:=by
 rcases hk with rfl|rfl<;>simp [grpR,Rx.wf,Rx.wfL,fieldsB,bareB,h,Rx.chr,Rx.neg,Rx.rows,Rx.lo,Rx.hi,Rx.lazy]
theorem wf_rep {lo hi:Int} {lz:Bool} {x:Rx} (h:x.wf=true) (hk:repB x.kind=true) (hb:0≤lo∧lo≤255∧(hi=-1∨lo≤hi∧hi≤255)):(repR lo hi lz x).wf=true:=by
 simp [repR,Rx.wf,Rx.wfL,fieldsB,bareB,h,hk,hb,Rx.chr,Rx.neg,Rx.rows,Rx.lo,Rx.hi,Rx.lazy]
def Ga (d n:Nat) (x:Rx) (n1:Nat):Prop:=x.wf=true∧x.deep+d≤16∧2*x.parts+1+3*n1≤3*n
def Gd (d n:Nat) (x:Rx) (n1:Nat):Prop:=x.wf=true∧x.deep+d≤16∧2*x.parts+3*n1≤3*n+3
theorem Ga.leaf {d n n1:Nat} {k:Int} {c:Str} {ng:Bool} {rs:List Row} {lo hi:Int} {lz:Bool} (hw:(Rx.mk k c ng rs lo hi lz []).wf=true) (hk:k≠5∧k≠6) (hd:d≤16) (hl:n1<n):Ga d n (.mk k c ng rs lo hi lz []) n1:=by
 refine⟨hw,?_,?_⟩
 ·simp only [Rx.deep,Rx.deepL];rw [if_neg (by omega)];omega
 ·simp only [Rx.parts,Rx.partsL];omega
theorem bounds_le {r r1:List Str} {lo hi:Int} (h:boundsM r=some (lo,hi,r1)):0≤lo∧lo≤255∧(hi=-1∨lo≤hi∧hi≤255):=by
 unfold boundsM at h;cases h1:numL 0 0 r with
 | none=>simp only [h1] at h;cases h
 | some y =>
  obtain⟨a,s1⟩:=y;have e1:=numL_le _ _ _ h1;simp only [h1] at h;cases h2:takeM [125] s1 with
  | some s2=>simp only [h2] at h;injection h with h;injection h with ha h;injection h with hb _;omega
  | none =>
   simp only [h2] at h;cases h3:takeM [44] s1 with
   | none=>simp only [h3] at h;cases h
   | some s2 =>
    simp only [h3] at h;cases h4:takeM [125] s2 with
    | some s3=>simp only [h4] at h;injection h with h;injection h with ha h;injection h with hb _;omega
    | none =>
     simp only [h4] at h;cases h5:numL 0 0 s2 with
     | none=>simp only [h5] at h;cases h
     | some y =>
      obtain⟨b,s3⟩:=y;have e3:=numL_le _ _ _ h5;simp only [h5] at h;split at h
      ·cases h6:takeM [125] s3 with
       | none=>simp only [h6] at h;cases h
       | some s4=>simp only [h6] at h;injection h with h;injection h with ha h;injection h with hb _;omega
      ·cases h
theorem quant_gd {d n n1:Nat} {x y:Rx} {r r1:List Str} (h:quantM x r=.ok (y,r1)) (hx:Ga d n x r.length) (hk:repB x.kind=true) (hn:n1=r1.length):Ga d n y n1:=by
 subst hn;have key:∀{lo hi:Int} {r2:List Str},Except.ok (lazyM x lo hi r2)=(Except.ok (y,r1):Res)→r2.length<r.length→0≤lo∧lo≤255∧(hi=-1∨lo≤hi∧hi≤255)→Ga d n y r1.length:=by
  intro lo hi r2 h hs hb;injection h with h
  obtain⟨⟨lz,h1⟩,h2⟩:=lazy_facts h;have h3:=sfx_len h2;subst h1;obtain⟨g1,g2,g3⟩:=hx;refine⟨wf_rep g1 hk hb,?_,?_⟩
  ·rw [rep_deep];exact g2
  ·unfold repR;simp only [Rx.parts,Rx.partsL];omega
 cases r with
 | nil=>simp only [quantM] at h;injection h with h;injection h with h1 h2;subst h1 h2;exact hx
 | cons c r =>
  simp only [quantM] at h;by_cases h1:c=[42]
  ·rw [if_pos h1] at h;exact key h (by simp) (by decide)
  rw [if_neg h1] at h;by_cases h2:c=[43]
  ·rw [if_pos h2] at h;exact key h (by simp) (by decide)
  rw [if_neg h2] at h;by_cases h3:c=[63]
  ·rw [if_pos h3] at h;exact key h (by simp) (by decide)
  rw [if_neg h3] at h;by_cases h4:c=[123]
  ·rw [if_pos h4] at h
   cases hb:boundsM r with
   | none=>simp only [hb] at h;cases h
   | some z =>
    obtain⟨lo,hi,r2⟩:=z;simp only [hb] at h;have:=sfx_len (bounds_sfx hb)
    exact key h (by simp;omega) (bounds_le hb)
  ·rw [if_neg h4] at h
   injection h with h;injection h with h5 h6;subst h5 h6;exact hx
theorem named_rows {c:Str} {rows:List Row} (h:namedS c=some rows):rowsB rows=true:=by
 unfold namedS at h;split at h
 ·rename_i b
  by_cases hb:namedB b=true
  ·rw [if_pos hb] at h;injection h with h;subst h
   unfold namedB at hb;simp only [Bool.or_eq_true,beq_iff_eq] at hb;rcases hb with(rfl|rfl)|rfl<;>decide
  ·rw [if_neg hb] at h;cases h
 ·cases h
theorem big_rows {c:Str} {rows:List Row} (h:bigS c=some rows):rowsB rows=true:=by
 unfold bigS at h;iterate 3 (split at h;· injection h with h;subst h;decide)
 cases h
theorem esc_gd {d:Nat} {r r1:List Str} {x:Rx} (h:escM r=.ok (x,r1)) (hp:prC r) (hd:d≤16) {n:Nat} (hn:r.length≤n):Ga d n x r1.length∧repB x.kind=true:=by
 cases r with
 | nil=>cases h
 | cons c r =>
  simp only [List.length_cons] at hn;have hc:=hp c (List.mem_cons_self ..);simp only [escM] at h;cases hn2:namedS c with
  | some rows =>
   simp only [hn2] at h;injection h with h;injection h with h1 h2;subst h1 h2
   exact⟨Ga.leaf (wf_set (named_rows hn2)) (by decide) hd (by omega),rfl⟩
  | none =>
   simp only [hn2] at h;cases hb:bigS c with
   | some rows =>
    simp only [hb] at h;injection h with h;injection h with h1 h2;subst h1 h2
    exact⟨Ga.leaf (wf_set (big_rows hb)) (by decide) hd (by omega),rfl⟩
   | none =>
    simp only [hb] at h;cases hpm:plainM c with
    | none=>simp only [hpm] at h;cases h
    | some t =>
     simp only [hpm] at h;injection h with h;injection h with h1 h2;subst h1 h2
     exact⟨Ga.leaf (wf_chr (plainM_pr hpm hc)) (by decide) hd (by omega),rfl⟩
theorem class_gd {d:Nat} {r r1:List Str} {x:Rx} (h:classM r=.ok (x,r1)) (ho:okC r) (hd:d≤16) {n:Nat} (hn:r.length≤n):Ga d n x r1.length∧repB x.kind=true:=by
 have hsx:((takeM [94] r).getD r) <:+ r:=by
  cases ht:takeM [94] r with
  | none=>exact List.suffix_refl _
  | some r2=>exact takeM_sfx ht
 unfold classM at h;generalize (takeM [94] r).isSome=ng at h
 generalize (takeM [94] r).getD r=r0 at h hsx
 simp only at h
 cases hc:classL (r0.length+1) [] r0 with
 | none=>simp only [hc] at h;cases h
 | some y =>
  obtain⟨rows,r2⟩:=y;simp only [hc] at h;injection h with h;injection h with h1 h2;subst h1 h2
  obtain⟨g1,g2,g3,g4⟩:=classL_facts _ _ _ hc (sfx_ok hsx ho) rowsOk_nil;have hl0:=sfx_len hsx;exact⟨Ga.leaf (wf_set (unionM_rows _)) (by decide) hd (by omega),rfl⟩
def PatGd (pat:List Str→Nat→Res) (N:Nat):Prop:=∀(r:List Str) (d:Nat) (x:Rx) (r1:List Str),r.length≤N→d≤16→okC r→prC r→pat r d=.ok (x,r1)→Gd d r.length x r1.length
theorem group_gd {pat:List Str→Nat→Res} {N:Nat} (hp:PatGd pat N) {r r1:List Str} {d:Nat} {x:Rx} (h:groupM pat r d=.ok (x,r1)) (ho:okC r) (hpr:prC r) (hN:r.length≤N) {n:Nat} (hn:r.length+1≤n):Ga d n x r1.length∧repB x.kind=true:=by
 unfold groupM at h;by_cases hd:16≤d
 ·rw [if_pos hd] at h;cases h
 rw [if_neg hd] at h;cases hk:groupK r with
 | none=>simp only [hk] at h;cases h
 | some y =>
  obtain⟨k,r0⟩:=y;obtain⟨k1,k2⟩:=groupK_sfx hk;simp only [hk] at h;cases hx:pat r0 (d+1) with
  | error e=>simp only [hx] at h;cases h
  | ok y =>
   obtain⟨z,r2⟩:=y;simp only [hx] at h;have hl0:=sfx_len k1;obtain⟨f1,f2,f3⟩:=hp r0 (d+1) z r2 (by omega) (by omega) (sfx_ok k1 ho) (hpr.sfx k1) hx;cases ht:takeM [41] r2 with
   | none=>simp only [ht] at h;cases h
   | some r3 =>
    simp only [ht] at h;injection h with h;injection h with h1 h2;subst h1 h2
    have e:=takeM_some ht;rw [e,List.length_cons] at f3;refine⟨⟨wf_grp k2 f1,by rw [grp_deep k2];omega,by unfold grpR;simp only [Rx.parts,Rx.partsL];omega⟩,?_⟩;rcases k2 with rfl|rfl<;>rfl
theorem atom_gd {pat:List Str→Nat→Res} {N:Nat} (hp:PatGd pat N) {r r1:List Str} {d:Nat} {x:Rx} (h:atomM pat r d=.ok (x,r1)) (ho:okC r) (hpr:prC r) (hN:r.length≤N+1) (hd:d≤16):Ga d r.length x r1.length∧repB x.kind=true:=by
 cases r with
 | nil=>cases h
 | cons c r =>
  simp only [List.length_cons] at hN ⊢;have hpt:prC r:=fun p hp=>hpr p (List.mem_cons_of_mem _ hp)
  simp only [atomM] at h;by_cases h1:c=[46]
  ·rw [if_pos h1] at h;injection h with h;injection h with ha hb;subst ha hb;exact⟨Ga.leaf (wf_K (.inl rfl)) (by decide) hd (by omega),rfl⟩
  rw [if_neg h1] at h;by_cases h2:c=[40]
  ·rw [if_pos h2] at h;exact group_gd hp h ho.tail hpt (by omega) (by omega)
  rw [if_neg h2] at h;by_cases h3:c=[91]
  ·rw [if_pos h3] at h;exact class_gd h ho.tail hd (by omega)
  rw [if_neg h3] at h;by_cases h4:c=[92]
  ·rw [if_pos h4] at h;exact esc_gd h hpt hd (by omega)
  rw [if_neg h4] at h;by_cases h5:noAtom c=true
  ·rw [if_pos h5] at h;cases h
  ·rw [if_neg h5] at h;injection h with h;injection h with ha hb;subst ha hb;exact⟨Ga.leaf (wf_chr (hpr c (List.mem_cons_self ..))) (by decide) hd (by omega),rfl⟩
theorem edge_gd {r r1:List Str} {x:Rx} {d:Nat} (hd:d≤16) (h:edgeM r=some (x,r1)):Ga d r.length x r1.length:=by
 cases r with
 | nil=>cases h
 | cons c r =>
  simp only [edgeM] at h;by_cases h1:c=[94]
  ·rw [if_pos h1] at h;injection h with h;injection h with ha hb;subst ha hb;exact Ga.leaf (wf_K (by decide)) (by decide) hd (by simp)
  rw [if_neg h1] at h;by_cases h2:c=[36]
  ·rw [if_pos h2] at h;injection h with h;injection h with ha hb;subst ha hb;exact Ga.leaf (wf_K (by decide)) (by decide) hd (by simp)
  rw [if_neg h2] at h;by_cases h3:c=[92]
  ·rw [if_pos h3] at h
   cases h4:takeM [98] r with
   | some r2 =>
    have:=sfx_len (takeM_sfx h4)
    simp only [h4] at h;injection h with h;injection h with ha hb;subst ha hb;exact Ga.leaf (wf_K (by decide)) (by decide) hd (by simp;omega)
   | none =>
    simp only [h4] at h;cases h5:takeM [66] r with
    | some r2 =>
     have:=sfx_len (takeM_sfx h5)
     simp only [h5] at h;injection h with h;injection h with ha hb;subst ha hb;exact Ga.leaf (wf_K (by decide)) (by decide) hd (by simp;omega)
    | none=>simp only [h5] at h;cases h
  ·rw [if_neg h3] at h;cases h
theorem term_gd {pat:List Str→Nat→Res} {N:Nat} (hp:PatGd pat N) {r r1:List Str} {d:Nat} {x:Rx} (h:termM pat r d=.ok (x,r1)) (ho:okC r) (hpr:prC r) (hN:r.length≤N+1) (hd:d≤16):Ga d r.length x r1.length:=by
 unfold termM at h;cases he:edgeM r with
 | some y=>simp only [he] at h;injection h with h;subst h;exact edge_gd hd he
 | none =>
  simp only [he] at h;cases ha:atomM pat r d with
  | error e=>simp only [ha] at h;cases h
  | ok y =>
   obtain⟨w,r2⟩:=y;simp only [ha] at h;obtain⟨g1,g2⟩:=atom_gd hp ha ho hpr hN hd;exact quant_gd h g1 g2 rfl
theorem wfL_app:∀(a b:List Rx),Rx.wfL (a++b)=(Rx.wfL a&&Rx.wfL b)
 | [],b=>by simp [Rx.wfL]
 | x::a,b=>by simp only [List.cons_append,Rx.wfL,wfL_app a b,Bool.and_assoc]
theorem seqR_gd {ts:List Rx} (h:InvT ts) (hw:Rx.wfL ts=true):(seqR ts).wf=true∧2*(seqR ts).parts≤2*Rx.partsL ts+ts.length+2:=by
 have hf:flatL 0 ts=ts:=flatL_id fun y hy=>(h y hy).1
 rcases ts with _|⟨x,_|⟨y,l⟩⟩
 ·exact⟨rfl,by decide⟩
 ·have e:seqR [x]=x:=by unfold seqR;rw [hf]
  rw [e];simp only [Rx.wfL,Bool.and_true] at hw;exact⟨hw,by simp only [Rx.partsL];omega⟩
 ·have e:seqR (x::y::l)=kind0 (x::y::l):=by unfold seqR;rw [hf]
  rw [e];refine⟨?_,by unfold kind0;simp only [Rx.parts,Rx.partsL,List.length_cons];omega⟩;unfold kind0;simp only [Rx.wf,hw,Bool.and_true];have ha:((x::y::l).all fun x=>decide (x.kind≠0∧x.kind≠1))=true:=List.all_eq_true.2 fun z hz=>decide_eq_true (h z hz)
  simp [fieldsB,bareB,Rx.chr,Rx.neg,Rx.rows,Rx.lo,Rx.hi,Rx.lazy]
  simpa using ha
theorem altR_gd {al:List Rx} (h:InvA al) (hw:Rx.wfL al=true) (hne:al≠[]):(altR al).wf=true∧(altR al).parts≤Rx.partsL al+(if al.length=1 then 0 else 1):=by
 have hf:flatL 1 al=al:=flatL_id h;rcases al with _|⟨x,_|⟨y,l⟩⟩
 ·exact absurd rfl hne
 ·have e:altR [x]=x:=altR_one' (h x (List.mem_cons_self ..))
  rw [e];simp only [Rx.wfL,Bool.and_true] at hw;exact⟨hw,by simp only [Rx.partsL];omega⟩
 ·have e:altR (x::y::l)=kind1 (x::y::l):=by unfold altR;rw [hf]
  rw [e];refine⟨?_,by rw [if_neg (by simp)];unfold kind1;simp only [Rx.parts,Rx.partsL];omega⟩;unfold kind1;simp only [Rx.wf,hw,Bool.and_true];have ha:((x::y::l).all fun x=>decide (x.kind≠1))=true:=List.all_eq_true.2 fun z hz=>decide_eq_true (h z hz)
  simp [fieldsB,bareB,Rx.chr,Rx.neg,Rx.rows,Rx.lo,Rx.hi,Rx.lazy]
  simpa using ha
theorem patL_gd {f:List Str→Res} {d R:Nat}:∀(k:Nat) (alts terms:List Rx) (r:List Str) {x:Rx} {r1:List Str},patL f k alts terms r=.ok (x,r1)→InvA alts→InvT terms→Rx.wfL alts=true→Rx.wfL terms=true→Rx.deepL alts+d≤16→Rx.deepL terms+d≤16 →
  2*Rx.partsL alts+2*Rx.partsL terms+terms.length+alts.length+3*r.length≤3*R →
  (∀r' y r2,r' <:+ r→f r'=.ok (y,r2)→r2 <:+ r'∧(y.kind≠0∧y.kind≠1)∧Ga d r'.length y r2.length)→Gd d R x r1.length
 | 0,_,_,_,_,_,h,_,_,_,_,_,_,_,_=>by cases h
 | k+1,alts,terms,r,x,r1,h,iA,iT,wA,wT,dA,dT,hm,ht=>by
  obtain⟨q1,q2⟩:=seqR_gd iT wT;have iA2:InvA (alts++[seqR terms]):=iA.app fun y hy=>by rw [List.mem_singleton] at hy;rw [hy];exact(seqR_kind iT).1
  have wA2:Rx.wfL (alts++[seqR terms])=true:=by rw [wfL_app,wA];simp only [Rx.wfL,q1];rfl
  have fin:Gd d R (altR (alts++[seqR terms])) r.length:=by
   obtain⟨p1,p2⟩:=altR_gd iA2 wA2 (by simp);refine⟨p1,by rw [end_deep];omega,?_⟩;rw [partsL_app] at p2;simp only [Rx.partsL,List.length_append,List.length_cons,List.length_nil] at p2;cases alts with
   | nil=>rw [if_pos (by simp)] at p2;simp only [Rx.partsL] at p2 hm;simp only [List.length_nil] at hm;omega
   | cons a l=>rw [if_neg (by simp only [List.length_cons];omega)] at p2;simp only [List.length_cons] at hm;omega
  cases r with
  | nil =>
   simp only [patL] at h;injection h with h;injection h with h1 h2;subst h1 h2;exact fin
  | cons c r =>
   simp only [patL] at h;by_cases h1:c=[41]
   ·rw [if_pos h1] at h;injection h with h;injection h with h1 h2;subst h1 h2;exact fin
   rw [if_neg h1] at h;by_cases h2:c=[124]
   ·rw [if_pos h2] at h
    refine patL_gd k _ _ r h iA2 (fun y hy=>by cases hy) wA2 rfl (by rw [deepL_app];simp only [Rx.deepL,seqR_deep];omega) (by simp only [Rx.deepL];omega) ?_ (fun r' y r2 q=>ht r' y r2 (sfx_cons q));rw [partsL_app];simp only [Rx.partsL,List.length_append,List.length_cons,List.length_nil] at hm ⊢;omega
   rw [if_neg h2] at h;cases hx:f (c::r) with
   | error e=>simp only [hx] at h;cases h
   | ok y =>
    obtain⟨w,r2⟩:=y;simp only [hx] at h;obtain⟨s1,s2,s3,s4,s5⟩:=ht _ _ _ (List.suffix_refl _) hx;refine patL_gd k _ _ r2 h iA (iT.app fun y hy=>by rw [List.mem_singleton] at hy;rw [hy];exact s2) wA (by rw [wfL_app,wT];simp only [Rx.wfL,s3];rfl) dA (by rw [deepL_app];simp only [Rx.deepL];omega) ?_ (fun r' y r3 q=>ht r' y r3 (q.trans s1));rw [partsL_app];simp only [Rx.partsL,List.length_append,List.length_cons,List.length_nil] at hm s5 ⊢;omega
theorem pat_gd:∀(n:Nat),n≤200000→PatGd (patF n) n
 | 0,_=>fun r d x r1 _ _ _ _ h=>by cases h
 | n+1,hn=>fun r d x r1 hl hd ho hp h=>by
  have ih:=pat_gd n (by omega);have h':patL (fun r=>termM (patF n) r d) (r.length+1) [] [] r=.ok (x,r1):=h;exact patL_gd (f:=fun r=>termM (patF n) r d) _ [] [] r h' (fun y hy=>by cases hy) (fun y hy=>by cases hy) rfl rfl (by simp only [Rx.deepL];omega) (by simp only [Rx.deepL];omega) (by simp [Rx.partsL])
   (fun r' y r2 hs hx=>by
    have hl':=sfx_len hs;obtain⟨t1,_⟩:=term_sfx hx (sfx_ok hs ho) (by omega);exact⟨t1,term_kind hx,term_gd ih hx (sfx_ok hs ho) (hp.sfx hs) (by omega) hd⟩)
theorem split_count:∀(n:Nat) (s:Str),s.length≤n→(splitM s).count [40]≤s.count 40
 | _,[],_=>by simp [splitM,splitF]
 | 0,_::_,h=>by simp at h
 | n+1,c::r,h=>by
  have hl:(r.dropWhile insideB).length≤r.length:=(List.dropWhile_sublist insideB).length_le;have ih:=split_count n (r.dropWhile insideB) (by simp at h;omega);have hs:(r.dropWhile insideB).count 40≤r.count 40:=(List.dropWhile_sublist insideB).count_le 40;rw [splitM_cons',List.count_cons,List.count_cons];by_cases hc:c=40
  ·subst hc;simp only [beq_self_eq_true,if_true];split<;>omega
  ·have:¬((c::r.takeWhile insideB)==[40])=true:=by
    intro e;rw [beq_iff_eq] at e;injection e with e _;exact hc e
   rw [if_neg this];omega
theorem read_may {s:Str} {x:Rx} (h:readM s=.ok x):mayB x=true∧x.groups≤s.count 40∧x.parts≤2*s.length+1:=by
 obtain⟨a1,a2,a3⟩:=readM_ok.1 h;have hl:=splitM_len s;have ho:okC (splitM s):=splitM_ok (by omega);obtain⟨f1,f2,f3,f4⟩:=pat_facts _ _ _ _ _ (by omega) a3 ho;obtain⟨g1,g2,g3⟩:=pat_gd _ (by omega) (splitM s) 0 x [] (by omega) (by omega) ho (splitM_pr _ s (Nat.le_refl _) a2) a3;have hc:=split_count _ s (Nat.le_refl _);simp only [List.length_nil,List.count_nil] at f2 f3 g3;refine⟨?_,by omega,by omega⟩;simp only [mayB,okB,Bool.and_eq_true,decide_eq_true_eq];exact⟨⟨g1,by omega⟩,by omega⟩
end Go.Proofs.YtbgcjpefocdkkaaGreat
set_option maxRecDepth 100000
namespace Go.Proofs.YtbgcjpefocdkkaaGreat
def rxZ:Rx→Bool|.mk k c ng rs lo hi lz ks=>decide (k=0)&&(c.isEmpty&&(!ng&&(rs.isEmpty&&(decide (lo=0)&&(decide (hi=0)&&(!lz&&ks.isEmpty))))))
def tfZ (f:Tf):Bool:=rxZ f.rx&&(f.fs.isEmpty&&(!f.fold&&!f.all))
def tfMay (f:Tf):Bool:=mayB f.rx&&mayFs f.fs
def nothingS (x:Sn):Bool:=!x.has&&(!x.turned&&(x.kids.isEmpty&&tfZ x.form))
def besidesS (x:Sn):Bool:=if x.has=true then(if x.turned=true then false else tfZ x.form) else if x.turned=true then x.kids.isEmpty&&tfMay x.form else nothingS x
def numberS (x:Sn):Bool:=decide (0≤x.n∧x.n≤9999)
def fieldsS (x:Sn):Bool :=
 if x.kind=0 then !x.text.isEmpty&&(decide (x.n=0)&&(x.opts.isEmpty&&nothingS x))
 else if x.kind=1 then x.text.isEmpty&&(numberS x&&(x.opts.isEmpty&&besidesS x))
 else if x.kind=2 then x.text.isEmpty&&(numberS x&&(!x.opts.isEmpty&&nothingS x))
 else if x.kind=3 then nameB x.text&&(decide (x.n=0)&&(x.opts.isEmpty&&besidesS x))
 else false
def adjS:Bool→List Sn→Bool
 | _,[]=>true
 | pt,x::r=>!(decide (x.kind=0)&&pt)&&adjS (decide (x.kind=0)) r
namespace Sn
mutual
def wf:Sn→Bool
 | mk k t n h u f o ks=>fieldsS (mk k t n h u f o ks)&&(!h||(adjS false ks&&wfL ks))
def wfL:List Sn→Bool
 | []=>true
 | x::r=>wf x&&wfL r
end
theorem wfL_app:∀a b:List Sn,wfL (a++b)=(wfL a&&wfL b)
 | [],b=>by simp [wfL]
 | x::a,b=>by simp only [List.cons_append,wfL,wfL_app a b,Bool.and_assoc]
end Sn
def maySn (l:List Sn):Bool:=adjS false l&&Sn.wfL l&&decide (Sn.deepL l≤32)
theorem adjS_app:∀(a:List Sn) (pt:Bool) (x:Sn) (b:List Sn),adjS pt a=true→x.kind≠0→adjS false b=true→adjS pt (a++x::b)=true
 | [],pt,x,b,_,hx,hb=>by simp [adjS,hx,hb]
 | y::a,pt,x,b,ha,hx,hb=>by
  simp only [adjS,Bool.and_eq_true] at ha;simp only [List.cons_append,adjS,Bool.and_eq_true];exact⟨ha.1,adjS_app a _ x b ha.2 hx hb⟩
theorem adjS_withT (t:Str):adjS false (withT [] t)=true:=by
 unfold withT;split<;>simp [adjS]
theorem tfZ_0:tfZ tf0=true:=rfl
theorem wf_text {t:Str} (h:t≠[]):(textS t).wf=true:=by
 have:t.isEmpty=false:=by cases t with|nil=>exact absurd rfl h|cons a b=>rfl
 simp [textS,Sn.wf,fieldsS,Sn.kind,Sn.text,Sn.n,Sn.opts,nothingS,Sn.has,Sn.turned,Sn.kids,Sn.form,tfZ_0,this]
theorem wfL_withT (t:Str):Sn.wfL (withT [] t)=true:=by
 unfold withT;split
 ·rfl
 ·rename_i h;simp [Sn.wfL,wf_text h]
def tl (t:Str):Nat:=if t=[] then 0 else 1
theorem partsL_withT (t:Str):Sn.partsL (withT [] t)=tl t:=by
 unfold withT tl;split<;>simp [Sn.partsL,textS,Sn.parts]
theorem deepL_withT (t:Str):Sn.deepL (withT [] t)=0:=by
 unfold withT;split<;>simp [Sn.deepL,textS,Sn.deep]
def Hd (x:Sn):Prop:=(∃n,n≤9999∧x=stopS n)∨(∃t,nameB t=true∧x=varS t)
theorem headM_hd {r:Str} {x:Sn} {s:Str} (h:headM r=some (x,s)):Hd x:=by
 unfold headM at h;split at h
 ·rename_i heq
  injection h with h;injection h with h _;exact .inl ⟨_,numR_le heq,h.symm⟩
 ·unfold nameM at h
  split at h
  ·rename_i hb
   injection h with h;injection h with h _;exact .inr ⟨_,hb,h.symm⟩
  ·cases h
theorem Hd.kind {x:Sn} (h:Hd x):x.kind≠0:=by
 rcases h with⟨n,_,rfl⟩|⟨t,_,rfl⟩
 ·exact(by decide:(1:Int)≠0)
 ·exact(by decide:(3:Int)≠0)
theorem Hd.wf {x:Sn} (h:Hd x):x.wf=true:=by
 rcases h with⟨n,hn,rfl⟩|⟨t,ht,rfl⟩
 ·simp only [stopS,Sn.wf,fieldsS,Sn.kind,Sn.text,Sn.n,Sn.opts,numberS,besidesS,nothingS,Sn.has,Sn.turned,Sn.kids,Sn.form,tfZ_0];simp;omega
 ·simp only [varS,Sn.wf,fieldsS,Sn.kind,Sn.text,Sn.n,Sn.opts,ht,besidesS,nothingS,Sn.has,Sn.turned,Sn.kids,Sn.form,tfZ_0];simp
theorem Hd.parts {x:Sn} (h:Hd x):x.parts=1:=by
 rcases h with⟨n,hn,rfl⟩|⟨t,ht,rfl⟩<;>rfl
theorem Hd.deep {x:Sn} (h:Hd x):x.deep=0:=by
 rcases h with⟨n,hn,rfl⟩|⟨t,ht,rfl⟩<;>rfl
theorem Hd.give {x:Sn} (h:Hd x) {ks:List Sn} (h1:adjS false ks=true) (h2:Sn.wfL ks=true):(x.give ks).wf=true∧(x.give ks).kind≠0∧(x.give ks).parts=1+Sn.partsL ks∧(x.give ks).deep=Sn.deepL ks+1:=by
 rcases h with⟨n,hn,rfl⟩|⟨t,ht,rfl⟩
 ·refine⟨?_,(by decide:(1:Int)≠0),rfl,rfl⟩
  simp only [stopS,Sn.give,Sn.wf,fieldsS,Sn.kind,Sn.text,Sn.n,Sn.opts,numberS,besidesS,Sn.has,Sn.turned,Sn.form,tfZ_0,h1,h2];simp;omega
 ·refine⟨?_,(by decide:(3:Int)≠0),rfl,rfl⟩
  simp only [varS,Sn.give,Sn.wf,fieldsS,Sn.kind,Sn.text,Sn.n,Sn.opts,ht,besidesS,Sn.has,Sn.turned,Sn.form,tfZ_0,h1,h2];simp
theorem Hd.turn {x:Sn} (h:Hd x) {f:Tf} (hf:tfMay f=true):(x.turn f).wf=true∧(x.turn f).kind≠0∧(x.turn f).parts=1∧(x.turn f).deep=0:=by
 rcases h with⟨n,hn,rfl⟩|⟨t,ht,rfl⟩
 ·refine⟨?_,(by decide:(1:Int)≠0),rfl,rfl⟩
  simp only [stopS,Sn.turn,Sn.wf,fieldsS,Sn.kind,Sn.text,Sn.n,Sn.opts,numberS,besidesS,Sn.has,Sn.turned,Sn.form,Sn.kids,hf];simp;omega
 ·refine⟨?_,(by decide:(3:Int)≠0),rfl,rfl⟩
  simp only [varS,Sn.turn,Sn.wf,fieldsS,Sn.kind,Sn.text,Sn.n,Sn.opts,ht,besidesS,Sn.has,Sn.turned,Sn.form,Sn.kids,hf];simp
theorem Hd.choose {x:Sn} (h:Hd x) (hk:x.kind=1) {o:List Str} (ho:o≠[]):(x.choose o).wf=true∧(x.choose o).kind≠0∧(x.choose o).parts=1∧(x.choose o).deep=0:=by
 rcases h with⟨n,hn,rfl⟩|⟨t,ht,rfl⟩
 ·refine⟨?_,(by decide:(2:Int)≠0),rfl,rfl⟩
  have:o.isEmpty=false:=by cases o with|nil=>exact absurd rfl ho|cons a b=>rfl
  simp only [stopS,Sn.choose,Sn.wf,fieldsS,Sn.kind,Sn.text,Sn.n,Sn.opts,numberS,nothingS,Sn.has,Sn.turned,Sn.form,Sn.kids,tfZ_0,this];simp;omega
 ·exact absurd hk (by decide:¬((3:Int)=1))
theorem flagT_form {x:Rx} {fs:List Fm} {r:Str} {f:Tf} {s:Str} (h:flagT x fs r=some (f,s)):f.rx=x∧f.fs=fs:=by
 unfold flagT at h;split at h
 ·cases h
 ·split at h
  ·cases h
  ·injection h with h;injection h with h _;subst h;exact⟨rfl,rfl⟩
theorem formM_may {r:Str} {f:Tf} {s:Str} (h:formM r=some (f,s)):tfMay f=true:=by
 cases r with
 | nil=>cases h
 | cons c r =>
  simp only [formM] at h;split at h
  ·split at h
   ·cases h
   ·split at h
    ·cases h
    ·rename_i hx
     split at h
     ·cases h
     ·cases h
     ·rename_i heq2
      obtain⟨h1,h2⟩:=flagT_form h;unfold tfMay;rw [h1,h2,(read_may hx).1,(readX_may heq2).1];rfl
  ·cases h
theorem optL_ne:∀(n:Nat) (r:Str) (o:List Str) (t:Str),r.length≤n→(optL r o t).1≠[]
 | _,[],o,t,_=>by simp [optL]
 | 0,_::_,_,_,h=>by simp at h
 | n+1,c::r,o,t,h=>by
  simp only [List.length_cons] at h;rw [optL_cons];split
  ·simp
  ·split
   ·exact optL_ne n r _ _ (by omega)
   ·have:=(nxtM_sfx fiveS c r).length_le
    exact optL_ne n _ _ _ (by omega)
theorem optsM_form {x:Sn} {r:Str} {y:Sn} {s:Str} (h:optsM x r=some (y,s)):∃o,o≠[]∧y=x.choose o:=by
 unfold optsM at h;split at h
 ·split at h
  ·injection h with h;injection h with h _;exact⟨_,optL_ne _ r [] [] (Nat.le_refl _),h.symm⟩
  ·cases h
 ·cases h
def cnt (s:Str):Nat:=s.count 123
theorem cnt_sfx {s r:Str} (h:s <:+ r):cnt s≤cnt r:=h.sublist.count_le _
theorem cnt_cons (c:UInt8) (r:Str):cnt r≤cnt (c::r):=cnt_sfx (List.suffix_cons c r)
def GoodX (r:Str) (x:Sn) (s:Str):Prop:=x.wf=true∧x.kind≠0∧x.parts+s.length≤r.length∧x.deep+cnt s≤cnt r
def GoodL (t r:Str) (l:List Sn) (s:Str):Prop:=adjS false l=true∧Sn.wfL l=true∧Sn.partsL l+s.length≤tl t+r.length∧Sn.deepL l+cnt s≤cnt r
theorem braced_good {ps:Str→List Sn × Str} {x y:Sn} {r s:Str} (hx:Hd x) (hps:∀t,t.length<r.length→(ps t).2 <:+ t∧GoodL [] t (ps t).1 (ps t).2) (h:bracedS ps x r=some (y,s)) :
  y.wf=true∧y.kind≠0∧y.parts+s.length≤r.length∧y.deep+cnt s≤cnt r+1:=by
 have hsf:=bracedS_sfx (fun t ht=>(hps t ht).1) h;have hc:=cnt_sfx hsf;cases r with
 | nil=>cases h
 | cons c r =>
  have hcc:=cnt_cons c r;simp only [bracedS] at h;split at h
  ·injection h with h;injection h with h h';subst h;subst h'
   exact⟨hx.wf,hx.kind,by rw [hx.parts];simp;omega,by rw [hx.deep];omega⟩
  ·split at h
   ·obtain⟨h1,g1,g2,g3,g4⟩:=hps r (by simp)
    split at h
    ·cases h
    ·rename_i d r2 heq
     rw [heq] at h1 g3 g4;injection h with h;injection h with h h';subst h;subst h'
     obtain⟨a,b,e,f⟩:=hx.give g1 g2;have:=cnt_cons d r2
     refine⟨a,b,?_,?_⟩
     ·rw [e];simp [tl] at g3 ⊢;omega
     ·rw [f];omega
   ·split at h
    ·rename_i hk
     obtain⟨o,ho,rfl⟩:=optsM_form h;obtain⟨a,b,e,f⟩:=hx.choose hk.2 ho;have:=optsM_len h
     exact⟨a,b,by rw [e];simp;omega,by rw [f];omega⟩
    ·split at h
     ·cases h
     ·rename_i f' r2 heq
      injection h with h;injection h with h h';subst h;subst h'
      obtain⟨a,b,e,f⟩:=hx.turn (formM_may heq);have:=formM_len heq
      exact⟨a,b,by rw [e];omega,by rw [f];omega⟩
theorem whole_good {r:Str} {x:Sn} {s:Str} (hps:∀t,t.length<r.length→GoodL [] t (partsS true [] [] t).1 (partsS true [] [] t).2) (h:partS r=some (x,s)):GoodX r x s:=by
 rw [partS_eq] at h;cases r with
 | nil=>cases h
 | cons c r =>
  simp only [wholeM] at h;split at h
  ·rename_i hc
   split at h
   ·cases h
   ·rename_i y r2 heq
    have h1:=headM_len heq;have h2:=cnt_sfx (headM_sfx heq);obtain⟨a,b,e,f⟩:=braced_good (headM_hd heq) (fun t ht=>⟨partsS_sfx true [] [] t,hps t (by simp;omega)⟩) h;have hc1:c=123:=UInt8.toNat_inj.1 hc;refine⟨a,b,by simp;omega,?_⟩;subst hc1;have:cnt (123::r)=cnt r+1:=by unfold cnt;simp
    omega
  ·have h1:=headM_len h
   have h2:=cnt_sfx (headM_sfx h);have hx:=headM_hd h;exact⟨hx.wf,hx.kind,by rw [hx.parts];omega,by rw [hx.deep];omega⟩
theorem tl_le (t:Str):tl t≤1:=by unfold tl;split<;>omega
theorem parts_good:∀(N:Nat),(∀r x s,r.length≤N→partS r=some (x,s)→GoodX r x s)∧(∀ins t r,r.length≤N→GoodL t r (partsS ins [] t r).1 (partsS ins [] t r).2)
 | 0=>by
  refine⟨fun r x s h hp=>?_,fun ins t r h=>?_⟩
  ·have:r=[]:=List.eq_nil_of_length_eq_zero (by omega)
   subst this;rw [partS_nil] at hp;cases hp
  ·have:r=[]:=List.eq_nil_of_length_eq_zero (by omega)
   subst this;rw [partsS_nil];exact⟨adjS_withT _,wfL_withT _,Nat.le_of_eq (by rw [partsL_withT]),Nat.le_of_eq (by rw [deepL_withT,Nat.zero_add])⟩
 | N+1=>by
  obtain⟨ih1,ih2⟩:=parts_good N;have k1:∀r x s,r.length≤N+1→partS r=some (x,s)→GoodX r x s:=fun r x s hr h=>whole_good (fun t ht=>ih2 true [] t (by omega)) h
  refine⟨k1,fun ins t r hr=>?_⟩;cases r with
  | nil=>rw [partsS_nil];exact⟨adjS_withT _,wfL_withT _,Nat.le_of_eq (by rw [partsL_withT]),Nat.le_of_eq (by rw [deepL_withT,Nat.zero_add])⟩
  | cons c r =>
   simp only [List.length_cons] at hr;rw [partsS_cons];split
   ·exact⟨adjS_withT _,wfL_withT _,Nat.le_of_eq (by rw [partsL_withT]),Nat.le_of_eq (by rw [deepL_withT,Nat.zero_add])⟩
   ·split
    ·rename_i x r2 he
     have hx:partS r=some (x,r2):=by
      unfold dolM at he;split at he
      ·exact he
      ·cases he
     obtain⟨a,b,e,f⟩:=k1 r x r2 (by omega) hx;have h1:=partS_len hx;have h2:=cnt_sfx (partsS_sfx ins [] [] r2);obtain⟨g1,g2,g3,g4⟩:=ih2 ins [] r2 (by omega);have hcc:=cnt_cons c r;have ht:=tl_le t;rw [parts_out ins r2.length (withT [] t++[x]) [] r2 (Nat.le_refl _)];refine⟨?_,?_,?_,?_⟩
     ·simp only [List.append_assoc,List.cons_append,List.nil_append];exact adjS_app _ _ _ _ (adjS_withT t) b g1
     ·simp only [Sn.wfL_app,Sn.wfL,wfL_withT,a,g2];rfl
     ·simp only [Sn.partsL_app,Sn.partsL,partsL_withT];simp [tl] at g3 ⊢;omega
     ·simp only [Sn.deepL_app,Sn.deepL,deepL_withT];omega
    ·have h1:=nxtM_sfx three c r
     have hl:=h1.length_le;have hn:=cnt_sfx h1;have hcc:=cnt_cons c r;obtain⟨g1,g2,g3,g4⟩:=ih2 ins (t++[(nxtM three (c::r)).1]) (nxtM three (c::r)).2 (by omega);refine⟨g1,g2,?_,by omega⟩;have e1:tl (t++[(nxtM three (c::r)).1])=1:=by unfold tl;simp
     rw [e1] at g3;simp;omega
theorem snip_good (r:Str):adjS false (snipL r)=true∧Sn.wfL (snipL r)=true∧Sn.partsL (snipL r)≤r.length∧Sn.deepL (snipL r)≤cnt r:=by
 obtain⟨a,b,c,d⟩:=(parts_good r.length).2 false [] r (Nat.le_refl _);rw [snipL_eq];exact⟨a,b,by simp [tl] at c;omega,by omega⟩
end Go.Proofs.YtbgcjpefocdkkaaGreat
set_option maxRecDepth 100000
namespace Go.Proofs.YtbgcjpefocdkkaaGreat
open Go.RowKit
structure SnAt (w:World) (S:Nat→Prop) (cc:List Value) (k:Int) (t:Str) (n:Int) (h u:Bool) (f:Tf) (os:List Str) (ks:List Sn) (fc:List Value) (oa:Option Addr) (oc:Nat) (ka:Option Addr) (kc:Nat):Prop where
 eq:cc=snc k t n h u fc oa os.length oc ka ks.length kc
 len:cc.length=18
 c0:cc[0]?=some (.int .i64 k)
 c1:cc[1]?=some (.string ⟨(t).toArray⟩)
 c2:cc[2]?=some (.int .i64 n)
 c3:cc[3]?=some (.bool h)
 c4:cc[4]?=some (.bool u)
 c16:cc[16]?=some (.slice oa os.length oc)
 c17:cc[17]?=some (.slice ka ks.length kc)
 cf:∀(j:Nat) v,fc[j]?=some v→cc[5+j]?=some v
 fl:fc.length=11
 fv:TfV w S fc f
 ov:SlS w S oa 1 os.length (scells os)
 kv:SnSl w S ka ks.length ks
theorem SnV.at_ {w:World} {S:Nat→Prop} {cc:List Value} {k:Int} {t:Str} {n:Int} {h u:Bool} {f:Tf} {os:List Str} {ks:List Sn} (hv:SnV w S cc (.mk k t n h u f os ks)):∃fc oa oc ka kc,SnAt w S cc k t n h u f os ks fc oa oc ka kc:=by
 have hl:=hv.len;obtain⟨fc,oa,oc,ka,kc,rfl,h0,h1,h2⟩:=hv.open_;have hf:=h0.len;refine⟨fc,oa,oc,ka,kc,rfl,hl,rfl,rfl,rfl,rfl,rfl,?_,?_,fun j v hj=>?_,hf,h0,h1,h2⟩
 ·unfold snc
  rw [List.getElem?_append_right (by simp [hf])];simp [hf]
 ·unfold snc
  rw [List.getElem?_append_right (by simp [hf])];simp [hf]
 ·have hj':=(List.getElem?_eq_some_iff.1 hj).1
  unfold snc;rw [List.getElem?_append_left (by simp;omega),List.getElem?_append_right (by simp)];simpa using hj
theorem SnAt.box {w w':World} {S:Nat→Prop} {cc:List Value} {k:Int} {t:Str} {n:Int} {h u:Bool} {f:Tf} {os:List Str} {ks:List Sn} {fc:List Value} {oa:Option Addr} {oc:Nat} {ka:Option Addr} {kc:Nat} (hA:SnAt w S cc k t n h u f os ks fc oa oc ka kc) {b:Nat} {ty:TypeId} {fr:Nat × Nat} (hb:w'.heap[b]?=some (.cells cc.toArray ty fr)) :
  w'.cell? ⟨b,0,none⟩=some (.int .i64 k)∧w'.cell? ⟨b,1,none⟩=some (.string ⟨(t).toArray⟩)∧w'.cell? ⟨b,2,none⟩=some (.int .i64 n)∧w'.cell? ⟨b,3,none⟩=some (.bool h)∧w'.cell? ⟨b,4,none⟩=some (.bool u) ∧
  w'.cell? ⟨b,16,none⟩=some (.slice oa os.length oc)∧w'.cell? ⟨b,17,none⟩=some (.slice ka ks.length kc)∧w'.rangeAt b 5 fc:=by
 refine⟨?_,?_,?_,?_,?_,?_,?_,fun j v hj=>?_⟩
 ·rw [Lib.cell_of_heap hb];simpa using hA.c0
 ·rw [Lib.cell_of_heap hb];simpa using hA.c1
 ·rw [Lib.cell_of_heap hb];simpa using hA.c2
 ·rw [Lib.cell_of_heap hb];simpa using hA.c3
 ·rw [Lib.cell_of_heap hb];simpa using hA.c4
 ·rw [Lib.cell_of_heap hb];simpa using hA.c16
 ·rw [Lib.cell_of_heap hb];simpa using hA.c17
 ·rw [Lib.cell_of_heap hb];simpa using hA.cf j v hj
def Tf.small (f:Tf):Prop:=f.rx.small∧f.rx.parts≤1000000∧f.fs.length≤1000000
mutual
def Sn.small:Sn→Prop
 | .mk _ t _ _ _ f os ks=>f.small∧os.length≤1000000∧ks.length≤1000000∧t.length≤1000000∧Sn.smallL ks
def Sn.smallL:List Sn→Prop
 | []=>True
 | x::r=>x.small∧Sn.smallL r
end
theorem Sn.small_mem:∀{l:List Sn},Sn.smallL l→∀x∈l,x.small
 | [],_,x,h=>by cases h
 | y::r,hl,x,h=>by
  simp only [Sn.smallL] at hl;rcases List.mem_cons.1 h with rfl|h
  ·exact hl.1
  ·exact Sn.small_mem hl.2 x h
theorem Sn.smallL_app:∀{a b:List Sn},Sn.smallL (a++b)↔Sn.smallL a∧Sn.smallL b
 | [],b=>by simp [Sn.smallL]
 | x::a,b=>by simp only [List.cons_append,Sn.smallL,Sn.smallL_app (a:=a)];constructor<;>intro h<;>simp_all
theorem tf0_small:tf0.small:=⟨by simp [tf0,rx0,Rx.small,Rx.small1,Rx.smallL],by decide,by decide⟩
end Go.Proofs.YtbgcjpefocdkkaaGreat
