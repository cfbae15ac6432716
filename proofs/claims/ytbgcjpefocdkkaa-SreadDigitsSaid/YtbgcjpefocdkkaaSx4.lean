/- Snippets as trees: the plain functions on them; what is read of a text. -/
import Derived.Test.YtbgcjpefocdkkaaSx1
import Derived.Test.YtbgcjpefocdkkaaSx2
import Derived.Test.YtbgcjpefocdkkaaSx3
set_option maxRecDepth 100000
namespace Go.Proofs.Ytbgcjpefocdkkaa
structure Tf where
 rx:Rx
 fs:List Fm
 fold:Bool
 all:Bool
def tf0:Tf:=⟨rx0,[],false,false⟩
inductive Sn where
 | mk (kind:Int) (text:Str) (n:Int) (has turned:Bool) (form:Tf) (opts:List Str) (kids:List Sn)
namespace Sn
def kind:Sn→Int|mk k _ _ _ _ _ _ _=>k
def text:Sn→Str|mk _ t _ _ _ _ _ _=>t
def n:Sn→Int|mk _ _ n _ _ _ _ _=>n
def has:Sn→Bool|mk _ _ _ h _ _ _ _=>h
def turned:Sn→Bool|mk _ _ _ _ t _ _ _=>t
def form:Sn→Tf|mk _ _ _ _ _ f _ _=>f
def opts:Sn→List Str|mk _ _ _ _ _ _ o _=>o
def kids:Sn→List Sn|mk _ _ _ _ _ _ _ k=>k
mutual
def parts:Sn→Nat
 | mk _ _ _ _ _ _ _ ks=>1+partsL ks
def partsL:List Sn→Nat
 | []=>0
 | x::r=>parts x+partsL r
end
mutual
def deep:Sn→Nat
 | mk _ _ _ h _ _ _ ks=>deepL ks+(if h then 1 else 0)
def deepL:List Sn→Nat
 | []=>0
 | x::r=>max (deep x) (deepL r)
end
theorem parts_pos:∀x:Sn,1≤parts x
 | mk _ _ _ _ _ _ _ ks=>by simp only [parts];omega
theorem parts_mem:∀{ks:List Sn} {x:Sn},x∈ks→parts x≤partsL ks
 | [],_,h=>by simp at h
 | y::r,x,h=>by
  simp only [partsL];rcases List.mem_cons.1 h with rfl|h
  ·omega
  ·have:=parts_mem h;omega
theorem len_parts:∀ks:List Sn,ks.length≤partsL ks
 | []=>by simp
 | x::r=>by have:=parts_pos x;have:=len_parts r;simp only [partsL,List.length_cons];omega
theorem partsL_app:∀a b:List Sn,partsL (a++b)=partsL a+partsL b
 | [],b=>by simp [partsL]
 | x::a,b=>by simp only [List.cons_append,partsL,partsL_app a b];omega
theorem deepL_app:∀a b:List Sn,deepL (a++b)=max (deepL a) (deepL b)
 | [],b=>by simp [deepL]
 | x::a,b=>by simp only [List.cons_append,deepL,deepL_app a b];omega
end Sn
def textS (t:Str):Sn:=.mk 0 t 0 false false tf0 [] []
def stopS (n:Nat):Sn:=.mk 1 [] n false false tf0 [] []
def varS (t:Str):Sn:=.mk 3 t 0 false false tf0 [] []
def Sn.give:Sn→List Sn→Sn|.mk k t n _ u f o _,ks=>.mk k t n true u f o ks
def Sn.turn:Sn→Tf→Sn|.mk k t n h _ _ o ks,f=>.mk k t n h true f o ks
def Sn.choose:Sn→List Str→Sn|.mk _ t n h u f _ ks,o=>.mk 2 t n h u f o ks
def nameC (c:UInt8):Bool:=decide (97≤c.toNat∧c.toNat≤122)||decide (65≤c.toNat∧c.toNat≤90)||decide (48≤c.toNat∧c.toNat≤57)||decide (c.toNat=95)
def nameB:Str→Bool
 | []=>false
 | c::r=>decide ((c::r).length≤64)&&(c::r).all nameC&&decide (57<c.toNat)
def three:Str:=[36,125,92]
def fiveS:Str:=[36,125,92,44,124]
def nxtM (these:Str):Str→UInt8 × Str
 | []=>(0,[])
 | [c]=>(c,[])
 | c::d::r=>if c.toNat=92∧these.contains d=true then(d,r) else(c,d::r)
theorem nxtM_len (these:Str) (c:UInt8) (r:Str):(nxtM these (c::r)).2.length≤r.length:=by
 cases r with
 | nil=>simp [nxtM]
 | cons d r=>simp only [nxtM];split<;>simp
def rxSp:Str→Str→Str × Str
 | [],a=>(a,[])
 | [c],a=>if c.toNat=47 then(a,[c]) else(a++[c],[])
 | c::d::r,a=>if c.toNat=47 then(a,c::d::r) else if c.toNat=92 then rxSp r (if d.toNat=47 then a++[d] else a++[92,d]) else rxSp (d::r) (a++[c])
def flagsM (fl:Str):Option (Bool × Bool) :=
 if fl=[] then some (false,false) else if fl=[103] then some (true,false) else if fl=[105] then some (false,true) else if fl=[103,105]∨fl=[105,103] then some (true,true) else none
def flagT (x:Rx) (fs:List Fm) (r:Str):Option (Tf × Str):=match r.dropWhile ne125 with
 | []=>none
 | _::r2=>match flagsM (r.takeWhile ne125) with
  | none=>none
  | some (a,f)=>some (⟨x,fs,f,a⟩,r2)
def formM:Str→Option (Tf × Str)
 | []=>none
 | c::r=>if c.toNat=47 then(match (rxSp r []).2 with
  | []=>none
  | _::r3=>match readM (rxSp r []).1 with
   | .error _=>none
   | .ok x=>match readX r3 [] [] with
    | none=>none
    | some (_,[])=>none
    | some (fs,_::r5)=>flagT x fs r5) else none
def nameM (r:Str):Option (Sn × Str):=if nameB (r.takeWhile nameC)=true then some (varS (r.takeWhile nameC),r.dropWhile nameC) else none
def headM (r:Str):Option (Sn × Str):=match numRF r with
 | some (n,r2)=>some (stopS n,r2)
 | none=>nameM r
def optL:Str→List Str→Str→List Str × Str
 | [],o,t=>(o++[t],[])
 | [c],o,t=>if c.toNat=124 then(o++[t],[c]) else if c.toNat=44 then(o++[t]++[[]],[]) else(o++[t++[c]],[])
 | c::d::r,o,t=>if c.toNat=124 then(o++[t],c::d::r) else if c.toNat=44 then optL (d::r) (o++[t]) []
  else if c.toNat=92∧fiveS.contains d=true then optL r o (t++[d]) else optL (d::r) o (t++[c])
def optsM (x:Sn) (r:Str):Option (Sn × Str):=match (optL r [] []).2 with
 | c::d::r2=>if c.toNat=124∧d.toNat=125 then some (x.choose (optL r [] []).1,r2) else none
 | _=>none
def bracedS (ps:Str→List Sn × Str) (x:Sn) (r:Str):Option (Sn × Str):=match r with
 | []=>none
 | c::r1=>if c.toNat=125 then some (x,r1)
  else if c.toNat=58 then(match (ps r1).2 with|[]=>none|_::r2=>some (x.give (ps r1).1,r2))
  else if c.toNat=124∧x.kind=1 then optsM x r1
  else match formM (c::r1) with|none=>none|some (f,r2)=>some (x.turn f,r2)
def wholeM (ps:Str→List Sn × Str) (r:Str):Option (Sn × Str):=match r with
 | []=>none
 | c::r1=>if c.toNat=123 then(match headM r1 with|none=>none|some (x,r2)=>bracedS ps x r2) else headM (c::r1)
def withT (l:List Sn) (t:Str):List Sn:=if t=[] then l else l++[textS t]
def dolM (pt:Str→Option (Sn × Str)) (c:UInt8) (r:Str):Option (Sn × Str):=if c.toNat=36 then pt r else none
def partsG (pt:Str→Option (Sn × Str)) (inside:Bool):Nat→List Sn→Str→Str→List Sn × Str
 | 0,out,text,r=>(withT out text,r)
 | _+1,out,text,[]=>(withT out text,[])
 | k+1,out,text,c::r=>if inside=true∧c.toNat=125 then(withT out text,c::r)
  else match dolM pt c r with
  | some (x,r2)=>partsG pt inside k (withT out text++[x]) [] r2
  | none=>partsG pt inside k out (text++[(nxtM three (c::r)).1]) (nxtM three (c::r)).2
def partF:Nat→Str→Option (Sn × Str)
 | 0,_=>none
 | n+1,r=>wholeM (fun r=>partsG (partF n) true (r.length+1) [] [] r) r
def snipL (r:Str):List Sn:=(partsG (partF (r.length+1)) false (r.length+1) [] [] r).1
def snipM (s:Str):Except Int (List Sn):=if 8192<s.length then .error 4 else if 32<Sn.deepL (snipL s) then .error 8 else .ok (snipL s)
end Go.Proofs.Ytbgcjpefocdkkaa
set_option maxRecDepth 100000
namespace Go.Proofs.Ytbgcjpefocdkkaa
theorem nameM_len {r:Str} {x:Sn} {s:Str} (h:nameM r=some (x,s)):s.length<r.length:=by
 unfold nameM at h;split at h
 ·rename_i hb
  injection h with h;injection h with _ h;subst h
  have h1:=congrArg List.length (List.takeWhile_append_dropWhile (p:=nameC) (l:=r));rw [List.length_append] at h1;cases hn:r.takeWhile nameC with
  | nil=>rw [hn] at hb;cases hb
  | cons a b=>rw [hn] at h1;simp at h1;omega
 ·cases h
theorem headM_len {r:Str} {x:Sn} {s:Str} (h:headM r=some (x,s)):s.length<r.length:=by
 unfold headM at h;split at h
 ·rename_i heq
  injection h with h;injection h with _ h;subst h;exact numR_len heq
 ·exact nameM_len h
theorem rxSp_len:∀(r a:Str),(rxSp r a).2.length≤r.length
 | [],a=>by simp [rxSp]
 | [c],a=>by simp only [rxSp];split<;>simp
 | c::d::r,a=>by
  simp only [rxSp];split
  ·simp
  ·split
   ·have:=rxSp_len r (if d.toNat=47 then a++[d] else a++[92,d]);simp;omega
   ·have:=rxSp_len (d::r) (a++[c]);simp at this ⊢;omega
theorem readN_len:∀(k:Nat) (r tx:Str) (fs:List Fm) {gs:List Fm} {s:Str},readN k r tx fs=some (gs,s)→s.length≤r.length∧∃c s',s=c::s'∧c.toNat=47
 | 0,_,_,_,_,_,h=>by cases h
 | _+1,[],_,_,_,_,h=>by cases h
 | k+1,c::r,tx,fs,gs,s,h=>by
  simp only [readN] at h;split at h
  ·rename_i hc
   injection h with h;injection h with _ h;subst h;exact⟨Nat.le_refl _,_,_,rfl,hc⟩
  ·split at h
   ·split at h
    ·rename_i p hp
     obtain⟨f,s'⟩:=p;have h1:=partR_len hp;obtain⟨h2,h3⟩:=readN_len k _ _ _ h;exact⟨by simp at *;omega,h3⟩
    ·obtain⟨h2,h3⟩:=readN_len k _ _ _ h
     exact⟨by simp;omega,h3⟩
   ·split at h
    ·obtain⟨h2,h3⟩:=readN_len k _ _ _ h
     exact⟨by simp at h2 ⊢;omega,h3⟩
    ·obtain⟨h2,h3⟩:=readN_len k _ _ _ h
     exact⟨by simp;omega,h3⟩
theorem flagT_len {x:Rx} {fs:List Fm} {r:Str} {f:Tf} {s:Str} (h:flagT x fs r=some (f,s)):s.length<r.length:=by
 unfold flagT at h;have h1:=congrArg List.length (List.takeWhile_append_dropWhile (p:=ne125) (l:=r));rw [List.length_append] at h1;split at h
 ·cases h
 ·rename_i heq
  rw [heq] at h1;simp at h1;split at h
  ·cases h
  ·injection h with h;injection h with _ h;subst h;omega
theorem formM_len {r:Str} {f:Tf} {s:Str} (h:formM r=some (f,s)):s.length<r.length:=by
 cases r with
 | nil=>cases h
 | cons c r =>
  simp only [formM] at h;have h1:=rxSp_len r [];split at h
  ·split at h
   ·cases h
   ·rename_i heq
    rw [heq] at h1;split at h
    ·cases h
    ·split at h
     ·cases h
     ·cases h
     ·rename_i heq2
      have h2:=(readN_len _ _ _ _ heq2).1;have h3:=flagT_len h;simp at *;omega
  ·cases h
theorem optL_len:∀(r:Str) (o:List Str) (t:Str),(optL r o t).2.length≤r.length
 | [],o,t=>by simp [optL]
 | [c],o,t=>by simp only [optL];split<;>(try split)<;>simp
 | c::d::r,o,t=>by
  simp only [optL];split
  ·simp
  ·split
   ·have:=optL_len (d::r) (o++[t]) [];simp at this ⊢;omega
   ·split
    ·have:=optL_len r o (t++[d]);simp;omega
    ·have:=optL_len (d::r) o (t++[c]);simp at this ⊢;omega
theorem optsM_len {x:Sn} {r:Str} {y:Sn} {s:Str} (h:optsM x r=some (y,s)):s.length<r.length:=by
 have h1:=optL_len r [] [];unfold optsM at h;split at h
 ·rename_i heq
  rw [heq] at h1;split at h
  ·injection h with h;injection h with _ h;subst h;simp at h1;omega
  ·cases h
 ·cases h
theorem bracedS_len {ps:Str→List Sn × Str} {x y:Sn} {r s:Str} (hps:∀t,t.length<r.length→(ps t).2.length≤t.length) (h:bracedS ps x r=some (y,s)):s.length<r.length:=by
 cases r with
 | nil=>cases h
 | cons c r =>
  simp only [bracedS] at h;split at h
  ·injection h with h;injection h with _ h;subst h;simp
  ·split at h
   ·have h1:=hps r (by simp)
    split at h
    ·cases h
    ·rename_i heq
     rw [heq] at h1;injection h with h;injection h with _ h;subst h;simp at *;omega
   ·split at h
    ·have:=optsM_len h;simp;omega
    ·split at h
     ·cases h
     ·rename_i heq
      have:=formM_len heq
      injection h with h;injection h with _ h;subst h;exact this
theorem wholeM_len {ps:Str→List Sn × Str} {y:Sn} {r s:Str} (hps:∀t,t.length<r.length→(ps t).2.length≤t.length) (h:wholeM ps r=some (y,s)):s.length<r.length:=by
 cases r with
 | nil=>cases h
 | cons c r =>
  simp only [wholeM] at h;split at h
  ·split at h
   ·cases h
   ·rename_i heq
    have h1:=headM_len heq;have h2:=bracedS_len (fun t ht=>hps t (by simp;omega)) h;simp;omega
  ·exact headM_len h
theorem partsG_len {pt:Str→Option (Sn × Str)} {ins:Bool}:∀(k:Nat) (out:List Sn) (text r:Str),(∀t x s,t.length<r.length→pt t=some (x,s)→s.length<t.length)→(partsG pt ins k out text r).2.length≤r.length
 | 0,out,text,r,_=>Nat.le_refl _
 | _+1,out,text,[],_=>Nat.le_refl _
 | k+1,out,text,c::r,hpt=>by
  simp only [partsG];split
  ·simp
  ·split
   ·rename_i x r2 heq
    have hl:r2.length<r.length:=by
     unfold dolM at heq;split at heq
     ·exact hpt r x r2 (by simp) heq
     ·cases heq
    have:=partsG_len (ins:=ins) k (withT out text++[x]) [] r2 (fun t x s ht=>hpt t x s (by simp;omega))
    simp;omega
   ·have hl:=nxtM_len three c r
    have:=partsG_len (ins:=ins) k out (text++[(nxtM three (c::r)).1]) (nxtM three (c::r)).2 (fun t x s ht=>hpt t x s (by simp;omega))
    simp;omega
theorem partF_len:∀(n:Nat) (r:Str) {x:Sn} {s:Str},partF n r=some (x,s)→s.length<r.length
 | 0,r,x,s,h=>by cases h
 | n+1,r,x,s,h=>wholeM_len (fun t _=>partsG_len _ _ _ _ fun t x s _ ht=>partF_len n t ht) h
theorem bracedS_congr {ps qs:Str→List Sn × Str} (x:Sn) {r:Str} (h:∀t,t.length<r.length→ps t=qs t):bracedS ps x r=bracedS qs x r:=by
 cases r with
 | nil=>rfl
 | cons c r=>simp only [bracedS,h r (by simp)]
theorem wholeM_congr {ps qs:Str→List Sn × Str} {r:Str} (h:∀t,t.length<r.length→ps t=qs t):wholeM ps r=wholeM qs r:=by
 cases r with
 | nil=>rfl
 | cons c r =>
  simp only [wholeM];split
  ·split
   ·rfl
   ·rename_i heq
    have:=headM_len heq
    exact bracedS_congr _ fun t ht=>h t (by simp;omega)
  ·rfl
theorem partsG_congr {pt qt:Str→Option (Sn × Str)} {ins:Bool}:∀(k k':Nat) (out:List Sn) (text r:Str),r.length<k→r.length<k'→(∀t,t.length<r.length→pt t=qt t)→(∀t x s,t.length<r.length→pt t=some (x,s)→s.length<t.length) →
  partsG pt ins k out text r=partsG qt ins k' out text r
 | 0,_,_,_,_,h,_,_,_=>by omega
 | _+1,0,_,_,_,_,h,_,_=>by omega
 | _+1,_+1,out,text,[],_,_,_,_=>rfl
 | k+1,k'+1,out,text,c::r,h,h',heq,hl=>by
  simp only [List.length_cons] at h h' heq hl;have e:dolM pt c r=dolM qt c r:=by unfold dolM;rw [heq r (by omega)]
  simp only [partsG];rw [←e];split
  ·rfl
  ·split
   ·rename_i x r2 he
    have hr:r2.length<r.length:=by
     unfold dolM at he;split at he
     ·exact hl r x r2 (by simp) he
     ·cases he
    exact partsG_congr k k' _ _ _ (by omega) (by omega) (fun t ht=>heq t (by omega)) (fun t x s ht=>hl t x s (by omega))
   ·have hr:=nxtM_len three c r
    exact partsG_congr k k' _ _ _ (by omega) (by omega) (fun t ht=>heq t (by omega)) (fun t x s ht=>hl t x s (by omega))
theorem partF_fuel:∀(N:Nat) (n n':Nat) (r:Str),r.length≤N→r.length<n→r.length<n'→partF n r=partF n' r
 | N,0,_,_,_,h,_=>by omega
 | N,_+1,0,_,_,_,h=>by omega
 | 0,n+1,n'+1,r,hN,h,h'=>by
  have:r=[]:=List.eq_nil_of_length_eq_zero (by omega)
  subst this;rfl
 | N+1,n+1,n'+1,r,hN,h,h'=>by
  simp only [partF];refine wholeM_congr fun t ht=>?_
  exact partsG_congr _ _ _ _ _ (by omega) (by omega) (fun t2 ht2=>partF_fuel N n n' t2 (by omega) (by omega) (by omega)) (fun t2 x s _ h2=>partF_len n t2 h2)
def partS (r:Str):Option (Sn × Str):=partF (r.length+1) r
def partsS (ins:Bool) (out:List Sn) (text r:Str):List Sn × Str:=partsG partS ins (r.length+1) out text r
theorem partS_len {r:Str} {x:Sn} {s:Str} (h:partS r=some (x,s)):s.length<r.length:=partF_len _ r h
theorem partS_eq (r:Str):partS r=wholeM (partsS true [] []) r:=by
 unfold partS;simp only [partF];refine wholeM_congr fun t ht=>?_
 exact partsG_congr _ _ _ _ _ (by omega) (by omega) (fun t2 ht2=>partF_fuel r.length _ _ t2 (by omega) (by omega) (by omega)) (fun t2 x s _ h2=>partF_len _ t2 h2)
theorem partsS_nil (ins:Bool) (out:List Sn) (text:Str):partsS ins out text []=(withT out text,[]):=rfl
theorem partsS_cons (ins:Bool) (out:List Sn) (text:Str) (c:UInt8) (r:Str):partsS ins out text (c::r) =
  if ins=true∧c.toNat=125 then(withT out text,c::r)
  else match dolM partS c r with
  | some (x,r2)=>partsS ins (withT out text++[x]) [] r2
  | none=>partsS ins out (text++[(nxtM three (c::r)).1]) (nxtM three (c::r)).2:=by
 unfold partsS;have e:(c::r).length=r.length+1:=rfl;rw [e];simp only [partsG];by_cases hc:ins=true∧c.toNat=125
 ·rw [if_pos hc,if_pos hc]
 ·rw [if_neg hc,if_neg hc]
  cases he:dolM partS c r with
  | some y =>
   obtain⟨x,r2⟩:=y;simp only
   have hr:r2.length<r.length:=by
    unfold dolM at he;split at he
    ·exact partS_len he
    ·cases he
   exact partsG_congr _ _ _ _ _ (by omega) (by omega) (fun _ _=>rfl) (fun t x s _ h=>partS_len h)
  | none =>
   simp only
   have hr:=nxtM_len three c r;exact partsG_congr _ _ _ _ _ (by omega) (by omega) (fun _ _=>rfl) (fun t x s _ h=>partS_len h)
theorem snipL_eq (r:Str):snipL r=(partsS false [] [] r).1:=by
 unfold snipL partsS;exact congrArg Prod.fst (partsG_congr _ _ _ _ _ (by omega) (by omega) (fun t ht=>partF_fuel r.length _ _ t (by omega) (by omega) (by omega)) (fun t x s _ h=>partF_len _ t h))
end Go.Proofs.Ytbgcjpefocdkkaa
set_option maxRecDepth 100000
namespace Go.Proofs.Ytbgcjpefocdkkaa
open Go.RowKit
def RdT (T:TypeId) (x:List Value) (w:World) (g:Nat) (r:List Str):Prop :=
 ∃(a:Option Addr) (c:Nat) (l:List Str) (i:Nat),w.heap[g]?=some (.cells (.slice a l.length c::.int .i64 i::x).toArray T (0,0))∧SlS w (fun b=>b<g) a 1 l.length (scells l)∧l.length≤200000∧i≤l.length ∧
  (∀p∈l,p≠[]∧p.length≤1000000)∧l.drop i=r
def hdS:List Str→Str|[]=>[]|c::_=>c
theorem RdT.cells {T:TypeId} {x:List Value} {w:World} {g:Nat} {r:List Str} (h:RdT T x w g r):∃a c l i,w.cell? ⟨g,0,none⟩=some (.slice a (l:List Str).length c)∧w.cell? ⟨g,1,none⟩=some (.int .i64 (i:Nat)) ∧
  (∀j,j<2+x.length→w.frozen? ⟨g,j,none⟩=false)∧SlS w (fun b=>b<g) a 1 l.length (scells l)∧l.length≤200000∧i≤l.length∧(∀p∈l,p≠[]∧p.length≤1000000)∧l.drop i=r∧g<w.heap.size:=by
 obtain⟨a,c,l,i,h1,h2,h3,h4,h5,h6⟩:=h;refine⟨a,c,l,i,?_,?_,?_,h2,h3,h4,h5,h6,heap_lt h1⟩
 ·rw [Lib.cell_of_heap h1];rfl
 ·rw [Lib.cell_of_heap h1];rfl
 ·intro j hj;unfold World.frozen?;rw [h1];rfl
theorem RdT.cell2 {T:TypeId} {u:Value} {w:World} {g:Nat} {r:List Str} (h:RdT T [u] w g r):w.cell? ⟨g,2,none⟩=some u:=by
 obtain⟨a,c,l,i,h1,_⟩:=h;rw [Lib.cell_of_heap h1];rfl
theorem RdT.lt {T:TypeId} {x:List Value} {w:World} {g:Nat} {r:List Str} (h:RdT T x w g r):g<w.heap.size:=by
 obtain⟨a,c,l,i,h1,_⟩:=h;exact heap_lt h1
def Still (w w':World):Prop:=w'.heap=w.heap∧w'.os=w.os∧w'.tape=w.tape∧w'.output=w.output
theorem Still.drewN (w:World) (n:Nat):Still w (w.drewN n):=⟨rfl,rfl,rfl,rfl⟩
theorem Still.trans {a b c:World} (h1:Still a b) (h2:Still b c):Still a c:=⟨h2.1.trans h1.1,h2.2.1.trans h1.2.1,h2.2.2.1.trans h1.2.2.1,h2.2.2.2.trans h1.2.2.2⟩
theorem Still.below {w w':World} (h:Still w w') (B:Nat):Below B w w':=⟨h.2.1,h.2.2.1,h.2.2.2,by rw [h.1];exact Nat.le_refl _,fun _ _=>by rw [h.1]⟩
theorem Still.size {w w':World} (h:Still w w'):w'.heap.size=w.heap.size:=by rw [h.1]
theorem Still.grown {w w':World} (h:Still w w') (g:Option Nat):w.grownBy w' g:=⟨h.2.1,h.2.2.1,h.2.2.2,by rw [h.1];exact Nat.le_refl _,fun _ _ _=>by rw [h.1]⟩
theorem RdT.later {T:TypeId} {x:List Value} {w w':World} {g:Nat} {r:List Str} (hr:RdT T x w g r) (h:Below w.heap.size w w'):RdT T x w' g r:=by
 obtain⟨a,c,l,i,h1,h2,h3⟩:=hr;exact⟨a,c,l,i,(h.block g (heap_lt h1)).trans h1,h2.keep ⟨h.size,fun b _ hlt=>h.block b hlt⟩,h3⟩
theorem Still.rd {T:TypeId} {x:List Value} {w w':World} (h:Still w w') {g:Nat} {r:List Str} (hr:RdT T x w g r):RdT T x w' g r:=hr.later (h.below _)
abbrev Rd (w:World) (g:Nat) (r:List Str) (d:Nat):Prop:=RdT 108 [.int .i64 d] w g r
theorem ldrop_none {α:Type} {l:List α} {i:Nat} (h:l.drop i=[]):l.length≤i:=by simpa using h
theorem RdT.pos {T:TypeId} {x:List Value} {w:World} {g:Nat} {c:Str} {r:List Str} (h:RdT T x w g (c::r)):c≠[]∧c.length≤1000000:=by
 obtain⟨a,k,l,i,_,_,_,_,h5,h6⟩:=h;have:=(ldrop_cons h6).2.1
 exact h5 c (List.mem_of_getElem? this)
set_option maxHeartbeats 400000 in
theorem see_any {T:TypeId} {x:List Value} {g:Nat} {r:List Str} (w:World) (h:RdT T x w g r) :
  Calls Try.prog 57 #[.pointer (some ⟨g,0,none⟩)] w fun e w'=>e=.returned (.string ⟨(hdS r).toArray⟩)∧Still w w':=by
 obtain⟨a,c,l,i,c0,c1,hf,hs,hl,hi,hp,hd,hg⟩:=h.cells;clear h hf;cases r with
 | nil =>
  have h2:l.length≤i:=ldrop_none hd;show Calls Try.prog 57 #[.pointer (some ⟨g,0,none⟩)] w fun e w'=>e=.returned (.string ⟨(([]:Str)).toArray⟩)∧Still w w'
  clear hd hs;go_enter Try.func57,Try.ntmps57
  go_wp2
  go_quiet (fail)
  go_wp2
  go_ret
  exact⟨rfl,Still.drewN _ _⟩
 | cons p r =>
  obtain⟨h2,hx,_⟩:=ldrop_cons hd;obtain⟨b,o,rfl,hb,k0⟩:=hs.sl.str hx;show Calls Try.prog 57 #[.pointer (some ⟨g,0,none⟩)] w fun e w'=>e=.returned (.string ⟨(p).toArray⟩)∧Still w w'
  clear hx hs hd;go_enter Try.func57,Try.ntmps57
  go_wp2
  go_quiet (fail)
  go_wp2
  obtain⟨w1,hw1⟩:∃w1,w1=w.drewN nq:=⟨_,rfl⟩;have hbq:Below w.heap.size w w1:=by rw [hw1];exact below_drewN (Below.refl _ _) _
  rw [←hw1];have e0:=cell_kept hbq _ _ c0;have e1:=cell_kept hbq _ _ c1;have e2:=cell_kept hbq _ _ k0;have HW:=Lib.hid hw1;clear c0 c1 k0 hw1;go_quiet (fail)
  go_wp2
  go_ret
  refine⟨rfl,?_⟩;rw [HW.out];exact(Still.drewN _ _).trans (Still.drewN _ _)
end Go.Proofs.Ytbgcjpefocdkkaa
namespace Go.Proofs.Ytbgcjpefocdkkaa
open Go.RowKit
theorem heap_set_at {w:World} {g:Nat} {y z u:Value} {x:List Value} {t:TypeId} (h:w.heap[g]?=some (.cells (y::z::x).toArray t (0,0))):(w.setCell ⟨g,1,none⟩ u).heap[g]?=some (.cells (y::u::x).toArray t (0,0)):=by
 simp [World.setCell,Array.getElem?_modify,h]
theorem RdT.setAt {T:TypeId} {x:List Value} {w:World} {g:Nat} {r r':List Str} {a:Option Addr} {c:Nat} {l:List Str} (h:RdT T x w g r)
  (h0:w.cell? ⟨g,0,none⟩=some (.slice a l.length c)) (h2:SlS w (fun b=>b<g) a 1 l.length (scells l)) (h3:l.length≤200000) (h5:∀p∈l,p≠[]∧p.length≤1000000) (j:Nat) (hj:j≤l.length) (hd:l.drop j=r') :
  RdT T x (w.setCell ⟨g,1,none⟩ (.int .i64 j)) g r':=by
 obtain⟨a',c',l',i',h1,_⟩:=h;rw [Lib.cell_of_heap h1] at h0;have e:(Value.slice a' l'.length c')=.slice a l.length c:=by simpa using h0
 rw [e] at h1;exact⟨a,c,l,j,heap_set_at h1,h2.keep (Kept.setLow _ fun b hb=>Nat.ne_of_lt hb),h3,hj,h5,hd⟩
theorem drop_two {l r:List Str} {i:Nat} {c:Str} (h:l.drop i=c::r):i+1≤l.length∧l.drop (i+1)=r:=⟨(ldrop_cons h).1,(ldrop_cons h).2.2⟩
theorem RdT.step {T:TypeId} {x:List Value} {w:World} {g:Nat} {c:Str} {r:List Str} (h:RdT T x w g (c::r)):∃i:Nat,i<1000000∧w.cell? ⟨g,1,none⟩=some (.int .i64 i)∧w.frozen? ⟨g,1,none⟩=false∧RdT T x (w.setCell ⟨g,1,none⟩ (.int .i64 ((i:Int)+1))) g r:=by
 obtain⟨a,k,l,i,c0,c1,hf,hs,hl,hi,hp,hd,hg⟩:=h.cells;obtain⟨h1,h2⟩:=drop_two hd;exact⟨i,by omega,c1,hf 1 (by omega),h.setAt (l:=l) c0 hs hl hp (i+1) h1 h2⟩
theorem RdT.step2 {T:TypeId} {x:List Value} {w:World} {g:Nat} {c c2:Str} {r:List Str} (h:RdT T x w g (c::c2::r)):∃i:Nat,i<1000000∧w.cell? ⟨g,1,none⟩=some (.int .i64 i)∧w.frozen? ⟨g,1,none⟩=false∧RdT T x (w.setCell ⟨g,1,none⟩ (.int .i64 ((i:Int)+2))) g r:=by
 obtain⟨a,k,l,i,c0,c1,hf,hs,hl,hi,hp,hd,hg⟩:=h.cells;obtain⟨h1,h2⟩:=drop_two hd;obtain⟨h3,h4⟩:=drop_two h2;exact⟨i,by omega,c1,hf 1 (by omega),h.setAt (l:=l) c0 hs hl hp (i+2) h3 h4⟩
theorem grown_still {w w1 w2:World} {g:Option Nat} (h1:Still w w1) (h2:w1.grownBy w2 g):w.grownBy w2 g:=grown_trans (h1.grown g) h2
set_option maxHeartbeats 400000 in
theorem take_yes {T:TypeId} {x:List Value} {g:Nat} {r:List Str} (c:Str) (w:World) (h:RdT T x w g (c::r)) :
  Calls Try.prog 79 #[.pointer (some ⟨g,0,none⟩),.string ⟨(c).toArray⟩] w fun e w'=>e=.returned (.bool true)∧RdT T x w' g r∧w.grownBy w' (some g):=by
 have HS:=Lib.hid (see_any w h);have HR:=Lib.hid h;clear h;go_enter Try.func79,Try.ntmps79
 go_wp2_with (go_at_call 57;refine HS.out.mono ?_)
 rintro e w1 ⟨rfl,hst⟩;obtain⟨i,hi,c1,hf,hr⟩:=(hst.rd HR.out).step;have HR1:=Lib.hid hr;clear hr;unfold hdS;go_wp2
 go_ret
 exact⟨rfl,HR1.out,grown_still hst (grown_set (grown_refl _ _) _ _)⟩
theorem take_no {T:TypeId} {x:List Value} {g:Nat} {r:List Str} (c:Str) (w:World) (h:RdT T x w g r) (hc:takeM c r=none) (hc0:c≠[]) :
  Calls Try.prog 79 #[.pointer (some ⟨g,0,none⟩),.string ⟨(c).toArray⟩] w fun e w'=>e=.returned (.bool false)∧Still w w':=by
 have HS:=Lib.hid (see_any w h);obtain⟨u,hu⟩:∃u,hdS r=u:=⟨_,rfl⟩;have hne:u≠c:=by
  rw [←hu];cases r with
  | nil=>exact fun e=>hc0 e.symm
  | cons p r=>intro e;simp only [hdS] at e;rw [takeM,if_pos e] at hc;cases hc
 have h1:(u==c)=false:=beq_eq_false_iff_ne.2 hne;have h2:(u != c)=true:=by simp [bne,h1]
 rw [hu] at HS;clear h hc hc0 hu;go_enter Try.func79,Try.ntmps79
 go_wp2_with (go_at_call 57;refine HS.out.mono ?_)
 rintro e w1 ⟨rfl,hst⟩;go_wp2
 go_ret
 exact⟨rfl,hst⟩
set_option maxHeartbeats 400000 in
theorem next_nil {T:TypeId} {x:List Value} {g:Nat} (w:World) (h:RdT T x w g []) :
  Calls Try.prog 74 #[.pointer (some ⟨g,0,none⟩)] w fun e w'=>e=.returned (.string ⟨(([]:Str)).toArray⟩)∧Still w w':=by
 have HS:=Lib.hid (see_any w h);clear h;go_enter Try.func74,Try.ntmps74
 go_wp2_with (go_at_call 57;refine HS.out.mono ?_)
 rintro e w1 ⟨rfl,hst⟩;unfold hdS;go_wp2
 go_ret
 exact⟨rfl,hst⟩
set_option maxHeartbeats 400000 in
theorem next_cons {T:TypeId} {x:List Value} {g:Nat} {c:Str} {r:List Str} (w:World) (h:RdT T x w g (c::r)) :
  Calls Try.prog 74 #[.pointer (some ⟨g,0,none⟩)] w fun e w'=>e=.returned (.string ⟨(c).toArray⟩)∧RdT T x w' g r∧w.grownBy w' (some g):=by
 have HS:=Lib.hid (see_any w h);have hc:=h.pos.1;have HR:=Lib.hid h;cases c with
 | nil=>exact absurd rfl hc
 | cons b c =>
  clear h hc;go_enter Try.func74,Try.ntmps74
  go_wp2_with (go_at_call 57;refine HS.out.mono ?_)
  rintro e w1 ⟨rfl,hst⟩;obtain⟨i,hi,c1,hf,hr⟩:=(hst.rd HR.out).step;have HR1:=Lib.hid hr;clear hr;unfold hdS;go_wp2
  go_ret
  exact⟨rfl,HR1.out,grown_still hst (grown_set (grown_refl _ _) _ _)⟩
end Go.Proofs.Ytbgcjpefocdkkaa
set_option maxRecDepth 100000
namespace Go.Proofs.Ytbgcjpefocdkkaa
open Go.RowKit
def PlainPost (c:Str) (w:World) (e:Ending) (w':World):Prop:=w=w'∧match plainM c with
 | some t=>e=.returned (.tuple #[.string ⟨(t).toArray⟩,.bool true])
 | none=>∃t:Str,e=.returned (.tuple #[.string ⟨(t).toArray⟩,.bool false])
set_option maxHeartbeats 400000 in
theorem plain_any (c:Str) (w:World) (hs:c.length≤100000000) :
  Calls Try.prog 84 #[.string ⟨(c).toArray⟩] w fun e w'=>PlainPost c w e w':=by
 by_cases h0:c=[]
 ·subst h0
  go_enter Try.func84,Try.ntmps84
  go_wp2
  go_ret2
  exact⟨rfl,[],rfl⟩
 have g0:List.isEmpty c=false:=by cases c<;>simp at h0 ⊢
 by_cases h110:c=[110]
 ·subst h110
  go_enter Try.func84,Try.ntmps84
  go_wp2
  go_ret2
  exact⟨rfl,rfl⟩
 have g110:(c==[110])=false:=beq_eq_false_iff_ne.2 h110;by_cases h114:c=[114]
 ·subst h114
  go_enter Try.func84,Try.ntmps84
  go_wp2
  go_ret2
  exact⟨rfl,rfl⟩
 have g114:(c==[114])=false:=beq_eq_false_iff_ne.2 h114;by_cases h116:c=[116]
 ·subst h116
  go_enter Try.func84,Try.ntmps84
  go_wp2
  go_ret2
  exact⟨rfl,rfl⟩
 have g116:(c==[116])=false:=beq_eq_false_iff_ne.2 h116;by_cases h102:c=[102]
 ·subst h102
  go_enter Try.func84,Try.ntmps84
  go_wp2
  go_ret2
  exact⟨rfl,rfl⟩
 have g102:(c==[102])=false:=beq_eq_false_iff_ne.2 h102;by_cases h118:c=[118]
 ·subst h118
  go_enter Try.func84,Try.ntmps84
  go_wp2
  go_ret2
  exact⟨rfl,rfl⟩
 have g118:(c==[118])=false:=beq_eq_false_iff_ne.2 h118;have hM:plainM c=if c=[95]∨wordB c=false then some c else none:=by
  unfold plainM;rw [if_neg h0,if_neg h110,if_neg h114,if_neg h116,if_neg h102,if_neg h118]
 have HW:=Lib.hid (Word_any c w hs);by_cases h95:c=[95]
 ·subst h95
  clear HW hM;go_enter Try.func84,Try.ntmps84
  go_wp2
  go_ret2
  exact⟨rfl,rfl⟩
 have g95:(c==[95])=false:=beq_eq_false_iff_ne.2 h95;cases hw:wordB c with
 | true =>
  rw [if_neg (by rw [hw];simp [h95])] at hM;rw [hw] at HW;have HM:=Lib.hid hM;clear hM hw h0 h110 h114 h116 h102 h118 h95;go_enter Try.func84,Try.ntmps84
  go_wp2_with (go_at_call 92;refine HW.out.mono ?_;rintro e w1 ⟨rfl,rfl⟩)
  go_ret2
  exact⟨rfl,by rw [HM.out];exact⟨c,rfl⟩⟩
 | false =>
  rw [if_pos (.inr hw)] at hM;rw [hw] at HW;have HM:=Lib.hid hM;clear hM hw h0 h110 h114 h116 h102 h118 h95;go_enter Try.func84,Try.ntmps84
  go_wp2_with (go_at_call 92;refine HW.out.mono ?_;rintro e w1 ⟨rfl,rfl⟩)
  go_ret2
  exact⟨rfl,by rw [HM.out];rfl⟩
def NumPost (g d:Nat) (w:World) (R:Option (Nat × List Str)) (e:Ending) (w':World):Prop:=w.grownBy w' (some g)∧match R with
 | some (n,r)=>e=.returned (.tuple #[.int .i64 n,.bool true])∧n≤255∧Rd w' g r d
 | none=>(∃v:Int,e=.returned (.tuple #[.int .i64 v,.bool false]))∧∃r,Rd w' g r d
def NumRel (g d:Nat) (w:World) (R:Option (Nat × List Str)) (vn vk vc:Value) (wr:World):Prop :=
 ∃(n k:Nat) (r:List Str),vn=.int .i64 n∧vk=.int .i64 k∧vc=.string ⟨(hdS r).toArray⟩∧Rd wr g r d∧w.grownBy wr (some g)∧k≤3∧n≤999∧Hid (k=0∧n=0∨k=1∧n≤9∨k=2∧n≤99∨k=3)∧Hid (numL k n r=R)
theorem hdS_cons (c:Str) (r:List Str):hdS (c::r)=c:=rfl
set_option maxHeartbeats 1000000 in
theorem number_any {g d:Nat} {r:List Str} (w:World) (h:Rd w g r d) :
  Calls Try.prog 85 #[.pointer (some ⟨g,0,none⟩)] w fun e w'=>NumPost g d w (numL 0 0 r) e w':=by
 obtain⟨R,hR⟩:∃R,numL 0 0 r=R:=⟨_,rfl⟩;rw [hR];have HR:=Lib.hid hR;have HRD:=Lib.hid h;clear hR h;go_enter Try.func85,Try.ntmps85
 go_wp2_with (go_at_call 57;refine(see_any _ HRD.out).mono ?_)
 rintro e w1 ⟨rfl,hst⟩;have HRD1:=Lib.hid (hst.rd HRD.out);have hg1:=hst.grown (some g);clear hst HRD;go_wp2
 go_loopw [4,5,6] (fun vn vk vc wr=>NumRel g d w R vn vk vc wr) (fun _ vk _ _=>4-(intOf vk).toNat)
 case atStart=>exact⟨0,0,r,rfl,rfl,rfl,HRD1.out,hg1,by omega,by omega,Lib.hid (.inl ⟨rfl,rfl⟩),HR⟩
 case round =>
  clear HR HRD1 hg1;obtain⟨n,k,r,rfl,rfl,rfl,hrd,hg,hk,hn,HB,HF⟩:=hrel;have HRD:=Lib.hid hrd;cases r with
  | nil =>
   have HF2:Hid ((if 0<k∧n≤255 then some (n,[]) else none)=R):=HF;clear HF hrd;generalize hr:([]:List Str)=r at *
   have hh:hdS r=[]:=by rw [←hr];rfl
   rw [hh];clear hr hh;by_cases hk0:0<k
   ·by_cases hn:n≤255
    ·have HF3:Hid (some (n,r)=R):=Lib.hid (by rw [←HF2.out,if_pos ⟨hk0,hn⟩])
     have hnb:decide ((n:Int)≤255)=true:=by simp;omega
     clear HF2;go_wp2
     go_ret2
     exact⟨hg,by rw [←HF3.out];exact⟨rfl,hn,HRD.out⟩⟩
    ·have HF3:Hid (none=R):=Lib.hid (by rw [←HF2.out,if_neg (fun q=>hn q.2)])
     have hnb:decide ((n:Int)≤255)=false:=by simp;omega
     clear HF2;go_wp2
     go_ret2
     exact⟨hg,by rw [←HF3.out];exact⟨⟨_,rfl⟩,_,HRD.out⟩⟩
   ·have HF3:Hid (none=R):=Lib.hid (by rw [←HF2.out,if_neg (fun q=>hk0 q.1)])
    clear HF2;go_wp2
    go_ret2
    exact⟨hg,by rw [←HF3.out];exact⟨⟨_,rfl⟩,_,HRD.out⟩⟩
  | cons c r' =>
   have hp:=hrd.pos;obtain⟨i,hi,c1,hf,hr1⟩:=hrd.step;have HR1:=Lib.hid hr1;clear hrd hr1;rw [hdS_cons];match c,hp with
   | [b],_ =>
    by_cases hb1:48≤b.toNat
    ·by_cases hb2:b.toNat≤57
     ·have hdg:digS [b]=some (b.toNat-48):=by simp only [digS,if_pos (And.intro hb1 hb2)]
      by_cases hk3:k=3
      ·have HF2:Hid (none=R):=Lib.hid (by rw [←HF.out,numL,hdg];simp [hk3])
       clear HF hdg;go_wp2
       go_ret2
       exact⟨hg,by rw [←HF2.out];exact⟨⟨_,rfl⟩,_,HRD.out⟩⟩
      ·have HF2:Hid (numL (k+1) (10*n+(b.toNat-48)) r'=R):=Lib.hid (by rw [←HF.out,numL,hdg];simp [hk3])
       have hn99:n≤99:=by have:=HB.out;omega
       have HB2:Hid (k+1=0∧10*n+(b.toNat-48)=0∨k+1=1∧10*n+(b.toNat-48)≤9∨k+1=2∧10*n+(b.toNat-48)≤99∨k+1=3):=Lib.hid (by have:=HB.out;omega);clear HF hdg;have hg2:w.grownBy (wr.setCell ⟨g,1,none⟩ (.int .i64 ((i:Int)+1))) (some g):=grown_set hg _ _;go_wp2_with (go_at_call 57;refine(see_any _ HR1.out).mono ?_)
       rintro e w3 ⟨rfl,hst⟩;have hrd3:=hst.rd HR1.out;have hg3:=grown_trans hg2 (hst.grown _);clear hst;go_wp2
       go_roundw
       case rel=>exact⟨10*n+(b.toNat-48),k+1,r',congrArg (Value.int .i64) (by omega),by go_num,rfl,hrd3,hg3,by omega,by omega,HB2,HF2⟩
       case measure=>simp [intOf];omega
     ·have HF2:Hid ((if 0<k∧n≤255 then some (n,[b]::r') else none)=R):=Lib.hid (by
       rw [←HF.out];simp only [numL,digS,if_neg (show ¬(48≤b.toNat∧b.toNat≤57) from fun q=>hb2 q.2)])
      clear HF;generalize hr:[b]::r'=r at *
      by_cases hk0:0<k
      ·by_cases hn:n≤255
       ·have HF3:Hid (some (n,r)=R):=Lib.hid (by rw [←HF2.out,if_pos ⟨hk0,hn⟩])
        have hnb:decide ((n:Int)≤255)=true:=by simp;omega
        clear HF2;go_wp2
        go_ret2
        exact⟨hg,by rw [←HF3.out];exact⟨rfl,hn,HRD.out⟩⟩
       ·have HF3:Hid (none=R):=Lib.hid (by rw [←HF2.out,if_neg (fun q=>hn q.2)])
        have hnb:decide ((n:Int)≤255)=false:=by simp;omega
        clear HF2;go_wp2
        go_ret2
        exact⟨hg,by rw [←HF3.out];exact⟨⟨_,rfl⟩,_,HRD.out⟩⟩
      ·have HF3:Hid (none=R):=Lib.hid (by rw [←HF2.out,if_neg (fun q=>hk0 q.1)])
       clear HF2;go_wp2
       go_ret2
       exact⟨hg,by rw [←HF3.out];exact⟨⟨_,rfl⟩,_,HRD.out⟩⟩
    ·have HF2:Hid ((if 0<k∧n≤255 then some (n,[b]::r') else none)=R):=Lib.hid (by
      rw [←HF.out];simp only [numL,digS,if_neg (show ¬(48≤b.toNat∧b.toNat≤57) from fun q=>hb1 q.1)])
     clear HF;generalize hr:[b]::r'=r at *
     by_cases hk0:0<k
     ·by_cases hn:n≤255
      ·have HF3:Hid (some (n,r)=R):=Lib.hid (by rw [←HF2.out,if_pos ⟨hk0,hn⟩])
       have hnb:decide ((n:Int)≤255)=true:=by simp;omega
       clear HF2;go_wp2
       go_ret2
       exact⟨hg,by rw [←HF3.out];exact⟨rfl,hn,HRD.out⟩⟩
      ·have HF3:Hid (none=R):=Lib.hid (by rw [←HF2.out,if_neg (fun q=>hn q.2)])
       have hnb:decide ((n:Int)≤255)=false:=by simp;omega
       clear HF2;go_wp2
       go_ret2
       exact⟨hg,by rw [←HF3.out];exact⟨⟨_,rfl⟩,_,HRD.out⟩⟩
     ·have HF3:Hid (none=R):=Lib.hid (by rw [←HF2.out,if_neg (fun q=>hk0 q.1)])
      clear HF2;go_wp2
      go_ret2
      exact⟨hg,by rw [←HF3.out];exact⟨⟨_,rfl⟩,_,HRD.out⟩⟩
   | [],hp=>exact absurd rfl hp.1
   | b::b2::t,hp =>
    have hlt:=hp.2;have HF2:Hid ((if 0<k∧n≤255 then some (n,(b::b2::t)::r') else none)=R):=Lib.hid (by
     rw [←HF.out];simp only [numL,digS])
    have hne:((t.length:Int)+1+1==1)=false:=by rw [beq_eq_false_iff_ne];omega
    clear HF;generalize hr:(b::b2::t)::r'=r at *
    by_cases hk0:0<k
    ·by_cases hn:n≤255
     ·have HF3:Hid (some (n,r)=R):=Lib.hid (by rw [←HF2.out,if_pos ⟨hk0,hn⟩])
      have hnb:decide ((n:Int)≤255)=true:=by simp;omega
      clear HF2;go_wp2
      go_ret2
      exact⟨hg,by rw [←HF3.out];exact⟨rfl,hn,HRD.out⟩⟩
     ·have HF3:Hid (none=R):=Lib.hid (by rw [←HF2.out,if_neg (fun q=>hn q.2)])
      have hnb:decide ((n:Int)≤255)=false:=by simp;omega
      clear HF2;go_wp2
      go_ret2
      exact⟨hg,by rw [←HF3.out];exact⟨⟨_,rfl⟩,_,HRD.out⟩⟩
    ·have HF3:Hid (none=R):=Lib.hid (by rw [←HF2.out,if_neg (fun q=>hk0 q.1)])
     clear HF2;go_wp2
     go_ret2
     exact⟨hg,by rw [←HF3.out];exact⟨⟨_,rfl⟩,_,HRD.out⟩⟩
end Go.Proofs.Ytbgcjpefocdkkaa
namespace Go.Proofs.Ytbgcjpefocdkkaa
open Go.RowKit
theorem takeM_some {c:Str} {r r1:List Str} (h:takeM c r=some r1):r=c::r1:=by
 cases r with
 | nil=>cases h
 | cons x r =>
  simp only [takeM] at h;by_cases hx:x=c
  ·rw [if_pos hx] at h;injection h with h;rw [hx,h]
  ·rw [if_neg hx] at h;cases h
theorem take_some {T:TypeId} {x:List Value} {g:Nat} {r r1:List Str} {c:Str} (w:World) (h:RdT T x w g r) (hc:takeM c r=some r1) :
  Calls Try.prog 79 #[.pointer (some ⟨g,0,none⟩),.string ⟨(c).toArray⟩] w fun e w'=>e=.returned (.bool true)∧RdT T x w' g r1∧w.grownBy w' (some g):=by
 have e:=takeM_some hc;subst e;exact take_yes c w h
theorem take_none {T:TypeId} {x:List Value} {g:Nat} {r:List Str} {c:Str} (w:World) (h:RdT T x w g r) (hc:takeM c r=none) (hc0:c≠[]) :
  Calls Try.prog 79 #[.pointer (some ⟨g,0,none⟩),.string ⟨(c).toArray⟩] w fun e w'=>e=.returned (.bool false)∧RdT T x w' g r∧w.grownBy w' (some g) :=
 (take_no c w h hc hc0).mono fun _ _ ⟨h1,h2⟩=>⟨h1,h2.rd h,h2.grown _⟩
theorem number_some {g d:Nat} {r r1:List Str} {n:Nat} (w:World) (h:Rd w g r d) (hn:numL 0 0 r=some (n,r1)) :
  Calls Try.prog 85 #[.pointer (some ⟨g,0,none⟩)] w fun e w'=>e=.returned (.tuple #[.int .i64 n,.bool true])∧Rd w' g r1 d∧w.grownBy w' (some g):=by
 refine(number_any w h).mono ?_
 rintro e w' ⟨h1,h2⟩;rw [hn] at h2;exact⟨h2.1,h2.2.2,h1⟩
def NumNo (w:World) (g d:Nat) (e:Ending) (w':World):Prop:=∃v:Int,e=.returned (.tuple #[.int .i64 v,.bool false])∧w.grownBy w' (some g)∧∃r,Rd w' g r d
theorem number_none {g d:Nat} {r:List Str} (w:World) (h:Rd w g r d) (hn:numL 0 0 r=none) :
  Calls Try.prog 85 #[.pointer (some ⟨g,0,none⟩)] w fun e w'=>NumNo w g d e w':=by
 refine(number_any w h).mono ?_
 rintro e w' ⟨h1,h2⟩;rw [hn] at h2;obtain⟨⟨v,h2⟩,h3⟩:=h2;exact⟨v,h2,h1,h3⟩
theorem numL_le:∀(r:List Str) (k n:Nat) {m:Nat} {r1:List Str},numL k n r=some (m,r1)→m≤255
 | [],k,n,m,r1,h=>by
  unfold numL at h;split at h
  ·rename_i q;injection h with h;injection h with h _;omega
  ·cases h
 | c::r,k,n,m,r1,h=>by
  unfold numL at h;split at h
  ·split at h
   ·cases h
   ·exact numL_le r _ _ h
  ·split at h
   ·rename_i q;injection h with h;injection h with h _;omega
   ·cases h
def BdPost (g d:Nat) (w:World) (R:Option (Int × Int × List Str)) (e:Ending) (w':World):Prop:=w.grownBy w' (some g)∧match R with
 | some (lo,hi,r)=>e=.returned (.tuple #[.int .i64 lo,.int .i64 hi,.bool true])∧Rd w' g r d
 | none=>(∃a b:Int,e=.returned (.tuple #[.int .i64 a,.int .i64 b,.bool false]))∧∃r,Rd w' g r d
set_option maxHeartbeats 2000000 in
theorem bounds_any {g d:Nat} {r:List Str} (w:World) (h:Rd w g r d) :
  Calls Try.prog 78 #[.pointer (some ⟨g,0,none⟩)] w fun e w'=>BdPost g d w (boundsM r) e w':=by
 obtain⟨R,hR⟩:∃R,boundsM r=R:=⟨_,rfl⟩;rw [hR];have HRD:=Lib.hid h;unfold boundsM at hR;clear h;cases h1:numL 0 0 r with
 | none =>
  rw [h1] at hR;have HR:=Lib.hid hR;have HC:=Lib.hid (number_none _ HRD.out h1);clear hR h1;go_enter Try.func78,Try.ntmps78
  go_wp2_with (go_at_call 85;refine HC.out.mono ?_)
  rintro e w1 hq1;obtain⟨v,rfl,hg1,r9,hrd9⟩:=hq1;have HRD9:=Lib.hid hrd9;clear hrd9;go_wp2
  go_ret3
  exact⟨hg1,by rw [←HR.out];exact⟨⟨_,_,rfl⟩,_,HRD9.out⟩⟩
 | some y =>
  obtain⟨lo,r1⟩:=y;have hlo:=numL_le _ _ _ h1;simp only [h1] at hR;have HC:=Lib.hid (number_some _ HRD.out h1);clear h1;cases h2:takeM [125] r1 with
  | some r2 =>
   simp only [h2] at hR;have HR:=Lib.hid hR;have H2:=Lib.hid h2;clear hR h2;go_enter Try.func78,Try.ntmps78
   go_wp2_with (go_at_call 85;refine(HC.out).mono ?_)
   rintro e w1 ⟨rfl,hrd1,hg1⟩;have HRD1:=Lib.hid hrd1;clear hrd1;go_wp2_with (go_at_call 79;refine(take_some _ HRD1.out H2.out).mono ?_)
   rintro e w2 ⟨rfl,hrd2,hq2⟩;have HRD2:=Lib.hid hrd2;have hg2:=grown_trans hg1 hq2;clear hrd2 hq2;go_wp2
   go_ret3
   exact⟨hg2,by rw [←HR.out];exact⟨rfl,HRD2.out⟩⟩
  | none =>
   simp only [h2] at hR;have H2:=Lib.hid h2;clear h2;cases h3:takeM [44] r1 with
   | none =>
    simp only [h3] at hR;have HR:=Lib.hid hR;have H3:=Lib.hid h3;clear hR h3;go_enter Try.func78,Try.ntmps78
    go_wp2_with (go_at_call 85;refine(HC.out).mono ?_)
    rintro e w1 ⟨rfl,hrd1,hg1⟩;have HRD1:=Lib.hid hrd1;clear hrd1;go_wp2_with (go_at_call 79;refine(take_none _ HRD1.out H2.out (by simp)).mono ?_)
    rintro e w2 ⟨rfl,hrd2,hq2⟩;have HRD2:=Lib.hid hrd2;have hg2:=grown_trans hg1 hq2;clear hrd2 hq2;go_wp2_with (go_at_call 79;refine(take_none _ HRD2.out H3.out (by simp)).mono ?_)
    rintro e w3 ⟨rfl,hrd3,hq3⟩;have HRD3:=Lib.hid hrd3;have hg3:=grown_trans hg2 hq3;clear hrd3 hq3;go_wp2
    go_ret3
    exact⟨hg3,by rw [←HR.out];exact⟨⟨_,_,rfl⟩,_,HRD3.out⟩⟩
   | some r2 =>
    simp only [h3] at hR;have H3:=Lib.hid h3;clear h3;cases h4:takeM [125] r2 with
    | some r3 =>
     simp only [h4] at hR;have HR:=Lib.hid hR;have H4:=Lib.hid h4;clear hR h4;go_enter Try.func78,Try.ntmps78
     go_wp2_with (go_at_call 85;refine(HC.out).mono ?_)
     rintro e w1 ⟨rfl,hrd1,hg1⟩;have HRD1:=Lib.hid hrd1;clear hrd1;go_wp2_with (go_at_call 79;refine(take_none _ HRD1.out H2.out (by simp)).mono ?_)
     rintro e w2 ⟨rfl,hrd2,hq2⟩;have HRD2:=Lib.hid hrd2;have hg2:=grown_trans hg1 hq2;clear hrd2 hq2;go_wp2_with (go_at_call 79;refine(take_some _ HRD2.out H3.out).mono ?_)
     rintro e w3 ⟨rfl,hrd3,hq3⟩;have HRD3:=Lib.hid hrd3;have hg3:=grown_trans hg2 hq3;clear hrd3 hq3;go_wp2_with (go_at_call 79;refine(take_some _ HRD3.out H4.out).mono ?_)
     rintro e w4 ⟨rfl,hrd4,hq4⟩;have HRD4:=Lib.hid hrd4;have hg4:=grown_trans hg3 hq4;clear hrd4 hq4;go_wp2
     go_ret3
     exact⟨hg4,by rw [←HR.out];exact⟨rfl,HRD4.out⟩⟩
    | none =>
     simp only [h4] at hR;have H4:=Lib.hid h4;clear h4;cases h5:numL 0 0 r2 with
     | none =>
      simp only [h5] at hR;have HR:=Lib.hid hR;have H5:=Lib.hid h5;clear hR h5;go_enter Try.func78,Try.ntmps78
      go_wp2_with (go_at_call 85;refine(HC.out).mono ?_)
      rintro e w1 ⟨rfl,hrd1,hg1⟩;have HRD1:=Lib.hid hrd1;clear hrd1;go_wp2_with (go_at_call 79;refine(take_none _ HRD1.out H2.out (by simp)).mono ?_)
      rintro e w2 ⟨rfl,hrd2,hq2⟩;have HRD2:=Lib.hid hrd2;have hg2:=grown_trans hg1 hq2;clear hrd2 hq2;go_wp2_with (go_at_call 79;refine(take_some _ HRD2.out H3.out).mono ?_)
      rintro e w3 ⟨rfl,hrd3,hq3⟩;have HRD3:=Lib.hid hrd3;have hg3:=grown_trans hg2 hq3;clear hrd3 hq3;go_wp2_with (go_at_call 79;refine(take_none _ HRD3.out H4.out (by simp)).mono ?_)
      rintro e w4 ⟨rfl,hrd4,hq4⟩;have HRD4:=Lib.hid hrd4;have hg4:=grown_trans hg3 hq4;clear hrd4 hq4;go_wp2_with (go_at_call 85;refine(number_none _ HRD4.out H5.out).mono ?_)
      rintro e w5 hn5;obtain⟨v,rfl,hq5,r9,hrd9⟩:=hn5;have HRD9:=Lib.hid hrd9;clear hrd9;have hg5:=grown_trans hg4 hq5;go_wp2
      go_ret3
      exact⟨hg5,by rw [←HR.out];exact⟨⟨_,_,rfl⟩,_,HRD9.out⟩⟩
     | some y =>
      obtain⟨hi,r3⟩:=y;have hhi:=numL_le _ _ _ h5;simp only [h5] at hR;have H5:=Lib.hid h5;clear h5;by_cases hle:lo≤hi
      ·rw [if_pos (by omega)] at hR
       have hle':decide ((lo:Int)≤(hi:Int))=true:=by simp;omega
       cases h6:takeM [125] r3 with
       | none =>
        simp only [h6] at hR;have HR:=Lib.hid hR;have H6:=Lib.hid h6;clear hR h6;go_enter Try.func78,Try.ntmps78
        go_wp2_with (go_at_call 85;refine(HC.out).mono ?_)
        rintro e w1 ⟨rfl,hrd1,hg1⟩;have HRD1:=Lib.hid hrd1;clear hrd1;go_wp2_with (go_at_call 79;refine(take_none _ HRD1.out H2.out (by simp)).mono ?_)
        rintro e w2 ⟨rfl,hrd2,hq2⟩;have HRD2:=Lib.hid hrd2;have hg2:=grown_trans hg1 hq2;clear hrd2 hq2;go_wp2_with (go_at_call 79;refine(take_some _ HRD2.out H3.out).mono ?_)
        rintro e w3 ⟨rfl,hrd3,hq3⟩;have HRD3:=Lib.hid hrd3;have hg3:=grown_trans hg2 hq3;clear hrd3 hq3;go_wp2_with (go_at_call 79;refine(take_none _ HRD3.out H4.out (by simp)).mono ?_)
        rintro e w4 ⟨rfl,hrd4,hq4⟩;have HRD4:=Lib.hid hrd4;have hg4:=grown_trans hg3 hq4;clear hrd4 hq4;go_wp2_with (go_at_call 85;refine(number_some _ HRD4.out H5.out).mono ?_)
        rintro e w5 ⟨rfl,hrd5,hq5⟩;have HRD5:=Lib.hid hrd5;have hg5:=grown_trans hg4 hq5;clear hrd5 hq5;go_wp2_with (go_at_call 79;refine(take_none _ HRD5.out H6.out (by simp)).mono ?_)
        rintro e w6 ⟨rfl,hrd6,hq6⟩;have HRD6:=Lib.hid hrd6;have hg6:=grown_trans hg5 hq6;clear hrd6 hq6;go_wp2
        go_ret3
        exact⟨hg6,by rw [←HR.out];exact⟨⟨_,_,rfl⟩,_,HRD6.out⟩⟩
       | some r4 =>
        simp only [h6] at hR;have HR:=Lib.hid hR;have H6:=Lib.hid h6;clear hR h6;go_enter Try.func78,Try.ntmps78
        go_wp2_with (go_at_call 85;refine(HC.out).mono ?_)
        rintro e w1 ⟨rfl,hrd1,hg1⟩;have HRD1:=Lib.hid hrd1;clear hrd1;go_wp2_with (go_at_call 79;refine(take_none _ HRD1.out H2.out (by simp)).mono ?_)
        rintro e w2 ⟨rfl,hrd2,hq2⟩;have HRD2:=Lib.hid hrd2;have hg2:=grown_trans hg1 hq2;clear hrd2 hq2;go_wp2_with (go_at_call 79;refine(take_some _ HRD2.out H3.out).mono ?_)
        rintro e w3 ⟨rfl,hrd3,hq3⟩;have HRD3:=Lib.hid hrd3;have hg3:=grown_trans hg2 hq3;clear hrd3 hq3;go_wp2_with (go_at_call 79;refine(take_none _ HRD3.out H4.out (by simp)).mono ?_)
        rintro e w4 ⟨rfl,hrd4,hq4⟩;have HRD4:=Lib.hid hrd4;have hg4:=grown_trans hg3 hq4;clear hrd4 hq4;go_wp2_with (go_at_call 85;refine(number_some _ HRD4.out H5.out).mono ?_)
        rintro e w5 ⟨rfl,hrd5,hq5⟩;have HRD5:=Lib.hid hrd5;have hg5:=grown_trans hg4 hq5;clear hrd5 hq5;go_wp2_with (go_at_call 79;refine(take_some _ HRD5.out H6.out).mono ?_)
        rintro e w6 ⟨rfl,hrd6,hq6⟩;have HRD6:=Lib.hid hrd6;have hg6:=grown_trans hg5 hq6;clear hrd6 hq6;go_wp2
        go_ret3
        exact⟨hg6,by rw [←HR.out];exact⟨rfl,HRD6.out⟩⟩
      ·rw [if_neg (by omega)] at hR
       have hle':decide ((lo:Int)≤(hi:Int))=false:=by simp;omega
       have HR:=Lib.hid hR;clear hR;go_enter Try.func78,Try.ntmps78
       go_wp2_with (go_at_call 85;refine(HC.out).mono ?_)
       rintro e w1 ⟨rfl,hrd1,hg1⟩;have HRD1:=Lib.hid hrd1;clear hrd1;go_wp2_with (go_at_call 79;refine(take_none _ HRD1.out H2.out (by simp)).mono ?_)
       rintro e w2 ⟨rfl,hrd2,hq2⟩;have HRD2:=Lib.hid hrd2;have hg2:=grown_trans hg1 hq2;clear hrd2 hq2;go_wp2_with (go_at_call 79;refine(take_some _ HRD2.out H3.out).mono ?_)
       rintro e w3 ⟨rfl,hrd3,hq3⟩;have HRD3:=Lib.hid hrd3;have hg3:=grown_trans hg2 hq3;clear hrd3 hq3;go_wp2_with (go_at_call 79;refine(take_none _ HRD3.out H4.out (by simp)).mono ?_)
       rintro e w4 ⟨rfl,hrd4,hq4⟩;have HRD4:=Lib.hid hrd4;have hg4:=grown_trans hg3 hq4;clear hrd4 hq4;go_wp2_with (go_at_call 85;refine(number_some _ HRD4.out H5.out).mono ?_)
       rintro e w5 ⟨rfl,hrd5,hq5⟩;have HRD5:=Lib.hid hrd5;have hg5:=grown_trans hg4 hq5;clear hrd5 hq5;go_wp2
       go_ret3
       exact⟨hg5,by rw [←HR.out];exact⟨⟨_,_,rfl⟩,_,HRD5.out⟩⟩
end Go.Proofs.Ytbgcjpefocdkkaa
