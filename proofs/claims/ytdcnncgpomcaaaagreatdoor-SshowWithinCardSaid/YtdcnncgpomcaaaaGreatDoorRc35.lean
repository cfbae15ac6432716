/- Plain laws on snippets: a text with backslashes, one without signs, is read as text. -/
import Derived.Test.YtdcnncgpomcaaaaGreatDoorRc33
set_option maxRecDepth 100000
namespace Go.Proofs.YtdcnncgpomcaaaaGreatDoor
theorem dol_no {c:UInt8} (h:c.toNat≠36) (r:Str):dolM l7 c r=none:=by unfold dolM;rw [Jo h]
theorem xS (ins:Bool) (out:List Sn) (text:Str) {c:UInt8} {r:Str} (h1:¬(ins=true∧c.toNat=125)) (h2:dolM l7 c r=none) :
  lu ins out text (c::r)=lu ins out (text++[(nxtM three (c::r)).1]) (nxtM three (c::r)).2:=by
 rw [l6,Jo h1,h2]
theorem tV (ins:Bool) (out:List Sn):∀(s text r:Str),lu ins out text (quot three s++r)=lu ins out (text++s) r
 | [],text,r=>by simp [quot]
 | c::s,text,r=>by
  cases hc:three.contains c with
  | true =>
   simp only [quot,hc,if_true,JW,JV];rw [xS ins out text gU (dol_no gR _),Da hc];rw [tV ins out s,J3];rfl
  | false =>
   have hn:¬(c.toNat=36∨c.toNat=125∨c.toNat=92):=fun h=>by rw [(AD c).2 h] at hc;cases hc
   simp only [quot,hc,J1,if_false,JW,JV];rw [xS ins out text gN (dol_no gN _),vV gN];rw [tV ins out s,J3];rfl
theorem Ew (ins:Bool) (out:List Sn) (text r:Str) {x:Sn} {r2:Str} (h:l7 r=some (x,r2)):lu ins out text (36::r)=lu ins (lO out text++[x]) [] r2:=by
 have h2:dolM l7 36 r=some (x,r2):=by unfold dolM;rw [Jl gR,h]
 rw [l6,Jo gU,h2]
theorem Cp (out:List Sn) (text r:Str):lu true out text (125::r)=(lO out text,125::r):=by
 rw [l6,Jl ⟨rfl,by decide⟩]
theorem As (x:Sn) {r r2:Str} {ks:List Sn} (h:lu true [] [] r=(ks,125::r2)):lE (lu true [] []) x (58::r)=some (x.give ks,r2):=by
 simp only [lE];rw [Jo gR,Jl gR,h]
theorem Dd {n:Nat} (h:n≤9999) (a:Str) (l:List Str) (r:Str):l7 (123::(Lib.decDigits n++124::(pb (a::l)++124::125::r)))=some ((no n).choose (a::l),r):=by
 rw [sG,yR h (by rintro c t e;injection e with e _;subst e;decide)];simp only [lE];rw [Jo gR,Jo gR,Jl ⟨by decide,rfl⟩,DW]
namespace Rx
end Rx
theorem Ft {x:Rx} (hm:mayB x=true) (hl:x.tellN.length≤256):qU x.tellN=.ok x:=by
 simp only [mayB,okB,Jy,Jj] at hm;obtain⟨g1,g2,_⟩:=zF _ x (Ju _) hm.1.1 gN gN;exact readM_ok.2 ⟨hl,g1,g2.2⟩
theorem FY {f:Tf} (hm:oZ f=true) (hl:f.rx.tell.length≤256) (r:Str):oq (pH f++125::r)=some (f,r):=by
 unfold oZ at hm;rw [Jy] at hm;have hw:=hm.1;unfold mayB okB at hw;simp only [Jy,Jj] at hw;have hsp:=CM _ f.rx (Ju _) hw.1.1;have e:pH f++125::r=47::(f.rx.tell++47::(mN f.fs++47::(vA f++125::r))):=by unfold pH;simp
 have h2:=tz (vA f++125::r) f.fs [] false [] hm.2 (fun _=>rfl);rw [e];simp only [oq];rw [Jl gR,DA hsp];simp only [Ft hm.1 (Jv hsp.len hl)];rw [h2];simp only [m9,if_true,JV];exact AM f r
namespace Sn
end Sn
theorem sX {y:Sn} (h:Hd y) (c:UInt8) (h1:ny c=false) (r:Str):l7 (123::(pK y.kind y.text y.n++c::r))=lE (lu true [] []) y (c::r):=by
 rw [sG,Gy h h1]
theorem ui:∀{l:List Sn},Sn.shortL l=true→∀x∈l,x.short=true
 | [],_,x,h=>by simp at h
 | y::r,hs,x,h=>by
  simp only [Sn.shortL,Jy] at hs;rcases JC.1 h with rfl|h
  ·exact hs.1
  ·exact ui hs.2 x h
theorem Dy (l:List Sn) (hx:∀x∈l,x.kind=0∧x.tell=quot three x.text∨x.kind≠0∧∃t,x.tell=36::t∧∀r,l7 (t++r)=some (x,r)) :
  ∀(ins:Bool) (out:List Sn) (text r:Str),lu ins out text (Sn.tellL l++r)=lu ins (nI (out,text) l).1 (nI (out,text) l).2 r:=by
 induction l with
 | nil=>intro ins out text r;simp [Sn.tellL,nI]
 | cons x l ih =>
  intro ins out text r;have ih':=ih fun y hy=>hx y (JF _ hy)
  simp only [Sn.tellL,J3,nI,JQ];rcases hx x (JE ..) with⟨hk,e⟩|⟨hk,t,e,hp⟩
  ·rw [e,tV,ih']
   simp [tT,hk,nI]
  ·rw [e,JW,Ew ins out text _ (hp _),ih']
   simp [tT,hk,nI]
theorem Ad:∀(N:Nat) (x:Sn),x.parts≤N→x.wf=true→x.short=true→x.kind≠0→∃t,x.tell=36::t∧∀r,l7 (t++r)=some (x,r)
 | 0,x,h,_,_,_=>by have:=Sn.parts_pos x;omega
 | N+1,x,hp,hw,hs,hk=>by
  rcases Ic hw hk with⟨y,hd,rfl|⟨ks,h1,h2,rfl⟩|⟨f,hf,rfl⟩⟩|⟨n,o,l,hn,rfl⟩
  ·refine⟨123::(pK x.kind x.text x.n++[125]),?_,fun r=>?_⟩
   ·exact eI
   ·rw [JW,J3,JW,JV,sX hd 125 gR];exact uA _ _
  ·have hs':Sn.shortL ks=true:=by
    rcases hd with⟨n,_,rfl⟩|⟨t,_,rfl⟩<;>(simp only [no,varS,Sn.give,Sn.short,Jy] at hs;exact hs.2)
   have hpk:Sn.partsL ks≤N:=by
    have:=(hd.give h1 h2).2.2.1
    omega
   have hin:∀r,lu true [] [] (Sn.tellL ks++125::r)=(ks,125::r):=fun r=>by
    rw [Dy ks (fun z hz=>by
     by_cases hz0:z.kind=0
     ·exact eU
     ·exact .inr ⟨hz0,Ad N z (by have:=Sn.parts_mem hz;omega) (qL h2 z hz) (ui hs' z hz) hz0⟩),Cp]
    have:=sv ks [] [] h1 h2
    rw [this];simp [lO]
   refine⟨123::(pK y.kind y.text y.n++58::(Sn.tellL ks++[125])),?_,fun r=>?_⟩
   ·exact er
   ·rw [JW,J3,JW,J3,JW,JV,sX hd 58 gR]
    exact As _ (hin r)
  ·have hl:f.rx.tell.length≤256:=by
    rcases hd with⟨n,_,rfl⟩|⟨t,_,rfl⟩<;>(simp [no,varS,Sn.turn,Sn.short,Sn.shortL] at hs;exact hs)
   refine⟨123::(pK y.kind y.text y.n++(pH f++[125])),?_,fun r=>?_⟩
   ·exact eu
   ·have hft:=FY hf hl r
    have e:pH f++125::r=47::(f.rx.tell++47::(mN f.fs++47::vA f)++125::r):=by unfold pH;simp
    rw [JW,J3,J3,JW,JV];rw [e] at hft ⊢;rw [sX hd 47 gR];simp only [lE];exact eT
  ·refine⟨123::(dec n++124::(pb (o::l)++[124,125])),by simp [no,Sn.choose,Sn.tell],fun r=>?_⟩
   have:=Dd hn o l r
   exact dI
theorem Ek {l:List Sn} (hw:Sn.wfL l=true) (hs:Sn.shortL l=true) (ins:Bool) (out:List Sn) (text r:Str):lu ins out text (Sn.tellL l++r)=lu ins (nI (out,text) l).1 (nI (out,text) l).2 r :=
 Dy l (fun z hz=>by
  by_cases hz0:z.kind=0
  ·exact eU
  ·exact .inr ⟨hz0,Ad _ z (Ju _) (qL hw z hz) (ui hs z hz) hz0⟩) ins out text r
open Go.RowKit
theorem yZ {T:Str} {l:List Sn} (h:nn T=l) (hl:T.length≤8192) (hd:Sn.deepL l≤32):pz T=.ok l:=by
 unfold pz;rw [Jo gN,h,Jo gN]
end Go.Proofs.YtdcnncgpomcaaaaGreatDoor
