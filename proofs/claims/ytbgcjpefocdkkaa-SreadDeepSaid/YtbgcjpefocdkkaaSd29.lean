/- Plain laws on snippets: may a tree be; what is read may be, and is no larger than the text. -/
import Derived.Test.YtbgcjpefocdkkaaSd28
import Derived.Test.YtbgcjpefocdkkaaSd21
import Derived.Test.YtbgcjpefocdkkaaSd23
import Derived.Test.YtbgcjpefocdkkaaSd2
import Derived.Test.YtbgcjpefocdkkaaSd13
set_option maxRecDepth 100000
namespace Go.Proofs.Ytbgcjpefocdkkaa
def rxZ : Rx→Bool | .mk k c ng rs lo hi lz ks => decide (k=0) && (c.isEmpty && (!ng && (rs.isEmpty && (decide (lo=0) && (decide (hi=0) && (!lz && ks.isEmpty))))))
/-- Is a transform the empty one? -/
def tfZ (f : Tf) : Bool:=rxZ f.rx && (f.fs.isEmpty && (!f.fold && !f.all))
def tfMay (f : Tf) : Bool:=mayB f.rx && mayFs f.fs
def nothingS (x : Sn) : Bool:=!x.has && (!x.turned && (x.kids.isEmpty && tfZ x.form))
def besidesS (x : Sn) : Bool:=if x.has=true then (if x.turned=true then false else tfZ x.form) else if x.turned=true then x.kids.isEmpty && tfMay x.form else nothingS x
def numberS (x : Sn) : Bool:=decide (0≤x.n∧x.n≤9999)
def fieldsS (x : Sn) : Bool :=
 if x.kind=0 then !x.text.isEmpty && (decide (x.n=0) && (x.opts.isEmpty && nothingS x))
 else if x.kind=1 then x.text.isEmpty && (numberS x && (x.opts.isEmpty && besidesS x))
 else if x.kind=2 then x.text.isEmpty && (numberS x && (!x.opts.isEmpty && nothingS x))
 else if x.kind=3 then nameB x.text && (decide (x.n=0) && (x.opts.isEmpty && besidesS x))
 else false
/-- No two texts side by side; pt: is the part ahead a text? -/
def adjS : Bool→List Sn→Bool
 | _,[] => true
 | pt,x :: r => !(decide (x.kind=0) && pt) && adjS (decide (x.kind=0)) r
namespace Sn
mutual
def wf : Sn→Bool
 | mk k t n h u f o ks => fieldsS (mk k t n h u f o ks) && (!h || (adjS false ks && wfL ks))
def wfL : List Sn→Bool
 | [] => true
 | x :: r => wf x && wfL r
end
theorem wfL_app : ∀ a b : List Sn,wfL (a ++ b)=(wfL a && wfL b)
 | [],b => by simp [wfL]
 | x :: a,b => by simp only [List.cons_append,wfL,wfL_app a b,Bool.and_assoc]
end Sn
theorem adjS_app : ∀ (a : List Sn) (pt : Bool) (x : Sn) (b : List Sn),adjS pt a=true→x.kind≠0→adjS false b=true→adjS pt (a ++ x :: b)=true
 | [],pt,x,b,_,hx,hb => by simp [adjS,hx,hb]
 | y :: a,pt,x,b,ha,hx,hb => by
  simp only [adjS,Bool.and_eq_true] at ha
  simp only [List.cons_append,adjS,Bool.and_eq_true]
  exact ⟨ha.1,adjS_app a _ x b ha.2 hx hb⟩
theorem adjS_withT (t : Str) : adjS false (withT [] t)=true:=by
 unfold withT;split <;> simp [adjS]
theorem tfZ_0 : tfZ tf0=true:=rfl
theorem wf_text {t : Str} (h : t≠[]) : (textS t).wf=true:=by
 have : t.isEmpty=false:=by cases t with | nil => exact absurd rfl h | cons a b => rfl
 simp [textS,Sn.wf,fieldsS,Sn.kind,Sn.text,Sn.n,Sn.opts,nothingS,Sn.has,Sn.turned,Sn.kids,Sn.form,tfZ_0,this]
theorem wfL_withT (t : Str) : Sn.wfL (withT [] t)=true:=by
 unfold withT;split
 ·rfl
 ·rename_i h;simp [Sn.wfL,wf_text h]
def tl (t : Str) : Nat:=if t=[] then 0 else 1
theorem partsL_withT (t : Str) : Sn.partsL (withT [] t)=tl t:=by
 unfold withT tl;split <;> simp [Sn.partsL,textS,Sn.parts]
theorem deepL_withT (t : Str) : Sn.deepL (withT [] t)=0:=by
 unfold withT;split <;> simp [Sn.deepL,textS,Sn.deep]
/-- A number or a name, with nothing besides. -/
def Hd (x : Sn) : Prop:=(∃ n,n≤9999∧x=stopS n)∨(∃ t,nameB t=true∧x=varS t)
theorem headM_hd {r : Str} {x : Sn} {s : Str} (h : headM r=some (x,s)) : Hd x:=by
 unfold headM at h
 split at h
 ·rename_i heq
  injection h with h;injection h with h _;exact .inl ⟨_,numR_le heq,h.symm⟩
 ·unfold nameM at h
  split at h
  ·rename_i hb
   injection h with h;injection h with h _;exact .inr ⟨_,hb,h.symm⟩
  ·cases h
theorem Hd.kind {x : Sn} (h : Hd x) : x.kind≠0:=by
 rcases h with ⟨n,_,rfl⟩ | ⟨t,_,rfl⟩
 ·exact (by decide : (1 : Int)≠0)
 ·exact (by decide : (3 : Int)≠0)
theorem Hd.wf {x : Sn} (h : Hd x) : x.wf=true:=by
 rcases h with ⟨n,hn,rfl⟩ | ⟨t,ht,rfl⟩
 ·simp only [stopS,Sn.wf,fieldsS,Sn.kind,Sn.text,Sn.n,Sn.opts,numberS,besidesS,nothingS,Sn.has,Sn.turned,Sn.kids,Sn.form,tfZ_0];simp;omega
 ·simp only [varS,Sn.wf,fieldsS,Sn.kind,Sn.text,Sn.n,Sn.opts,ht,besidesS,nothingS,Sn.has,Sn.turned,Sn.kids,Sn.form,tfZ_0];simp
theorem Hd.parts {x : Sn} (h : Hd x) : x.parts=1:=by
 rcases h with ⟨n,hn,rfl⟩ | ⟨t,ht,rfl⟩ <;> rfl
theorem Hd.deep {x : Sn} (h : Hd x) : x.deep=0:=by
 rcases h with ⟨n,hn,rfl⟩ | ⟨t,ht,rfl⟩ <;> rfl
theorem Hd.give {x : Sn} (h : Hd x) {ks : List Sn} (h1 : adjS false ks=true) (h2 : Sn.wfL ks=true) : (x.give ks).wf=true∧(x.give ks).kind≠0∧(x.give ks).parts=1 + Sn.partsL ks∧(x.give ks).deep=Sn.deepL ks + 1:=by
 rcases h with ⟨n,hn,rfl⟩ | ⟨t,ht,rfl⟩
 ·refine ⟨?_,(by decide : (1 : Int)≠0),rfl,rfl⟩
  simp only [stopS,Sn.give,Sn.wf,fieldsS,Sn.kind,Sn.text,Sn.n,Sn.opts,numberS,besidesS,Sn.has,Sn.turned,Sn.form,tfZ_0,h1,h2];simp;omega
 ·refine ⟨?_,(by decide : (3 : Int)≠0),rfl,rfl⟩
  simp only [varS,Sn.give,Sn.wf,fieldsS,Sn.kind,Sn.text,Sn.n,Sn.opts,ht,besidesS,Sn.has,Sn.turned,Sn.form,tfZ_0,h1,h2];simp
theorem Hd.turn {x : Sn} (h : Hd x) {f : Tf} (hf : tfMay f=true) : (x.turn f).wf=true∧(x.turn f).kind≠0∧(x.turn f).parts=1∧(x.turn f).deep=0:=by
 rcases h with ⟨n,hn,rfl⟩ | ⟨t,ht,rfl⟩
 ·refine ⟨?_,(by decide : (1 : Int)≠0),rfl,rfl⟩
  simp only [stopS,Sn.turn,Sn.wf,fieldsS,Sn.kind,Sn.text,Sn.n,Sn.opts,numberS,besidesS,Sn.has,Sn.turned,Sn.form,Sn.kids,hf];simp;omega
 ·refine ⟨?_,(by decide : (3 : Int)≠0),rfl,rfl⟩
  simp only [varS,Sn.turn,Sn.wf,fieldsS,Sn.kind,Sn.text,Sn.n,Sn.opts,ht,besidesS,Sn.has,Sn.turned,Sn.form,Sn.kids,hf];simp
theorem Hd.choose {x : Sn} (h : Hd x) (hk : x.kind=1) {o : List Str} (ho : o≠[]) : (x.choose o).wf=true∧(x.choose o).kind≠0∧(x.choose o).parts=1∧(x.choose o).deep=0:=by
 rcases h with ⟨n,hn,rfl⟩ | ⟨t,ht,rfl⟩
 ·refine ⟨?_,(by decide : (2 : Int)≠0),rfl,rfl⟩
  have : o.isEmpty=false:=by cases o with | nil => exact absurd rfl ho | cons a b => rfl
  simp only [stopS,Sn.choose,Sn.wf,fieldsS,Sn.kind,Sn.text,Sn.n,Sn.opts,numberS,nothingS,Sn.has,Sn.turned,Sn.form,Sn.kids,tfZ_0,this];simp;omega
 ·exact absurd hk (by decide : ¬ ((3 : Int)=1))
theorem flagT_form {x : Rx} {fs : List Fm} {r : Str} {f : Tf} {s : Str} (h : flagT x fs r=some (f,s)) : f.rx=x∧f.fs=fs:=by
 unfold flagT at h
 split at h
 ·cases h
 ·split at h
  ·cases h
  ·injection h with h;injection h with h _;subst h;exact ⟨rfl,rfl⟩
theorem formM_may {r : Str} {f : Tf} {s : Str} (h : formM r=some (f,s)) : tfMay f=true:=by
 cases r with
 | nil => cases h
 | cons c r =>
  simp only [formM] at h
  split at h
  ·split at h
   ·cases h
   ·split at h
    ·cases h
    ·rename_i hx
     split at h
     ·cases h
     ·cases h
     ·rename_i heq2
      obtain ⟨h1,h2⟩:=flagT_form h
      unfold tfMay
      rw [h1,h2,(read_may hx).1,(readX_may heq2).1];rfl
  ·cases h
theorem optL_ne : ∀ (n : Nat) (r : Str) (o : List Str) (t : Str),r.length≤n→(optL r o t).1≠[]
 | _,[],o,t,_ => by simp [optL]
 | 0,_ :: _,_,_,h => by simp at h
 | n + 1,c :: r,o,t,h => by
  simp only [List.length_cons] at h
  rw [optL_cons]
  split
  ·simp
  ·split
   ·exact optL_ne n r _ _ (by omega)
   ·have:=(nxtM_sfx fiveS c r).length_le
    exact optL_ne n _ _ _ (by omega)
theorem optsM_form {x : Sn} {r : Str} {y : Sn} {s : Str} (h : optsM x r=some (y,s)) : ∃ o,o≠[]∧y=x.choose o:=by
 unfold optsM at h
 split at h
 ·split at h
  ·injection h with h;injection h with h _;exact ⟨_,optL_ne _ r [] [] (Nat.le_refl _),h.symm⟩
  ·cases h
 ·cases h
def cnt (s : Str) : Nat:=s.count 123
theorem cnt_sfx {s r : Str} (h : s <:+ r) : cnt s≤cnt r:=h.sublist.count_le _
theorem cnt_cons (c : UInt8) (r : Str) : cnt r≤cnt (c :: r):=cnt_sfx (List.suffix_cons c r)
def GoodX (r : Str) (x : Sn) (s : Str) : Prop:=x.wf=true∧x.kind≠0∧x.parts + s.length≤r.length∧x.deep + cnt s≤cnt r
def GoodL (t r : Str) (l : List Sn) (s : Str) : Prop:=adjS false l=true∧Sn.wfL l=true∧Sn.partsL l + s.length≤tl t + r.length∧Sn.deepL l + cnt s≤cnt r
theorem braced_good {ps : Str→List Sn × Str} {x y : Sn} {r s : Str} (hx : Hd x) (hps : ∀ t,t.length < r.length→(ps t).2 <:+ t∧GoodL [] t (ps t).1 (ps t).2) (h : bracedS ps x r=some (y,s)) :
  y.wf=true∧y.kind≠0∧y.parts + s.length≤r.length∧y.deep + cnt s≤cnt r + 1:=by
 have hsf:=bracedS_sfx (fun t ht => (hps t ht).1) h
 have hc:=cnt_sfx hsf
 cases r with
 | nil => cases h
 | cons c r =>
  have hcc:=cnt_cons c r
  simp only [bracedS] at h
  split at h
  ·injection h with h;injection h with h h';subst h;subst h'
   exact ⟨hx.wf,hx.kind,by rw [hx.parts];simp;omega,by rw [hx.deep];omega⟩
  ·split at h
   ·obtain ⟨h1,g1,g2,g3,g4⟩:=hps r (by simp)
    split at h
    ·cases h
    ·rename_i d r2 heq
     rw [heq] at h1 g3 g4
     injection h with h;injection h with h h';subst h;subst h'
     obtain ⟨a,b,e,f⟩:=hx.give g1 g2
     have:=cnt_cons d r2
     refine ⟨a,b,?_,?_⟩
     ·rw [e];simp [tl] at g3 ⊢;omega
     ·rw [f];omega
   ·split at h
    ·rename_i hk
     obtain ⟨o,ho,rfl⟩:=optsM_form h
     obtain ⟨a,b,e,f⟩:=hx.choose hk.2 ho
     have:=optsM_len h
     exact ⟨a,b,by rw [e];simp;omega,by rw [f];omega⟩
    ·split at h
     ·cases h
     ·rename_i f' r2 heq
      injection h with h;injection h with h h';subst h;subst h'
      obtain ⟨a,b,e,f⟩:=hx.turn (formM_may heq)
      have:=formM_len heq
      exact ⟨a,b,by rw [e];omega,by rw [f];omega⟩
theorem whole_good {r : Str} {x : Sn} {s : Str} (hps : ∀ t,t.length < r.length→GoodL [] t (partsS true [] [] t).1 (partsS true [] [] t).2) (h : partS r=some (x,s)) : GoodX r x s:=by
 rw [partS_eq] at h
 cases r with
 | nil => cases h
 | cons c r =>
  simp only [wholeM] at h
  split at h
  ·rename_i hc
   split at h
   ·cases h
   ·rename_i y r2 heq
    have h1:=headM_len heq
    have h2:=cnt_sfx (headM_sfx heq)
    obtain ⟨a,b,e,f⟩:=braced_good (headM_hd heq) (fun t ht => ⟨partsS_sfx true [] [] t,hps t (by simp;omega)⟩) h
    have hc1 : c=123:=UInt8.toNat_inj.1 hc
    refine ⟨a,b,by simp;omega,?_⟩
    subst hc1
    have : cnt (123 :: r)=cnt r + 1:=by unfold cnt;simp
    omega
  ·have h1:=headM_len h
   have h2:=cnt_sfx (headM_sfx h)
   have hx:=headM_hd h
   exact ⟨hx.wf,hx.kind,by rw [hx.parts];omega,by rw [hx.deep];omega⟩
theorem tl_le (t : Str) : tl t≤1:=by unfold tl;split <;> omega
theorem parts_good : ∀ (N : Nat),(∀ r x s,r.length≤N→partS r=some (x,s)→GoodX r x s)∧(∀ ins t r,r.length≤N→GoodL t r (partsS ins [] t r).1 (partsS ins [] t r).2)
 | 0 => by
  refine ⟨fun r x s h hp => ?_,fun ins t r h => ?_⟩
  ·have : r=[]:=List.eq_nil_of_length_eq_zero (by omega)
   subst this;rw [partS_nil] at hp;cases hp
  ·have : r=[]:=List.eq_nil_of_length_eq_zero (by omega)
   subst this;rw [partsS_nil];exact ⟨adjS_withT _,wfL_withT _,Nat.le_of_eq (by rw [partsL_withT]),Nat.le_of_eq (by rw [deepL_withT,Nat.zero_add])⟩
 | N + 1 => by
  obtain ⟨ih1,ih2⟩:=parts_good N
  have k1 : ∀ r x s,r.length≤N + 1→partS r=some (x,s)→GoodX r x s:=fun r x s hr h => whole_good (fun t ht => ih2 true [] t (by omega)) h
  refine ⟨k1,fun ins t r hr => ?_⟩
  cases r with
  | nil => rw [partsS_nil];exact ⟨adjS_withT _,wfL_withT _,Nat.le_of_eq (by rw [partsL_withT]),Nat.le_of_eq (by rw [deepL_withT,Nat.zero_add])⟩
  | cons c r =>
   simp only [List.length_cons] at hr
   rw [partsS_cons]
   split
   ·exact ⟨adjS_withT _,wfL_withT _,Nat.le_of_eq (by rw [partsL_withT]),Nat.le_of_eq (by rw [deepL_withT,Nat.zero_add])⟩
   ·split
    ·rename_i x r2 he
     have hx : partS r=some (x,r2):=by
      unfold dolM at he
      split at he
      ·exact he
      ·cases he
     obtain ⟨a,b,e,f⟩:=k1 r x r2 (by omega) hx
     have h1:=partS_len hx
     have h2:=cnt_sfx (partsS_sfx ins [] [] r2)
     obtain ⟨g1,g2,g3,g4⟩:=ih2 ins [] r2 (by omega)
     have hcc:=cnt_cons c r
     have ht:=tl_le t
     rw [parts_out ins r2.length (withT [] t ++ [x]) [] r2 (Nat.le_refl _)]
     refine ⟨?_,?_,?_,?_⟩
     ·simp only [List.append_assoc,List.cons_append,List.nil_append];exact adjS_app _ _ _ _ (adjS_withT t) b g1
     ·simp only [Sn.wfL_app,Sn.wfL,wfL_withT,a,g2];rfl
     ·simp only [Sn.partsL_app,Sn.partsL,partsL_withT];simp [tl] at g3 ⊢;omega
     ·simp only [Sn.deepL_app,Sn.deepL,deepL_withT];omega
    ·have h1:=nxtM_sfx three c r
     have hl:=h1.length_le
     have hn:=cnt_sfx h1
     have hcc:=cnt_cons c r
     obtain ⟨g1,g2,g3,g4⟩:=ih2 ins (t ++ [(nxtM three (c :: r)).1]) (nxtM three (c :: r)).2 (by omega)
     refine ⟨g1,g2,?_,by omega⟩
     have e1 : tl (t ++ [(nxtM three (c :: r)).1])=1:=by unfold tl;simp
     rw [e1] at g3;simp;omega
end Go.Proofs.Ytbgcjpefocdkkaa
/- A part in memory, field by field; snippets that are small -/
set_option maxRecDepth 100000
namespace Go.Proofs.Ytbgcjpefocdkkaa
open Go.RowKit
structure SnAt (w : World) (S : Nat→Prop) (cc : List Value) (k : Int) (t : Str) (n : Int) (h u : Bool) (f : Tf) (os : List Str) (ks : List Sn) (fc : List Value) (oa : Option Addr) (oc : Nat) (ka : Option Addr) (kc : Nat) : Prop where
 eq : cc=snc k t n h u fc oa os.length oc ka ks.length kc
 len : cc.length=18
 c0 : cc[0]?=some (.int .i64 k)
 c1 : cc[1]?=some (.string ⟨(t).toArray⟩)
 c2 : cc[2]?=some (.int .i64 n)
 c3 : cc[3]?=some (.bool h)
 c4 : cc[4]?=some (.bool u)
 c16 : cc[16]?=some (.slice oa os.length oc)
 c17 : cc[17]?=some (.slice ka ks.length kc)
 cf : ∀ (j : Nat) v,fc[j]?=some v→cc[5 + j]?=some v
 fl : fc.length=11
 fv : TfV w S fc f
 ov : SlS w S oa 1 os.length (scells os)
 kv : SnSl w S ka ks.length ks
theorem SnV.at_ {w : World} {S : Nat→Prop} {cc : List Value} {k : Int} {t : Str} {n : Int} {h u : Bool} {f : Tf} {os : List Str} {ks : List Sn} (hv : SnV w S cc (.mk k t n h u f os ks)) : ∃ fc oa oc ka kc,SnAt w S cc k t n h u f os ks fc oa oc ka kc:=by
 have hl:=hv.len
 obtain ⟨fc,oa,oc,ka,kc,rfl,h0,h1,h2⟩:=hv.open_
 have hf:=h0.len
 refine ⟨fc,oa,oc,ka,kc,rfl,hl,rfl,rfl,rfl,rfl,rfl,?_,?_,fun j v hj => ?_,hf,h0,h1,h2⟩
 ·unfold snc
  rw [List.getElem?_append_right (by simp [hf])]
  simp [hf]
 ·unfold snc
  rw [List.getElem?_append_right (by simp [hf])]
  simp [hf]
 ·have hj':=(List.getElem?_eq_some_iff.1 hj).1
  unfold snc
  rw [List.getElem?_append_left (by simp;omega),List.getElem?_append_right (by simp)]
  simpa using hj
theorem SnAt.box {w w' : World} {S : Nat→Prop} {cc : List Value} {k : Int} {t : Str} {n : Int} {h u : Bool} {f : Tf} {os : List Str} {ks : List Sn} {fc : List Value} {oa : Option Addr} {oc : Nat} {ka : Option Addr} {kc : Nat} (hA : SnAt w S cc k t n h u f os ks fc oa oc ka kc) {b : Nat} {ty : TypeId} {fr : Nat × Nat} (hb : w'.heap[b]?=some (.cells cc.toArray ty fr)) :
  w'.cell? ⟨b,0,none⟩=some (.int .i64 k)∧w'.cell? ⟨b,1,none⟩=some (.string ⟨(t).toArray⟩)∧w'.cell? ⟨b,2,none⟩=some (.int .i64 n)∧w'.cell? ⟨b,3,none⟩=some (.bool h)∧w'.cell? ⟨b,4,none⟩=some (.bool u) ∧
  w'.cell? ⟨b,16,none⟩=some (.slice oa os.length oc)∧w'.cell? ⟨b,17,none⟩=some (.slice ka ks.length kc)∧w'.rangeAt b 5 fc:=by
 refine ⟨?_,?_,?_,?_,?_,?_,?_,fun j v hj => ?_⟩
 ·rw [Lib.cell_of_heap hb];simpa using hA.c0
 ·rw [Lib.cell_of_heap hb];simpa using hA.c1
 ·rw [Lib.cell_of_heap hb];simpa using hA.c2
 ·rw [Lib.cell_of_heap hb];simpa using hA.c3
 ·rw [Lib.cell_of_heap hb];simpa using hA.c4
 ·rw [Lib.cell_of_heap hb];simpa using hA.c16
 ·rw [Lib.cell_of_heap hb];simpa using hA.c17
 ·rw [Lib.cell_of_heap hb];simpa using hA.cf j v hj
/-! ### small ones -/
def Tf.small (f : Tf) : Prop:=f.rx.small∧f.rx.parts≤1000000∧f.fs.length≤1000000
mutual
def Sn.small : Sn→Prop
 | .mk _ t _ _ _ f os ks => f.small∧os.length≤1000000∧ks.length≤1000000∧t.length≤1000000∧Sn.smallL ks
def Sn.smallL : List Sn→Prop
 | [] => True
 | x :: r => x.small∧Sn.smallL r
end
theorem Sn.small_mem : ∀ {l : List Sn},Sn.smallL l→∀ x ∈ l,x.small
 | [],_,x,h => by cases h
 | y :: r,hl,x,h => by
  simp only [Sn.smallL] at hl
  rcases List.mem_cons.1 h with rfl | h
  ·exact hl.1
  ·exact Sn.small_mem hl.2 x h
theorem Sn.smallL_app : ∀ {a b : List Sn},Sn.smallL (a ++ b) ↔ Sn.smallL a∧Sn.smallL b
 | [],b => by simp [Sn.smallL]
 | x :: a,b => by simp only [List.cons_append,Sn.smallL,Sn.smallL_app (a:=a)];constructor <;> intro h <;> simp_all
theorem tf0_small : tf0.small:=⟨by simp [tf0,rx0,Rx.small,Rx.small1,Rx.smallL],by decide,by decide⟩
end Go.Proofs.Ytbgcjpefocdkkaa
/- walk of snode.Deep -/
set_option maxRecDepth 100000
namespace Go.Proofs.Ytbgcjpefocdkkaa
open Go.RowKit
def DpRel (ks : List Sn) (R : Nat) (w : World) (t q : Value) (wr : World) : Prop :=
 ∃ (k d : Nat),q=.int .i64 k∧t=.int .i64 d∧k≤ks.length∧d≤100000000∧Below w.heap.size w wr∧Hid (max d (Sn.deepL (ks.drop k))=R)
theorem sdeep_parts : ∀ (N : Nat) (x : Sn),x.parts≤N→x.deep≤x.parts
 | 0,x,h => by have:=Sn.parts_pos x;omega
 | N + 1,.mk k t n hh u f o ks,h => by
  have key : ∀ l : List Sn,Sn.partsL l≤N→Sn.deepL l≤Sn.partsL l:=by
   intro l
   induction l with
   | nil => intro _;simp [Sn.deepL]
   | cons y r ih =>
    intro hl
    simp only [Sn.partsL] at hl
    have h1:=sdeep_parts N y (by omega)
    have h2:=ih (by omega)
    simp only [Sn.deepL,Sn.partsL];omega
  simp only [Sn.parts] at h
  have:=key ks (by omega)
  simp only [Sn.deep,Sn.parts]
  split <;> omega
theorem deepLS_parts : ∀ l : List Sn,Sn.deepL l≤Sn.partsL l
 | [] => by simp [Sn.deepL]
 | x :: r => by have:=sdeep_parts _ x (Nat.le_refl _);have:=deepLS_parts r;simp only [Sn.deepL,Sn.partsL];omega
set_option maxHeartbeats 1000000 in
theorem SDeep_any (S : Nat→Prop) : ∀ (N : Nat) (ks : List Sn),Sn.partsL ks < N→Sn.partsL ks≤1000000→∀ (a : Option Addr) (c : Nat) (w : World),SnSl w S a ks.length ks →
  Calls Try.prog 12 #[.slice a ks.length c] w fun e w' => e=.returned (.int .i64 (Sn.deepL ks))∧Below w.heap.size w w'
 | 0,ks,h,_,_,_,_,_ => by omega
 | N + 1,ks,h,hm,a,c,w,hx => by
  have hlen:=Sn.len_parts ks
  have hdl:=deepLS_parts ks
  have ih:=fun (y : Sn) (hy : y.parts≤Sn.partsL ks) => SDeep_any S N y.kids (by obtain ⟨_,_,_,_,_,_,_,l⟩:=y;simp only [Sn.parts] at hy;simp only [Sn.kids];omega) (by obtain ⟨_,_,_,_,_,_,_,l⟩:=y;simp only [Sn.parts] at hy;simp only [Sn.kids];omega)
  have IH:=Lib.hid ih
  have HX:=Lib.hid hx
  obtain ⟨R,hR⟩ : ∃ R,Sn.deepL ks=R:=⟨_,rfl⟩
  have HR0 : Hid (max 0 (Sn.deepL (ks.drop 0))=R):=Lib.hid (by simpa using hR)
  have hR6 : R≤1000000:=by omega
  rw [hR]
  clear hR hx ih hdl
  go_enter Try.func12,Try.ntmps12
  go_wp2
  go_loopw [3,9] (fun t q wr => DpRel ks R w t q wr) (fun _ q _ => ks.length - (intOf q).toNat)
  case atStart => exact ⟨0,0,rfl,rfl,by omega,by omega,Below.refl _ _,HR0⟩
  case round =>
   obtain ⟨i,d,rfl,rfl,hi,hd9,hb,HF⟩:=hrel
   clear HR0
   have hB:=hb.size
   cases hd : ks.drop i with
   | nil =>
    have h2 : ks.length≤i:=by simpa using hd
    have HE : Hid (d=R):=Lib.hid (by rw [← HF.out,hd];simp [Sn.deepL])
    clear hd HF
    go_wp2
    go_ret
    exact ⟨ret_int (by have:=HE.out;omega),hb⟩
   | cons y r =>
    obtain ⟨h2,h3,hr⟩:=ldrop_cons hd
    obtain ⟨yk,yt,yn,yh,yu,yf,yo,ys⟩:=y
    have hyp:=Sn.parts_mem (List.mem_of_getElem? h3)
    obtain ⟨b,o,cc,rfl,hS,hbB,hyv,hcc⟩:=(HX.out.later hb).at_ h3
    have hrg : wr.rangeAt b (o + i * 18) cc:=fun j v hj => by rw [Nat.add_assoc];exact hcc j v hj
    have hcl:=hyv.len
    obtain ⟨fc,oa,oc,ka,kc,hA⟩:=hyv.at_
    have Hr:=Lib.hid hr
    have HE : Hid (max d (max (Sn.deepL ys + (if yh then 1 else 0)) (Sn.deepL r))=R):=Lib.hid (by rw [← HF.out,hd];rfl)
    obtain ⟨W5,hW5⟩ : ∃ W5,W5=wr.alloc (.cells cc.toArray 36):=⟨_,rfl⟩
    have HW5 : Hid ((wr.alloc (.cells #[.int .i64 0,.string ⟨#[]⟩,.int .i64 0,.bool false,.bool false,.int .i64 0,.string ⟨#[]⟩,.bool false,.slice none 0 0,.int .i64 0,.int .i64 0,.bool false,.slice none 0 0,.slice none 0 0,.bool false,.bool false,.slice none 0 0,.slice none 0 0] 36)).setRow wr.heap.size cc.toArray=W5):=Lib.hid (by rw [hW5];exact World.setRow_alloc_new _ _ _ _)
    have hb5 : Below wr.heap.size wr W5:=by rw [hW5];exact (Below.refl _ _).alloc (Nat.le_refl _) _
    have HBX : Hid (W5.heap[wr.heap.size]?=some (.cells cc.toArray 36 (0,0))):=Lib.hid (by rw [hW5];exact heap_alloc_new _ _)
    have HIH : Hid (Calls Try.prog 12 #[.slice ka ys.length kc] W5 fun e w' => e=.returned (.int .i64 (Sn.deepL ys))∧Below W5.heap.size W5 w'):=Lib.hid (IH.out _ hyp ka kc W5 (hA.kv.later hb5))
    obtain ⟨_,_,_,k3,_,_,k17,_⟩:=hA.box HBX.out
    have HA:=Lib.hid hA
    have HONE : Hid (∀ u ∈ cc.toArray.toList,u.oneCell'=true):=Lib.hid (fun u hu => hyv.one u (by simpa using hu))
    have hle : max d (Sn.deepL ys + (if yh then 1 else 0))≤R:=by have:=HE.out;omega
    clear hd HF hr h3 hyv hcc hW5 hA
    cases yh with
    | true =>
     simp only [if_true] at hle
     go_wp2_with (first
      | (refine wpList_ldW rfl 36 (.tmp 11) rfl b (o + i * 18) rfl cc _ hrg snip_under rfl (by rw [snip_size,hcl]) ?_)
      | (refine wpList_stW rfl 36 (.tmp 5) (.tmp 12) rfl (wr.heap.size) (cc.toArray) rfl rfl 36 (#[.int .i64 0,.string ⟨#[]⟩,.int .i64 0,.bool false,.bool false,.int .i64 0,.string ⟨#[]⟩,.bool false,.slice none 0 0,.int .i64 0,.int .i64 0,.bool false,.slice none 0 0,.slice none 0 0,.bool false,.bool false,.slice none 0 0,.slice none 0 0]) (heap_alloc_new wr _) (snip_size) (by simp [hcl]) rfl (HONE.out) (W:=W5) (HW5.out) ?_)
      | (go_at_call 12;refine HIH.out.mono ?_;rintro e w1 ⟨rfl,hb1⟩;have hx1:=(hb1.block _ (heap_lt HBX.out)).trans HBX.out;obtain ⟨_,_,_,k31,_,_,_,_⟩:=HA.out.box hx1))
     go_roundw
     case rel => exact ⟨i + 1,(max d (Sn.deepL ys + 1)),by go_num,(by congr 1;first | (rw [wrap64_in _ (by omega)];split <;> omega) | (split <;> omega)),by omega,by omega,(hb.trans (hb5.mono hB)).trans (hb1.mono (Nat.le_trans hB hb5.size)),Lib.hid (by rw [Hr.out];have h:=HE.out;first | (rw [if_pos (by decide)] at h;omega) | (rw [if_neg (by decide)] at h;omega))⟩
     case measure => simp [intOf];omega
    | false =>
     simp only [Bool.false_eq_true,if_false,Nat.add_zero] at hle
     go_wp2_with (first
      | (refine wpList_ldW rfl 36 (.tmp 11) rfl b (o + i * 18) rfl cc _ hrg snip_under rfl (by rw [snip_size,hcl]) ?_)
      | (refine wpList_stW rfl 36 (.tmp 5) (.tmp 12) rfl (wr.heap.size) (cc.toArray) rfl rfl 36 (#[.int .i64 0,.string ⟨#[]⟩,.int .i64 0,.bool false,.bool false,.int .i64 0,.string ⟨#[]⟩,.bool false,.slice none 0 0,.int .i64 0,.int .i64 0,.bool false,.slice none 0 0,.slice none 0 0,.bool false,.bool false,.slice none 0 0,.slice none 0 0]) (heap_alloc_new wr _) (snip_size) (by simp [hcl]) rfl (HONE.out) (W:=W5) (HW5.out) ?_)
      | (go_at_call 12;refine HIH.out.mono ?_;rintro e w1 ⟨rfl,hb1⟩;have hx1:=(hb1.block _ (heap_lt HBX.out)).trans HBX.out;obtain ⟨_,_,_,k31,_,_,_,_⟩:=HA.out.box hx1))
     go_roundw
     case rel => exact ⟨i + 1,(max d (Sn.deepL ys)),by go_num,(by congr 1;first | (rw [wrap64_in _ (by omega)];split <;> omega) | (split <;> omega)),by omega,by omega,(hb.trans (hb5.mono hB)).trans (hb1.mono (Nat.le_trans hB hb5.size)),Lib.hid (by rw [Hr.out];have h:=HE.out;first | (rw [if_pos (by decide)] at h;omega) | (rw [if_neg (by decide)] at h;omega))⟩
     case measure => simp [intOf];omega
end Go.Proofs.Ytbgcjpefocdkkaa
/- walks of slices.Clone of texts and of formats' parts, xform.Clone -/
set_option maxRecDepth 100000
namespace Go.Proofs.Ytbgcjpefocdkkaa
open Go.RowKit
theorem str_infoC : (Try.prog.info? 9).map (fun i => (i.zero,i.size,i.bytes))=some (some (.string ⟨#[]⟩),1,16):=by kernel_rfl
theorem scells_one (l : List Str) : ∀ u ∈ scells l,u.oneCell'=true:=fun u hu => by
 simp only [scells,List.mem_map] at hu
 obtain ⟨_,_,rfl⟩:=hu;rfl
set_option maxHeartbeats 1000000 in
theorem StrClone_any (a : Option Addr) (n c : Nat) (l : List Str) (w : World) (hl : n=l.length) (h : Sl w w.heap.size a 1 n (scells l)) (hn : n≤1000000) :
  Calls Try.prog 30 #[.slice a n c] w fun e w' => ∃ a' c',e=.returned (.slice a' n c')∧SlS w' (fun b => w.heap.size≤b) a' 1 n (scells l)∧Below w.heap.size w w':=by
 subst hl
 obtain ⟨ir,hir⟩:=info_parts str_infoC
 cases a with
 | none =>
  have h0 : l=[]:=by
   rcases Nat.eq_zero_or_pos l.length with h0 | h0
   ·exact List.eq_nil_of_length_eq_zero h0
   ·obtain ⟨b,o,e,_⟩:=h.2 h0;cases e
  subst h0
  have hq : (binOp .eql 34 (.slice none 0 c) (.slice none 0 0)).run Try.prog w=.ok (.bool true) w:=Go.run_eql_slice_nil w _ _ none 0 c Try.underlying34
  go_enter Try.func30,Try.ntmps30
  go_wp2
  go_ret
  exact ⟨none,0,rfl,SlS.none_ _ _ _ _,Below.refl _ _⟩
 | some ad =>
  have HS:=Lib.hid (h.alloc_self (.cells #[] 9))
  have hq : (binOp .eql 34 (.slice (some ad) l.length c) (.slice none 0 0)).run Try.prog w=.ok (.bool false) w:=Go.run_eql_slice_nil w _ _ (some ad) _ c Try.underlying34
  clear h
  go_enter Try.func30,Try.ntmps30
  go_wp2_with (at_builtin;refine wpList_appM w.heap.size 9 rfl _ _ 34 rfl Try.underlying34 hir rfl (by decide) rfl (World.ownsRow_made w #[] 0 (Nat.le_refl _) (by simp [maxLen]) rfl) rfl HS.out (scells_one l) (by omega) (by omega) (by decide) (by simp) ?_)
  intro v1 w1 ho1 hg1 hb1 _
  obtain ⟨a1,c1,rfl⟩:=own_form ho1
  go_wp2
  go_ret
  refine ⟨a1,c1,by simp,by simpa using own_slS ho1,((Below.refl _ _).alloc (Nat.le_refl _) _).trans hb1⟩
set_option maxHeartbeats 1000000 in
theorem FmClone_any (a : Option Addr) (n c : Nat) (l : List Fm) (w : World) (hl : n=l.length) (h : Sl w w.heap.size a 5 n (fcells l)) (hn : n≤1000000) :
  Calls Try.prog 37 #[.slice a n c] w fun e w' => ∃ a' c',e=.returned (.slice a' n c')∧SlS w' (fun b => w.heap.size≤b) a' 5 n (fcells l)∧Below w.heap.size w w':=by
 subst hl
 obtain ⟨ir,hir⟩:=info_parts fm_info
 cases a with
 | none =>
  have h0 : l=[]:=by
   rcases Nat.eq_zero_or_pos l.length with h0 | h0
   ·exact List.eq_nil_of_length_eq_zero h0
   ·obtain ⟨b,o,e,_⟩:=h.2 h0;cases e
  subst h0
  have hq : (binOp .eql 31 (.slice none 0 c) (.slice none 0 0)).run Try.prog w=.ok (.bool true) w:=Go.run_eql_slice_nil w _ _ none 0 c Try.underlying31
  go_enter Try.func37,Try.ntmps37
  go_wp2
  go_ret
  exact ⟨none,0,rfl,SlS.none_ _ _ _ _,Below.refl _ _⟩
 | some ad =>
  have HS:=Lib.hid (h.alloc_self (.cells #[] 82))
  have hq : (binOp .eql 31 (.slice (some ad) l.length c) (.slice none 0 0)).run Try.prog w=.ok (.bool false) w:=Go.run_eql_slice_nil w _ _ (some ad) _ c Try.underlying31
  clear h
  go_enter Try.func37,Try.ntmps37
  go_wp2_with (at_builtin;refine wpList_appM w.heap.size 82 rfl _ _ 31 rfl Try.underlying31 hir rfl (by decide) rfl (World.ownsRow_made w #[] 0 (Nat.le_refl _) (by simp [maxLen]) rfl) rfl HS.out (fcells_one' l) (by omega) (by omega) (by decide) (by simp) ?_)
  intro v1 w1 ho1 hg1 hb1 _
  obtain ⟨a1,c1,rfl⟩:=own_form ho1
  go_wp2
  go_ret
  refine ⟨a1,c1,by simp,by simpa using own_slS ho1,((Below.refl _ _).alloc (Nat.le_refl _) _).trans hb1⟩
end Go.Proofs.Ytbgcjpefocdkkaa
/- walk of xform.Clone -/
set_option maxRecDepth 100000
namespace Go.Proofs.Ytbgcjpefocdkkaa
open Go.RowKit
theorem form_size : (Try.prog.info? 33).map (·.size)=some 11:=by kernel_rfl
theorem rx_size : (Try.prog.info? 30).map (·.size)=some 8:=by kernel_rfl
theorem form_under : Try.prog.underlying 33=some (.struct (Try.prog.fieldsOf 33)):=by kernel_rfl
theorem rx_under : Try.prog.underlying 30=some (.struct (Try.prog.fieldsOf 30)):=by kernel_rfl
def RxP (B : Nat) (X : Rx) : Value→World→Prop:=fun v W => ∃ rc',v=.agg rc'.toArray∧RxV W (fun b => B≤b) rc' X
def SlP (B sz n : Nat) (cs : List Value) : Value→World→Prop:=fun v W => ∃ a c,v=.slice a n c∧SlS W (fun b => B≤b) a sz n cs
def XFs (B b1 : Nat) (rc : List Value) (X : Rx) (fa : Option Addr) (fcp : Nat) (fs : List Fm) : List (Value→World→Prop) :=
 [eqP (.pointer (some ⟨b1,0,none⟩)),eqP (.agg rc.toArray),RxP B X,eqP (.pointer (some ⟨b1,8,none⟩)),eqP (.slice fa fs.length fcp),SlP B 5 fs.length (fcells fs),eqP (.pointer (some ⟨b1,0,none⟩))]
theorem RxP.mono {B : Nat} {X : Rx} (v : Value) (w w' : World) (hb : Below w.heap.size w w') (h : RxP B X v w) : RxP B X v w':=by
 obtain ⟨rc',h1,h2⟩:=h
 exact ⟨rc',h1,h2.later hb⟩
theorem SlP.mono {B sz n : Nat} {cs : List Value} (v : Value) (w w' : World) (hb : Below w.heap.size w w') (h : SlP B sz n cs v w) : SlP B sz n cs v w':=by
 obtain ⟨a,c,h1,h2⟩:=h
 exact ⟨a,c,h1,h2.keep (Kept.all hb)⟩
theorem XFs_mono (B b1 : Nat) (rc : List Value) (X : Rx) (fa : Option Addr) (fcp : Nat) (fs : List Fm) : MonoF (XFs B b1 rc X fa fcp fs) :=
 .eq (.eq (.cons RxP.mono (.eq (.eq (.cons SlP.mono (.eq .nil))))))
def XRI (B b1 : Nat) (rc : List Value) (X : Rx) (fa : Option Addr) (fcp : Nat) (fs : List Fm) (A0 : Act) (W0 : World) (L : Nat→Bool) (a : Act) (w' : World) : Prop :=
 ∃ V : Nat→Value,Fm2 [3,4,5,6,7,8,9] V A0 a∧BelI W0 (XFs B b1 rc X fa fcp fs) V L w'
theorem setsL_below {w0 w : World} {b : Nat} (h : Below w0.heap.size w0 w) (hb : w0.heap.size≤b) : ∀ (vs : List Value) (o : Nat),Below w0.heap.size w0 (setsL b o vs w):=by
 intro vs
 induction vs generalizing w with
 | nil => intro o;exact h
 | cons v r ih => intro o;exact ih (h.setCell hb _) (o + 1)
theorem below_setRow {w0 w : World} {b : Nat} (h : Below w0.heap.size w0 w) (hb : w0.heap.size≤b) (cs : Array Value) : Below w0.heap.size w0 (w.setRow b cs) :=
 ⟨h.os,h.tape,h.output,by rw [sr_size];exact h.size,fun k hk => (sr_other cs (by omega)).trans (h.block k hk)⟩
theorem res_box1 {fn : Func} {p : Tmp} {ty t : TypeId} {tmps : Array Value} {w : World} {b : Nat} {cs : Array Value} {f : Nat × Nat} {fs : Array Field} {n : Nat} (hr : fn.results=#[.cell p ty]) (hu : Try.prog.underlying ty=some (.struct fs)) (hi : (Try.prog.info? ty).map (·.size)=some n)
  (h : w.heap[b]?=some (.cells cs t f)) (hn : cs.size=n) (hp : tmps.getD p undef=.pointer (some ⟨b,0,none⟩)) : (results fn tmps).run Try.prog w=.ok (.agg cs) w:=by
 subst hn
 exact results_cell_row hr tmps w b t cs f _ hp h hu rfl hi
set_option maxHeartbeats 4000000 in
theorem XClone_any (S : Nat→Prop) (f : Tf) (hsm : f.small) (fc : List Value) (w : World) (hv : TfV w S fc f) :
  Calls Try.prog 29 #[.agg fc.toArray] w fun e w' => ∃ fc',e=.returned (.agg fc'.toArray)∧TfV w' (fun b => w.heap.size≤b) fc' f∧Below w.heap.size w w':=by
 obtain ⟨rk,rch,rng,rrs,rlo,rhi,rlz,rks,ra,rcp,rka,rkc,fa,fcp,hc⟩:=hv.open_
 obtain ⟨X,fs,fd,al⟩:=f
 obtain ⟨hx,hp,hfs⟩:=hsm
 have hxe : X=.mk rk rch rng rrs rlo rhi rlz rks:=hc.rx
 obtain ⟨W0,hW0⟩ : ∃ W0,W0=(w.alloc (.cells fc.toArray 33)).alloc (.cells #[.int .i64 0,.string ⟨#[]⟩,.bool false,.slice none 0 0,.int .i64 0,.int .i64 0,.bool false,.slice none 0 0,.slice none 0 0,.bool false,.bool false] 33):=⟨_,rfl⟩
 have hb0 : Below w.heap.size w W0:=by rw [hW0];exact ((Below.refl _ _).alloc (Nat.le_refl _) _).alloc (by simp) _
 have hz0 : W0.heap.size=w.heap.size + 2:=by rw [hW0];simp
 have HB1 : Hid (W0.heap[w.heap.size]?=some (.cells fc.toArray 33 (0,0))):=Lib.hid (by rw [hW0,Below.heap_alloc _ _ _ (by simp)];exact heap_alloc_new w _)
 have HB2 : Hid (W0.heap[w.heap.size + 1]?=some (.cells #[.int .i64 0,.string ⟨#[]⟩,.bool false,.slice none 0 0,.int .i64 0,.int .i64 0,.bool false,.slice none 0 0,.slice none 0 0,.bool false,.bool false] 33 (0,0))):=Lib.hid (by
  have:=heap_alloc_new (w.alloc (.cells fc.toArray 33)) (.cells #[.int .i64 0,.string ⟨#[]⟩,.bool false,.slice none 0 0,.int .i64 0,.int .i64 0,.bool false,.slice none 0 0,.slice none 0 0,.bool false,.bool false] 33)
  rw [hW0];simpa using this)
 have HXV : Hid (RxV W0 S (rxc rk rch rng ra rrs.length rcp rlo rhi rlz rka rks.length rkc) X):=Lib.hid (hxe ▸ hc.rv.later hb0)
 have HFS : Hid (SlS W0 S fa 5 fs.length (fcells fs)):=Lib.hid (hc.fv.keep (Kept.all hb0))
 have HXS:=Lib.hid hx
 obtain ⟨rc,hrc⟩ : ∃ rc,rc=rxc rk rch rng ra rrs.length rcp rlo rhi rlz rka rks.length rkc:=⟨_,rfl⟩
 have hl8 : rc.length=8:=by rw [hrc];rfl
 have hfce : fc=[.int .i64 rk,.string ⟨(rch).toArray⟩,.bool rng,.slice ra rrs.length rcp,.int .i64 rlo,.int .i64 rhi,.bool rlz,.slice rka rks.length rkc,.slice fa fs.length fcp,.bool fd,.bool al]:=hc.eq
 subst hfce
 have HW0:=Lib.hid hW0
 have HRC:=Lib.hid hrc
 clear hv hc hx hxe hW0
 go_enter Try.func29,Try.ntmps29
 go_upto_region 1 with fail
 rw [← HW0.out]
 refine wp_region_relyE 7 (by kernel_rfl) (by kernel_rfl) (fun A0 W0 L a w' => XRI (w.heap.size + 2) w.heap.size rc X fa fcp fs A0 W0 L a w') ?_
 intro A0 HA
 have hsz : A0.tmps.size=12:=by rw [HA.out];rfl
 have hnd : [3,4,5,6,7,8,9].Nodup:=by decide
 have hbd : ∀ d ∈ [3,4,5,6,7,8,9],d < A0.tmps.size:=by rw [hsz];decide
 have e1 : A0.tmps[1]?=some (.pointer (some ⟨w.heap.size,0,none⟩)):=by rw [HA.out];rfl
 have hM:=XFs_mono (w.heap.size + 2) w.heap.size rc X fa fcp fs
 have hbx : ∀ w',Below W0.heap.size W0 w'→w'.heap[w.heap.size]?=some (.cells (rc ++ [Value.slice fa fs.length fcp,Value.bool fd,Value.bool al]).toArray 33 (0,0)):=fun w' h => by rw [HRC.out];exact (h.block _ (heap_lt HB1.out)).trans HB1.out
 refine ⟨?_,?_,?_⟩
 ·obtain ⟨V,hV⟩:=putsL_own A0 [3,4,5,6,7,8,9]
  exact ⟨V,⟨hV⟩,BelI.start _ _ _⟩
 ·refine ⟨?_,?_,?_,?_,?_,?_,?_,trivial⟩
  ·skip
   intro L a w' hL hd hI
   obtain ⟨V,hf,hB⟩:=hI
   simp [DepsOk,Region.binds] at hd
   have e:=ev_of ((hf.out (t:=1) (by decide)).trans e1)
   refine rs_val (wanted_none rfl) (v:=.pointer (some ⟨w.heap.size,0,none⟩)) (w':=w') (by simp only [execOp,e];kernel_rfl) ?_
   exact ⟨_,hf.put hnd hbd 0 rfl _,hB.same hM 0 rfl⟩
  ·skip
   intro L a w' hL hd hI
   obtain ⟨V,hf,hB⟩:=hI
   simp [DepsOk,Region.binds] at hd
   refine wpList_ldW rfl 30 (.tmp 3) rfl w.heap.size 0 (ev_of ((hf.ins hnd hbd 0 rfl).trans (congrArg some (show V 0=.pointer (some ⟨w.heap.size,0,none⟩) from hB.at_ 0 (by simp [hd]))))) rc _ (range_blk (hbx w' hB.ext)) rx_under rfl (by rw [rx_size,hl8]) ?_
   refine wpList_nil ?_
   exact ⟨_,hf.put hnd hbd 1 rfl _,hB.same hM 1 rfl⟩
  ·skip
   intro L a w' hL hd hI
   obtain ⟨V,hf,hB⟩:=hI
   simp [DepsOk,Region.binds] at hd
   have e:=(ev_of ((hf.ins hnd hbd 1 rfl).trans (congrArg some (show V 1=.agg rc.toArray from hB.at_ 1 (by simp [hd])))))
   have hxv:=HXV.out.later hB.ext
   rw [← HRC.out] at hxv
   refine rs_call (wanted_none rfl) (ex_call (vs:=#[.agg rc.toArray]) rfl Try.func36 (by kernel_rfl) (by rw [List.map_toArray];simp only [List.map_cons,List.map_nil,e])) ((Clone_any S X.parts X (Nat.le_refl _) HXS.out rc w' hxv).mono ?_)
   rintro e9 w9 ⟨rc',rfl,hv9,hb9⟩
   refine ⟨_,rfl,?_⟩
   exact ⟨_,hf.put hnd hbd 2 rfl _,hB.step hM 2 hb9 ⟨rc',rfl,hv9.mono fun b hb _ => by have:=hB.ext.size;have : w'.heap.size≤b:=hb;show w.heap.size + 2≤b;omega⟩⟩
  ·skip
   intro L a w' hL hd hI
   obtain ⟨V,hf,hB⟩:=hI
   simp [DepsOk,Region.binds] at hd
   have e:=ev_of ((hf.out (t:=1) (by decide)).trans e1)
   refine rs_val (wanted_none rfl) (v:=.pointer (some ⟨w.heap.size,8,none⟩)) (w':=w') (by simp only [execOp,e];kernel_rfl) ?_
   exact ⟨_,hf.put hnd hbd 3 rfl _,hB.same hM 3 rfl⟩
  ·skip
   intro L a w' hL hd hI
   obtain ⟨V,hf,hB⟩:=hI
   simp [DepsOk,Region.binds] at hd
   have e:=(hf.ins hnd hbd 3 rfl).trans (congrArg some (show V 3=.pointer (some ⟨w.heap.size,8,none⟩) from hB.at_ 3 (by simp [hd])))
   have hcell : w'.cell? ⟨w.heap.size,8,none⟩=some (.slice fa fs.length fcp):=by rw [Lib.cell_of_heap (hbx w' hB.ext)];simp [hl8]
   refine rs_val (wanted_none rfl) (ex_load rfl e (u:=.slice fa fs.length fcp) (by go_simp)) ?_
   exact ⟨_,hf.put hnd hbd 4 rfl _,hB.same hM 4 rfl⟩
  ·skip
   intro L a w' hL hd hI
   obtain ⟨V,hf,hB⟩:=hI
   simp [DepsOk,Region.binds] at hd
   have e:=(ev_of ((hf.ins hnd hbd 4 rfl).trans (congrArg some (show V 4=.slice fa fs.length fcp from hB.at_ 4 (by simp [hd])))))
   refine rs_call (wanted_none rfl) (ex_call (vs:=#[.slice fa fs.length fcp]) rfl Try.func37 (by kernel_rfl) (by rw [List.map_toArray];simp only [List.map_cons,List.map_nil,e])) ((FmClone_any fa fs.length fcp fs w' rfl (HFS.out.keep (Kept.all hB.ext)).sl hfs).mono ?_)
   rintro e9 w9 ⟨a9,c9,rfl,hv9,hb9⟩
   refine ⟨_,rfl,?_⟩
   exact ⟨_,hf.put hnd hbd 5 rfl _,hB.step hM 5 hb9 ⟨a9,c9,rfl,hv9.mono fun b hb _ => by have:=hB.ext.size;have : w'.heap.size≤b:=hb;show w.heap.size + 2≤b;omega⟩⟩
  ·skip
   intro L a w' hL hd hI
   obtain ⟨V,hf,hB⟩:=hI
   simp [DepsOk,Region.binds] at hd
   have e:=ev_of ((hf.out (t:=1) (by decide)).trans e1)
   refine rs_val (wanted_none rfl) (v:=.pointer (some ⟨w.heap.size,0,none⟩)) (w':=w') (by simp only [execOp,e];kernel_rfl) ?_
   exact ⟨_,hf.put hnd hbd 6 rfl _,hB.same hM 6 rfl⟩
 ·intro L a w' hL hI
  obtain ⟨V,hf,hB⟩:=hI
  obtain ⟨rc',hv2,hxv⟩:=(show RxP (w.heap.size + 2) X (V 2) w' from hB.at_ 2 (hL 2 (by decide)))
  obtain ⟨a9,c9,hv5,hsv⟩:=(show SlP (w.heap.size + 2) 5 fs.length (fcells fs) (V 5) w' from hB.at_ 5 (hL 5 (by decide)))
  have hv6 : V 6=.pointer (some ⟨w.heap.size,0,none⟩):=hB.at_ 6 (hL 6 (by decide))
  have hbx':=hbx w' hB.ext
  have hby:=(hB.ext.block _ (heap_lt HB2.out)).trans HB2.out
  have hbw:=bel2 hb0 hB.ext
  have ha:=hf.eq
  have hA:=HA.out
  obtain ⟨qk,qch,qng,qrs,qlo,qhi,qlz,qks⟩:=X
  obtain ⟨qa,qc,qb,qd,rfl,hq1,hq2⟩:=hxv.open_
  unfold rxc at hv2
  have HXV':=Lib.hid (RxV.close (k:=qk) (c:=qch) (ng:=qng) (lo:=qlo) (hi:=qhi) (lz:=qlz) (rc:=qc) (kc:=qd) hq1 hq2)
  have HSV:=Lib.hid hsv
  have HBW:=Lib.hid hbw
  have HBX:=Lib.hid hbx'
  have HBY:=Lib.hid hby
  have hzw:=hB.ext.size
  subst ha
  subst hA
  simp only [putsL,hv2,hv5,hv6,List.drop_succ_cons,List.drop_zero]
  rw [HRC.out] at HBX
  have hbx:=HBX.out
  unfold rxc at hbx
  clear hf hB hM hbd hsz e1 HA hv2 hv5 hv6 hxv hsv hq1 hq2 hbx' hby hL HB1 HB2 HXV HFS HXS HW0
  have z0:=blk_cell hbx 0 rfl
  have z1:=blk_cell hbx 1 rfl
  have z2:=blk_cell hbx 2 rfl
  have z3:=blk_cell hbx 3 rfl
  have z4:=blk_cell hbx 4 rfl
  have z5:=blk_cell hbx 5 rfl
  have z6:=blk_cell hbx 6 rfl
  have z7:=blk_cell hbx 7 rfl
  have z8:=blk_cell hbx 8 rfl
  have zf:=blk_free hbx
  obtain ⟨W7,hW7⟩ : ∃ W7,W7=(((((((((w'.setCell ⟨w.heap.size,0,none⟩ (.int .i64 qk)).setCell ⟨w.heap.size,1,none⟩ (.string ⟨(qch).toArray⟩)).setCell ⟨w.heap.size,2,none⟩ (.bool qng)).setCell ⟨w.heap.size,3,none⟩ (.slice qa qrs.length qc)).setCell ⟨w.heap.size,4,none⟩ (.int .i64 qlo)).setCell ⟨w.heap.size,5,none⟩ (.int .i64 qhi)).setCell ⟨w.heap.size,6,none⟩ (.bool qlz)).setCell ⟨w.heap.size,7,none⟩ (.slice qb qks.length qd)).setCell ⟨w.heap.size,8,none⟩ (.slice a9 fs.length c9)):=⟨_,rfl⟩
  have hW7' : W7=setsL w.heap.size 0 [.int .i64 qk,.string ⟨(qch).toArray⟩,.bool qng,.slice qa qrs.length qc,.int .i64 qlo,.int .i64 qhi,.bool qlz,.slice qb qks.length qd,.slice a9 fs.length c9] w':=hW7
  have HX7 : Hid (W7.heap[w.heap.size]?=some (.cells #[.int .i64 qk,.string ⟨(qch).toArray⟩,.bool qng,.slice qa qrs.length qc,.int .i64 qlo,.int .i64 qhi,.bool qlz,.slice qb qks.length qd,.slice a9 fs.length c9,.bool fd,.bool al] 33 (0,0))):=Lib.hid (by
   rw [hW7']
   exact setsL_mid (post:=[.bool fd,.bool al]) [.int .i64 qk,.string ⟨(qch).toArray⟩,.bool qng,.slice qa qrs.length qc,.int .i64 qlo,.int .i64 qhi,.bool qlz,.slice qb qks.length qd,.slice a9 fs.length c9] [.int .i64 rk,.string ⟨(rch).toArray⟩,.bool rng,.slice ra rrs.length rcp,.int .i64 rlo,.int .i64 rhi,.bool rlz,.slice rka rks.length rkc,.slice fa fs.length fcp] [] hbx rfl)
  have HY7 : Hid (W7.heap[w.heap.size + 1]?=some (.cells #[.int .i64 0,.string ⟨#[]⟩,.bool false,.slice none 0 0,.int .i64 0,.int .i64 0,.bool false,.slice none 0 0,.slice none 0 0,.bool false,.bool false] 33 (0,0))):=Lib.hid (by rw [hW7',setsL_other (by omega)];exact HBY.out)
  have HBW7 : Hid (Below w.heap.size w W7):=Lib.hid (by rw [hW7'];exact setsL_below HBW.out (Nat.le_refl _) _ _)
  have hk7 : Kept (fun b => w.heap.size + 2≤b) w' W7:=⟨by rw [hW7',setsL_size];exact Nat.le_refl _,fun b hb _ => by have : w.heap.size + 2≤b:=hb;rw [hW7',setsL_other (by omega)]⟩
  have HV7 : Hid (TfV W7 (fun b => w.heap.size + 2≤b) [.int .i64 qk,.string ⟨(qch).toArray⟩,.bool qng,.slice qa qrs.length qc,.int .i64 qlo,.int .i64 qhi,.bool qlz,.slice qb qks.length qd,.slice a9 fs.length c9,.bool fd,.bool al] ⟨.mk qk qch qng qrs qlo qhi qlz qks,fs,fd,al⟩):=Lib.hid ⟨_,a9,c9,HXV'.out.keep hk7,HSV.out.keep hk7,rfl⟩
  have HON7:=Lib.hid HV7.out.one
  clear hW7'
  go_upto_region 2 with fail
  rw [← hW7]
  clear hW7 z0 z1 z2 z3 z4 z5 z6 z7 z8 zf hbx hk7
  have HB9:=Lib.hid (sr_heap (w:=W7) (cs:=#[.int .i64 qk,.string ⟨(qch).toArray⟩,.bool qng,.slice qa qrs.length qc,.int .i64 qlo,.int .i64 qhi,.bool qlz,.slice qb qks.length qd,.slice a9 fs.length c9,.bool fd,.bool al]) HY7.out)
  go_wp2_with (first | (refine wpList_ldW rfl 33 (.tmp 1) rfl (w.heap.size) 0 rfl ([.int .i64 qk,.string ⟨(qch).toArray⟩,.bool qng,.slice qa qrs.length qc,.int .i64 qlo,.int .i64 qhi,.bool qlz,.slice qb qks.length qd,.slice a9 fs.length c9,.bool fd,.bool al]) _ (range_blk (ds:=[]) (HX7.out)) form_under rfl (by rw [form_size];rfl) ?_) | (refine wpList_stW rfl 33 (.tmp 2) (.tmp 11) rfl ((w.heap.size + 1)) (#[.int .i64 qk,.string ⟨(qch).toArray⟩,.bool qng,.slice qa qrs.length qc,.int .i64 qlo,.int .i64 qhi,.bool qlz,.slice qb qks.length qd,.slice a9 fs.length c9,.bool fd,.bool al]) rfl rfl 33 (#[.int .i64 0,.string ⟨#[]⟩,.bool false,.slice none 0 0,.int .i64 0,.int .i64 0,.bool false,.slice none 0 0,.slice none 0 0,.bool false,.bool false]) (HY7.out) (form_size) rfl rfl (HON7.out) (W:=(W7.setRow (w.heap.size + 1) #[.int .i64 qk,.string ⟨(qch).toArray⟩,.bool qng,.slice qa qrs.length qc,.int .i64 qlo,.int .i64 qhi,.bool qlz,.slice qb qks.length qd,.slice a9 fs.length c9,.bool fd,.bool al])) (rfl) ?_))
  refine bodyPost_ret (res_box1 Try.results29 form_under form_size HB9.out rfl rfl) rfl ?_
  refine ⟨_,rfl,(HV7.out.keep ⟨by rw [sr_size];exact Nat.le_refl _,fun b hb _ => sr_other _ (by have : w.heap.size + 2≤b:=hb;omega)⟩).mono fun b hb _ => by have : w.heap.size + 2≤b:=hb;show w.heap.size≤b;omega,below_setRow HBW7.out (by omega) _⟩
end Go.Proofs.Ytbgcjpefocdkkaa
