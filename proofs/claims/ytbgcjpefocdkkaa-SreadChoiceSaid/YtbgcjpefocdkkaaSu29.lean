/- A slice in memory that reads as cells; a text among them. -/
import Derived.Test.YtbgcjpefocdkkaaSu1
import Derived.Lib.ItoaMem
import Derived.Test.YtbgcjpefocdkkaaSu10
import Derived.Test.YtbgcjpefocdkkaaSu12
import Derived.Test.YtbgcjpefocdkkaaSu2
import Derived.Test.YtbgcjpefocdkkaaSu3
import Derived.Test.YtbgcjpefocdkkaaSu4
import Derived.Test.YtbgcjpefocdkkaaSu5
import Derived.Test.YtbgcjpefocdkkaaSu6
import Derived.Test.YtbgcjpefocdkkaaSu7
import Derived.Test.YtbgcjpefocdkkaaSu8
import Derived.Test.YtbgcjpefocdkkaaSu9
import Derived.Test.YtbgcjpefocdkkaaSu11
import Derived.Test.YtbgcjpefocdkkaaSu13
import Derived.Test.YtbgcjpefocdkkaaSu14
import Derived.Test.YtbgcjpefocdkkaaSu15
import Derived.Test.YtbgcjpefocdkkaaSu16
import Derived.Test.YtbgcjpefocdkkaaSu17
import Derived.Test.YtbgcjpefocdkkaaSu18
import Derived.Test.YtbgcjpefocdkkaaSu19
import Derived.Test.YtbgcjpefocdkkaaSu20
import Derived.Test.YtbgcjpefocdkkaaSu21
import Derived.Test.YtbgcjpefocdkkaaSu22
import Derived.Test.YtbgcjpefocdkkaaSu23
import Derived.Test.YtbgcjpefocdkkaaSu24
import Derived.Test.YtbgcjpefocdkkaaSu25
import Derived.Test.YtbgcjpefocdkkaaSu26
import Derived.Test.YtbgcjpefocdkkaaSu27
import Derived.Test.YtbgcjpefocdkkaaSu28
import Derived.ChangeArms
import Derived.Deep.Slices
set_option maxRecDepth 100000
namespace Go.Proofs.Ytbgcjpefocdkkaa
open Go.RowKit
theorem Sl.str_len {w:World} {B:Nat} {a:Option Addr} {n:Nat} {ps:List Str} (h:Sl w B a 1 n (scells ps)):n=ps.length:=by
 have:=h.1;simp [scells] at this;omega
end Go.Proofs.Ytbgcjpefocdkkaa
set_option maxRecDepth 100000
namespace Go.Proofs.Ytbgcjpefocdkkaa
open Go.RowKit
theorem Sl.slS {w:World} {B:Nat} {a:Option Addr} {sz n:Nat} {cs:List Value} (h:Sl w B a sz n cs) (hB:B≤w.heap.size):SlS w (· < B) a sz n cs :=
 ⟨h.1,fun hn=>by
  obtain ⟨b,o,h1,h2,h3⟩:=h.2 hn
  exact ⟨b,o,h1,h2,by omega,h3⟩⟩
end Go.Proofs.Ytbgcjpefocdkkaa
set_option maxRecDepth 100000
namespace Go.Proofs.Ytbgcjpefocdkkaa
theorem nDigits_le {u:Nat} (h:u≤9999):1≤Lib.nDigits u∧Lib.nDigits u≤4:=by
 have h1:∀ v,v < 10→Lib.nDigits v=1:=fun v hv=>by rw [Lib.nDigits,dif_pos hv]
 have h2:∀ v,¬ v < 10→Lib.nDigits v=Lib.nDigits (v / 10)+1:=fun v hv=>by rw [Lib.nDigits,dif_neg hv]
 by_cases a:u < 10
 ·rw [h1 u a];omega
 ·rw [h2 u a]
  by_cases b:u / 10 < 10
  ·rw [h1 _ b];omega
  ·rw [h2 _ b]
   by_cases c:u / 10 / 10 < 10
   ·rw [h1 _ c];omega
   ·rw [h2 _ c,h1 _ (by omega)];omega
end Go.Proofs.Ytbgcjpefocdkkaa
set_option maxRecDepth 100000
namespace Go.Proofs.Ytbgcjpefocdkkaa
theorem numL_digit {v:Nat} (hv:v < 10) (r:Str) {k m:Nat} (hk:k < 4):numLF (UInt8.ofNat (48+v) :: r) k m=numLF r (k+1) (10 * m+v):=by
 have h:(UInt8.ofNat (48+v)).toNat=48+v:=by rw [UInt8.toNat_ofNat'];omega
 conv=>lhs;unfold numLF
 rw [h,if_pos (by omega),if_neg (by omega)];congr 2;omega
theorem numLF_dec (u:Nat):∀ (r:Str) (k m:Nat),k+Lib.nDigits u≤4→numLF (Lib.decDigits u++r) k m=numLF r (k+Lib.nDigits u) (m * 10 ^ Lib.nDigits u+u):=by
 induction u using Nat.strongRecOn with
 | _ u ih =>
  intro r k m hk
  by_cases a:u < 10
  ·rw [Lib.decDigits,dif_pos a,Lib.nDigits,dif_pos a]
   rw [Lib.nDigits,dif_pos a] at hk
   rw [List.singleton_append,numL_digit a r (by omega)];congr 1;omega
  ·rw [Lib.decDigits,dif_neg a,Lib.nDigits,dif_neg a]
   rw [Lib.nDigits,dif_neg a] at hk
   rw [List.append_assoc,ih (u / 10) (by omega) _ k m (by omega),List.singleton_append,numL_digit (by omega) r (by omega)]
   congr 1
   rw [Nat.pow_succ,← Nat.mul_assoc,Nat.mul_add,Nat.add_assoc,show 10 * (u / 10)+u % 10=u by omega,Nat.mul_comm]
end Go.Proofs.Ytbgcjpefocdkkaa
set_option maxRecDepth 100000
namespace Go.Proofs.Ytbgcjpefocdkkaa
theorem num_dec {n:Nat} (h:n≤9999) {r:Str} (hr:∀ c t,r=c :: t→¬ (48≤c.toNat∧c.toNat≤57)):numRF (Lib.decDigits n++r)=some (n,r):=by
 obtain ⟨hp,hd⟩:=nDigits_le (u:=n) (by omega)
 unfold numRF
 rw [numLF_dec n r 0 0 (by omega)]
 cases r with
 | nil=>simp only [numLF];rw [if_pos (by omega)];simp
 | cons c t=>simp only [numLF];rw [if_neg (hr c t rfl),if_pos (by omega)];simp
theorem head_num {n:Nat} (h:n≤9999) {r:Str} (hr:∀ c t,r=c :: t→¬ (48≤c.toNat∧c.toNat≤57)):headM (Lib.decDigits n++r)=some (stopS n,r):=by
 unfold headM;rw [num_dec h hr]
end Go.Proofs.Ytbgcjpefocdkkaa
set_option maxRecDepth 100000
namespace Go.Proofs.Ytbgcjpefocdkkaa
theorem dig_plain {c:UInt8} (h:digU8 c):c.toNat≠36∧c.toNat≠92∧(false=true→c.toNat≠125):=by unfold digU8 at h;refine ⟨by omega,by omega,fun e=>by cases e⟩
theorem fiveS_iff (c:UInt8):fiveS.contains c=true ↔ c.toNat=36∨c.toNat=125∨c.toNat=92∨c.toNat=44∨c.toNat=124:=by
 simp [fiveS,← UInt8.toNat_inj]
theorem optL_quot:∀ (s r:Str) (o:List Str) (t:Str),optL (quot fiveS s++r) o t=optL r o (t++s)
 | [],r,o,t=>by simp [quot]
 | c :: s,r,o,t=>by
  cases hc:fiveS.contains c with
  | true =>
   simp only [quot,hc,if_true,List.cons_append,List.nil_append]
   rw [optL_cons,if_neg (by decide),if_neg (by decide),nxt_esc hc,optL_quot s,List.append_assoc];rfl
  | false =>
   have hn:¬ (c.toNat=36∨c.toNat=125∨c.toNat=92∨c.toNat=44∨c.toNat=124):=fun h=>by rw [(fiveS_iff c).2 h] at hc;cases hc
   simp only [quot,hc,Bool.false_eq_true,if_false,List.cons_append,List.nil_append]
   rw [optL_cons,if_neg (by omega),if_neg (by omega),nxt_plain (by omega),optL_quot s,List.append_assoc];rfl
/-- Options, one behind the other. -/
def joinQ:List Str→Str
 | []=>[]
 | [a]=>quot fiveS a
 | a :: b :: l=>quot fiveS a++44 :: joinQ (b :: l)
theorem optL_end {r:Str} (hr:r=[]∨∃ t,r=124 :: t) (o:List Str) (t:Str):optL r o t=(o++[t],r):=by
 rcases hr with rfl | ⟨t',rfl⟩
 ·rfl
 ·rw [optL_cons,if_pos (by decide)]
theorem optL_join:∀ (l:List Str) (a r:Str) (o:List Str),(r=[]∨∃ t,r=124 :: t)→optL (joinQ (a :: l)++r) o []=(o++a :: l,r)
 | [],a,r,o,hr=>by
  simp only [joinQ]
  rw [optL_quot,List.nil_append,optL_end hr]
 | b :: l,a,r,o,hr=>by
  simp only [joinQ]
  rw [List.append_assoc,optL_quot,List.nil_append,List.cons_append,optL_cons,if_neg (by decide),if_pos (by decide),optL_join l b r _ hr,List.append_assoc];rfl
theorem opts_yes (x:Sn) (a:Str) (l:List Str) (r:Str):optsM x (joinQ (a :: l)++124 :: 125 :: r)=some (x.choose (a :: l),r):=by
 unfold optsM
 rw [optL_join l a (124 :: 125 :: r) [] (.inr ⟨_,rfl⟩)]
 simp
theorem opts_no (x:Sn) (a:Str) (l:List Str):optsM x (joinQ (a :: l))=none:=by
 unfold optsM
 have:=optL_join l a [] [] (.inl rfl)
 rw [List.append_nil] at this
 rw [this]
/-- '${n|..|}'. -/
theorem part_choice {n:Nat} (h:n≤9999) (a:Str) (l:List Str) (r:Str):partS (123 :: (Lib.decDigits n++124 :: (joinQ (a :: l)++124 :: 125 :: r)))=some ((stopS n).choose (a :: l),r):=by
 rw [partS_brace,head_num h (by rintro c t e;injection e with e _;subst e;decide)]
 simp only [bracedS]
 rw [if_neg (by decide),if_neg (by decide),if_pos ⟨by decide,rfl⟩,opts_yes]
theorem part_choice_open {n:Nat} (h:n≤9999) (a:Str) (l:List Str):partS (123 :: (Lib.decDigits n++124 :: joinQ (a :: l)))=none:=by
 rw [partS_brace,head_num h (by rintro c t e;injection e with e _;subst e;decide)]
 simp only [bracedS]
 rw [if_neg (by decide),if_neg (by decide),if_pos ⟨by decide,rfl⟩,opts_no]
/-- Nothing begins in it: it is one text. -/
def TextOnly (u:Str):Prop:=∀ (out:List Sn) (text:Str),∃ t,text.length≤t.length∧partsS false out text u=(withT out t,[])
theorem textOnly_nil:TextOnly []:=fun _ text=>⟨text,Nat.le_refl _,rfl⟩
theorem textOnly_cons {c:UInt8} {u:Str} (h1:c.toNat≠36) (h2:c.toNat≠92) (h:TextOnly u):TextOnly (c :: u):=fun out text=>by
 obtain ⟨t,ht,e⟩:=h out (text++[c])
 refine ⟨t,by simp at ht;omega,?_⟩
 rw [parts_step false out text (by simp) (dol_no h1 _),nxt_plain h2,e]
theorem textOnly_esc {c:UInt8} {u:Str} (h:TextOnly u):TextOnly (92 :: c :: u):=fun out text=>by
 cases h3:three.contains c with
 | true =>
  obtain ⟨t,ht,e⟩:=h out (text++[c])
  refine ⟨t,by simp at ht;omega,?_⟩
  rw [parts_step false out text (by simp) (dol_no (by decide) _),nxt_esc h3,e]
 | false =>
  have hn:¬ (c.toNat=36∨c.toNat=125∨c.toNat=92):=fun h=>by rw [(three_iff c).2 h] at h3;cases h3
  obtain ⟨t,ht,e⟩:=(textOnly_cons (c:=c) (by omega) (by omega) h) out (text++[92])
  refine ⟨t,by simp at ht;omega,?_⟩
  rw [parts_step false out text (by simp) (dol_no (by decide) _)]
  have:nxtM three (92 :: c :: u)=(92,c :: u):=by simp only [nxtM];rw [if_neg (fun e=>by rw [h3] at e;cases e.2)]
  rw [this,e]
theorem textOnly_quot:∀ (s:Str) {u:Str},TextOnly u→TextOnly (quot fiveS s++u)
 | [],_,h=>h
 | c :: s,_,h=>by
  cases hc:fiveS.contains c with
  | true =>
   simp only [quot,hc,if_true,List.cons_append,List.nil_append]
   exact textOnly_esc (textOnly_quot s h)
  | false =>
   have hn:¬ (c.toNat=36∨c.toNat=125∨c.toNat=92∨c.toNat=44∨c.toNat=124):=fun h=>by rw [(fiveS_iff c).2 h] at hc;cases hc
   simp only [quot,hc,Bool.false_eq_true,if_false,List.cons_append,List.nil_append]
   exact textOnly_cons (by omega) (by omega) (textOnly_quot s h)
theorem textOnly_join:∀ (l:List Str) (a:Str),TextOnly (joinQ (a :: l))
 | [],a=>by
  have:=textOnly_quot a textOnly_nil
  rw [List.append_nil] at this;exact this
 | b :: l,a=>textOnly_quot a (textOnly_cons (by decide) (by decide) (textOnly_join l b))
theorem textOnly_plain:∀ (s:Str) {u:Str},(∀ c ∈ s,c.toNat≠36∧c.toNat≠92)→TextOnly u→TextOnly (s++u)
 | [],_,_,h=>h
 | c :: s,_,hs,h=>textOnly_cons (hs c (List.mem_cons_self ..)).1 (hs c (List.mem_cons_self ..)).2 (textOnly_plain s (fun c hc=>hs c (List.mem_cons_of_mem _ hc)) h)
end Go.Proofs.Ytbgcjpefocdkkaa
set_option maxRecDepth 100000
namespace Go.Proofs.Ytbgcjpefocdkkaa
open Go.RowKit
theorem conv_digit (W:World) (n:Nat) (z:Int) (hz:z=n):(convert 61 9 (.slice (some ⟨W.heap.size,0,none⟩) 1 1)).run Try.prog (W.alloc (.cells #[.int .u8 (48+z % 10)] 5))=.ok (.string ⟨([UInt8.ofNat (48+n % 10)]).toArray⟩) (W.alloc (.cells #[.int .u8 (48+z % 10)] 5)):=by
 subst hz
 refine conv_own (B:=W.heap.size) (n:=1) Try.underlying61 Try.underlying5 Try.underlying9 ?_
 refine ⟨rfl,.inr ⟨W.heap.size,1,_,rfl,Nat.le_refl _,heap_alloc_new W _,by decide,by decide,rfl,?_⟩⟩
 simp [bcells]
 omega
def DgRel (R:Str) (W0:World) (q p:Value) (wr:World):Prop:=∃ (m:Nat) (s:Str),m≤10000∧s.length+m≤20000∧q=.int .i64 m∧p=.string ⟨(s).toArray⟩∧Below W0.heap.size W0 wr∧Hid ((if m < 10 then [] else Lib.decDigits (m / 10))++s=R)
theorem digits_step (m:Nat):(if m < 10 then [] else Lib.decDigits (m / 10))++[UInt8.ofNat (48+m % 10)]=Lib.decDigits m:=by
 rw [Lib.decDigits.eq_1 m]
 by_cases h:m < 10
 ·rw [if_pos h,dif_pos h,Nat.mod_eq_of_lt h];rfl
 ·rw [if_neg h,dif_neg h]
set_option maxHeartbeats 1000000 in
theorem Digits_any (n:Nat) (w:World) (hn:n≤10000) :
  Calls Try.prog 14 #[.int .i64 n] w fun e w'=>e=.returned (.string ⟨(Lib.decDigits n).toArray⟩)∧Below w.heap.size w w':=by
 generalize hR:Lib.decDigits n=R
 have HR:=Lib.hid hR
 clear hR
 have hc:=conv_digit w n n rfl
 go_enter Try.func14,Try.ntmps14
 go_wp2
 go_loopw [0,3] (fun q p wr=>DgRel R w q p wr) (fun q _ _=>(intOf q).toNat)
 case atStart=>exact ⟨n,[UInt8.ofNat (48+n % 10)],by omega,by simp;omega,rfl,by simp,(Below.refl _ _).alloc (Nat.le_refl _) _,Lib.hid (by rw [← HR.out];exact digits_step n)⟩
 case round =>
  obtain ⟨m,s,hm,hs,rfl,rfl,hb,HF⟩:=hrel
  have hc2:=conv_digit wr (m / 10) ((m:Int) / 10) (by omega)
  have hB:=hb.size
  by_cases h9:m < 10
  ·have HE:Hid (R=s):=Lib.hid (by rw [← HF.out,if_pos h9];rfl)
   have g9:decide ((10:Int)≤m)=false:=by rw [decide_eq_false_iff_not];omega
   go_wp2
   go_ret
   exact ⟨ret_str HE.out.symm,hb⟩
  ·have HE:Hid (Lib.decDigits (m / 10)++s=R):=Lib.hid (by rw [← HF.out,if_neg h9])
   go_wp2
   go_roundw
   case rel=>exact ⟨m / 10,UInt8.ofNat (48+m / 10 % 10) :: s,by omega,by simp;omega,by go_num,by simp,hb.alloc hB _,Lib.hid (by rw [← HE.out,← digits_step (m / 10)];simp)⟩
   case measure=>simp [intOf];omega
end Go.Proofs.Ytbgcjpefocdkkaa
set_option maxRecDepth 100000
namespace Go.Proofs.Ytbgcjpefocdkkaa
open Go.RowKit
theorem dig4 {k:Nat} (h:k≤9999):(Lib.decDigits k).length≤4:=by
 rw [Lib.decDigits_length];exact (nDigits_le (by omega)).2
end Go.Proofs.Ytbgcjpefocdkkaa
set_option maxRecDepth 100000
namespace Go.Proofs.Ytbgcjpefocdkkaa
open Go.RowKit
/-- 'Long': do texts have more than n bytes together, one for each of them too? -/
def longL:List Str→Int→Bool
 | [],_=>false
 | s :: r,n=>if n≤s.length then true else longL r (n - s.length - 1)
def LongRel (ps:List Str) (n:Nat) (w:World) (R:Bool) (s q:Value) (wr:World):Prop :=
 ∃ (k:Nat) (m':Int),k≤n∧q=.int .i64 k∧s=.int .i64 m'∧-100000≤m'∧m'≤100000∧Below w.heap.size w wr∧Hid (longL (ps.drop k) m'=R)
set_option maxHeartbeats 4000000 in
theorem Long_any (a:Option Addr) (n c:Nat) (m:Int) (ps:List Str) (w:World) (h:Sl w w.heap.size a 1 n (scells ps)) (hn:n≤maxLen) (hm:-100000≤m∧m≤100000)
  (hsz:∀ p ∈ ps,p.length≤maxLen) :
  Calls Try.prog 17 #[.int .i64 m,.slice a n c] w fun e w'=>e=.returned (.bool (longL ps m))∧Below w.heap.size w w':=by
 unfold maxLen at hn hsz
 generalize hR:longL ps m=R
 have HR:=Lib.hid hR
 clear hR
 have HR0:Hid (longL (ps.drop 0) m=R):=HR
 have Hn:=Lib.hid h.str_len
 have HSl:=Lib.hid h
 have HSz:=Lib.hid hsz
 clear HR h hsz
 obtain ⟨hm0,hm1⟩:=hm
 go_enter Try.func17,Try.ntmps17
 go_wp2
 go_loopw [0,5] (fun s q wr=>LongRel ps n w R s q wr) (fun _ q _=>n - (intOf q).toNat)
 case atStart=>exact ⟨0,m,by omega,rfl,rfl,hm0,hm1,Below.refl _ _,HR0⟩
 case round =>
  obtain ⟨k,m',hk,rfl,rfl,hm2,hm3,hb,HF⟩:=hrel
  clear HR0
  cases hd:ps.drop k with
  | nil =>
   have h2:n≤k:=by have:=Hn.out;simp at hd;omega
   have HF':Hid (longL [] m'=R):=Lib.hid (by rw [← hd];exact HF.out)
   clear hd HF
   go_wp2
   go_ret
   exact ⟨ret_bool HF'.out,hb⟩
  | cons f r =>
   obtain ⟨h2,h3,hr⟩:=ldrop_cons hd
   have HF':Hid (longL (f :: r) m'=R):=Lib.hid (by rw [← hd];exact HF.out)
   have Hr:=Lib.hid hr
   have hkn:k < n:=by have:=Hn.out;omega
   obtain ⟨b,o,rfl,hbB,c0⟩:=(HSl.out.keep hb).str h3
   have z1:=HSz.out f (List.mem_of_getElem? h3)
   clear hd HF hr h2 h3
   by_cases hA:m'≤f.length
   ·have HE:Hid (R=true):=Lib.hid (by rw [← HF'.out];simp only [longL];exact if_pos hA)
    go_wp2
    go_ret
    exact ⟨ret_bool HE.out.symm,hb⟩
   ·have HE:Hid (R=longL r (m' - f.length - 1)):=Lib.hid (by rw [← HF'.out];simp only [longL];exact if_neg hA)
    go_wp2
    go_roundw
    case rel =>
     refine ⟨k+1,m' - f.length - 1,by omega,by go_num,rfl,by omega,by omega,hb,Lib.hid ?_⟩
     rw [Hr.out,HE.out]
    case measure=>simp [intOf];omega
end Go.Proofs.Ytbgcjpefocdkkaa
set_option maxRecDepth 100000
namespace Go.Proofs.Ytbgcjpefocdkkaa
open Go.RowKit
/-- Options as the loop writes them. -/
def jt:Bool→List Str→Str
 | _,[]=>[]
 | true,a :: l=>quot fiveS a++jt false l
 | false,a :: l=>44 :: (quot fiveS a++jt false l)
theorem jt_comma:∀ (l:List Str) (a:Str),jt false (a :: l)=44 :: joinQ (a :: l)
 | [],a=>by simp [jt,joinQ]
 | b :: l,a=>by
  have ih:=jt_comma l b
  simp only [jt,joinQ] at ih ⊢
  rw [ih]
theorem jt_join:∀ (l:List Str),jt true l=joinQ l
 | []=>rfl
 | [a]=>by simp [jt,joinQ]
 | a :: b :: l=>by
  have:=jt_comma l b
  simp only [jt,joinQ] at this ⊢
  rw [this]
theorem jt_len:∀ (l:List Str) (f:Bool),(∀ p ∈ l,p.length≤100)→(jt f l).length≤201 * l.length
 | [],f,_=>by cases f <;> simp [jt]
 | a :: l,f,h=>by
  have ih:=jt_len l false (fun p hp=>h p (List.mem_cons_of_mem _ hp))
  have ha:=h a (List.mem_cons_self ..)
  have hq:=quot_len fiveS a
  cases f <;> simp only [jt,List.length_cons,List.length_append] <;> omega
theorem u8_dig {d:Nat} (h:d < 10):digU8 (UInt8.ofNat (48+d)):=by
 unfold digU8;have:(UInt8.ofNat (48+d)).toNat=(48+d) % 256:=UInt8.toNat_ofNat';omega
theorem dec_dig:∀ (N n:Nat),n≤N→∀ c ∈ Lib.decDigits n,digU8 c:=by
 intro N
 induction N with
 | zero=>intro n hn c hc;rw [Lib.decDigits.eq_1,dif_pos (by omega)] at hc;rw [List.mem_singleton.1 hc];exact u8_dig (by omega)
 | succ N ih =>
  intro n hn c hc
  rw [Lib.decDigits.eq_1] at hc
  by_cases h:n < 10
  ·rw [dif_pos h] at hc;rw [List.mem_singleton.1 hc];exact u8_dig h
  ·rw [dif_neg h] at hc
   rcases List.mem_append.1 hc with hc | hc
   ·exact ih (n / 10) (by omega) c hc
   ·rw [List.mem_singleton.1 hc];exact u8_dig (by omega)
theorem read_choice {k:Nat} (h:k≤9999) (a:Str) (l:List Str):snipL (120 :: (36 :: 123 :: (Lib.decDigits k++124 :: joinQ (a :: l))++[124,125]))=[textS [120],(stopS k).choose (a :: l)]:=by
 have h1:partsS false [] [] ([120]++36 :: 123 :: (Lib.decDigits k++124 :: (joinQ (a :: l)++124 :: 125 :: [])))=_:=parts_plain false [] [120] [] _ (by decide)
 have h2:=parts_part false [] ([]++[120]) _ (part_choice h a l [])
 rw [h2] at h1
 have h3:(120 :: (36 :: 123 :: (Lib.decDigits k++124 :: joinQ (a :: l))++[124,125]):Str)=[120]++36 :: 123 :: (Lib.decDigits k++124 :: (joinQ (a :: l)++124 :: 125 :: [])):=by simp
 rw [h3]
 rw [snipL_eq]
 rw [h1];rfl
theorem read_choice_open {k:Nat} (h:k≤9999) (a:Str) (l:List Str):∃ t,snipL (36 :: 123 :: (Lib.decDigits k++124 :: joinQ (a :: l)))=[textS t]:=by
 have h1:partsS false [] [] (36 :: 123 :: (Lib.decDigits k++124 :: joinQ (a :: l)))=_:=parts_dol false [] [] _ (part_choice_open h a l)
 have hd:∀ c ∈ Lib.decDigits k,digU8 c:=dec_dig k k (Nat.le_refl _)
 have hT:TextOnly (123 :: (Lib.decDigits k++124 :: joinQ (a :: l))):=textOnly_cons (by decide) (by decide) (textOnly_plain _ (fun c hc=>⟨(dig_plain (hd c hc)).1,(dig_plain (hd c hc)).2.1⟩) (textOnly_cons (by decide) (by decide) (textOnly_join l a)))
 obtain ⟨t,ht,e⟩:=hT [] ([]++[36])
 refine ⟨t,?_⟩
 rw [snipL_eq]
 rw [h1,e]
 have:t≠[]:=by rintro rfl;simp at ht
 simp [withT,this]
end Go.Proofs.Ytbgcjpefocdkkaa
set_option maxRecDepth 100000
namespace Go.Proofs.Ytbgcjpefocdkkaa
open Go.RowKit
theorem longL_bnd:∀ (ps:List Str) (n:Int),n≤100→longL ps n=false→∀ p ∈ ps,p.length≤100
 | [],_,_,_,p,hp=>by simp at hp
 | s :: r,n,hn,h,p,hp=>by
  simp only [longL] at h
  split at h
  ·cases h
  ·rename_i hc
   rcases List.mem_cons.1 hp with rfl | hp
   ·omega
   ·exact longL_bnd r _ (by omega) h p hp
def ChRel (opts:List Str) (R:Str) (w:World) (v q:Value) (wr:World):Prop :=
 ∃ (i:Nat) (t:Str),i≤opts.length∧q=.int .i64 i∧v=.string ⟨(t).toArray⟩∧Below w.heap.size w wr∧Hid (t++jt (decide (i=0)) (opts.drop i)=R)
theorem choice_two {W:World} {b k n c:Nat} {a:Option Addr} {opts:List Str} {t:TypeId} (hb:W.heap[b]?=some (.cells #[.int .i64 0,.string ⟨([120]).toArray⟩,.int .i64 0,.bool false,.bool false,.int .i64 0,.string ⟨#[]⟩,.bool false,.slice none 0 0,.int .i64 0,.int .i64 0,.bool false,.slice none 0 0,.slice none 0 0,.bool false,.bool false,.slice none 0 0,.slice none 0 0,.int .i64 2,.string ⟨([]).toArray⟩,.int .i64 (k:Int),.bool false,.bool false,.int .i64 0,.string ⟨#[]⟩,.bool false,.slice none 0 0,.int .i64 0,.int .i64 0,.bool false,.slice none 0 0,.slice none 0 0,.bool false,.bool false,.slice a n c,.slice none 0 0] t (0,0))) (hn:n=opts.length)
  (h:SlS W (fun _=>True) a 1 n (scells opts)):SnSl W (fun _=>True) (some ⟨b,0,none⟩) 2 [textS [120],(stopS k).choose opts]:=by
 subst hn
 have h1:SnV W (fun _=>True) [.int .i64 0,.string ⟨([120]).toArray⟩,.int .i64 0,.bool false,.bool false,.int .i64 0,.string ⟨#[]⟩,.bool false,.slice none 0 0,.int .i64 0,.int .i64 0,.bool false,.slice none 0 0,.slice none 0 0,.bool false,.bool false,.slice none 0 0,.slice none 0 0] (textS [120]):=textS_v W (fun _=>True) [120]
 have h2:SnV W (fun _=>True) [.int .i64 2,.string ⟨([]).toArray⟩,.int .i64 (k:Int),.bool false,.bool false,.int .i64 0,.string ⟨#[]⟩,.bool false,.slice none 0 0,.int .i64 0,.int .i64 0,.bool false,.slice none 0 0,.slice none 0 0,.bool false,.bool false,.slice a opts.length c,.slice none 0 0] ((stopS k).choose opts):=hx_v (ks:=[]) h (SnSl.nil _ _ _)
 refine ⟨[[.int .i64 0,.string ⟨([120]).toArray⟩,.int .i64 0,.bool false,.bool false,.int .i64 0,.string ⟨#[]⟩,.bool false,.slice none 0 0,.int .i64 0,.int .i64 0,.bool false,.slice none 0 0,.slice none 0 0,.bool false,.bool false,.slice none 0 0,.slice none 0 0],[.int .i64 2,.string ⟨([]).toArray⟩,.int .i64 (k:Int),.bool false,.bool false,.int .i64 0,.string ⟨#[]⟩,.bool false,.slice none 0 0,.int .i64 0,.int .i64 0,.bool false,.slice none 0 0,.slice none 0 0,.bool false,.bool false,.slice a opts.length c,.slice none 0 0]],⟨rfl,fun _=>⟨b,0,rfl,trivial,heap_lt hb,fun j u hu=>?_⟩⟩,.cons h1 (.cons h2 .nil)⟩
 rw [Lib.cell_of_heap hb]
 simpa using hu
set_option maxHeartbeats 4000000 in
theorem SreadChoice_walk (a:Option Addr) (n c:Nat) (k0:Int) (opts:List Str) (w:World) (h:Sl w w.heap.size a 1 n (scells opts)) (hn:n≤maxLen) (hsz:∀ p ∈ opts,p.length≤maxLen) :
  Calls Try.prog 6 #[.slice a n c,.int .i64 k0] w fun e w'=>e=.returned (.bool true)∧Below w.heap.size w w':=by
 have hno:n=opts.length:=h.str_len
 by_cases h1:n=0∨10 < n
 ·have hx:n=0∨11≤n:=by omega
  clear hno h hsz h1
  go_enter Try.func6,Try.ntmps6
  go_wp2_with (first | (go_at_call 17;exfalso;omega) | (go_at_call 11;refine (awake21 _).mono ?_;rintro e w9 ⟨rfl,hb9⟩))
  all_goals first
   | (go_ret;exact ⟨rfl,hb9⟩)
   | (exfalso;omega)
 ·have h2:¬ n=0:=by omega
  have h3:n≤10:=by omega
  have dg:((n:Int) == 0)=false:=by rw [beq_eq_false_iff_ne];omega
  have dg2:decide ((10:Int) < (n:Int))=false:=decide_eq_false (by omega)
  have HLo:=Lib.hid (Long_any a n c 100 opts w h hn (by omega) hsz)
  cases hL:longL opts 100 with
  | true =>
   rw [hL] at HLo
   clear hno h1 h hsz hL
   go_enter Try.func6,Try.ntmps6
   go_wp2_with (go_at_call 17;refine HLo.out.mono ?_)
   first | rintro e w1 rfl hb1 | rintro e w1 ⟨rfl,hb1⟩
   go_wp2_with (go_at_call 11;refine (awake21 _).mono ?_;rintro e w9 ⟨rfl,hb9⟩)
   go_ret
   exact ⟨rfl,bel2 hb1 hb9⟩
  | false =>
   rw [hL] at HLo
   have hsm:=longL_bnd opts 100 (by omega) hL
   obtain ⟨o1,ol,hol⟩:∃ o1 ol,opts=o1 :: ol:=by
    cases opts with
    | nil=>simp at hno;omega
    | cons x l=>exact ⟨x,l,rfl⟩
   have hlow:=low_lt k0 (n:=10000) (by omega)
   obtain ⟨k,hk⟩:∃ k:Nat,low k0 10000=k:=⟨(low k0 10000).toNat,by omega⟩
   have hk9:k≤9999:=by omega
   have HL:=Lib.hid (fun w=>hk ▸ Low_any k0 10000 w (by omega) (by omega))
   have hdl:=dig4 hk9
   obtain ⟨R,hR⟩:∃ R,36 :: 123 :: (Lib.decDigits k++124 :: jt true opts)=R:=⟨_,rfl⟩
   have hjl:=jt_len opts true hsm
   have hRl:R.length≤4000:=by rw [← hR];simp;omega
   have hRj:R=36 :: 123 :: (Lib.decDigits k++124 :: joinQ (o1 :: ol)):=by rw [← hR,jt_join,hol]
   have hr1:snipM (120 :: (R++[124,125]))=.ok [textS [120],(stopS k).choose opts]:=snipM_ok (by rw [hRj,hol];exact read_choice hk9 o1 ol) (by simp;omega) (by simp [Sn.deepL,Sn.deep,textS,stopS,Sn.choose])
   obtain ⟨t2,ht2⟩:=read_choice_open hk9 o1 ol
   have hr2:snipM R=.ok [textS t2]:=snipM_ok (by rw [hRj];exact ht2) (by omega) (by simp [Sn.deepL,Sn.deep,textS])
   have H1:=Lib.hid (sreadH hr1 (by simp;omega))
   have H2:=Lib.hid (sreadH hr2 (by omega))
   have HR0:Hid ((36 :: 123 :: (Lib.decDigits k++[124]))++jt (decide (0=0)) (opts.drop 0)=R):=Lib.hid (by rw [← hR];simp)
   have HSl:=Lib.hid h
   have Hsm:=Lib.hid hsm
   have Hno:=Lib.hid hno
   have hno10:opts.length≤10:=by omega
   have HS1:=Lib.hid (nsame (ks:=[textS [120],(stopS k).choose opts]) ⟨textS_small (by simp),⟨tf0_small,by omega,by simp,by simp,trivial⟩,trivial⟩ (by simp))
   clear h1 hlow hk hR hRj hr1 hr2 ht2 hjl hsm h hno hL hol hsz
   go_enter Try.func6,Try.ntmps6
   go_wp2_with (go_at_call 17;refine HLo.out.mono ?_)
   first | rintro e w1 rfl hb1 | rintro e w1 ⟨rfl,hb1⟩
   go_wp2_with (go_at_call 9;refine (HL.out _).mono ?_)
   rintro e wl ⟨rfl,rfl⟩
   go_wp2_with (go_at_call 14;refine (Digits_any k _ (by omega)).mono ?_)
   rintro e w3 ⟨rfl,hb3⟩
   have hb13:=bel2 hb1 hb3
   go_wp2
   go_loopw [6,7] (fun v q wr=>ChRel opts R w v q wr) (fun _ q _=>n - (intOf q).toNat)
   case atStart=>exact ⟨0,36 :: 123 :: (Lib.decDigits k++[124]),by omega,rfl,by simp,hb13,HR0⟩
   case round =>
    obtain ⟨i,t,hi,rfl,rfl,hb,HF⟩:=hrel
    clear HR0
    have htl:t.length≤4000:=by have:=congrArg List.length HF.out;simp only [List.length_append] at this;omega
    cases hd:opts.drop i with
    | nil =>
     have hni:n≤i:=by have:=Hno.out;simp at hd;omega
     have HE:Hid (t=R):=Lib.hid (by rw [← HF.out,hd];cases decide (i=0) <;> simp [jt])
     clear hd HF
     go_wp2_with (go_at_call 10;refine (H1.out _ _ (by rw [HE.out])).mono ?_)
     rintro e w2 ⟨a2,c2,rfl,hb2,hs2⟩
     go_wp2_with (go_at_call 10;refine (H2.out _ _ HE.out).mono ?_)
     rintro e w4 ⟨a4,c4,rfl,hb4,hs4⟩
     obtain ⟨W5,hW5⟩:∃ W5,W5=w4.alloc (.cells #[.int .i64 0,.string ⟨([120]).toArray⟩,.int .i64 0,.bool false,.bool false,.int .i64 0,.string ⟨#[]⟩,.bool false,.slice none 0 0,.int .i64 0,.int .i64 0,.bool false,.slice none 0 0,.slice none 0 0,.bool false,.bool false,.slice none 0 0,.slice none 0 0,.int .i64 2,.string ⟨([]).toArray⟩,.int .i64 (k:Int),.bool false,.bool false,.int .i64 0,.string ⟨#[]⟩,.bool false,.slice none 0 0,.int .i64 0,.int .i64 0,.bool false,.slice none 0 0,.slice none 0 0,.bool false,.bool false,.slice a n c,.slice none 0 0] 36):=⟨_,rfl⟩
     have hbw4:=bel2 (bel2 hb hb2) hb4
     have hb5:Below w4.heap.size w4 W5:=by rw [hW5];exact (Below.refl _ _).alloc (Nat.le_refl _) _
     have hx5:W5.heap[w4.heap.size]?=some (.cells #[.int .i64 0,.string ⟨([120]).toArray⟩,.int .i64 0,.bool false,.bool false,.int .i64 0,.string ⟨#[]⟩,.bool false,.slice none 0 0,.int .i64 0,.int .i64 0,.bool false,.slice none 0 0,.slice none 0 0,.bool false,.bool false,.slice none 0 0,.slice none 0 0,.int .i64 2,.string ⟨([]).toArray⟩,.int .i64 (k:Int),.bool false,.bool false,.int .i64 0,.string ⟨#[]⟩,.bool false,.slice none 0 0,.int .i64 0,.int .i64 0,.bool false,.slice none 0 0,.slice none 0 0,.bool false,.bool false,.slice a n c,.slice none 0 0] 36 (0,0)):=by rw [hW5];exact heap_alloc_new _ _
     have hbw5:=bel2 hbw4 hb5
     have hwant:=choice_two hx5 Hno.out (((HSl.out.keep hbw5).slS hbw5.size).mono (fun _ _ _=>trivial))
     have HSa:=Lib.hid (HS1.out _ (fun _=>True) a2 (some ⟨w4.heap.size,0,none⟩) c2 2 W5 ((hs2.later hb4).later hb5) hwant)
     have HS5:=Lib.hid (hs4.later hb5)
     clear hb2 hb4 hb5 hs2 hs4 hx5 hwant hbw4
     go_upto_region 10 with fail
     rw [← hW5]
     clear hW5
     go_wp2_with (go_at_call 15;refine HSa.out.mono ?_)
     first | rintro e w6 rfl hb6 | rintro e w6 ⟨rfl,hb6⟩
     obtain ⟨b4,o4,x4,rfl,_,_,hx4,hc4⟩:=(HS5.out.later hb6).at_ (k:=0) (x:=textS t2) rfl
     obtain ⟨fc,oa,oc,ka,kc,A4⟩:=(show SnV w6 _ x4 (.mk 0 t2 0 false false tf0 [] []) from hx4).at_
     have q1:=hc4 0 _ A4.c0
     simp only [Nat.zero_mul,Nat.add_zero] at q1
     have hbw6:=bel2 hbw5 hb6
     clear A4 hx4 hc4 hb6 HS5
     go_wp2_with (go_at_call 11;refine (awake21 _).mono ?_;rintro e w9 ⟨rfl,hb9⟩)
     go_ret
     exact ⟨rfl,bel2 hbw6 hb9⟩
    | cons p r =>
     obtain ⟨h5,h6,hr⟩:=ldrop_cons hd
     have Hr:=Lib.hid hr
     have hin:i < n:=by have:=Hno.out;omega
     obtain ⟨b,o,rfl,hbB,c0⟩:=(HSl.out.keep hb).str h6
     have z1:=Hsm.out p (List.mem_of_getElem? h6)
     have hq:=quot_len fiveS p
     have HG:=Lib.hid (fun w=>guard21 p fiveS w (by omega) (by decide) (by decide))
     unfold fiveS at HG hq
     obtain ⟨T,hT⟩:∃ T,quot [36,125,92,44,124] p=T:=⟨_,rfl⟩
     rw [hT] at HG hq
     have HF2:Hid (t++jt (decide (i=0)) (p :: r)=R):=Lib.hid (by rw [← hd];exact HF.out)
     have HT:Hid (quot fiveS p=T):=Lib.hid hT
     clear hd HF hr h5 h6 hT
     by_cases hi0:i=0
     ·subst hi0
      have hgi:decide ((0:Int) < ((0:Nat):Int))=false:=rfl
      have c00:=c0
      simp only [Nat.add_zero] at c00
      go_wp2_with (go_at_call 13;refine (HG.out _).mono ?_)
      first | rintro e w5 rfl hb5 | rintro e w5 ⟨rfl,hb5⟩
      go_wp2
      go_roundw
      case rel=>exact ⟨0+1,t++T,by have:=Hno.out;omega,by go_num,by simp,bel2 hb hb5,Lib.hid (by rw [Hr.out,← HF2.out,← HT.out];simp [jt])⟩
      case measure=>simp [intOf];omega
     ·have hgi:decide ((0:Int) < (i:Int))=true:=decide_eq_true (by omega)
      go_wp2_with (go_at_call 13;refine (HG.out _).mono ?_)
      first | rintro e w5 rfl hb5 | rintro e w5 ⟨rfl,hb5⟩
      go_wp2
      go_roundw
      case rel=>exact ⟨i+1,t++44 :: T,by have:=Hno.out;omega,by go_num,by simp,bel2 hb hb5,Lib.hid (by rw [Hr.out,← HF2.out,← HT.out];simp [jt,hi0])⟩
      case measure=>simp [intOf];omega
end Go.Proofs.Ytbgcjpefocdkkaa
set_option maxRecDepth 100000
namespace Go.Proofs.Ytbgcjpefocdkkaa
open Go.ChangeShapes Go.WideShapes Go.RowKit
section
variable {H:Type} {enc:TypeId × Value→H} {P:Program} {w:World} {spare:Nat→Bool} {held:Bool}
end
section
variable {H:Type} {enc:TypeId × Value→H} {w:World} {base:Nat} {spare:Nat→Bool} {held:Bool}
theorem open_strs {r:Reach} {b0:Nat} {v:Value} {d:DataW H} {ps:List MemPlace} (hval:Value.okWide Try.prog w r b0 34 v) (h:DataW.Trod enc Try.prog w 0 spare held 34 v d ps) :
  ∃ (a:Option Addr) (cap:Nat) (xs:List Str),v=.slice a xs.length cap∧xs.length≤maxLen∧(∀ x ∈ xs,x.length≤maxLen)∧Sl w w.heap.size a 1 xs.length (scells xs):=by
 obtain ⟨fuel,hf⟩:=h
 rw [open_slice_val Try.underlying34 hval] at hf
 obtain ⟨a,cap,xs,h1,h2,h3,h4⟩:=slice_map (fun s:Str=>[.string ⟨(s).toArray⟩]) (fun s=>s.length≤maxLen) Try.underlying34 (C:=1) (by kernel_rfl) (by decide) hf (by
  intro n c y _ _ hy
  obtain ⟨s,rfl,_,hs⟩:=DataW.trod_string Try.underlying9 hy
  exact ⟨s.data.toList,by simp,by simpa using hs⟩)
 injection h1 with h1
 have hm:∀ ys:List Str,ys.flatMap (fun s:Str=>[.string ⟨(s).toArray⟩])=scells ys:=by
  intro ys
  induction ys with
  | nil=>rfl
  | cons y ys ih=>rw [List.flatMap_cons,ih];rfl
 rw [hm] at h4
 exact ⟨a,cap,xs,h1,h2,h3,h4⟩
end
end Go.Proofs.Ytbgcjpefocdkkaa
