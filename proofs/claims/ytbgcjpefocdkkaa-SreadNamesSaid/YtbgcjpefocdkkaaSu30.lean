/- Small laws on strings told as lists of bytes, on rows that a call owns, and on worlds; nothing of the program's own but the numbers of its types. -/
import Derived.Test.YtbgcjpefocdkkaaSu1
import Derived.Test.YtbgcjpefocdkkaaProg
import Derived.WalkKit
import Derived.WalkLawsBesides
import Derived.WalkSpells
import Derived.BigQuiet
import Derived.Deep.QuietTactic
import Derived.Deep.LoopGhost
import Derived.Deep.DeepCutAuto
import Derived.Lib.Hide
import Derived.Deep.RegionLaw
import Derived.BigRegion
import Derived.KernelRfl
import Derived.Test.YtbgcjpefocdkkaaSu2
import Derived.Test.YtbgcjpefocdkkaaSu3
import Derived.Test.YtbgcjpefocdkkaaSu4
import Derived.Test.YtbgcjpefocdkkaaSu10
import Derived.Lib.ItoaMem
import Derived.Test.YtbgcjpefocdkkaaSu12
import Derived.Test.YtbgcjpefocdkkaaSu13
import Derived.Test.YtbgcjpefocdkkaaSu5
import Derived.Test.YtbgcjpefocdkkaaSu6
import Derived.Test.YtbgcjpefocdkkaaSu7
import Derived.Test.YtbgcjpefocdkkaaSu8
import Derived.Test.YtbgcjpefocdkkaaSu9
import Derived.Test.YtbgcjpefocdkkaaSu11
import Derived.Test.YtbgcjpefocdkkaaSu14
import Derived.Test.YtbgcjpefocdkkaaSu15
import Derived.Test.YtbgcjpefocdkkaaSu16
import Derived.Test.YtbgcjpefocdkkaaSu17
import Derived.Test.YtbgcjpefocdkkaaSu18
import Derived.Test.YtbgcjpefocdkkaaSu19
import Derived.Test.YtbgcjpefocdkkaaSu20
import Derived.Test.YtbgcjpefocdkkaaSu21
import Derived.Test.YtbgcjpefocdkkaaSu22
import Derived.Test.YtbgcjpefocdkkaaSu23
import Derived.Test.YtbgcjpefocdkkaaSu24
import Derived.Test.YtbgcjpefocdkkaaSu25
import Derived.Test.YtbgcjpefocdkkaaSu26
import Derived.Test.YtbgcjpefocdkkaaSu27
import Derived.Test.YtbgcjpefocdkkaaSu28
set_option maxRecDepth 100000
namespace Go.Proofs.Ytbgcjpefocdkkaa
open Go.RowKit

theorem ba_of (s:ByteArray):s=ByteArray.mk s.data.toList.toArray:=by simp
end Go.Proofs.Ytbgcjpefocdkkaa
set_option maxRecDepth 100000
namespace Go.Proofs.Ytbgcjpefocdkkaa
open Go.RowKit
def icells (zs:List Int):List Value:=zs.map fun z=>.int .i64 z
theorem Sl.int_ {w:World} {B:Nat} {a:Option Addr} {n:Nat} {zs:List Int} (h:Sl w B a 1 n (icells zs)) {k:Nat} {z:Int} (hk:zs[k]?=some z) :
  ∃ b o,a=some ⟨b,o,none⟩∧b < B∧w.cell? ⟨b,o+k,none⟩=some (.int .i64 z):=by
 have hlt:=(List.getElem?_eq_some_iff.1 hk).1
 have hn:n=zs.length:=by have:=h.1;simp [icells] at this;omega
 obtain ⟨b,o,h1,h2,h3⟩:=h.2 (by omega)
 exact ⟨b,o,h1,h2,h3 k _ (by simp [icells,hk])⟩
theorem Sl.int_len {w:World} {B:Nat} {a:Option Addr} {n:Nat} {zs:List Int} (h:Sl w B a 1 n (icells zs)):n=zs.length:=by
 have:=h.1;simp [icells] at this;omega
end Go.Proofs.Ytbgcjpefocdkkaa
set_option maxRecDepth 100000
namespace Go.Proofs.Ytbgcjpefocdkkaa
theorem parts_quot (ins:Bool) (out:List Sn):∀ (s text r:Str),partsS ins out text (quot three s++r)=partsS ins out (text++s) r
 | [],text,r=>by simp [quot]
 | c :: s,text,r=>by
  cases hc:three.contains c with
  | true =>
   simp only [quot,hc,if_true,List.cons_append,List.nil_append]
   rw [parts_step ins out text (by simp) (dol_no (by decide) _),nxt_esc hc]
   rw [parts_quot ins out s,List.append_assoc];rfl
  | false =>
   have hn:¬ (c.toNat=36∨c.toNat=125∨c.toNat=92):=fun h=>by rw [(three_iff c).2 h] at hc;cases hc
   simp only [quot,hc,Bool.false_eq_true,if_false,List.cons_append,List.nil_append]
   rw [parts_step ins out text (by omega) (dol_no (by omega) _),nxt_plain (by omega)]
   rw [parts_quot ins out s,List.append_assoc];rfl
theorem parts_close (out:List Sn) (text r:Str):partsS true out text (125 :: r)=(withT out text,125 :: r):=by
 rw [partsS_cons,if_pos ⟨rfl,by decide⟩]
/-- With a default. -/
theorem braced_colon (x:Sn) {r r2:Str} {ks:List Sn} (h:partsS true [] [] r=(ks,125 :: r2)):bracedS (partsS true [] []) x (58 :: r)=some (x.give ks,r2):=by
 simp only [bracedS];rw [if_neg (by decide),if_pos (by decide),h]
/-- A text as a default. -/
theorem braced_text (x:Sn) (s r:Str):bracedS (partsS true [] []) x (58 :: (quot three s++125 :: r))=some (x.give (withT [] s),r):=by
 refine braced_colon x ?_
 rw [parts_quot,parts_close];rfl
end Go.Proofs.Ytbgcjpefocdkkaa
set_option maxRecDepth 100000
namespace Go.Proofs.Ytbgcjpefocdkkaa
theorem numR_no {r:Str} (hr:∀ c t,r=c :: t→¬ digU8 c):numRF r=none:=by
 unfold numRF
 cases r with
 | nil=>simp [numLF]
 | cons c t=>unfold numLF;rw [if_neg (hr c t rfl),if_neg (by omega)]
theorem tw_name {s r:Str} (h:∀ c ∈ s,nameC c=true) (hr:∀ c t,r=c :: t→nameC c=false):(s++r).takeWhile nameC=s∧(s++r).dropWhile nameC=r:=by
 induction s with
 | nil =>
  cases r with
  | nil=>exact ⟨rfl,rfl⟩
  | cons c t=>have:=hr c t rfl;simp [this]
 | cons c s ih =>
  obtain ⟨i1,i2⟩:=ih (fun c hc=>h c (List.mem_cons_of_mem _ hc))
  have hc:=h c (List.mem_cons_self ..)
  rw [List.cons_append,List.takeWhile_cons_of_pos hc,List.dropWhile_cons_of_pos hc,i1,i2]
  exact ⟨rfl,rfl⟩
theorem head_name {c:UInt8} {s r:Str} (h:∀ c' ∈ c :: s,nameC c'=true) (hc:¬ digU8 c) (hr:∀ c t,r=c :: t→nameC c=false):headM (c :: s++r)=if nameB (c :: s)=true then some (varS (c :: s),r) else none:=by
 obtain ⟨t1,t2⟩:=tw_name h hr
 unfold headM
 rw [numR_no (r:=c :: s++r) (by rintro _ _ e;injection e with e _;subst e;exact hc)]
 simp only
 unfold nameM
 rw [t1,t2]
theorem name_plain {c:UInt8} (h:nameC c=true):c.toNat≠36∧c.toNat≠92∧c.toNat≠125∧c.toNat≠123:=by
 unfold nameC at h
 simp only [Bool.or_eq_true,decide_eq_true_eq] at h
 omega
end Go.Proofs.Ytbgcjpefocdkkaa
set_option maxRecDepth 100000
namespace Go.Proofs.Ytbgcjpefocdkkaa
open Go.RowKit
theorem SnSl.one {w:World} {S:Nat→Prop} {b:Nat} {cc:List Value} {x:Sn} {t:TypeId} (h:SnV w S cc x) (hb:w.heap[b]?=some (.cells cc.toArray t (0,0))) (hS:S b):SnSl w S (some ⟨b,0,none⟩) 1 [x]:=by
 refine ⟨[cc],⟨by simp [h.len],fun _=>⟨b,0,rfl,hS,heap_lt hb,fun j u hu=>?_⟩⟩,.cons h .nil⟩
 rw [Lib.cell_of_heap hb]
 simpa using hu
end Go.Proofs.Ytbgcjpefocdkkaa
set_option maxRecDepth 100000
namespace Go.Proofs.Ytbgcjpefocdkkaa
open Go.RowKit
theorem snsl_one {W:World} {cc:List Value} {x:Sn} {t:TypeId} {b:Nat} (h:SnV W (fun _=>True) cc x) (hb:W.heap[b]?=some (.cells cc.toArray t (0,0))):SnSl W (fun _=>True) (some ⟨b,0,none⟩) 1 [x]:=SnSl.one h hb trivial
end Go.Proofs.Ytbgcjpefocdkkaa
set_option maxRecDepth 100000
namespace Go.Proofs.Ytbgcjpefocdkkaa
open Go.RowKit
/-- Bytes of a name, the first no digit. -/
def Nmy (m:Str):Prop:=(∀ c ∈ m,nameC c=true)∧∃ c s,m=c :: s∧¬ digU8 c
theorem Nmy.b {m:Str} (h:Nmy m):nameB m=decide (m.length≤64):=by
 obtain ⟨h1,c,s,rfl,h3⟩:=h
 have h4:=h1 c (List.mem_cons_self ..)
 have h5:decide (57 < c.toNat)=true:=by
  unfold nameC at h4
  simp only [Bool.or_eq_true,decide_eq_true_eq] at h4
  unfold digU8 at h3
  exact decide_eq_true (by omega)
 simp only [nameB];rw [List.all_eq_true.2 h1,h5];simp
theorem Nmy.head {m r:Str} (h:Nmy m) (hr:∀ c t,r=c :: t→nameC c=false):headM (m++r)=if nameB m=true then some (varS m,r) else none:=by
 obtain ⟨h1,c,s,rfl,h3⟩:=h
 exact head_name h1 h3 hr
theorem Nmy.plain {m:Str} (h:Nmy m):∀ c ∈ m,c.toNat≠36∧c.toNat≠92∧(false=true→c.toNat≠125):=fun c hc=>⟨(name_plain (h.1 c hc)).1,(name_plain (h.1 c hc)).2.1,fun e=>by cases e⟩
theorem plain_end (out:List Sn) (t s:Str) (h:∀ c ∈ s,c.toNat≠36∧c.toNat≠92∧(false=true→c.toNat≠125)):partsS false out t s=(withT out (t++s),[]):=by
 have:=parts_plain false out s t [] h
 rw [List.append_nil] at this
 rw [this,partsS_nil]
theorem bare_part {m:Str} (h:Nmy m) (r:Str):partS (m++r)=headM (m++r):=by
 obtain ⟨h1,c,s,rfl,h3⟩:=h
 exact partS_bare (name_plain (h1 c (List.mem_cons_self ..))).2.2.2 _
theorem name_bare {m:Str} (h:Nmy m):snipL (36 :: (m++[32]))=if nameB m=true then [varS m,textS [32]] else [textS (36 :: (m++[32]))]:=by
 have hh:=h.head (r:=[32]) (by rintro c t e;injection e with e _;subst e;decide)
 rw [← bare_part h] at hh
 rw [snipL_eq]
 cases hb:nameB m with
 | true =>
  rw [hb,if_pos rfl] at hh
  rw [parts_part false [] [] _ hh,plain_end _ _ _ (by decide)];rfl
 | false =>
  rw [hb,if_neg (by decide)] at hh
  rw [parts_dol false [] [] _ hh,plain_end _ _ _ (fun c hc=>by
   rcases List.mem_append.1 hc with hc | hc
   ·exact h.plain c hc
   ·rw [List.mem_singleton.1 hc];decide)]
  rfl
theorem name_braced {m:Str} (h:Nmy m):snipL (36 :: 123 :: (m++[125]))=if nameB m=true then [varS m] else [textS (36 :: 123 :: (m++[125]))]:=by
 have hh:=h.head (r:=[125]) (by rintro c t e;injection e with e _;subst e;decide)
 rw [snipL_eq]
 cases hb:nameB m with
 | true =>
  rw [hb,if_pos rfl] at hh
  have hp:partS (123 :: (m++[125]))=some (varS m,[]):=by rw [partS_brace,hh];exact braced_close _ _
  rw [parts_part false [] [] _ hp,partsS_nil];rfl
 | false =>
  rw [hb,if_neg (by decide)] at hh
  have hp:partS (123 :: (m++[125]))=none:=by rw [partS_brace,hh]
  rw [parts_dol false [] [] _ hp,plain_end _ _ _ (fun c hc=>by
   rcases List.mem_cons.1 hc with rfl | hc
   ·decide
   rcases List.mem_append.1 hc with hc | hc
   ·exact h.plain c hc
   ·rw [List.mem_singleton.1 hc];decide)]
  rfl
theorem name_given {m:Str} (h:Nmy m) (s:Str):∃ l,snipL (36 :: 123 :: (m++58 :: (quot three s++[125])))=l∧(nameB m=true→l=[(varS m).give (withT [] s)])∧(nameB m=false→∃ t,l=[textS t]):=by
 have hh:=h.head (r:=58 :: (quot three s++[125])) (by rintro c t e;injection e with e _;subst e;decide)
 refine ⟨_,rfl,fun hb=>?_,fun hb=>?_⟩
 ·rw [hb,if_pos rfl] at hh
  have hp:partS (123 :: (m++58 :: (quot three s++[125])))=some ((varS m).give (withT [] s),[]):=by rw [partS_brace,hh];exact braced_text _ _ _
  rw [snipL_eq,parts_part false [] [] _ hp,partsS_nil];rfl
 ·rw [hb,if_neg (by decide)] at hh
  have hp:partS (123 :: (m++58 :: (quot three s++[125])))=none:=by rw [partS_brace,hh]
  rw [snipL_eq,parts_dol false [] [] _ hp]
  have h1:=parts_plain false [] (123 :: (m++[58])) ([]++[36]) (quot three s++[125]) (fun c hc=>by
   rcases List.mem_cons.1 hc with rfl | hc
   ·decide
   rcases List.mem_append.1 hc with hc | hc
   ·exact h.plain c hc
   ·rw [List.mem_singleton.1 hc];decide)
  have e:(123 :: (m++58 :: (quot three s++[125])):Str)=123 :: (m++[58])++(quot three s++[125]):=by simp
  rw [e,h1,parts_quot,plain_end _ _ _ (by decide)]
  exact ⟨_,rfl⟩
end Go.Proofs.Ytbgcjpefocdkkaa
set_option maxRecDepth 100000
namespace Go.Proofs.Ytbgcjpefocdkkaa
open Go.RowKit
def NaLRel (n:Nat) (w:World) (v q:Value) (wr:World):Prop :=
 ∃ (i:Nat) (m:Str),i≤n∧m.length=i∧q=.int .i64 i∧v=.string ⟨(m).toArray⟩∧wr=w∧Hid (0 < i→Nmy m)
theorem pick {k:Nat} (h:k≤11):∃ d:UInt8,List.take 1 (List.drop k ([97,98,88,89,90,95,48,49,50,55,56,57]:Str))=[d]∧nameC d=true∧(k≤5→¬ digU8 d):=by
 rcases (by omega:k=0∨k=1∨k=2∨k=3∨k=4∨k=5∨k=6∨k=7∨k=8∨k=9∨k=10∨k=11) with rfl | rfl | rfl | rfl | rfl | rfl | rfl | rfl | rfl | rfl | rfl | rfl
 all_goals first
  | exact ⟨_,rfl,by decide,fun _=>by decide⟩
  | exact ⟨_,rfl,by decide,fun e=>by omega⟩
theorem Nmy.snoc {m:Str} {d:UInt8} (h:Nmy m) (hd:nameC d=true):Nmy (m++[d]):=by
 obtain ⟨h1,c,s,rfl,h3⟩:=h
 refine ⟨fun x hx=>?_,c,s++[d],by simp,h3⟩
 rcases List.mem_append.1 hx with hx | hx
 ·exact h1 x hx
 ·rw [List.mem_singleton.1 hx];exact hd
theorem varS_v (w:World) (S:Nat→Prop) (m:Str):SnV w S [.int .i64 3,.string ⟨(m).toArray⟩,.int .i64 0,.bool false,.bool false,.int .i64 0,.string ⟨#[]⟩,.bool false,.slice none 0 0,.int .i64 0,.int .i64 0,.bool false,.slice none 0 0,.slice none 0 0,.bool false,.bool false,.slice none 0 0,.slice none 0 0] (varS m):=hx_v (os:=[]) (ks:=[]) (SlS.none_ _ _ _ _) (SnSl.nil _ _ _)
theorem varS_small {m:Str} (h:m.length≤1000000):(varS m).small:=⟨tf0_small,by simp,by simp,h,trivial⟩
theorem names_two {W:World} {b:Nat} {m u:Str} {t:TypeId} (hb:W.heap[b]?=some (.cells #[.int .i64 3,.string ⟨(m).toArray⟩,.int .i64 0,.bool false,.bool false,.int .i64 0,.string ⟨#[]⟩,.bool false,.slice none 0 0,.int .i64 0,.int .i64 0,.bool false,.slice none 0 0,.slice none 0 0,.bool false,.bool false,.slice none 0 0,.slice none 0 0,.int .i64 0,.string ⟨(u).toArray⟩,.int .i64 0,.bool false,.bool false,.int .i64 0,.string ⟨#[]⟩,.bool false,.slice none 0 0,.int .i64 0,.int .i64 0,.bool false,.slice none 0 0,.slice none 0 0,.bool false,.bool false,.slice none 0 0,.slice none 0 0] t (0,0))):SnSl W (fun _=>True) (some ⟨b,0,none⟩) 2 [varS m,textS u]:=by
 refine ⟨[[.int .i64 3,.string ⟨(m).toArray⟩,.int .i64 0,.bool false,.bool false,.int .i64 0,.string ⟨#[]⟩,.bool false,.slice none 0 0,.int .i64 0,.int .i64 0,.bool false,.slice none 0 0,.slice none 0 0,.bool false,.bool false,.slice none 0 0,.slice none 0 0],[.int .i64 0,.string ⟨(u).toArray⟩,.int .i64 0,.bool false,.bool false,.int .i64 0,.string ⟨#[]⟩,.bool false,.slice none 0 0,.int .i64 0,.int .i64 0,.bool false,.slice none 0 0,.slice none 0 0,.bool false,.bool false,.slice none 0 0,.slice none 0 0]],⟨rfl,fun _=>⟨b,0,rfl,trivial,heap_lt hb,fun j u hu=>?_⟩⟩,.cons (varS_v _ _ m) (.cons (textS_v _ _ u) .nil)⟩
 rw [Lib.cell_of_heap hb]
 simpa using hu
set_option maxHeartbeats 4000000 in
theorem SreadNames_no (a:Option Addr) (n c:Nat) (ns:List Int) (s:Str) (w:World) (h:Sl w w.heap.size a 1 n (icells ns)) (hn:n≤maxLen) (hk:64 < n) :
  Calls Try.prog 5 #[.slice a n c,.string ⟨(s).toArray⟩] w fun e w'=>e=.returned (.bool true)∧Below w.heap.size w w':=by
 have hno:n=ns.length:=h.int_len
 by_cases h1:n=0∨70 < n∨40 < s.length
 ·have hx:n=0∨71≤n∨41≤s.length:=by omega
  clear hno h h1
  go_enter Try.func5,Try.ntmps5
  go_wp2_with (first | (go_at_call 9;exfalso;omega) | (go_at_call 11;refine (awake21 _).mono ?_;rintro e w9 ⟨rfl,hb9⟩))
  all_goals first
   | (go_ret;exact ⟨rfl,hb9⟩)
   | (exfalso;omega)
 ·have h2:¬ n=0:=by omega
  have h3:n≤70:=by omega
  have h4:s.length≤40:=by omega
  have dg:((n:Int) == 0)=false:=by rw [beq_eq_false_iff_ne];omega
  have dg2:decide ((70:Int) < (n:Int))=false:=decide_eq_false (by omega)
  have dg3:decide ((40:Int) < (s.length:Int))=false:=decide_eq_false (by omega)
  have HSl:=Lib.hid h
  have Hno:=Lib.hid hno
  clear h hno h1
  go_enter Try.func5,Try.ntmps5
  go_wp2
  go_loopw [5,6] (fun v q wr=>NaLRel n w v q wr) (fun _ q _=>n - (intOf q).toNat)
  case atStart=>exact ⟨0,[],by omega,rfl,rfl,rfl,rfl,Lib.hid (fun e=>by omega)⟩
  case round =>
   obtain ⟨i,m,hi,hml,rfl,rfl,rfl,HF⟩:=hrel
   by_cases hin:i < n
   ·obtain ⟨z,hz⟩:∃ z,ns[i]?=some z:=⟨ns[i]'(by have:=Hno.out;omega),by simp⟩
    obtain ⟨b,o,rfl,hbB,c0⟩:=HSl.out.int_ hz
    have hlow:=low_lt z (n:=12) (by omega)
    obtain ⟨k,hk⟩:∃ k:Nat,low z 12=k:=⟨(low z 12).toNat,by omega⟩
    have hk9:k≤11:=by omega
    have HL:=Lib.hid (fun w=>hk ▸ Low_any z 12 w (by omega) (by omega))
    clear hlow hk hz
    by_cases hi0:i=0
    ·subst hi0
     obtain ⟨d,hd1,hd2,hd3⟩:=pick (k:=k % 6) (by omega)
     have c00:=c0
     simp only [Nat.add_zero] at c00
     go_wp2_with (go_at_call 9;refine (HL.out _).mono ?_)
     first | rintro e wl rfl rfl | rintro e wl ⟨rfl,rfl⟩
     go_wp2
     refine ⟨⟨0+1,m++[d],by omega,by simp [hml],by go_num,?_,rfl,Lib.hid (fun _=>?_)⟩,by simp [intOf];omega⟩
     ·rw [← hd1]
     ·obtain rfl:m=[]:=List.length_eq_zero_iff.1 hml
      exact ⟨fun x hx=>by rw [List.mem_singleton.1 hx];exact hd2,d,[],rfl,hd3 (by omega)⟩
    ·obtain ⟨d,hd1,hd2,-⟩:=pick (k:=k) hk9
     have hgi:((i:Int) == 0)=false:=by rw [beq_eq_false_iff_ne];omega
     go_wp2_with (go_at_call 9;refine (HL.out _).mono ?_)
     first | rintro e wl rfl rfl | rintro e wl ⟨rfl,rfl⟩
     go_wp2
     refine ⟨⟨i+1,m++[d],by omega,by simp [hml],by go_num,?_,rfl,Lib.hid (fun _=>?_)⟩,by simp [intOf];omega⟩
     ·rw [← hd1]
     ·exact (HF.out (by omega)).snoc hd2
   ·obtain rfl:i=n:=by omega
    have hm:=HF.out (by omega)
    have hmb:=hm.b
    have hnb:=name_bare hm
    have hnc:=name_braced hm
    obtain ⟨l,hl,hl1,hl2⟩:=name_given hm s
    have hql:=quot_len three s
    have HG:=Lib.hid (fun w=>guard21 s three w (by omega) (by decide) (by decide))
    unfold three at HG
    have HN:=Lib.hid (fun w=>SName_any m w (by omega))
    clear HF HSl Hno hin
    have hb:nameB m=false:=by rw [hmb];exact decide_eq_false (by omega)
    rw [hb] at hnb hnc HN
    rw [if_neg (by decide)] at hnb hnc
    obtain ⟨t,rfl⟩:=hl2 hb
    have hr1:=snipM_ok hnb (by simp;omega) (by simp [Sn.deepL,Sn.deep,textS])
    have hr2:=snipM_ok hnc (by simp;omega) (by simp [Sn.deepL,Sn.deep,textS])
    have hr3:=snipM_ok hl (by simp;omega) (by simp [Sn.deepL,Sn.deep,textS])
    have H1:=Lib.hid (sreadH hr1 (by simp;omega))
    have H2:=Lib.hid (sreadH hr2 (by simp;omega))
    have H3:=Lib.hid (sreadH hr3 (by simp;omega))
    unfold three at H3 hql
    obtain ⟨T,hT⟩:∃ T,quot [36,125,92] s=T:=⟨_,rfl⟩
    rw [hT] at H3 HG hql
    have HS1:=Lib.hid (nsame (ks:=[textS (36 :: (m++[32]))]) ⟨textS_small (by simp;omega),trivial⟩ (by simp))
    have HS2:=Lib.hid (nsame (ks:=[textS (36 :: 123 :: (m++[125]))]) ⟨textS_small (by simp;omega),trivial⟩ (by simp))
    clear hmb hnb hnc hl hl1 hl2 hr1 hr2 hr3 hT hm
    go_wp2_with (go_at_call 13;refine (HG.out _).mono ?_)
    first | rintro e w1 rfl hb1 | rintro e w1 ⟨rfl,hb1⟩
    go_wp2_with (go_at_call 10;refine (H1.out _ _ (by simp)).mono ?_)
    rintro e w2 ⟨a2,c2,rfl,hb2,hs2⟩
    go_wp2_with (go_at_call 10;refine (H2.out _ _ (by simp)).mono ?_)
    rintro e w3 ⟨a3,c3,rfl,hb3,hs3⟩
    go_wp2_with (go_at_call 10;refine (H3.out _ _ (by simp)).mono ?_)
    rintro e w4 ⟨a4,c4,rfl,hb4,hs4⟩
    have hbw4:=bel2 (bel2 (bel2 hb1 hb2) hb3) hb4
    have HA:=Lib.hid ((hs2.later hb3).later hb4)
    have HB:=Lib.hid (hs3.later hb4)
    clear hb1 hb2 hb3 hb4 hs2 hs3 hs4
    go_wp2_with (go_at_call 16;refine (HN.out _).mono ?_)
    first | rintro e w5 rfl rfl | rintro e w5 ⟨rfl,rfl⟩
    have hbP:Below w4.heap.size w4 (w4.alloc (.cells #[.int .i64 0,.string ⟨((36 :: (m++[32]))).toArray⟩,.int .i64 0,.bool false,.bool false,.int .i64 0,.string ⟨#[]⟩,.bool false,.slice none 0 0,.int .i64 0,.int .i64 0,.bool false,.slice none 0 0,.slice none 0 0,.bool false,.bool false,.slice none 0 0,.slice none 0 0] 36)):=(Below.refl _ _).alloc (Nat.le_refl _) _
    have hwP:=snsl_one (cc:=[.int .i64 0,.string ⟨((36 :: (m++[32]))).toArray⟩,.int .i64 0,.bool false,.bool false,.int .i64 0,.string ⟨#[]⟩,.bool false,.slice none 0 0,.int .i64 0,.int .i64 0,.bool false,.slice none 0 0,.slice none 0 0,.bool false,.bool false,.slice none 0 0,.slice none 0 0]) (textS_v _ _ _) (heap_alloc_new w4 (.cells #[.int .i64 0,.string ⟨((36 :: (m++[32]))).toArray⟩,.int .i64 0,.bool false,.bool false,.int .i64 0,.string ⟨#[]⟩,.bool false,.slice none 0 0,.int .i64 0,.int .i64 0,.bool false,.slice none 0 0,.slice none 0 0,.bool false,.bool false,.slice none 0 0,.slice none 0 0] 36))
    have HCP:=Lib.hid (HS1.out _ (fun _=>True) a2 _ c2 1 _ (HA.out.later hbP) hwP)
    clear hwP
    go_wp2_with (go_at_call 15;refine HCP.out.mono ?_)
    first | rintro e w6 rfl hxP | rintro e w6 ⟨rfl,hxP⟩
    have HB2:=Lib.hid ((HB.out.later hbP).later hxP)
    have hbw6:=bel2 (bel2 hbw4 hbP) hxP
    clear HCP hbP hxP
    have hbQ:Below w6.heap.size w6 (w6.alloc (.cells #[.int .i64 0,.string ⟨((36 :: 123 :: (m++[125]))).toArray⟩,.int .i64 0,.bool false,.bool false,.int .i64 0,.string ⟨#[]⟩,.bool false,.slice none 0 0,.int .i64 0,.int .i64 0,.bool false,.slice none 0 0,.slice none 0 0,.bool false,.bool false,.slice none 0 0,.slice none 0 0] 36)):=(Below.refl _ _).alloc (Nat.le_refl _) _
    have hwQ:=snsl_one (cc:=[.int .i64 0,.string ⟨((36 :: 123 :: (m++[125]))).toArray⟩,.int .i64 0,.bool false,.bool false,.int .i64 0,.string ⟨#[]⟩,.bool false,.slice none 0 0,.int .i64 0,.int .i64 0,.bool false,.slice none 0 0,.slice none 0 0,.bool false,.bool false,.slice none 0 0,.slice none 0 0]) (textS_v _ _ _) (heap_alloc_new w6 (.cells #[.int .i64 0,.string ⟨((36 :: 123 :: (m++[125]))).toArray⟩,.int .i64 0,.bool false,.bool false,.int .i64 0,.string ⟨#[]⟩,.bool false,.slice none 0 0,.int .i64 0,.int .i64 0,.bool false,.slice none 0 0,.slice none 0 0,.bool false,.bool false,.slice none 0 0,.slice none 0 0] 36))
    have HCQ:=Lib.hid (HS2.out _ (fun _=>True) a3 _ c3 1 _ (HB2.out.later hbQ) hwQ)
    clear hwQ
    go_wp2_with (go_at_call 15;refine HCQ.out.mono ?_)
    first | rintro e w8 rfl hxQ | rintro e w8 ⟨rfl,hxQ⟩
    have hbw8:=bel2 (bel2 hbw6 hbQ) hxQ
    clear HCQ hbQ hxQ
    go_wp2_with (go_at_call 11;refine (awake21 _).mono ?_;rintro e w9 ⟨rfl,hb9⟩)
    go_ret
    exact ⟨rfl,bel2 hbw8 hb9⟩
end Go.Proofs.Ytbgcjpefocdkkaa
set_option maxRecDepth 100000
namespace Go.Proofs.Ytbgcjpefocdkkaa
open Go.RowKit
set_option maxHeartbeats 4000000 in
theorem SreadNames_yes0 (a:Option Addr) (n c:Nat) (ns:List Int) (w:World) (h:Sl w w.heap.size a 1 n (icells ns)) (hn:n≤maxLen) (hk:n≤64) :
  Calls Try.prog 5 #[.slice a n c,.string ⟨([]).toArray⟩] w fun e w'=>e=.returned (.bool true)∧Below w.heap.size w w':=by
 have hno:n=ns.length:=h.int_len
 by_cases h1:n=0∨70 < n
 ·have hx:n=0∨71≤n:=by omega
  clear hno h h1
  go_enter Try.func5,Try.ntmps5
  go_wp2_with (first | (go_at_call 9;exfalso;omega) | (go_at_call 11;refine (awake21 _).mono ?_;rintro e w9 ⟨rfl,hb9⟩))
  all_goals first
   | (go_ret;exact ⟨rfl,hb9⟩)
   | (exfalso;omega)
 ·have h2:¬ n=0:=by omega
  have h3:n≤70:=by omega
  have dg:((n:Int) == 0)=false:=by rw [beq_eq_false_iff_ne];omega
  have dg2:decide ((70:Int) < (n:Int))=false:=decide_eq_false (by omega)
  have HSl:=Lib.hid h
  have Hno:=Lib.hid hno
  clear h hno h1
  go_enter Try.func5,Try.ntmps5
  go_wp2
  go_loopw [5,6] (fun v q wr=>NaLRel n w v q wr) (fun _ q _=>n - (intOf q).toNat)
  case atStart=>exact ⟨0,[],by omega,rfl,rfl,rfl,rfl,Lib.hid (fun e=>by omega)⟩
  case round =>
   obtain ⟨i,m,hi,hml,rfl,rfl,rfl,HF⟩:=hrel
   by_cases hin:i < n
   ·obtain ⟨z,hz⟩:∃ z,ns[i]?=some z:=⟨ns[i]'(by have:=Hno.out;omega),by simp⟩
    obtain ⟨b,o,rfl,hbB,c0⟩:=HSl.out.int_ hz
    have hlow:=low_lt z (n:=12) (by omega)
    obtain ⟨k,hk⟩:∃ k:Nat,low z 12=k:=⟨(low z 12).toNat,by omega⟩
    have hk9:k≤11:=by omega
    have HL:=Lib.hid (fun w=>hk ▸ Low_any z 12 w (by omega) (by omega))
    clear hlow hk hz
    by_cases hi0:i=0
    ·subst hi0
     obtain ⟨d,hd1,hd2,hd3⟩:=pick (k:=k % 6) (by omega)
     have c00:=c0
     simp only [Nat.add_zero] at c00
     go_wp2_with (go_at_call 9;refine (HL.out _).mono ?_)
     first | rintro e wl rfl rfl | rintro e wl ⟨rfl,rfl⟩
     go_wp2
     refine ⟨⟨0+1,m++[d],by omega,by simp [hml],by go_num,?_,rfl,Lib.hid (fun _=>?_)⟩,by simp [intOf];omega⟩
     ·rw [← hd1]
     ·obtain rfl:m=[]:=List.length_eq_zero_iff.1 hml
      exact ⟨fun x hx=>by rw [List.mem_singleton.1 hx];exact hd2,d,[],rfl,hd3 (by omega)⟩
    ·obtain ⟨d,hd1,hd2,-⟩:=pick (k:=k) hk9
     have hgi:((i:Int) == 0)=false:=by rw [beq_eq_false_iff_ne];omega
     go_wp2_with (go_at_call 9;refine (HL.out _).mono ?_)
     first | rintro e wl rfl rfl | rintro e wl ⟨rfl,rfl⟩
     go_wp2
     refine ⟨⟨i+1,m++[d],by omega,by simp [hml],by go_num,?_,rfl,Lib.hid (fun _=>?_)⟩,by simp [intOf];omega⟩
     ·rw [← hd1]
     ·exact (HF.out (by omega)).snoc hd2
   ·obtain rfl:i=n:=by omega
    have hm:=HF.out (by omega)
    have hmb:=hm.b
    have hnb:=name_bare hm
    have hnc:=name_braced hm
    obtain ⟨l,hl,hl1,hl2⟩:=name_given hm []
    have hql:=quot_len three []
    have HG:=Lib.hid (fun w=>guard21 [] three w (by simp) (by decide) (by decide))
    unfold three at HG
    have HN:=Lib.hid (fun w=>SName_any m w (by omega))
    clear HF HSl Hno hin
    have hb:nameB m=true:=by rw [hmb];exact decide_eq_true (by omega)
    rw [hb] at hnb hnc HN
    rw [if_pos rfl] at hnb hnc
    have hw:withT [] ([]:Str)=[]:=rfl
    have hl3:=hl1 hb
    rw [hw] at hl3
    subst hl3
    have hr1:=snipM_ok hnb (by simp;omega) (by simp [Sn.deepL,Sn.deep,textS,varS])
    have hr2:=snipM_ok hnc (by simp;omega) (by simp [Sn.deepL,Sn.deep,varS])
    have hr3:=snipM_ok hl (by simp [quot];omega) (by simp [Sn.deepL,Sn.deep,varS,Sn.give])
    have H1:=Lib.hid (sreadH hr1 (by simp;omega))
    have H2:=Lib.hid (sreadH hr2 (by simp;omega))
    have H3:=Lib.hid (sreadH hr3 (by simp [quot];omega))
    unfold three at H3 hql
    obtain ⟨T,hT⟩:∃ T,quot [36,125,92] []=T:=⟨_,rfl⟩
    rw [hT] at H3 HG
    clear hql
    have hql:T.length≤80:=by rw [← hT];simp [quot]
    have HS1:=Lib.hid (nsame (ks:=[varS m,textS [32]]) ⟨varS_small (by omega),textS_small (by simp),trivial⟩ (by simp))
    have HS2:=Lib.hid (nsame (ks:=[varS m]) ⟨varS_small (by omega),trivial⟩ (by simp))
    have HS3:=Lib.hid (nsame (ks:=[(varS m).give []]) ⟨⟨tf0_small,by simp,by simp,by show m.length≤_;omega,trivial⟩,trivial⟩ (by simp))
    clear hmb hnb hnc hl hl1 hl2 hr1 hr2 hr3 hT hm hw
    go_wp2_with (go_at_call 13;refine (HG.out _).mono ?_)
    first | rintro e w1 rfl hb1 | rintro e w1 ⟨rfl,hb1⟩
    go_wp2_with (go_at_call 10;refine (H1.out _ _ (by simp)).mono ?_)
    rintro e w2 ⟨a2,c2,rfl,hb2,hs2⟩
    go_wp2_with (go_at_call 10;refine (H2.out _ _ (by simp)).mono ?_)
    rintro e w3 ⟨a3,c3,rfl,hb3,hs3⟩
    go_wp2_with (go_at_call 10;refine (H3.out _ _ (by simp)).mono ?_)
    rintro e w4 ⟨a4,c4,rfl,hb4,hs4⟩
    have hbw4:=bel2 (bel2 (bel2 hb1 hb2) hb3) hb4
    have HA:=Lib.hid ((hs2.later hb3).later hb4)
    have HB:=Lib.hid (hs3.later hb4)
    have HD:=Lib.hid hs4
    clear hb1 hb2 hb3 hb4 hs2 hs3 hs4
    go_wp2_with (go_at_call 16;refine (HN.out _).mono ?_)
    first | rintro e w5 rfl rfl | rintro e w5 ⟨rfl,rfl⟩
    obtain ⟨Wx,hWx⟩:∃ Wx,Wx=w4.alloc (.cells #[.int .i64 3,.string ⟨(m).toArray⟩,.int .i64 0,.bool false,.bool false,.int .i64 0,.string ⟨#[]⟩,.bool false,.slice none 0 0,.int .i64 0,.int .i64 0,.bool false,.slice none 0 0,.slice none 0 0,.bool false,.bool false,.slice none 0 0,.slice none 0 0] 36):=⟨_,rfl⟩
    have hbx:Below w4.heap.size w4 Wx:=by rw [hWx];exact (Below.refl _ _).alloc (Nat.le_refl _) _
    have HAx:=Lib.hid (HA.out.later hbx)
    have HBx:=Lib.hid (HB.out.later hbx)
    have HDx:=Lib.hid (HD.out.later hbx)
    have hbwx:=bel2 hbw4 hbx
    have HXx:Hid (Wx.heap[w4.heap.size]?=some (.cells #[.int .i64 3,.string ⟨(m).toArray⟩,.int .i64 0,.bool false,.bool false,.int .i64 0,.string ⟨#[]⟩,.bool false,.slice none 0 0,.int .i64 0,.int .i64 0,.bool false,.slice none 0 0,.slice none 0 0,.bool false,.bool false,.slice none 0 0,.slice none 0 0] 36 (0,0))):=Lib.hid (by rw [hWx];exact heap_alloc_new _ _)
    clear hbx
    go_upto_region 23 with fail
    rw [← hWx]
    clear hWx
    have hbP:Below Wx.heap.size Wx (Wx.alloc (.cells #[.int .i64 3,.string ⟨(m).toArray⟩,.int .i64 0,.bool false,.bool false,.int .i64 0,.string ⟨#[]⟩,.bool false,.slice none 0 0,.int .i64 0,.int .i64 0,.bool false,.slice none 0 0,.slice none 0 0,.bool false,.bool false,.slice none 0 0,.slice none 0 0,.int .i64 0,.string ⟨([32]).toArray⟩,.int .i64 0,.bool false,.bool false,.int .i64 0,.string ⟨#[]⟩,.bool false,.slice none 0 0,.int .i64 0,.int .i64 0,.bool false,.slice none 0 0,.slice none 0 0,.bool false,.bool false,.slice none 0 0,.slice none 0 0] 36)):=(Below.refl _ _).alloc (Nat.le_refl _) _
    have hwP:=names_two (heap_alloc_new Wx (.cells #[.int .i64 3,.string ⟨(m).toArray⟩,.int .i64 0,.bool false,.bool false,.int .i64 0,.string ⟨#[]⟩,.bool false,.slice none 0 0,.int .i64 0,.int .i64 0,.bool false,.slice none 0 0,.slice none 0 0,.bool false,.bool false,.slice none 0 0,.slice none 0 0,.int .i64 0,.string ⟨([32]).toArray⟩,.int .i64 0,.bool false,.bool false,.int .i64 0,.string ⟨#[]⟩,.bool false,.slice none 0 0,.int .i64 0,.int .i64 0,.bool false,.slice none 0 0,.slice none 0 0,.bool false,.bool false,.slice none 0 0,.slice none 0 0] 36))
    have HCP:=Lib.hid (HS1.out _ (fun _=>True) a2 _ c2 2 _ (HAx.out.later hbP) hwP)
    clear hwP
    go_wp2_with (first | (refine wpList_ldW rfl 36 (.tmp 16) rfl (w4.heap.size) 0 rfl ([.int .i64 3,.string ⟨(m).toArray⟩,.int .i64 0,.bool false,.bool false,.int .i64 0,.string ⟨#[]⟩,.bool false,.slice none 0 0,.int .i64 0,.int .i64 0,.bool false,.slice none 0 0,.slice none 0 0,.bool false,.bool false,.slice none 0 0,.slice none 0 0]) _ (range_blk (ds:=[]) (HXx.out)) snip_under rfl (by rw [snip_size];rfl) ?_) | (go_at_call 15;refine HCP.out.mono ?_))
    first | rintro e w6 rfl hxP | rintro e w6 ⟨rfl,hxP⟩
    replace hxP:Below (Wx.alloc (.cells #[.int .i64 3,.string ⟨(m).toArray⟩,.int .i64 0,.bool false,.bool false,.int .i64 0,.string ⟨#[]⟩,.bool false,.slice none 0 0,.int .i64 0,.int .i64 0,.bool false,.slice none 0 0,.slice none 0 0,.bool false,.bool false,.slice none 0 0,.slice none 0 0,.int .i64 0,.string ⟨([32]).toArray⟩,.int .i64 0,.bool false,.bool false,.int .i64 0,.string ⟨#[]⟩,.bool false,.slice none 0 0,.int .i64 0,.int .i64 0,.bool false,.slice none 0 0,.slice none 0 0,.bool false,.bool false,.slice none 0 0,.slice none 0 0] 36)).heap.size (Wx.alloc (.cells #[.int .i64 3,.string ⟨(m).toArray⟩,.int .i64 0,.bool false,.bool false,.int .i64 0,.string ⟨#[]⟩,.bool false,.slice none 0 0,.int .i64 0,.int .i64 0,.bool false,.slice none 0 0,.slice none 0 0,.bool false,.bool false,.slice none 0 0,.slice none 0 0,.int .i64 0,.string ⟨([32]).toArray⟩,.int .i64 0,.bool false,.bool false,.int .i64 0,.string ⟨#[]⟩,.bool false,.slice none 0 0,.int .i64 0,.int .i64 0,.bool false,.slice none 0 0,.slice none 0 0,.bool false,.bool false,.slice none 0 0,.slice none 0 0] 36)) w6:=by rw [World.size_alloc];exact hxP
    have HX6:Hid (w6.heap[w4.heap.size]?=some (.cells #[.int .i64 3,.string ⟨(m).toArray⟩,.int .i64 0,.bool false,.bool false,.int .i64 0,.string ⟨#[]⟩,.bool false,.slice none 0 0,.int .i64 0,.int .i64 0,.bool false,.slice none 0 0,.slice none 0 0,.bool false,.bool false,.slice none 0 0,.slice none 0 0] 36 (0,0))):=Lib.hid ((bel2 hbP hxP).block _ (heap_lt HXx.out) |>.trans HXx.out)
    have HB6:=Lib.hid ((HBx.out.later hbP).later hxP)
    have HD6:=Lib.hid ((HDx.out.later hbP).later hxP)
    have hbw6:=bel2 (bel2 hbwx hbP) hxP
    clear HCP hbP hxP
    have hbQ:Below w6.heap.size w6 (w6.alloc (.cells #[.int .i64 3,.string ⟨(m).toArray⟩,.int .i64 0,.bool false,.bool false,.int .i64 0,.string ⟨#[]⟩,.bool false,.slice none 0 0,.int .i64 0,.int .i64 0,.bool false,.slice none 0 0,.slice none 0 0,.bool false,.bool false,.slice none 0 0,.slice none 0 0] 36)):=(Below.refl _ _).alloc (Nat.le_refl _) _
    have hwQ:=snsl_one (cc:=[.int .i64 3,.string ⟨(m).toArray⟩,.int .i64 0,.bool false,.bool false,.int .i64 0,.string ⟨#[]⟩,.bool false,.slice none 0 0,.int .i64 0,.int .i64 0,.bool false,.slice none 0 0,.slice none 0 0,.bool false,.bool false,.slice none 0 0,.slice none 0 0]) (varS_v _ _ _) (heap_alloc_new w6 (.cells #[.int .i64 3,.string ⟨(m).toArray⟩,.int .i64 0,.bool false,.bool false,.int .i64 0,.string ⟨#[]⟩,.bool false,.slice none 0 0,.int .i64 0,.int .i64 0,.bool false,.slice none 0 0,.slice none 0 0,.bool false,.bool false,.slice none 0 0,.slice none 0 0] 36))
    have HCQ:=Lib.hid (HS2.out _ (fun _=>True) a3 _ c3 1 _ (HB6.out.later hbQ) hwQ)
    clear hwQ
    go_wp2_with (first | (refine wpList_ldG (by rfl) 36 (.tmp 16) rfl (w4.heap.size) 0 rfl [.int .i64 3,.string ⟨(m).toArray⟩,.int .i64 0,.bool false,.bool false,.int .i64 0,.string ⟨#[]⟩,.bool false,.slice none 0 0,.int .i64 0,.int .i64 0,.bool false,.slice none 0 0,.slice none 0 0,.bool false,.bool false,.slice none 0 0,.slice none 0 0] _ (range_blk (ds:=[]) (HX6.out)) snip_under rfl (by rw [snip_size];rfl) ?_) | (go_at_call 15;refine HCQ.out.mono ?_))
    first | rintro e w8 rfl hxQ | rintro e w8 ⟨rfl,hxQ⟩
    have HD8:=Lib.hid ((HD6.out.later hbQ).later hxQ)
    have hbw8:=bel2 (bel2 hbw6 hbQ) hxQ
    clear HCQ hbQ hxQ
    have hbR:Below w8.heap.size w8 (w8.alloc (.cells #[.int .i64 3,.string ⟨(m).toArray⟩,.int .i64 0,.bool true,.bool false,.int .i64 0,.string ⟨#[]⟩,.bool false,.slice none 0 0,.int .i64 0,.int .i64 0,.bool false,.slice none 0 0,.slice none 0 0,.bool false,.bool false,.slice none 0 0,.slice none 0 0] 36)):=(Below.refl _ _).alloc (Nat.le_refl _) _
    have hwR:=snsl_one (cc:=[.int .i64 3,.string ⟨(m).toArray⟩,.int .i64 0,.bool true,.bool false,.int .i64 0,.string ⟨#[]⟩,.bool false,.slice none 0 0,.int .i64 0,.int .i64 0,.bool false,.slice none 0 0,.slice none 0 0,.bool false,.bool false,.slice none 0 0,.slice none 0 0]) (hx_v (os:=[]) (ks:=[]) (SlS.none_ _ _ _ _) (SnSl.nil _ _ _)) (heap_alloc_new w8 (.cells #[.int .i64 3,.string ⟨(m).toArray⟩,.int .i64 0,.bool true,.bool false,.int .i64 0,.string ⟨#[]⟩,.bool false,.slice none 0 0,.int .i64 0,.int .i64 0,.bool false,.slice none 0 0,.slice none 0 0,.bool false,.bool false,.slice none 0 0,.slice none 0 0] 36))
    have HCR:=Lib.hid (HS3.out _ (fun _=>True) a4 _ c4 1 _ (HD8.out.later hbR) hwR)
    clear hwR
    go_wp2_with (go_at_call 15;refine HCR.out.mono ?_)
    first | rintro e w10 rfl hxR | rintro e w10 ⟨rfl,hxR⟩
    have hbw10:=bel2 (bel2 hbw8 hbR) hxR
    clear HCR hbR hxR
    go_wp2_with (go_at_call 11;refine (awake21 _).mono ?_;rintro e w9 ⟨rfl,hb9⟩)
    go_ret
    exact ⟨rfl,bel2 hbw10 hb9⟩
end Go.Proofs.Ytbgcjpefocdkkaa
set_option maxRecDepth 100000
namespace Go.Proofs.Ytbgcjpefocdkkaa
open Go.RowKit
set_option maxHeartbeats 4000000 in
theorem SreadNames_yes1 (a:Option Addr) (n c:Nat) (ns:List Int) (s:Str) (w:World) (h:Sl w w.heap.size a 1 n (icells ns)) (hn:n≤maxLen) (hk:n≤64) (h0:¬ s=[]) :
  Calls Try.prog 5 #[.slice a n c,.string ⟨(s).toArray⟩] w fun e w'=>e=.returned (.bool true)∧Below w.heap.size w w':=by
 have hno:n=ns.length:=h.int_len
 by_cases h1:n=0∨70 < n∨40 < s.length
 ·have hx:n=0∨71≤n∨41≤s.length:=by omega
  clear hno h h1
  go_enter Try.func5,Try.ntmps5
  go_wp2_with (first | (go_at_call 9;exfalso;omega) | (go_at_call 11;refine (awake21 _).mono ?_;rintro e w9 ⟨rfl,hb9⟩))
  all_goals first
   | (go_ret;exact ⟨rfl,hb9⟩)
   | (exfalso;omega)
 ·have h2:¬ n=0:=by omega
  have h3:n≤70:=by omega
  have h4:s.length≤40:=by omega
  have dg:((n:Int) == 0)=false:=by rw [beq_eq_false_iff_ne];omega
  have dg2:decide ((70:Int) < (n:Int))=false:=decide_eq_false (by omega)
  have dg3:decide ((40:Int) < (s.length:Int))=false:=decide_eq_false (by omega)
  have HSl:=Lib.hid h
  have Hno:=Lib.hid hno
  clear h hno h1
  go_enter Try.func5,Try.ntmps5
  go_wp2
  go_loopw [5,6] (fun v q wr=>NaLRel n w v q wr) (fun _ q _=>n - (intOf q).toNat)
  case atStart=>exact ⟨0,[],by omega,rfl,rfl,rfl,rfl,Lib.hid (fun e=>by omega)⟩
  case round =>
   obtain ⟨i,m,hi,hml,rfl,rfl,rfl,HF⟩:=hrel
   by_cases hin:i < n
   ·obtain ⟨z,hz⟩:∃ z,ns[i]?=some z:=⟨ns[i]'(by have:=Hno.out;omega),by simp⟩
    obtain ⟨b,o,rfl,hbB,c0⟩:=HSl.out.int_ hz
    have hlow:=low_lt z (n:=12) (by omega)
    obtain ⟨k,hk⟩:∃ k:Nat,low z 12=k:=⟨(low z 12).toNat,by omega⟩
    have hk9:k≤11:=by omega
    have HL:=Lib.hid (fun w=>hk ▸ Low_any z 12 w (by omega) (by omega))
    clear hlow hk hz
    by_cases hi0:i=0
    ·subst hi0
     obtain ⟨d,hd1,hd2,hd3⟩:=pick (k:=k % 6) (by omega)
     have c00:=c0
     simp only [Nat.add_zero] at c00
     go_wp2_with (go_at_call 9;refine (HL.out _).mono ?_)
     first | rintro e wl rfl rfl | rintro e wl ⟨rfl,rfl⟩
     go_wp2
     refine ⟨⟨0+1,m++[d],by omega,by simp [hml],by go_num,?_,rfl,Lib.hid (fun _=>?_)⟩,by simp [intOf];omega⟩
     ·rw [← hd1]
     ·obtain rfl:m=[]:=List.length_eq_zero_iff.1 hml
      exact ⟨fun x hx=>by rw [List.mem_singleton.1 hx];exact hd2,d,[],rfl,hd3 (by omega)⟩
    ·obtain ⟨d,hd1,hd2,-⟩:=pick (k:=k) hk9
     have hgi:((i:Int) == 0)=false:=by rw [beq_eq_false_iff_ne];omega
     go_wp2_with (go_at_call 9;refine (HL.out _).mono ?_)
     first | rintro e wl rfl rfl | rintro e wl ⟨rfl,rfl⟩
     go_wp2
     refine ⟨⟨i+1,m++[d],by omega,by simp [hml],by go_num,?_,rfl,Lib.hid (fun _=>?_)⟩,by simp [intOf];omega⟩
     ·rw [← hd1]
     ·exact (HF.out (by omega)).snoc hd2
   ·obtain rfl:i=n:=by omega
    have hm:=HF.out (by omega)
    have hmb:=hm.b
    have hnb:=name_bare hm
    have hnc:=name_braced hm
    obtain ⟨l,hl,hl1,hl2⟩:=name_given hm s
    have hql:=quot_len three s
    have HG:=Lib.hid (fun w=>guard21 s three w (by omega) (by decide) (by decide))
    unfold three at HG
    have HN:=Lib.hid (fun w=>SName_any m w (by omega))
    clear HF HSl Hno hin
    have hb:nameB m=true:=by rw [hmb];exact decide_eq_true (by omega)
    rw [hb] at hnb hnc HN
    rw [if_pos rfl] at hnb hnc
    have hw:withT [] s=[textS s]:=by unfold withT;rw [if_neg h0];rfl
    have hne:(⟨s.toArray⟩:ByteArray)≠⟨#[]⟩:=fun e=>h0 (by simpa using e)
    have hq1:(s == ([]:Str))=false:=by simpa using h0
    have hq2:(s != ([]:Str))=true:=by simp [bne,hq1]
    have hq3:decide (s=([]:Str))=false:=decide_eq_false h0
    have hl3:=hl1 hb
    rw [hw] at hl3
    subst hl3
    have hr1:=snipM_ok hnb (by simp;omega) (by simp [Sn.deepL,Sn.deep,textS,varS])
    have hr2:=snipM_ok hnc (by simp;omega) (by simp [Sn.deepL,Sn.deep,varS])
    have hr3:=snipM_ok hl (by simp;omega) (by simp [Sn.deepL,Sn.deep,textS,varS,Sn.give])
    have H1:=Lib.hid (sreadH hr1 (by simp;omega))
    have H2:=Lib.hid (sreadH hr2 (by simp;omega))
    have H3:=Lib.hid (sreadH hr3 (by simp;omega))
    unfold three at H3 hql
    obtain ⟨T,hT⟩:∃ T,quot [36,125,92] s=T:=⟨_,rfl⟩
    rw [hT] at H3 HG hql
    have HS1:=Lib.hid (nsame (ks:=[varS m,textS [32]]) ⟨varS_small (by omega),textS_small (by simp),trivial⟩ (by simp))
    have HS2:=Lib.hid (nsame (ks:=[varS m]) ⟨varS_small (by omega),trivial⟩ (by simp))
    have HS3:=Lib.hid (nsame (ks:=[(varS m).give [textS s]]) ⟨⟨tf0_small,by simp,by simp,by show m.length≤_;omega,textS_small (by omega),trivial⟩,trivial⟩ (by simp))
    clear hmb hnb hnc hl hl1 hl2 hr1 hr2 hr3 hT hm hw
    go_wp2_with (go_at_call 13;refine (HG.out _).mono ?_)
    first | rintro e w1 rfl hb1 | rintro e w1 ⟨rfl,hb1⟩
    go_wp2_with (go_at_call 10;refine (H1.out _ _ (by simp)).mono ?_)
    rintro e w2 ⟨a2,c2,rfl,hb2,hs2⟩
    go_wp2_with (go_at_call 10;refine (H2.out _ _ (by simp)).mono ?_)
    rintro e w3 ⟨a3,c3,rfl,hb3,hs3⟩
    go_wp2_with (go_at_call 10;refine (H3.out _ _ (by simp)).mono ?_)
    rintro e w4 ⟨a4,c4,rfl,hb4,hs4⟩
    have hbw4:=bel2 (bel2 (bel2 hb1 hb2) hb3) hb4
    have HA:=Lib.hid ((hs2.later hb3).later hb4)
    have HB:=Lib.hid (hs3.later hb4)
    have HD:=Lib.hid hs4
    clear hb1 hb2 hb3 hb4 hs2 hs3 hs4
    go_wp2_with (go_at_call 16;refine (HN.out _).mono ?_)
    first | rintro e w5 rfl rfl | rintro e w5 ⟨rfl,rfl⟩
    obtain ⟨W5,hW5⟩:∃ W5,W5=w4.alloc (.cells #[.int .i64 0,.string ⟨(s).toArray⟩,.int .i64 0,.bool false,.bool false,.int .i64 0,.string ⟨#[]⟩,.bool false,.slice none 0 0,.int .i64 0,.int .i64 0,.bool false,.slice none 0 0,.slice none 0 0,.bool false,.bool false,.slice none 0 0,.slice none 0 0] 36):=⟨_,rfl⟩
    have hb5:Below w4.heap.size w4 W5:=by rw [hW5];exact (Below.refl _ _).alloc (Nat.le_refl _) _
    have hx5:W5.heap[w4.heap.size]?=some (.cells #[.int .i64 0,.string ⟨(s).toArray⟩,.int .i64 0,.bool false,.bool false,.int .i64 0,.string ⟨#[]⟩,.bool false,.slice none 0 0,.int .i64 0,.int .i64 0,.bool false,.slice none 0 0,.slice none 0 0,.bool false,.bool false,.slice none 0 0,.slice none 0 0] 36 (0,0)):=by rw [hW5];exact heap_alloc_new _ _
    have HK:=Lib.hid (snsl_one (cc:=[.int .i64 0,.string ⟨(s).toArray⟩,.int .i64 0,.bool false,.bool false,.int .i64 0,.string ⟨#[]⟩,.bool false,.slice none 0 0,.int .i64 0,.int .i64 0,.bool false,.slice none 0 0,.slice none 0 0,.bool false,.bool false,.slice none 0 0,.slice none 0 0]) (textS_v W5 (fun _=>True) s) hx5)
    have HA5:=Lib.hid (HA.out.later hb5)
    have HB5:=Lib.hid (HB.out.later hb5)
    have HD5:=Lib.hid (HD.out.later hb5)
    have hbw5:=bel2 hbw4 hb5
    clear hb5 hx5
    go_upto_region 22 with fail
    rw [← hW5]
    clear hW5
    obtain ⟨Wx,hWx⟩:∃ Wx,Wx=W5.alloc (.cells #[.int .i64 3,.string ⟨(m).toArray⟩,.int .i64 0,.bool false,.bool false,.int .i64 0,.string ⟨#[]⟩,.bool false,.slice none 0 0,.int .i64 0,.int .i64 0,.bool false,.slice none 0 0,.slice none 0 0,.bool false,.bool false,.slice none 0 0,.slice none 0 0] 36):=⟨_,rfl⟩
    have hbx:Below W5.heap.size W5 Wx:=by rw [hWx];exact (Below.refl _ _).alloc (Nat.le_refl _) _
    have HAx:=Lib.hid (HA5.out.later hbx)
    have HBx:=Lib.hid (HB5.out.later hbx)
    have HDx:=Lib.hid (HD5.out.later hbx)
    have HKx:=Lib.hid (HK.out.later hbx)
    have hbwx:=bel2 hbw5 hbx
    have HXx:Hid (Wx.heap[W5.heap.size]?=some (.cells #[.int .i64 3,.string ⟨(m).toArray⟩,.int .i64 0,.bool false,.bool false,.int .i64 0,.string ⟨#[]⟩,.bool false,.slice none 0 0,.int .i64 0,.int .i64 0,.bool false,.slice none 0 0,.slice none 0 0,.bool false,.bool false,.slice none 0 0,.slice none 0 0] 36 (0,0))):=Lib.hid (by rw [hWx];exact heap_alloc_new _ _)
    clear hbx
    go_upto_region 23 with fail
    rw [← hWx]
    clear hWx
    have hbP:Below Wx.heap.size Wx (Wx.alloc (.cells #[.int .i64 3,.string ⟨(m).toArray⟩,.int .i64 0,.bool false,.bool false,.int .i64 0,.string ⟨#[]⟩,.bool false,.slice none 0 0,.int .i64 0,.int .i64 0,.bool false,.slice none 0 0,.slice none 0 0,.bool false,.bool false,.slice none 0 0,.slice none 0 0,.int .i64 0,.string ⟨([32]).toArray⟩,.int .i64 0,.bool false,.bool false,.int .i64 0,.string ⟨#[]⟩,.bool false,.slice none 0 0,.int .i64 0,.int .i64 0,.bool false,.slice none 0 0,.slice none 0 0,.bool false,.bool false,.slice none 0 0,.slice none 0 0] 36)):=(Below.refl _ _).alloc (Nat.le_refl _) _
    have hwP:=names_two (heap_alloc_new Wx (.cells #[.int .i64 3,.string ⟨(m).toArray⟩,.int .i64 0,.bool false,.bool false,.int .i64 0,.string ⟨#[]⟩,.bool false,.slice none 0 0,.int .i64 0,.int .i64 0,.bool false,.slice none 0 0,.slice none 0 0,.bool false,.bool false,.slice none 0 0,.slice none 0 0,.int .i64 0,.string ⟨([32]).toArray⟩,.int .i64 0,.bool false,.bool false,.int .i64 0,.string ⟨#[]⟩,.bool false,.slice none 0 0,.int .i64 0,.int .i64 0,.bool false,.slice none 0 0,.slice none 0 0,.bool false,.bool false,.slice none 0 0,.slice none 0 0] 36))
    have HCP:=Lib.hid (HS1.out _ (fun _=>True) a2 _ c2 2 _ (HAx.out.later hbP) hwP)
    clear hwP
    go_wp2_with (first | (refine wpList_ldW rfl 36 (.tmp 16) rfl (W5.heap.size) 0 rfl ([.int .i64 3,.string ⟨(m).toArray⟩,.int .i64 0,.bool false,.bool false,.int .i64 0,.string ⟨#[]⟩,.bool false,.slice none 0 0,.int .i64 0,.int .i64 0,.bool false,.slice none 0 0,.slice none 0 0,.bool false,.bool false,.slice none 0 0,.slice none 0 0]) _ (range_blk (ds:=[]) (HXx.out)) snip_under rfl (by rw [snip_size];rfl) ?_) | (go_at_call 15;refine HCP.out.mono ?_))
    first | rintro e w6 rfl hxP | rintro e w6 ⟨rfl,hxP⟩
    replace hxP:Below (Wx.alloc (.cells #[.int .i64 3,.string ⟨(m).toArray⟩,.int .i64 0,.bool false,.bool false,.int .i64 0,.string ⟨#[]⟩,.bool false,.slice none 0 0,.int .i64 0,.int .i64 0,.bool false,.slice none 0 0,.slice none 0 0,.bool false,.bool false,.slice none 0 0,.slice none 0 0,.int .i64 0,.string ⟨([32]).toArray⟩,.int .i64 0,.bool false,.bool false,.int .i64 0,.string ⟨#[]⟩,.bool false,.slice none 0 0,.int .i64 0,.int .i64 0,.bool false,.slice none 0 0,.slice none 0 0,.bool false,.bool false,.slice none 0 0,.slice none 0 0] 36)).heap.size (Wx.alloc (.cells #[.int .i64 3,.string ⟨(m).toArray⟩,.int .i64 0,.bool false,.bool false,.int .i64 0,.string ⟨#[]⟩,.bool false,.slice none 0 0,.int .i64 0,.int .i64 0,.bool false,.slice none 0 0,.slice none 0 0,.bool false,.bool false,.slice none 0 0,.slice none 0 0,.int .i64 0,.string ⟨([32]).toArray⟩,.int .i64 0,.bool false,.bool false,.int .i64 0,.string ⟨#[]⟩,.bool false,.slice none 0 0,.int .i64 0,.int .i64 0,.bool false,.slice none 0 0,.slice none 0 0,.bool false,.bool false,.slice none 0 0,.slice none 0 0] 36)) w6:=by rw [World.size_alloc];exact hxP
    have HX6:Hid (w6.heap[W5.heap.size]?=some (.cells #[.int .i64 3,.string ⟨(m).toArray⟩,.int .i64 0,.bool false,.bool false,.int .i64 0,.string ⟨#[]⟩,.bool false,.slice none 0 0,.int .i64 0,.int .i64 0,.bool false,.slice none 0 0,.slice none 0 0,.bool false,.bool false,.slice none 0 0,.slice none 0 0] 36 (0,0))):=Lib.hid ((bel2 hbP hxP).block _ (heap_lt HXx.out) |>.trans HXx.out)
    have HB6:=Lib.hid ((HBx.out.later hbP).later hxP)
    have HD6:=Lib.hid ((HDx.out.later hbP).later hxP)
    have HK6:=Lib.hid ((HKx.out.later hbP).later hxP)
    have hbw6:=bel2 (bel2 hbwx hbP) hxP
    clear HCP hbP hxP
    have hbQ:Below w6.heap.size w6 (w6.alloc (.cells #[.int .i64 3,.string ⟨(m).toArray⟩,.int .i64 0,.bool false,.bool false,.int .i64 0,.string ⟨#[]⟩,.bool false,.slice none 0 0,.int .i64 0,.int .i64 0,.bool false,.slice none 0 0,.slice none 0 0,.bool false,.bool false,.slice none 0 0,.slice none 0 0] 36)):=(Below.refl _ _).alloc (Nat.le_refl _) _
    have hwQ:=snsl_one (cc:=[.int .i64 3,.string ⟨(m).toArray⟩,.int .i64 0,.bool false,.bool false,.int .i64 0,.string ⟨#[]⟩,.bool false,.slice none 0 0,.int .i64 0,.int .i64 0,.bool false,.slice none 0 0,.slice none 0 0,.bool false,.bool false,.slice none 0 0,.slice none 0 0]) (varS_v _ _ _) (heap_alloc_new w6 (.cells #[.int .i64 3,.string ⟨(m).toArray⟩,.int .i64 0,.bool false,.bool false,.int .i64 0,.string ⟨#[]⟩,.bool false,.slice none 0 0,.int .i64 0,.int .i64 0,.bool false,.slice none 0 0,.slice none 0 0,.bool false,.bool false,.slice none 0 0,.slice none 0 0] 36))
    have HCQ:=Lib.hid (HS2.out _ (fun _=>True) a3 _ c3 1 _ (HB6.out.later hbQ) hwQ)
    clear hwQ
    go_wp2_with (first | (refine wpList_ldG (by rfl) 36 (.tmp 16) rfl (W5.heap.size) 0 rfl [.int .i64 3,.string ⟨(m).toArray⟩,.int .i64 0,.bool false,.bool false,.int .i64 0,.string ⟨#[]⟩,.bool false,.slice none 0 0,.int .i64 0,.int .i64 0,.bool false,.slice none 0 0,.slice none 0 0,.bool false,.bool false,.slice none 0 0,.slice none 0 0] _ (range_blk (ds:=[]) (HX6.out)) snip_under rfl (by rw [snip_size];rfl) ?_) | (go_at_call 15;refine HCQ.out.mono ?_))
    first | rintro e w8 rfl hxQ | rintro e w8 ⟨rfl,hxQ⟩
    have HD8:=Lib.hid ((HD6.out.later hbQ).later hxQ)
    have HK8:=Lib.hid ((HK6.out.later hbQ).later hxQ)
    have hbw8:=bel2 (bel2 hbw6 hbQ) hxQ
    clear HCQ hbQ hxQ
    have hbR:Below w8.heap.size w8 (w8.alloc (.cells #[.int .i64 3,.string ⟨(m).toArray⟩,.int .i64 0,.bool true,.bool false,.int .i64 0,.string ⟨#[]⟩,.bool false,.slice none 0 0,.int .i64 0,.int .i64 0,.bool false,.slice none 0 0,.slice none 0 0,.bool false,.bool false,.slice none 0 0,.slice (some ⟨w4.heap.size,0,none⟩) 1 1] 36)):=(Below.refl _ _).alloc (Nat.le_refl _) _
    have hwR:=snsl_one (cc:=[.int .i64 3,.string ⟨(m).toArray⟩,.int .i64 0,.bool true,.bool false,.int .i64 0,.string ⟨#[]⟩,.bool false,.slice none 0 0,.int .i64 0,.int .i64 0,.bool false,.slice none 0 0,.slice none 0 0,.bool false,.bool false,.slice none 0 0,.slice (some ⟨w4.heap.size,0,none⟩) 1 1]) (hx_v (os:=[]) (ks:=[textS s]) (SlS.none_ _ _ _ _) (HK8.out.later hbR)) (heap_alloc_new w8 (.cells #[.int .i64 3,.string ⟨(m).toArray⟩,.int .i64 0,.bool true,.bool false,.int .i64 0,.string ⟨#[]⟩,.bool false,.slice none 0 0,.int .i64 0,.int .i64 0,.bool false,.slice none 0 0,.slice none 0 0,.bool false,.bool false,.slice none 0 0,.slice (some ⟨w4.heap.size,0,none⟩) 1 1] 36))
    have HCR:=Lib.hid (HS3.out _ (fun _=>True) a4 _ c4 1 _ (HD8.out.later hbR) hwR)
    clear hwR
    go_wp2_with (go_at_call 15;refine HCR.out.mono ?_)
    first | rintro e w10 rfl hxR | rintro e w10 ⟨rfl,hxR⟩
    have hbw10:=bel2 (bel2 hbw8 hbR) hxR
    clear HCR hbR hxR
    go_wp2_with (go_at_call 11;refine (awake21 _).mono ?_;rintro e w9 ⟨rfl,hb9⟩)
    go_ret
    exact ⟨rfl,bel2 hbw10 hb9⟩
end Go.Proofs.Ytbgcjpefocdkkaa
set_option maxRecDepth 100000
namespace Go.Proofs.Ytbgcjpefocdkkaa
open Go.RowKit
theorem SreadNames_walk (a:Option Addr) (n c:Nat) (ns:List Int) (s:Str) (w:World) (h:Sl w w.heap.size a 1 n (icells ns)) (hn:n≤maxLen) :
  Calls Try.prog 5 #[.slice a n c,.string ⟨(s).toArray⟩] w fun e w'=>e=.returned (.bool true)∧Below w.heap.size w w':=by
 by_cases hk:64 < n
 ·exact SreadNames_no a n c ns s w h hn hk
 ·by_cases h0:s=[]
  ·subst h0;exact SreadNames_yes0 a n c ns w h hn (by omega)
  ·exact SreadNames_yes1 a n c ns s w h hn (by omega) h0
end Go.Proofs.Ytbgcjpefocdkkaa
set_option maxRecDepth 100000
namespace Go.Proofs.Ytbgcjpefocdkkaa
open Go.ChangeShapes Go.WideShapes Go.RowKit
section
variable {H:Type} {enc:TypeId × Value→H} {w:World} {spare:Nat→Bool} {held:Bool}
theorem open_ints {r:Reach} {b0:Nat} {v:Value} {d:DataW H} {ps:List MemPlace} (hval:Value.okWide Try.prog w r b0 44 v) (h:DataW.Trod enc Try.prog w 0 spare held 44 v d ps) :
  ∃ (a:Option Addr) (cap:Nat) (xs:List Int),v=.slice a xs.length cap∧xs.length≤maxLen∧(∀ x ∈ xs,True)∧Sl w w.heap.size a 1 xs.length (icells xs):=by
 obtain ⟨fuel,hf⟩:=h
 rw [open_slice_val Try.underlying44 hval] at hf
 obtain ⟨a,cap,xs,h1,h2,h3,h4⟩:=slice_map (fun z:Int=>[.int .i64 z]) (fun _=>True) Try.underlying44 (C:=1) (by kernel_rfl) (by decide) hf (by
  intro n c y _ _ hy
  obtain ⟨z,rfl,_,_⟩:=DataW.trod_int Try.underlying3 hy
  exact ⟨z,rfl,trivial⟩)
 injection h1 with h1
 have hm:∀ ys:List Int,ys.flatMap (fun z:Int=>[(.int .i64 z:Value)])=icells ys:=by
  intro ys
  induction ys with
  | nil=>rfl
  | cons y ys ih=>rw [List.flatMap_cons,ih];rfl
 rw [hm] at h4
 exact ⟨a,cap,xs,h1,h2,h3,h4⟩
end
end Go.Proofs.Ytbgcjpefocdkkaa
