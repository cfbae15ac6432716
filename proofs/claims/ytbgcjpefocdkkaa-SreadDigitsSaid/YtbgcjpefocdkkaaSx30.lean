/- Plain laws on snippets: a text with backslashes, one without signs, is read as text. -/
import Derived.Test.YtbgcjpefocdkkaaSx1
import Derived.Test.YtbgcjpefocdkkaaSx2
import Derived.Test.YtbgcjpefocdkkaaSx3
import Derived.Test.YtbgcjpefocdkkaaSx4
import Derived.Test.YtbgcjpefocdkkaaSx10
import Derived.Lib.ItoaMem
import Derived.Test.YtbgcjpefocdkkaaSx12
import Derived.Test.YtbgcjpefocdkkaaSx13
import Derived.Test.YtbgcjpefocdkkaaSx5
import Derived.Test.YtbgcjpefocdkkaaSx6
import Derived.Test.YtbgcjpefocdkkaaSx7
import Derived.Test.YtbgcjpefocdkkaaSx8
import Derived.Test.YtbgcjpefocdkkaaSx9
import Derived.Test.YtbgcjpefocdkkaaSx11
import Derived.Test.YtbgcjpefocdkkaaSx14
import Derived.Test.YtbgcjpefocdkkaaSx15
import Derived.Test.YtbgcjpefocdkkaaSx16
import Derived.Test.YtbgcjpefocdkkaaSx17
import Derived.Test.YtbgcjpefocdkkaaSx18
import Derived.Test.YtbgcjpefocdkkaaSx19
import Derived.Test.YtbgcjpefocdkkaaSx20
import Derived.Test.YtbgcjpefocdkkaaSx21
import Derived.Test.YtbgcjpefocdkkaaSx22
import Derived.Test.YtbgcjpefocdkkaaSx23
import Derived.Test.YtbgcjpefocdkkaaSx24
import Derived.Test.YtbgcjpefocdkkaaSx25
import Derived.Test.YtbgcjpefocdkkaaSx26
import Derived.Test.YtbgcjpefocdkkaaSx27
import Derived.Test.YtbgcjpefocdkkaaSx28
import Derived.Test.YtbgcjpefocdkkaaSx29
set_option maxRecDepth 100000
namespace Go.Proofs.Ytbgcjpefocdkkaa
theorem parts_quot (ins:Bool) (out:List Sn):∀(s text r:Str),partsS ins out text (quot three s++r)=partsS ins out (text++s) r
 | [],text,r=>by simp [quot]
 | c::s,text,r=>by
  cases hc:three.contains c with
  | true =>
   simp only [quot,hc,if_true,List.cons_append,List.nil_append];rw [parts_step ins out text (by simp) (dol_no (by decide) _),nxt_esc hc];rw [parts_quot ins out s,List.append_assoc];rfl
  | false =>
   have hn:¬(c.toNat=36∨c.toNat=125∨c.toNat=92):=fun h=>by rw [(three_iff c).2 h] at hc;cases hc
   simp only [quot,hc,Bool.false_eq_true,if_false,List.cons_append,List.nil_append];rw [parts_step ins out text (by omega) (dol_no (by omega) _),nxt_plain (by omega)];rw [parts_quot ins out s,List.append_assoc];rfl
theorem snip_part {r:Str} {x:Sn} {r2:Str} (h:partS r=some (x,r2)):snipL (36::r)=(partsS false [x] [] r2).1:=by
 rw [snipL_eq,parts_part false [] [] r h];rfl
end Go.Proofs.Ytbgcjpefocdkkaa
set_option maxRecDepth 100000
namespace Go.Proofs.Ytbgcjpefocdkkaa
def valD (m:Nat) (ds:Str):Nat:=ds.foldl (fun n c=>10*n+(c.toNat-48)) m
theorem numLF_digs:∀(ds r:Str) (k m:Nat),(∀c∈ds,digU8 c)→k+ds.length≤4→numLF (ds++r) k m=numLF r (k+ds.length) (valD m ds)
 | [],r,k,m,_,_=>rfl
 | c::ds,r,k,m,h,hk=>by
  have hc:=h c (List.mem_cons_self ..);simp only [List.length_cons] at hk;rw [List.cons_append];conv=>lhs;unfold numLF
  rw [if_pos hc,if_neg (by omega),numLF_digs ds r (k+1) _ (fun c hc=>h c (List.mem_cons_of_mem _ hc)) (by omega)];rw [List.length_cons,show k+1+ds.length=k+(ds.length+1) by omega];rfl
theorem numLF_long:∀(ds r:Str) (k m:Nat),(∀c∈ds,digU8 c)→k≤4→5≤k+ds.length→numLF (ds++r) k m=none
 | [],r,k,m,_,h1,h2=>by simp at h2;omega
 | c::ds,r,k,m,h,h1,h2=>by
  have hc:=h c (List.mem_cons_self ..);simp only [List.length_cons] at h2;rw [List.cons_append];unfold numLF;rw [if_pos hc];by_cases hk:k=4
  ·rw [if_pos hk]
  ·rw [if_neg hk];exact numLF_long ds r (k+1) _ (fun c hc=>h c (List.mem_cons_of_mem _ hc)) (by omega) (by omega)
theorem numR_digs {ds r:Str} (h:∀c∈ds,digU8 c) (h1:1≤ds.length) (h4:ds.length≤4) (hr:∀c t,r=c::t→¬digU8 c):numRF (ds++r)=some (valD 0 ds,r):=by
 unfold numRF;rw [numLF_digs ds r 0 0 h (by omega)];cases r with
 | nil=>simp only [numLF];rw [if_pos (by omega)]
 | cons c t=>unfold numLF;rw [if_neg (hr c t rfl),if_pos (by omega)]
theorem name_dig {c:UInt8} {r:Str} (h:digU8 c):nameM (c::r)=none:=by
 unfold nameM;rw [if_neg];intro e;unfold digU8 at h;rw [List.takeWhile_cons] at e;split at e
 ·simp only [nameB,Bool.and_eq_true,decide_eq_true_eq] at e;omega
 ·cases e
theorem head_long {ds r:Str} (h:∀c∈ds,digU8 c) (h5:5≤ds.length):headM (ds++r)=none:=by
 unfold headM;rw [show numRF (ds++r)=none from numLF_long ds r 0 0 h (by omega) (by omega)];cases ds with
 | nil=>simp at h5
 | cons c ds=>exact name_dig (h c (List.mem_cons_self ..))
theorem head_digs {ds r:Str} (h:∀c∈ds,digU8 c) (h1:1≤ds.length) (h4:ds.length≤4) (hr:∀c t,r=c::t→¬digU8 c):headM (ds++r)=some (stopS (valD 0 ds),r):=by
 unfold headM;rw [numR_digs h h1 h4 hr]
theorem dig_plain {c:UInt8} (h:digU8 c):c.toNat≠36∧c.toNat≠92∧(false=true→c.toNat≠125):=by unfold digU8 at h;refine⟨by omega,by omega,fun e=>by cases e⟩
end Go.Proofs.Ytbgcjpefocdkkaa
set_option maxRecDepth 100000
namespace Go.Proofs.Ytbgcjpefocdkkaa
open Go.RowKit
theorem SnSl.one {w:World} {S:Nat→Prop} {b:Nat} {cc:List Value} {x:Sn} {t:TypeId} (h:SnV w S cc x) (hb:w.heap[b]?=some (.cells cc.toArray t (0,0))) (hS:S b):SnSl w S (some ⟨b,0,none⟩) 1 [x]:=by
 refine⟨[cc],⟨by simp [h.len],fun _=>⟨b,0,rfl,hS,heap_lt hb,fun j u hu=>?_⟩⟩,.cons h .nil⟩;rw [Lib.cell_of_heap hb];simpa using hu
end Go.Proofs.Ytbgcjpefocdkkaa
set_option maxRecDepth 100000
namespace Go.Proofs.Ytbgcjpefocdkkaa
open Go.RowKit
theorem conv_digit (W:World) (n:Nat) (z:Int) (hz:z=n):(convert 61 9 (.slice (some ⟨W.heap.size,0,none⟩) 1 1)).run Try.prog (W.alloc (.cells #[.int .u8 (48+z % 10)] 5))=.ok (.string ⟨([UInt8.ofNat (48+n % 10)]).toArray⟩) (W.alloc (.cells #[.int .u8 (48+z % 10)] 5)):=by
 subst hz;refine conv_own (B:=W.heap.size) (n:=1) Try.underlying61 Try.underlying5 Try.underlying9 ?_;refine⟨rfl,.inr ⟨W.heap.size,1,_,rfl,Nat.le_refl _,heap_alloc_new W _,by decide,by decide,rfl,?_⟩⟩;simp [bcells]
 omega
def DgRel (R:Str) (W0:World) (q p:Value) (wr:World):Prop:=∃(m:Nat) (s:Str),m≤10000∧s.length+m≤20000∧q=.int .i64 m∧p=.string ⟨(s).toArray⟩∧Below W0.heap.size W0 wr∧Hid ((if m<10 then [] else Lib.decDigits (m / 10))++s=R)
theorem digits_step (m:Nat):(if m<10 then [] else Lib.decDigits (m / 10))++[UInt8.ofNat (48+m % 10)]=Lib.decDigits m:=by
 rw [Lib.decDigits.eq_1 m];by_cases h:m<10
 ·rw [if_pos h,dif_pos h,Nat.mod_eq_of_lt h];rfl
 ·rw [if_neg h,dif_neg h]
set_option maxHeartbeats 1000000 in
theorem Digits_any (n:Nat) (w:World) (hn:n≤10000) :
  Calls Try.prog 14 #[.int .i64 n] w fun e w'=>e=.returned (.string ⟨(Lib.decDigits n).toArray⟩)∧Below w.heap.size w w':=by
 generalize hR:Lib.decDigits n=R
 have HR:=Lib.hid hR;clear hR;have hc:=conv_digit w n n rfl;go_enter Try.func14,Try.ntmps14
 go_wp2
 go_loopw [0,3] (fun q p wr=>DgRel R w q p wr) (fun q _ _=>(intOf q).toNat)
 case atStart=>exact⟨n,[UInt8.ofNat (48+n % 10)],by omega,by simp;omega,rfl,by simp,(Below.refl _ _).alloc (Nat.le_refl _) _,Lib.hid (by rw [←HR.out];exact digits_step n)⟩
 case round =>
  obtain⟨m,s,hm,hs,rfl,rfl,hb,HF⟩:=hrel;have hc2:=conv_digit wr (m / 10) ((m:Int) / 10) (by omega);have hB:=hb.size;by_cases h9:m<10
  ·have HE:Hid (R=s):=Lib.hid (by rw [←HF.out,if_pos h9];rfl)
   have g9:decide ((10:Int)≤m)=false:=by rw [decide_eq_false_iff_not];omega
   go_wp2
   go_ret
   exact⟨ret_str HE.out.symm,hb⟩
  ·have HE:Hid (Lib.decDigits (m / 10)++s=R):=Lib.hid (by rw [←HF.out,if_neg h9])
   go_wp2
   go_roundw
   case rel=>exact⟨m / 10,UInt8.ofNat (48+m / 10 % 10)::s,by omega,by simp;omega,by go_num,by simp,hb.alloc hB _,Lib.hid (by rw [←HE.out,←digits_step (m / 10)];simp)⟩
   case measure=>simp [intOf];omega
end Go.Proofs.Ytbgcjpefocdkkaa
set_option maxRecDepth 100000
namespace Go.Proofs.Ytbgcjpefocdkkaa
open Go.RowKit
theorem snsl_one {W:World} {cc:List Value} {x:Sn} {t:TypeId} {b:Nat} (h:SnV W (fun _=>True) cc x) (hb:W.heap[b]?=some (.cells cc.toArray t (0,0))):SnSl W (fun _=>True) (some ⟨b,0,none⟩) 1 [x]:=SnSl.one h hb trivial
end Go.Proofs.Ytbgcjpefocdkkaa
set_option maxRecDepth 100000
namespace Go.Proofs.Ytbgcjpefocdkkaa
open Go.RowKit
theorem u8_dig {d:Nat} (h:d<10):digU8 (UInt8.ofNat (48+d)):=by
 unfold digU8;have:(UInt8.ofNat (48+d)).toNat=(48+d) % 256:=UInt8.toNat_ofNat';omega
end Go.Proofs.Ytbgcjpefocdkkaa
set_option maxRecDepth 100000
namespace Go.Proofs.Ytbgcjpefocdkkaa
open Go.RowKit
theorem plain_end (out:List Sn) (t s:Str) (h:∀c∈s,c.toNat≠36∧c.toNat≠92∧(false=true→c.toNat≠125)):partsS false out t s=(withT out (t++s),[]):=by
 have:=parts_plain false out s t [] h
 rw [List.append_nil] at this;rw [this,partsS_nil]
end Go.Proofs.Ytbgcjpefocdkkaa
set_option maxRecDepth 100000
namespace Go.Proofs.Ytbgcjpefocdkkaa
open Go.RowKit
theorem dg_one {c:Nat} (h:c<10):∃d:UInt8,Lib.decDigits c=[d]∧digU8 d∧d.toNat=48+c :=
 ⟨_,Lib.decDigits_one h,u8_dig h,by have:(UInt8.ofNat (48+c)).toNat=(48+c) % 256:=UInt8.toNat_ofNat';omega⟩
theorem valD_snoc (ds:Str) (d:UInt8) (m:Nat):valD m (ds++[d])=10*valD m ds+(d.toNat-48):=by simp [valD,List.foldl_append]
def NoDig (r:Str):Prop:=∀c t,r=c::t→¬digU8 c
theorem NoDig.quot {b:Str} (h:NoDig b):NoDig (quot three b):=by
 cases b with
 | nil=>exact h
 | cons c t =>
  intro d u e;unfold Go.Proofs.Ytbgcjpefocdkkaa.quot at e;split at e
  ·injection e with e _;subst e;decide
  ·injection e with e _;subst e;exact h _ _ rfl
theorem part_bare {ds r:Str} (h:∀c∈ds,digU8 c) (h1:1≤ds.length) (h4:ds.length≤4) (hr:NoDig r):partS (ds++r)=some (stopS (valD 0 ds),r):=by
 cases ds with
 | nil=>simp at h1
 | cons c t =>
  have hc:=h c (List.mem_cons_self ..);exact(partS_bare (fun e=>by unfold digU8 at hc;omega) (t++r)).trans (head_digs h h1 h4 hr)
theorem part_in {ds:Str} (h:∀c∈ds,digU8 c) (h1:1≤ds.length) (h4:ds.length≤4) (r:Str):partS (123::(ds++[125])++r)=some (stopS (valD 0 ds),r):=by
 have hh:=head_digs h h1 h4 (r:=125::r) (by rintro c t e;injection e with e _;subst e;decide);have e:(123::(ds++[125])++r:Str)=123::(ds++125::r):=by simp
 rw [e,partS_brace,hh];exact braced_close _ _
theorem part_bare_no {ds:Str} (h:∀c∈ds,digU8 c) (h5:5≤ds.length) (r:Str):partS (ds++r)=none:=by
 cases ds with
 | nil=>simp at h5
 | cons c t =>
  have hc:=h c (List.mem_cons_self ..);exact(partS_bare (fun e=>by unfold digU8 at hc;omega) (t++r)).trans (head_long h h5)
theorem part_in_no {ds:Str} (h:∀c∈ds,digU8 c) (h5:ds=[]∨5≤ds.length) (r:Str):partS (123::(ds++[125])++r)=none:=by
 have e:(123::(ds++[125])++r:Str)=123::(ds++125::r):=by simp
 rw [e,partS_brace];rcases h5 with rfl|h5
 ·rw [List.nil_append,head_none_of (c:=125) (r:=r) (by decide) (by decide)]
 ·rw [head_long h h5]
theorem dg_sp {h:Str} {n:Nat} (hp:partS (h++[32])=some (stopS n,[32])):snipL (36::(h++[32]))=[stopS n,textS [32]]:=by
 rw [snip_part hp,plain_end _ _ _ (by decide)];rfl
theorem dg_q {h b:Str} {n:Nat} (hp:partS (h++quot three b)=some (stopS n,quot three b)):snipL (36::(h++quot three b))=stopS n::withT [] b:=by
 have h1:=parts_quot false [stopS n] b [] [];rw [List.append_nil] at h1;rw [snip_part hp,h1,partsS_nil,withT_app];rfl
theorem no_sp {h:Str} (hp:partS (h++[32])=none) (hh:∀c∈h,c.toNat≠36∧c.toNat≠92):snipL (36::(h++[32]))=[textS (36::(h++[32]))]:=by
 rw [snipL_eq,parts_dol false [] [] _ hp,plain_end _ _ _ (fun c hc=>by
  rcases List.mem_append.1 hc with hc|hc
  ·exact⟨(hh c hc).1,(hh c hc).2,fun e=>by cases e⟩
  ·rw [List.mem_singleton.1 hc];decide)]
 rfl
theorem no_q {h b:Str} (hp:partS (h++quot three b)=none) (hh:∀c∈h,c.toNat≠36∧c.toNat≠92):snipL (36::(h++quot three b))=[textS (36::(h++b))]:=by
 rw [snipL_eq,parts_dol false [] [] _ hp,parts_plain false [] h _ _ (fun c hc=>⟨(hh c hc).1,(hh c hc).2,fun e=>by cases e⟩)];have h1:=parts_quot false [] b ([]++[36]++h) [];rw [List.append_nil] at h1;rw [h1,partsS_nil];unfold withT;rw [if_neg (by simp)];simp
theorem dig_ok {ds:Str} (h:∀c∈ds,digU8 c):∀c∈ds,c.toNat≠36∧c.toNat≠92:=fun c hc=>⟨(dig_plain (h c hc)).1,(dig_plain (h c hc)).2.1⟩
theorem in_ok {ds:Str} (h:∀c∈ds,digU8 c):∀c∈(123::(ds++[125]):Str),c.toNat≠36∧c.toNat≠92:=fun c hc=>by
 rcases List.mem_cons.1 hc with rfl|hc
 ·decide
 rcases List.mem_append.1 hc with hc|hc
 ·exact dig_ok h c hc
 ·rw [List.mem_singleton.1 hc];decide
theorem join_dg (n:Nat) (b:Str):joinG [stopS n,textS b] []=stopS n::withT [] b:=by
 rw [joinG_part (x:=stopS n) (show (1:Int)≠0 by decide)];show withT [] []++stopS n::joinG [] ([]++b)=_
 rfl
theorem stop_small (n:Nat):(stopS n).small:=⟨tf0_small,by simp,by simp,by simp,trivial⟩
theorem stop_v (w:World) (S:Nat→Prop) (n:Nat):SnV w S [.int .i64 1,.string ⟨([]).toArray⟩,.int .i64 (n:Int),.bool false,.bool false,.int .i64 0,.string ⟨#[]⟩,.bool false,.slice none 0 0,.int .i64 0,.int .i64 0,.bool false,.slice none 0 0,.slice none 0 0,.bool false,.bool false,.slice none 0 0,.slice none 0 0] (stopS n):=hd_v w S 1 [] n
theorem Low10 (x:Int) (w:World):Calls Try.prog 9 #[.int .i64 x,.int .i64 10] w fun e w'=>∃c:Nat,c<10∧e=.returned (.int .i64 (c:Int))∧w=w':=by
 have h:=low_lt x (n:=10) (by omega);obtain⟨c,hc⟩:∃c:Nat,low x 10=c:=⟨(low x 10).toNat,by omega⟩;refine(hc▸Low_any x 10 w (by omega) (by omega)).mono ?_
 intro e w' h2;exact⟨c,by omega,h2.1,h2.2⟩
def DjRel (k:Nat) (w:World) (d n q:Value) (wr:World):Prop :=
 ∃(i:Nat) (ds:Str),i≤k∧ds.length=i∧Hid (∀c∈ds,digU8 c)∧d=.string ⟨(ds).toArray⟩∧n=.int .i64 (valD 0 ds:Nat)∧q=.int .i64 i∧Hid (valD 0 ds<10 ^ i)∧Below w.heap.size w wr
theorem dg_next {i c:Nat} {ds:Str} (h:∀c∈ds,digU8 c) (hl:ds.length=i) (hv:valD 0 ds<10 ^ i) (hc:c<10) :
  (ds++Lib.decDigits c).length=i+1∧(∀x∈ds++Lib.decDigits c,digU8 x)∧valD 0 (ds++Lib.decDigits c)=10*valD 0 ds+c∧valD 0 (ds++Lib.decDigits c)<10 ^ (i+1):=by
 obtain⟨d,h1,h2,h3⟩:=dg_one hc;rw [h1,valD_snoc,h3];have hp:=Nat.pow_succ 10 i;refine⟨by simp [hl],fun x hx=>?_,by omega,by omega⟩;rcases List.mem_append.1 hx with hx|hx
 ·exact h x hx
 ·rw [List.mem_singleton.1 hx];exact h2
theorem row_two {W:World} {B:Nat} {a:Option Addr} {c n:Nat} {t:Str} (h:W.ownsRow B 36 18 (.slice a 2 c) 2 [.int .i64 1,.string ⟨([]).toArray⟩,.int .i64 (n:Int),.bool false,.bool false,.int .i64 0,.string ⟨#[]⟩,.bool false,.slice none 0 0,.int .i64 0,.int .i64 0,.bool false,.slice none 0 0,.slice none 0 0,.bool false,.bool false,.slice none 0 0,.slice none 0 0,.int .i64 0,.string ⟨(t).toArray⟩,.int .i64 0,.bool false,.bool false,.int .i64 0,.string ⟨#[]⟩,.bool false,.slice none 0 0,.int .i64 0,.int .i64 0,.bool false,.slice none 0 0,.slice none 0 0,.bool false,.bool false,.slice none 0 0,.slice none 0 0]):SnSl W (fun _=>True) a 2 [stopS n,textS t]:=by
 have h1:=own_slS h;exact⟨[[.int .i64 1,.string ⟨([]).toArray⟩,.int .i64 (n:Int),.bool false,.bool false,.int .i64 0,.string ⟨#[]⟩,.bool false,.slice none 0 0,.int .i64 0,.int .i64 0,.bool false,.slice none 0 0,.slice none 0 0,.bool false,.bool false,.slice none 0 0,.slice none 0 0],[.int .i64 0,.string ⟨(t).toArray⟩,.int .i64 0,.bool false,.bool false,.int .i64 0,.string ⟨#[]⟩,.bool false,.slice none 0 0,.int .i64 0,.int .i64 0,.bool false,.slice none 0 0,.slice none 0 0,.bool false,.bool false,.slice none 0 0,.slice none 0 0]],h1.mono (fun _ _ _=>trivial),.cons (stop_v W _ n) (.cons (textS_v W _ t) .nil)⟩
end Go.Proofs.Ytbgcjpefocdkkaa
set_option maxRecDepth 100000
namespace Go.Proofs.Ytbgcjpefocdkkaa
open Go.RowKit
theorem own_lit0 (w:World):(w.alloc (.cells #[] 36)).ownsRow w.heap.size 36 18 (.slice (some ⟨w.heap.size,0,none⟩) 0 0) 0 [] :=
 ⟨rfl,.inr ⟨w.heap.size,0,#[],rfl,Nat.le_refl _,heap_alloc_new _ _,Nat.le_refl _,by decide,rfl,rfl⟩⟩
set_option maxHeartbeats 4000000 in
theorem SreadDigits_yn (z1 z2:Int) (s:Str) (w:World) (hs:s.length≤30) (hnd:NoDig s) (k:Nat) (hk:low z1 8=(k:Int)) (h1:1≤k) (h4:k≤4):Calls Try.prog 8 #[.int .i64 z1,.int .i64 z2,.bool false,.string ⟨(s).toArray⟩] w fun e w'=>e=.returned (.bool true)∧Below w.heap.size w w':=by
 have hsl:s.length≤30:=hs;have HL:=Lib.hid (fun w=>hk▸Low_any z1 8 w (by omega) (by omega));have hcase:s.length=0∨∃c:UInt8,0<s.length∧(∀hi:0<s.length,s[0]'hi=c)∧¬(48≤c.toNat∧c.toNat≤57):=by
  cases s with
  | nil=>exact .inl rfl
  | cons c t=>exact .inr ⟨c,by simp,fun _=>rfl,hnd c t rfl⟩
 obtain⟨iN,hiN⟩:=info_parts snip_info;have HND:=Lib.hid hnd;obtain⟨T,hT⟩:∃T,quot three s=T:=⟨_,rfl⟩;have hql:=quot_len three s;have HG:=Lib.hid (fun w=>guard21 s three w (by omega) (by decide) (by decide));rw [hT] at hql HG;unfold three at HG;have HT:=Lib.hid hT;have HCS:=Lib.hid hcase;have g0:decide ((30:Int)<(s.length:Int))=false:=decide_eq_false (by omega);clear hnd hcase hT hk;go_enter Try.func8,Try.ntmps8
 go_upto_region 1 with fail
 go_cut [37] from 20 to 37 (fun c wx=>c=.bool false∧wx=w)
 case first =>
  rcases HCS.out with hz|⟨c,hp,h3,hc⟩
  ·have g1:decide ((0:Int)<(s.length:Int))=false:=decide_eq_false (by omega)
   go_wp2_with fail
   go_meet
   exact⟨rfl,rfl⟩
  ·have g1:decide ((0:Int)<(s.length:Int))=true:=decide_eq_true (by omega)
   by_cases hc1:48≤c.toNat
   ·have g3:decide ((48:Int)≤(c.toNat:Int))=true:=decide_eq_true (by omega)
    have g2:decide ((c.toNat:Int)≤57)=false:=decide_eq_false (by omega);clear hc hc1;go_wp2_with fail
    go_meet
    exact⟨rfl,rfl⟩
   ·have g3:decide ((48:Int)≤(c.toNat:Int))=false:=decide_eq_false (by omega)
    clear hc hc1;go_wp2_with fail
    go_meet
    exact⟨rfl,rfl⟩
 case rest =>
  obtain⟨rfl,hwc⟩:=hcut;replace hwc:=hwc.symm;subst hwc;clear HCS;go_wp2_with (go_at_call 9;refine(HL.out _).mono ?_)
  first|rintro e wl rfl rfl|rintro e wl ⟨rfl,rfl⟩
  go_wp2
  go_loopw [10,11,12] (fun d n q wr=>DjRel k w d n q wr) (fun _ _ q _=>k-(intOf q).toNat)
  case atStart=>exact⟨0,[],by omega,rfl,Lib.hid (fun c hc=>by simp at hc),rfl,rfl,rfl,Lib.hid (by decide),Below.refl _ _⟩
  case round =>
   obtain⟨i,ds,hi,hl,HDG,rfl,rfl,rfl,HV,hb⟩:=hrel;have hv7:valD 0 ds≤9999999:=by
    have h1:=HV.out;have h2:10 ^ i≤10 ^ 7:=Nat.pow_le_pow_right (by omega) (by omega);omega
   by_cases hin:i<k
   ·clear HG HND HT
    go_wp2_with (go_at_call 9;refine(Low10 _ _).mono ?_)
    rintro e wl ⟨c,hc,rfl,rfl⟩;go_wp2_with (go_at_call 14;refine(Digits_any c _ (by omega)).mono ?_)
    rintro e w3 ⟨rfl,hb3⟩;obtain⟨n1,n2,n3,n4⟩:=dg_next HDG.out hl HV.out hc;have N1:=Lib.hid n1;have N2:=Lib.hid n2;have N3:=Lib.hid n3;have N4:=Lib.hid n4;have hdl:(Lib.decDigits c).length≤1:=by rw [List.length_append] at n1;omega
    clear n1 n2 n3 n4;go_wp2
    go_roundw
    case rel=>exact⟨i+1,ds++Lib.decDigits c,by omega,N1.out,N2,rfl,by rw [N3.out];congr 1;omega,by go_num,N4,bel2 hb hb3⟩
    case measure=>simp [intOf];omega
   ·obtain rfl:i=k:=by omega
    have hdg:=HDG.out;have hnd:=HND.out;clear hin HND HDG HV;have hsp:=dg_sp (h:=ds) (part_bare hdg (by omega) (by omega) (by rintro c t e;injection e with e _;subst e;decide));have hq:=dg_q (h:=ds) (b:=s) (part_bare hdg (by omega) (by omega) hnd.quot);rw [HT.out] at hq;have hn9:valD 0 ds≤9999999:=hv7;obtain⟨n,hn⟩:∃n,valD 0 ds=n:=⟨_,rfl⟩;rw [hn] at hsp hq hn9 hv7 ⊢;obtain⟨L,hL⟩:∃L,stopS n::withT [] s=L:=⟨_,rfl⟩;rw [hL] at hq;have hLs:Sn.smallL L:=by rw [←hL];exact⟨stop_small n,withT_small (by omega)⟩
    have hLl:L.length≤1000000:=by rw [←hL];unfold withT;split<;>simp
    have hLd:Sn.deepL L≤32:=by rw [←hL];simp only [Sn.deepL,deepL_withT];simp [Sn.deep,stopS,Sn.deepL]
    have H1:=Lib.hid (sreadH (snipM_ok hsp (by simp;omega) (by simp [Sn.deepL,Sn.deep,stopS,textS])) (by simp;omega));have H2:=Lib.hid (sreadH (snipM_ok hq (by simp;omega) hLd) (by simp;omega));have HJ:Hid (∀(a:Option Addr) (c:Nat) (w:World),SnSl w (fun _=>True) a 2 [stopS n,textS s]→Calls Try.prog 18 #[.slice a 2 c] w fun e w'=>∃a' c',e=.returned (.slice a' L.length c')∧SnSl w' (fun b=>w.heap.size≤b) a' L.length L∧Below w.heap.size w w'):=Lib.hid (fun a c w hx=>by
     have h9:=Join_any (fun _=>True) [stopS n,textS s] ⟨stop_small n,textS_small (by omega),trivial⟩ (by simp) (by show 0+(s.length+0)≤_;omega) a c w hx;rw [join_dg,hL] at h9;exact h9)
    have HS1:=Lib.hid (nsame (ks:=[stopS n,textS [32]]) ⟨stop_small n,textS_small (by simp),trivial⟩ (by simp));have HS2:=Lib.hid (nsame (ks:=L) hLs hLl);have gk1:decide ((1:Int)≤(i:Int))=true:=decide_eq_true (by omega);have gk4:decide ((i:Int)≤4)=true:=decide_eq_true (by omega);clear hsp hq hL hLs hLl hLd hdg hnd hn HT;go_wp2_with (go_at_call 10;refine(H1.out _ _ (by simp)).mono ?_)
    rintro e w2 ⟨a2,c2,rfl,hb2,hs2⟩;go_wp2_with (go_at_call 13;refine(HG.out _).mono ?_)
    first|rintro e w3 rfl hb3|rintro e w3 ⟨rfl,hb3⟩
    go_wp2_with (go_at_call 10;refine(H2.out _ _ (by simp)).mono ?_)
    rintro e w4 ⟨a4,c4,rfl,hb4,hs4⟩;have hbw4:=bel2 (bel2 (bel2 hb hb2) hb3) hb4;obtain⟨W1,hW1⟩:∃W1,W1=w4.alloc (.cells #[.int .i64 1,.string ⟨([]).toArray⟩,.int .i64 (n:Int),.bool false,.bool false,.int .i64 0,.string ⟨#[]⟩,.bool false,.slice none 0 0,.int .i64 0,.int .i64 0,.bool false,.slice none 0 0,.slice none 0 0,.bool false,.bool false,.slice none 0 0,.slice none 0 0] 36):=⟨_,rfl⟩;have hb1:Below w4.heap.size w4 W1:=by rw [hW1];exact(Below.refl _ _).alloc (Nat.le_refl _) _
    have hx1:W1.heap[w4.heap.size]?=some (.cells #[.int .i64 1,.string ⟨([]).toArray⟩,.int .i64 (n:Int),.bool false,.bool false,.int .i64 0,.string ⟨#[]⟩,.bool false,.slice none 0 0,.int .i64 0,.int .i64 0,.bool false,.slice none 0 0,.slice none 0 0,.bool false,.bool false,.slice none 0 0,.slice none 0 0] 36 (0,0)):=by rw [hW1];exact heap_alloc_new _ _
    have HX1:=Lib.hid hx1;have HA:=Lib.hid (((hs2.later hb3).later hb4).later hb1);have HB:=Lib.hid (hs4.later hb1);have hbw1:=bel2 hbw4 hb1;have hz1:w4.heap.size<W1.heap.size:=heap_lt hx1;clear hb hb2 hb3 hb4 hs2 hs4 hb1 hbw4 hx1;go_upto_region 20 with fail
    rw [←hW1];clear hW1;have hbE:Below W1.heap.size W1 (W1.alloc (.cells #[] 36)):=(Below.refl _ _).alloc (Nat.le_refl _) _;have HOE:Hid ((W1.alloc (.cells #[] 36)).ownsRow W1.heap.size 36 18 (.slice (some ⟨W1.heap.size,0,none⟩) 0 0) 0 []):=Lib.hid (own_lit0 W1);have HN1:Hid (Sl (W1.alloc (.cells #[] 36)) W1.heap.size (some ⟨w4.heap.size,0,none⟩) 18 1 [.int .i64 1,.string ⟨([]).toArray⟩,.int .i64 (n:Int),.bool false,.bool false,.int .i64 0,.string ⟨#[]⟩,.bool false,.slice none 0 0,.int .i64 0,.int .i64 0,.bool false,.slice none 0 0,.slice none 0 0,.bool false,.bool false,.slice none 0 0,.slice none 0 0]):=Lib.hid (((Sl.lit (n:=1) (sz:=18) HX1.out rfl)).keep hbE);have HBE:=Lib.hid hbE;clear hbE;go_wp2_with (at_builtin;refine wpList_appM W1.heap.size 36 rfl _ _ 23 rfl Try.underlying23 hiN rfl (by decide) rfl HOE.out rfl HN1.out (hd_one W1 1 [] n) (by omega) (by omega) (by decide) (by simp) ?_)
    intro v5 w5 ho5 hg5 hb5 _;have hb15:=HBE.out.trans hb5;obtain⟨a5,c5,rfl⟩:=own_form ho5;have hz5:W1.heap.size≤w5.heap.size:=hb15.size;have HB15:=Lib.hid hb15;have HO6:=Lib.hid (own_below ho5 ((Below.refl w5.heap.size w5).alloc (Nat.le_refl _) (.cells #[.int .i64 0,.string ⟨([32]).toArray⟩,.int .i64 0,.bool false,.bool false,.int .i64 0,.string ⟨#[]⟩,.bool false,.slice none 0 0,.int .i64 0,.int .i64 0,.bool false,.slice none 0 0,.slice none 0 0,.bool false,.bool false,.slice none 0 0,.slice none 0 0] 36)));have HN6:=Lib.hid (Sl.lit (n:=1) (sz:=18) (heap_alloc_new w5 (.cells #[.int .i64 0,.string ⟨([32]).toArray⟩,.int .i64 0,.bool false,.bool false,.int .i64 0,.string ⟨#[]⟩,.bool false,.slice none 0 0,.int .i64 0,.int .i64 0,.bool false,.slice none 0 0,.slice none 0 0,.bool false,.bool false,.slice none 0 0,.slice none 0 0] 36)) rfl);clear ho5 hg5 hb5 hb15;go_wp2_with (at_builtin;refine wpList_appM W1.heap.size 36 rfl _ _ 23 rfl Try.underlying23 hiN rfl (by decide) rfl HO6.out rfl HN6.out (hd_one W1 0 [32] 0) (by omega) (by omega) (by decide) (by simp;omega) ?_)
    intro v7 w7 ho7 hg7 hb7 _;obtain⟨a7,c7,rfl⟩:=own_form ho7;have hb57:Below W1.heap.size w5 w7:=((Below.refl W1.heap.size w5).alloc hz5 _).trans hb7;have hb17:=HB15.out.trans hb57;have hs7:=row_two (t:=[32]) ho7;have HSa:=Lib.hid (HS1.out _ _ a2 a7 c2 c7 w7 (HA.out.later hb17) hs7);have HB17:=Lib.hid hb17;clear ho7 hg7 hb7 hb57 hb17 hs7 HA;go_wp2_with (go_at_call 15;refine HSa.out.mono ?_)
    first|rintro e w8 rfl hb8|rintro e w8 ⟨rfl,hb8⟩
    have hb18:=HB17.out.trans (hb8.mono HB17.out.size);have hz8:W1.heap.size≤w8.heap.size:=hb18.size;have HB18:=Lib.hid hb18;have HX8:Hid (w8.heap[w4.heap.size]?=some (.cells #[.int .i64 1,.string ⟨([]).toArray⟩,.int .i64 (n:Int),.bool false,.bool false,.int .i64 0,.string ⟨#[]⟩,.bool false,.slice none 0 0,.int .i64 0,.int .i64 0,.bool false,.slice none 0 0,.slice none 0 0,.bool false,.bool false,.slice none 0 0,.slice none 0 0] 36 (0,0))):=Lib.hid ((hb18.block _ hz1).trans HX1.out);have hbF:Below w8.heap.size w8 (w8.alloc (.cells #[] 36)):=(Below.refl _ _).alloc (Nat.le_refl _) _;have HOF:Hid ((w8.alloc (.cells #[] 36)).ownsRow w8.heap.size 36 18 (.slice (some ⟨w8.heap.size,0,none⟩) 0 0) 0 []):=Lib.hid (own_lit0 w8);have HN9:Hid (Sl (w8.alloc (.cells #[] 36)) w8.heap.size (some ⟨w4.heap.size,0,none⟩) 18 1 [.int .i64 1,.string ⟨([]).toArray⟩,.int .i64 (n:Int),.bool false,.bool false,.int .i64 0,.string ⟨#[]⟩,.bool false,.slice none 0 0,.int .i64 0,.int .i64 0,.bool false,.slice none 0 0,.slice none 0 0,.bool false,.bool false,.slice none 0 0,.slice none 0 0]):=Lib.hid (((Sl.lit (n:=1) (sz:=18) HX8.out rfl)).keep hbF);have HBF:=Lib.hid hbF;clear hb8 hb18 hbF;go_wp2_with (at_builtin;refine wpList_appG (by rfl) w8.heap.size 36 _ _ 23 rfl Try.underlying23 hiN rfl (by decide) rfl HOF.out rfl HN9.out (hd_one W1 1 [] n) (by omega) (by omega) (by decide) (by simp) ?_)
    intro v9 w9 ho9 hg9 hb9 _;have hb89:=HBF.out.trans hb9;obtain⟨a9,c9,rfl⟩:=own_form ho9;have hz9:w8.heap.size≤w9.heap.size:=hb89.size;have HB89:=Lib.hid hb89;have HO10:=Lib.hid (own_below ho9 ((Below.refl w9.heap.size w9).alloc (Nat.le_refl _) (.cells #[.int .i64 0,.string ⟨(s).toArray⟩,.int .i64 0,.bool false,.bool false,.int .i64 0,.string ⟨#[]⟩,.bool false,.slice none 0 0,.int .i64 0,.int .i64 0,.bool false,.slice none 0 0,.slice none 0 0,.bool false,.bool false,.slice none 0 0,.slice none 0 0] 36)));have HN10:=Lib.hid (Sl.lit (n:=1) (sz:=18) (heap_alloc_new w9 (.cells #[.int .i64 0,.string ⟨(s).toArray⟩,.int .i64 0,.bool false,.bool false,.int .i64 0,.string ⟨#[]⟩,.bool false,.slice none 0 0,.int .i64 0,.int .i64 0,.bool false,.slice none 0 0,.slice none 0 0,.bool false,.bool false,.slice none 0 0,.slice none 0 0] 36)) rfl);clear ho9 hg9 hb9 hb89;go_wp2_with (at_builtin;refine wpList_appG (by rfl) w8.heap.size 36 _ _ 23 rfl Try.underlying23 hiN rfl (by decide) rfl HO10.out rfl HN10.out (hd_one W1 0 s 0) (by omega) (by omega) (by decide) (by simp;omega) ?_)
    intro v11 w11 ho11 hg11 hb11 _;obtain⟨a11,c11,rfl⟩:=own_form ho11;have hb911:Below w8.heap.size w9 w11:=((Below.refl w8.heap.size w9).alloc hz9 _).trans hb11;have hb811:=HB89.out.trans hb911;have HJ11:=Lib.hid (HJ.out a11 c11 w11 (row_two (t:=s) ho11));have hb111:=HB18.out.trans (hb811.mono hz8);have HB111:=Lib.hid hb111;clear ho11 hg11 hb11 hb911 hb811 hb111;go_wp2_with (go_at_call 18;refine HJ11.out.mono ?_)
    rintro e w12 ⟨a12,c12,rfl,hs12,hb12⟩;have hb112:=HB111.out.trans (hb12.mono HB111.out.size);have HSb:=Lib.hid (HS2.out _ _ a4 a12 c4 c12 w12 (HB.out.later hb112) hs12);have hbw12:=bel2 hbw1 hb112;clear hs12 hb12 hb112;go_wp2_with (go_at_call 15;refine HSb.out.mono ?_)
    first|rintro e w13 rfl hb13|rintro e w13 ⟨rfl,hb13⟩
    have hbw13:=bel2 hbw12 hb13;go_wp2_with (go_at_call 11;refine(awake21 _).mono ?_;rintro e w14 ⟨rfl,hb14⟩)
    go_ret
    exact⟨rfl,bel2 hbw13 hb14⟩
set_option maxHeartbeats 4000000 in
theorem SreadDigits_yb (z1 z2:Int) (s:Str) (w:World) (hs:s.length≤30) (hnd:NoDig s) (k:Nat) (hk:low z1 8=(k:Int)) (h1:1≤k) (h4:k≤4):Calls Try.prog 8 #[.int .i64 z1,.int .i64 z2,.bool true,.string ⟨(s).toArray⟩] w fun e w'=>e=.returned (.bool true)∧Below w.heap.size w w':=by
 have hsl:s.length≤30:=hs;have HL:=Lib.hid (fun w=>hk▸Low_any z1 8 w (by omega) (by omega));have hcase:s.length=0∨∃c:UInt8,0<s.length∧(∀hi:0<s.length,s[0]'hi=c)∧¬(48≤c.toNat∧c.toNat≤57):=by
  cases s with
  | nil=>exact .inl rfl
  | cons c t=>exact .inr ⟨c,by simp,fun _=>rfl,hnd c t rfl⟩
 obtain⟨iN,hiN⟩:=info_parts snip_info;have HND:=Lib.hid hnd;obtain⟨T,hT⟩:∃T,quot three s=T:=⟨_,rfl⟩;have hql:=quot_len three s;have HG:=Lib.hid (fun w=>guard21 s three w (by omega) (by decide) (by decide));rw [hT] at hql HG;unfold three at HG;have HT:=Lib.hid hT;have HCS:=Lib.hid hcase;have g0:decide ((30:Int)<(s.length:Int))=false:=decide_eq_false (by omega);clear hnd hcase hT hk;go_enter Try.func8,Try.ntmps8
 go_upto_region 1 with fail
 go_cut [37] from 20 to 37 (fun c wx=>c=.bool false∧wx=w)
 case first =>
  rcases HCS.out with hz|⟨c,hp,h3,hc⟩
  ·have g1:decide ((0:Int)<(s.length:Int))=false:=decide_eq_false (by omega)
   go_wp2_with fail
   go_meet
   exact⟨rfl,rfl⟩
  ·have g1:decide ((0:Int)<(s.length:Int))=true:=decide_eq_true (by omega)
   by_cases hc1:48≤c.toNat
   ·have g3:decide ((48:Int)≤(c.toNat:Int))=true:=decide_eq_true (by omega)
    have g2:decide ((c.toNat:Int)≤57)=false:=decide_eq_false (by omega);clear hc hc1;go_wp2_with fail
    go_meet
    exact⟨rfl,rfl⟩
   ·have g3:decide ((48:Int)≤(c.toNat:Int))=false:=decide_eq_false (by omega)
    clear hc hc1;go_wp2_with fail
    go_meet
    exact⟨rfl,rfl⟩
 case rest =>
  obtain⟨rfl,hwc⟩:=hcut;replace hwc:=hwc.symm;subst hwc;clear HCS;go_wp2_with (go_at_call 9;refine(HL.out _).mono ?_)
  first|rintro e wl rfl rfl|rintro e wl ⟨rfl,rfl⟩
  go_wp2
  go_loopw [10,11,12] (fun d n q wr=>DjRel k w d n q wr) (fun _ _ q _=>k-(intOf q).toNat)
  case atStart=>exact⟨0,[],by omega,rfl,Lib.hid (fun c hc=>by simp at hc),rfl,rfl,rfl,Lib.hid (by decide),Below.refl _ _⟩
  case round =>
   obtain⟨i,ds,hi,hl,HDG,rfl,rfl,rfl,HV,hb⟩:=hrel;have hv7:valD 0 ds≤9999999:=by
    have h1:=HV.out;have h2:10 ^ i≤10 ^ 7:=Nat.pow_le_pow_right (by omega) (by omega);omega
   by_cases hin:i<k
   ·clear HG HND HT
    go_wp2_with (go_at_call 9;refine(Low10 _ _).mono ?_)
    rintro e wl ⟨c,hc,rfl,rfl⟩;go_wp2_with (go_at_call 14;refine(Digits_any c _ (by omega)).mono ?_)
    rintro e w3 ⟨rfl,hb3⟩;obtain⟨n1,n2,n3,n4⟩:=dg_next HDG.out hl HV.out hc;have N1:=Lib.hid n1;have N2:=Lib.hid n2;have N3:=Lib.hid n3;have N4:=Lib.hid n4;have hdl:(Lib.decDigits c).length≤1:=by rw [List.length_append] at n1;omega
    clear n1 n2 n3 n4;go_wp2
    go_roundw
    case rel=>exact⟨i+1,ds++Lib.decDigits c,by omega,N1.out,N2,rfl,by rw [N3.out];congr 1;omega,by go_num,N4,bel2 hb hb3⟩
    case measure=>simp [intOf];omega
   ·obtain rfl:i=k:=by omega
    have hdg:=HDG.out;have hnd:=HND.out;clear hin HND HDG HV;have hsp:=dg_sp (h:=(123::(ds++[125]))) (part_in hdg (by omega) (by omega) _);have hq:=dg_q (h:=(123::(ds++[125]))) (b:=s) (part_in hdg (by omega) (by omega) _);rw [HT.out] at hq;have hn9:valD 0 ds≤9999999:=hv7;obtain⟨n,hn⟩:∃n,valD 0 ds=n:=⟨_,rfl⟩;rw [hn] at hsp hq hn9 hv7 ⊢;obtain⟨L,hL⟩:∃L,stopS n::withT [] s=L:=⟨_,rfl⟩;rw [hL] at hq;have hLs:Sn.smallL L:=by rw [←hL];exact⟨stop_small n,withT_small (by omega)⟩
    have hLl:L.length≤1000000:=by rw [←hL];unfold withT;split<;>simp
    have hLd:Sn.deepL L≤32:=by rw [←hL];simp only [Sn.deepL,deepL_withT];simp [Sn.deep,stopS,Sn.deepL]
    have H1:=Lib.hid (sreadH (snipM_ok hsp (by simp;omega) (by simp [Sn.deepL,Sn.deep,stopS,textS])) (by simp;omega));have H2:=Lib.hid (sreadH (snipM_ok hq (by simp;omega) hLd) (by simp;omega));have HJ:Hid (∀(a:Option Addr) (c:Nat) (w:World),SnSl w (fun _=>True) a 2 [stopS n,textS s]→Calls Try.prog 18 #[.slice a 2 c] w fun e w'=>∃a' c',e=.returned (.slice a' L.length c')∧SnSl w' (fun b=>w.heap.size≤b) a' L.length L∧Below w.heap.size w w'):=Lib.hid (fun a c w hx=>by
     have h9:=Join_any (fun _=>True) [stopS n,textS s] ⟨stop_small n,textS_small (by omega),trivial⟩ (by simp) (by show 0+(s.length+0)≤_;omega) a c w hx;rw [join_dg,hL] at h9;exact h9)
    have HS1:=Lib.hid (nsame (ks:=[stopS n,textS [32]]) ⟨stop_small n,textS_small (by simp),trivial⟩ (by simp));have HS2:=Lib.hid (nsame (ks:=L) hLs hLl);have gk1:decide ((1:Int)≤(i:Int))=true:=decide_eq_true (by omega);have gk4:decide ((i:Int)≤4)=true:=decide_eq_true (by omega);clear hsp hq hL hLs hLl hLd hdg hnd hn HT;go_wp2_with (go_at_call 10;refine(H1.out _ _ (by simp)).mono ?_)
    rintro e w2 ⟨a2,c2,rfl,hb2,hs2⟩;go_wp2_with (go_at_call 13;refine(HG.out _).mono ?_)
    first|rintro e w3 rfl hb3|rintro e w3 ⟨rfl,hb3⟩
    go_wp2_with (go_at_call 10;refine(H2.out _ _ (by simp)).mono ?_)
    rintro e w4 ⟨a4,c4,rfl,hb4,hs4⟩;have hbw4:=bel2 (bel2 (bel2 hb hb2) hb3) hb4;obtain⟨W1,hW1⟩:∃W1,W1=w4.alloc (.cells #[.int .i64 1,.string ⟨([]).toArray⟩,.int .i64 (n:Int),.bool false,.bool false,.int .i64 0,.string ⟨#[]⟩,.bool false,.slice none 0 0,.int .i64 0,.int .i64 0,.bool false,.slice none 0 0,.slice none 0 0,.bool false,.bool false,.slice none 0 0,.slice none 0 0] 36):=⟨_,rfl⟩;have hb1:Below w4.heap.size w4 W1:=by rw [hW1];exact(Below.refl _ _).alloc (Nat.le_refl _) _
    have hx1:W1.heap[w4.heap.size]?=some (.cells #[.int .i64 1,.string ⟨([]).toArray⟩,.int .i64 (n:Int),.bool false,.bool false,.int .i64 0,.string ⟨#[]⟩,.bool false,.slice none 0 0,.int .i64 0,.int .i64 0,.bool false,.slice none 0 0,.slice none 0 0,.bool false,.bool false,.slice none 0 0,.slice none 0 0] 36 (0,0)):=by rw [hW1];exact heap_alloc_new _ _
    have HX1:=Lib.hid hx1;have HA:=Lib.hid (((hs2.later hb3).later hb4).later hb1);have HB:=Lib.hid (hs4.later hb1);have hbw1:=bel2 hbw4 hb1;have hz1:w4.heap.size<W1.heap.size:=heap_lt hx1;clear hb hb2 hb3 hb4 hs2 hs4 hb1 hbw4 hx1;go_upto_region 20 with fail
    rw [←hW1];clear hW1;have hbE:Below W1.heap.size W1 (W1.alloc (.cells #[] 36)):=(Below.refl _ _).alloc (Nat.le_refl _) _;have HOE:Hid ((W1.alloc (.cells #[] 36)).ownsRow W1.heap.size 36 18 (.slice (some ⟨W1.heap.size,0,none⟩) 0 0) 0 []):=Lib.hid (own_lit0 W1);have HN1:Hid (Sl (W1.alloc (.cells #[] 36)) W1.heap.size (some ⟨w4.heap.size,0,none⟩) 18 1 [.int .i64 1,.string ⟨([]).toArray⟩,.int .i64 (n:Int),.bool false,.bool false,.int .i64 0,.string ⟨#[]⟩,.bool false,.slice none 0 0,.int .i64 0,.int .i64 0,.bool false,.slice none 0 0,.slice none 0 0,.bool false,.bool false,.slice none 0 0,.slice none 0 0]):=Lib.hid (((Sl.lit (n:=1) (sz:=18) HX1.out rfl)).keep hbE);have HBE:=Lib.hid hbE;clear hbE;go_wp2_with (at_builtin;refine wpList_appM W1.heap.size 36 rfl _ _ 23 rfl Try.underlying23 hiN rfl (by decide) rfl HOE.out rfl HN1.out (hd_one W1 1 [] n) (by omega) (by omega) (by decide) (by simp) ?_)
    intro v5 w5 ho5 hg5 hb5 _;have hb15:=HBE.out.trans hb5;obtain⟨a5,c5,rfl⟩:=own_form ho5;have hz5:W1.heap.size≤w5.heap.size:=hb15.size;have HB15:=Lib.hid hb15;have HO6:=Lib.hid (own_below ho5 ((Below.refl w5.heap.size w5).alloc (Nat.le_refl _) (.cells #[.int .i64 0,.string ⟨([32]).toArray⟩,.int .i64 0,.bool false,.bool false,.int .i64 0,.string ⟨#[]⟩,.bool false,.slice none 0 0,.int .i64 0,.int .i64 0,.bool false,.slice none 0 0,.slice none 0 0,.bool false,.bool false,.slice none 0 0,.slice none 0 0] 36)));have HN6:=Lib.hid (Sl.lit (n:=1) (sz:=18) (heap_alloc_new w5 (.cells #[.int .i64 0,.string ⟨([32]).toArray⟩,.int .i64 0,.bool false,.bool false,.int .i64 0,.string ⟨#[]⟩,.bool false,.slice none 0 0,.int .i64 0,.int .i64 0,.bool false,.slice none 0 0,.slice none 0 0,.bool false,.bool false,.slice none 0 0,.slice none 0 0] 36)) rfl);clear ho5 hg5 hb5 hb15;go_wp2_with (at_builtin;refine wpList_appM W1.heap.size 36 rfl _ _ 23 rfl Try.underlying23 hiN rfl (by decide) rfl HO6.out rfl HN6.out (hd_one W1 0 [32] 0) (by omega) (by omega) (by decide) (by simp;omega) ?_)
    intro v7 w7 ho7 hg7 hb7 _;obtain⟨a7,c7,rfl⟩:=own_form ho7;have hb57:Below W1.heap.size w5 w7:=((Below.refl W1.heap.size w5).alloc hz5 _).trans hb7;have hb17:=HB15.out.trans hb57;have hs7:=row_two (t:=[32]) ho7;have HSa:=Lib.hid (HS1.out _ _ a2 a7 c2 c7 w7 (HA.out.later hb17) hs7);have HB17:=Lib.hid hb17;clear ho7 hg7 hb7 hb57 hb17 hs7 HA;go_wp2_with (go_at_call 15;refine HSa.out.mono ?_)
    first|rintro e w8 rfl hb8|rintro e w8 ⟨rfl,hb8⟩
    have hb18:=HB17.out.trans (hb8.mono HB17.out.size);have hz8:W1.heap.size≤w8.heap.size:=hb18.size;have HB18:=Lib.hid hb18;have HX8:Hid (w8.heap[w4.heap.size]?=some (.cells #[.int .i64 1,.string ⟨([]).toArray⟩,.int .i64 (n:Int),.bool false,.bool false,.int .i64 0,.string ⟨#[]⟩,.bool false,.slice none 0 0,.int .i64 0,.int .i64 0,.bool false,.slice none 0 0,.slice none 0 0,.bool false,.bool false,.slice none 0 0,.slice none 0 0] 36 (0,0))):=Lib.hid ((hb18.block _ hz1).trans HX1.out);have hbF:Below w8.heap.size w8 (w8.alloc (.cells #[] 36)):=(Below.refl _ _).alloc (Nat.le_refl _) _;have HOF:Hid ((w8.alloc (.cells #[] 36)).ownsRow w8.heap.size 36 18 (.slice (some ⟨w8.heap.size,0,none⟩) 0 0) 0 []):=Lib.hid (own_lit0 w8);have HN9:Hid (Sl (w8.alloc (.cells #[] 36)) w8.heap.size (some ⟨w4.heap.size,0,none⟩) 18 1 [.int .i64 1,.string ⟨([]).toArray⟩,.int .i64 (n:Int),.bool false,.bool false,.int .i64 0,.string ⟨#[]⟩,.bool false,.slice none 0 0,.int .i64 0,.int .i64 0,.bool false,.slice none 0 0,.slice none 0 0,.bool false,.bool false,.slice none 0 0,.slice none 0 0]):=Lib.hid (((Sl.lit (n:=1) (sz:=18) HX8.out rfl)).keep hbF);have HBF:=Lib.hid hbF;clear hb8 hb18 hbF;go_wp2_with (at_builtin;refine wpList_appG (by rfl) w8.heap.size 36 _ _ 23 rfl Try.underlying23 hiN rfl (by decide) rfl HOF.out rfl HN9.out (hd_one W1 1 [] n) (by omega) (by omega) (by decide) (by simp) ?_)
    intro v9 w9 ho9 hg9 hb9 _;have hb89:=HBF.out.trans hb9;obtain⟨a9,c9,rfl⟩:=own_form ho9;have hz9:w8.heap.size≤w9.heap.size:=hb89.size;have HB89:=Lib.hid hb89;have HO10:=Lib.hid (own_below ho9 ((Below.refl w9.heap.size w9).alloc (Nat.le_refl _) (.cells #[.int .i64 0,.string ⟨(s).toArray⟩,.int .i64 0,.bool false,.bool false,.int .i64 0,.string ⟨#[]⟩,.bool false,.slice none 0 0,.int .i64 0,.int .i64 0,.bool false,.slice none 0 0,.slice none 0 0,.bool false,.bool false,.slice none 0 0,.slice none 0 0] 36)));have HN10:=Lib.hid (Sl.lit (n:=1) (sz:=18) (heap_alloc_new w9 (.cells #[.int .i64 0,.string ⟨(s).toArray⟩,.int .i64 0,.bool false,.bool false,.int .i64 0,.string ⟨#[]⟩,.bool false,.slice none 0 0,.int .i64 0,.int .i64 0,.bool false,.slice none 0 0,.slice none 0 0,.bool false,.bool false,.slice none 0 0,.slice none 0 0] 36)) rfl);clear ho9 hg9 hb9 hb89;go_wp2_with (at_builtin;refine wpList_appG (by rfl) w8.heap.size 36 _ _ 23 rfl Try.underlying23 hiN rfl (by decide) rfl HO10.out rfl HN10.out (hd_one W1 0 s 0) (by omega) (by omega) (by decide) (by simp;omega) ?_)
    intro v11 w11 ho11 hg11 hb11 _;obtain⟨a11,c11,rfl⟩:=own_form ho11;have hb911:Below w8.heap.size w9 w11:=((Below.refl w8.heap.size w9).alloc hz9 _).trans hb11;have hb811:=HB89.out.trans hb911;have HJ11:=Lib.hid (HJ.out a11 c11 w11 (row_two (t:=s) ho11));have hb111:=HB18.out.trans (hb811.mono hz8);have HB111:=Lib.hid hb111;clear ho11 hg11 hb11 hb911 hb811 hb111;go_wp2_with (go_at_call 18;refine HJ11.out.mono ?_)
    rintro e w12 ⟨a12,c12,rfl,hs12,hb12⟩;have hb112:=HB111.out.trans (hb12.mono HB111.out.size);have HSb:=Lib.hid (HS2.out _ _ a4 a12 c4 c12 w12 (HB.out.later hb112) hs12);have hbw12:=bel2 hbw1 hb112;clear hs12 hb12 hb112;go_wp2_with (go_at_call 15;refine HSb.out.mono ?_)
    first|rintro e w13 rfl hb13|rintro e w13 ⟨rfl,hb13⟩
    have hbw13:=bel2 hbw12 hb13;go_wp2_with (go_at_call 11;refine(awake21 _).mono ?_;rintro e w14 ⟨rfl,hb14⟩)
    go_ret
    exact⟨rfl,bel2 hbw13 hb14⟩
end Go.Proofs.Ytbgcjpefocdkkaa
