/- Small laws on strings told as lists of bytes, on rows that a call owns, and on worlds; nothing of the program's own but the numbers of its types. -/
import Derived.Test.YtbgcjpefocdkkaaGreatProg
import Derived.WalkKit
import Derived.WalkLawsBesides
import Derived.WalkSpells
import Derived.BigQuiet
import Derived.Deep.QuietTactic
import Derived.Deep.LoopGhost
import Derived.Deep.DeepCutAuto
import Derived.Lib.Hide
import Derived.Deep.RegionLaw
import Derived.BigRegion
import Derived.KernelRfl
import Derived.Lib.Bytealg
import Derived.Lib.Builder
import Derived.Lib.AppendStr
import Derived.Lib.UnsafeStr
import Derived.Laws.Externs
import Derived.Deep.Quiet
set_option maxRecDepth 100000
namespace Go.Proofs.YtbgcjpefocdkkaaGreat
open Go.RowKit
@[simp,go_sem] theorem ba_get (l:List UInt8) (i:Nat) (h:i<(ByteArray.mk l.toArray).size):(ByteArray.mk l.toArray)[i]'h=l[i]'(by exact h):=by
 simp [ByteArray.getElem_eq_getElem_data]
@[simp,go_sem] theorem ba_toList (l:List UInt8):(ByteArray.mk l.toArray).toList=l:=by rw [ByteArray.toList_eq]
@[simp,go_sem] theorem ba_append (l r:List UInt8):ByteArray.mk l.toArray++ByteArray.mk r.toArray=ByteArray.mk (l++r).toArray:=by
 apply ByteArray.ext;simp
@[simp,go_sem] theorem ba_size (l:List UInt8):(ByteArray.mk l.toArray).size=l.length:=rfl
@[simp,go_sem] theorem ba_extract (l:List UInt8) (i j:Nat):(ByteArray.mk l.toArray).extract i j=ByteArray.mk ((l.drop i).take (j-i)).toArray:=by
 apply ByteArray.ext;simp [ByteArray.data_extract]
@[simp,go_sem] theorem ba_extract_end (l:List UInt8) (i:Nat):(ByteArray.mk l.toArray).extract i l.length=ByteArray.mk (l.drop i).toArray:=by
 rw [ba_extract,List.take_of_length_le (by simp)]
@[simp,go_sem] theorem take_drop_all (l:List UInt8) (i:Nat):(l.drop i).take (l.length-i)=l.drop i:=List.take_of_length_le (by simp)
theorem ba_of (s:ByteArray):s=ByteArray.mk s.data.toList.toArray:=by simp
theorem drop_cons {l r:List UInt8} {i:Nat} {c:UInt8} (h:l.drop i=c::r):i<l.length∧(∀hi:i<l.length,l[i]'hi=c)∧l.drop (i+1)=r:=by
 have hi:i<l.length:=by
  rcases Nat.lt_or_ge i l.length with h1|h1
  ·exact h1
  ·rw [List.drop_of_length_le h1] at h;cases h
 rw [List.drop_eq_getElem_cons hi] at h;injection h with h1 h2
 exact⟨hi,fun _=>h1,h2⟩
theorem drop_nil {l:List UInt8} {i:Nat} (h:l.drop i=[]):l.length≤i:=by simpa using h
theorem pre1 (k c:UInt8) (r:List UInt8):List.isPrefixOf [k] (c::r)=decide (c.toNat=k.toNat):=by
 rw [Bool.eq_iff_iff];simp only [List.isPrefixOf,Bool.and_true,beq_iff_eq,decide_eq_true_eq,←UInt8.toNat_inj];exact eq_comm
abbrev Str:=List UInt8
def bcells (l:Str):List Value:=l.map fun c=>.int .u8 c.toNat
theorem bcells_length (l:Str):(bcells l).length=l.length:=by simp [bcells]
theorem u8_info:(Tryz.prog.info? 5).map (fun i=>(i.zero,i.size,i.bytes))=some (some (.int .u8 0),1,1):=by kernel_rfl
theorem wp_app1 {P:Program} {w:World} {o:Oper} {a:Act} {K:Act→World→Prop} {Q:Exit→Act→World→Prop} (B:Nat) (e:TypeId) {cs:Array Value} {m:Nat × Nat} (s x:Operand) (t:TypeId)
  (ho:o.op=.call { callee:=.builtin .append,args:=#[s,x],argTypes:=#[t,t] })
  {i:TypeInfo} {z:Value} {size bytes:Nat} (ht:P.underlying t=some (.slice e)) (hinf:P.info? e=some i∧i.zero=some z∧i.size=size∧i.bytes=bytes)
  (hzs:z.cells.size=size) (hsz:0<size)
  {v:Value} {n:Nat} {xs:List Value} (hs:a.eval s=v) (hown:w.ownsRow B e size v n xs)
  {g:Nat} (hx:a.eval x=.slice (some ⟨g,0,none⟩) 1 1) (hgz:g=w.heap.size) (hl:cs.size=size) (h1:∀u∈cs.toList,u.oneCell'=true)
  (hn:n≤100000000) (hb:bytes≤1000) (hB:B≤w.heap.size)
  (h:∀v' w',w'.ownsRow B e size v' (n+1) (xs++cs.toList)→w.grownBy w' v.ownBlock→Below B w w'→v'≠.slice none 0 0→K (a.put o.dst v') w') :
  o.wp P a (w.alloc (.cells cs e m)) K Q:=by
 subst hgz;obtain⟨hi,hz0,hz1,hz2⟩:=hinf;refine wp_append_own (P:=P) (w.alloc (.cells cs e m)) s x t ho B e i z size bytes ht hi hz0 hz1 hz2 hzs hsz v n xs hs (hown.alloc _) ⟨w.heap.size,0,none⟩ 1 1 cs.toList hx (by simpa using hl) ?_ h1 (by simp only [maxLen];omega) ?_ (by simp;omega) ?_
 ·intro j u hu
  have hadd:(⟨w.heap.size,0,none⟩:Addr).add j=⟨w.heap.size,j,none⟩:=by unfold Addr.add;split<;>simp_all
  rw [hadd,cell_of_row _ w.heap.size j cs e m (heap_alloc_new w _)];simpa using hu
 ·have:(n+1)*bytes≤(100000000+1)*1000:=Nat.mul_le_mul (by omega) hb
  omega
 ·intro v' w' h2 h3 h4
  have hg:w.grownBy w' v.ownBlock:=by
   refine⟨h3.os,h3.tape,h3.output,by have:=h3.size;simp at this;omega,fun k hk hne=>?_⟩;rw [h3.block k (by simp;omega) hne];exact Below.heap_alloc w _ k hk
  refine h v' w' h2 hg ?_ (fun hv=>by have:=(h4.1 hv).2;omega);exact((Below.refl B w).grown hg hB fun k hk=>(hown.lt k hk).1)
theorem wpList_app1 {P:Program} {w:World} {ops:Array Oper} {rest:List Oper} {o:Oper} {a:Act} {Q:Exit→Act→World→Prop} (B:Nat) (e:TypeId) {cs:Array Value} {m:Nat × Nat} (hgd:o.guard=none) (s x:Operand) (t:TypeId)
  (ho:o.op=.call { callee:=.builtin .append,args:=#[s,x],argTypes:=#[t,t] })
  {i:TypeInfo} {z:Value} {size bytes:Nat} (ht:P.underlying t=some (.slice e)) (hinf:P.info? e=some i∧i.zero=some z∧i.size=size∧i.bytes=bytes)
  (hzs:z.cells.size=size) (hsz:0<size)
  {v:Value} {n:Nat} {xs:List Value} (hs:a.eval s=v) (hown:w.ownsRow B e size v n xs)
  {g:Nat} (hx:a.eval x=.slice (some ⟨g,0,none⟩) 1 1) (hgz:g=w.heap.size) (hl:cs.size=size) (h1:∀u∈cs.toList,u.oneCell'=true)
  (hn:n≤100000000) (hb:bytes≤1000) (hB:B≤w.heap.size)
  (h:∀v' w',w'.ownsRow B e size v' (n+1) (xs++cs.toList)→w.grownBy w' v.ownBlock→Below B w w'→v'≠.slice none 0 0→wpList P ops Q rest (a.put o.dst v') w') :
  wpList P ops Q (o::rest) a (w.alloc (.cells cs e m)) :=
 wpList_plain hgd fun _ hK=>wp_app1 B e s x t ho ht hinf hzs hsz hs hown hx hgz hl h1 hn hb hB fun v' w' a1 a2 a3 a4=>hK _ _ (h v' w' a1 a2 a3 a4)
theorem step_app1 {P:Program} {w W:World} {ops:Array Oper} {o:Oper} {a:Act} {K:Act→World→Prop} {Q:Exit→Act→World→Prop} {E:Prop} (B:Nat) (e:TypeId) {cs:Array Value} {m:Nat × Nat} (hW:W=w.alloc (.cells cs e m)) (hgd:o.guard=none) (s x:Operand) (t:TypeId)
  (ho:o.op=.call { callee:=.builtin .append,args:=#[s,x],argTypes:=#[t,t] })
  {i:TypeInfo} {z:Value} {size bytes:Nat} (ht:P.underlying t=some (.slice e)) (hinf:P.info? e=some i∧i.zero=some z∧i.size=size∧i.bytes=bytes)
  (hzs:z.cells.size=size) (hsz:0<size)
  {v:Value} {n:Nat} {xs:List Value} (hs:a.eval s=v) (hown:w.ownsRow B e size v n xs)
  {g:Nat} (hx:a.eval x=.slice (some ⟨g,0,none⟩) 1 1) (hgz:g=w.heap.size) (hl:cs.size=size) (h1:∀u∈cs.toList,u.oneCell'=true)
  (hn:n≤100000000) (hb:bytes≤1000) (hB:B≤w.heap.size)
  (h:∀v' w',w'.ownsRow B e size v' (n+1) (xs++cs.toList)→w.grownBy w' v.ownBlock→Below B w w'→v'≠.slice none 0 0→K (a.put o.dst v') w') :
  if Region.wanted o (yielded ops a.tmps)=true then Oper.wp P o a W K Q else E:=by
 subst hW;have hw:Region.wanted o (yielded ops a.tmps)=true:=by simp [Region.wanted,hgd]
 rw [if_pos hw];exact wp_app1 B e s x t ho ht hinf hzs hsz hs hown hx hgz hl h1 hn hb hB h
theorem conv_own {P:Program} {w:World} {B:Nat} {src e dst:TypeId} (hs:P.underlying src=some (.slice e)) (he:P.underlying e=some (.int .u8)) (hd:P.underlying dst=some .string)
  {v:Value} {l:Str} {n:Nat} (h:w.ownsRow B e 1 v n (bcells l)):(convert src dst v).run P w=.ok (.string ⟨l.toArray⟩) w:=by
 have hn:n=l.length:=by have:=h.1;rw [bcells_length] at this;omega
 subst hn;rcases h.2 with⟨rfl,h0⟩|⟨g,cap,cur,rfl,hb,hg,hnc,hcm,hcs,htake⟩
 ·have hl:l=[]:=List.eq_nil_of_length_eq_zero h0
  subst hl;exact run_convert_bytes_nil w src e hs he 0 0 dst hd
 ·refine run_convert_bytes_back w src dst e ⟨g,0,none⟩ cap l hs he hd fun j hj=>?_
  have:=h.cells (g:=g) rfl j (.int .u8 (l[j].toNat)) (by simp [bcells,List.getElem?_map,List.getElem?_eq_getElem hj])
  exact this
theorem ret_bool {a b:Bool} (h:a=b):Ending.returned (.bool a)=.returned (.bool b):=by rw [h]
theorem ret_int {k:IntKind} {a b:Int} (h:a=b):Ending.returned (.int k a)=.returned (.int k b):=by rw [h]
theorem own_form {w:World} {B:Nat} {e:TypeId} {sz:Nat} {v:Value} {n:Nat} {xs:List Value} (h:w.ownsRow B e sz v n xs):∃a c,v=.slice a n c:=by
 rcases h.2 with⟨rfl,rfl⟩|⟨g,cap,cur,rfl,_⟩
 ·exact⟨_,_,rfl⟩
 ·exact⟨_,_,rfl⟩
end Go.Proofs.YtbgcjpefocdkkaaGreat
set_option maxRecDepth 100000
namespace Go.Proofs.YtbgcjpefocdkkaaGreat
def upB (c:UInt8):UInt8:=if 97≤c.toNat∧c.toNat≤122 then c-32 else c
def lowB (c:UInt8):UInt8:=if 65≤c.toNat∧c.toNat≤90 then c+32 else c
def wordBF (c:UInt8):Bool:=decide ((97≤c.toNat∧c.toNat≤122)∨(65≤c.toNat∧c.toNat≤90)∨(48≤c.toNat∧c.toNat≤57)∨128≤c.toNat)
def joinL (small:Bool):Bool→Str→Str→Str
 | _,[],acc=>acc
 | pw,c::r,acc=>if wordBF c=true then(if pw=true then joinL small true r (acc++[c]) else if small=true∧acc=[] then joinL small true r (acc++[lowB c]) else joinL small true r (acc++[upB c])) else joinL small false r acc
def capB:Str→Str
 | []=>[]
 | c::r=>upB c::r
def turn (s:Str) (way:Int):Str × Int :=
 if way=1 then(s.map upB,0) else if way=2 then(s.map lowB,0) else if way=3 then(capB s,0) else if way=4 then(joinL true false s [],0) else if way=5 then(joinL false false s [],0) else([],2)
def n1:Str:=[117,112,99,97,115,101]
def n2:Str:=[100,111,119,110,99,97,115,101]
def n3:Str:=[99,97,112,105,116,97,108,105,122,101]
def n4:Str:=[99,97,109,101,108,99,97,115,101]
def n5:Str:=[112,97,115,99,97,108,99,97,115,101]
def nameOf (way:Int):Str:=if way=1 then n1 else if way=2 then n2 else if way=3 then n3 else if way=4 then n4 else if way=5 then n5 else []
def wayOf (s:Str):Int:=if s=n1 then 1 else if s=n2 then 2 else if s=n3 then 3 else if s=n4 then 4 else if s=n5 then 5 else 0
theorem wayOf_hit {s:Str} {k:Int} (h1:1≤k) (h5:k≤5) (h:nameOf k=s):wayOf s=k:=by
 have hk:k=1∨k=2∨k=3∨k=4∨k=5:=by omega
 subst h;rcases hk with rfl|rfl|rfl|rfl|rfl<;>decide
theorem wayOf_miss {s:Str} (h:∀j:Int,1≤j→j<6→nameOf j≠s):wayOf s=0:=by
 unfold wayOf;rw [if_neg (fun e=>h 1 (by omega) (by omega) e.symm),if_neg (fun e=>h 2 (by omega) (by omega) e.symm),if_neg (fun e=>h 3 (by omega) (by omega) e.symm),if_neg (fun e=>h 4 (by omega) (by omega) e.symm),if_neg (fun e=>h 5 (by omega) (by omega) e.symm)]
end Go.Proofs.YtbgcjpefocdkkaaGreat
set_option maxRecDepth 100000
namespace Go.Proofs.YtbgcjpefocdkkaaGreat
def numLF:Str→Nat→Nat→Option (Nat × Str)
 | [],k,n=>if 0<k then some (n,[]) else none
 | c::r,k,n=>if 48≤c.toNat∧c.toNat≤57 then(if k=4 then none else numLF r (k+1) (10*n+(c.toNat-48))) else if 0<k then some (n,c::r) else none
def numRF (r:Str):Option (Nat × Str):=numLF r 0 0
def stands (r these:Str):Bool:=match r with|[]=>false|c::_=>these.contains c
def four:Str:=[36,125,92,47]
def five:Str:=[36,125,92,47,58]
def untilL (one:Int):Str→Str→Option (Str × Str)
 | [],_=>none
 | [c],t=>if c.toNat=one.toNat then some (t,[c]) else none
 | c::d::r,t=>if c.toNat=one.toNat then some (t,c::d::r) else if c.toNat=92∧five.contains d=true then untilL one r (t++[d]) else untilL one (d::r) (t++[c])
structure Fm where
 kind:Int
 n:Int
 cse:Int
 thn:Str
 els:Str
deriving DecidableEq
def ne125 (d:UInt8):Bool:=decide (d.toNat≠125)
def bracedR (r:Str) (n:Nat):Option (Fm × Str) :=
 match r with
 | []=>none
 | c::r' =>
  if c.toNat=47 then
   (match r'.dropWhile ne125 with
    | []=>none
    | _::r2=>if wayOf (r'.takeWhile ne125)=0 then none else some (⟨2,n,wayOf (r'.takeWhile ne125),[],[]⟩,r2))
  else if c.toNat=43 then
   (match untilL 125 r' [] with
    | some (t,_::r2)=>some (⟨3,n,0,t,[]⟩,r2)
    | _=>none)
  else if c.toNat=63 then
   (match untilL 58 r' [] with
    | some (t,_::r2) =>
     (match untilL 125 r2 [] with
     | some (u,_::r3)=>some (⟨5,n,0,t,u⟩,r3)
     | _=>none)
    | _=>none)
  else if c.toNat=45 then
   (match untilL 125 r' [] with
    | some (t,_::r2)=>some (⟨4,n,0,[],t⟩,r2)
    | _=>none)
  else
   (match untilL 125 (c::r') [] with
    | some (t,_::r2)=>some (⟨4,n,0,[],t⟩,r2)
    | _=>none)
def partC (n:Nat):Str→Option (Fm × Str)
 | []=>none
 | d::r3=>if d.toNat=125 then some (⟨1,n,0,[],[]⟩,r3) else if d.toNat=58 then bracedR r3 n else none
def partB:Str→Option (Fm × Str)
 | []=>none
 | c::r1=>if c.toNat=123 then(match numRF r1 with|none=>none|some p=>partC p.1 p.2) else none
def partR (r:Str):Option (Fm × Str) :=
 match numRF r with
 | some p=>some (⟨1,p.1,0,[],[]⟩,p.2)
 | none=>partB r
theorem untilL_head (one:Int):∀(r t:Str) {u s:Str},untilL one r t=some (u,s)→∃c s',s=c::s'∧c.toNat=one.toNat
 | [],t,u,s,h=>by simp [untilL] at h
 | [c],t,u,s,h=>by
  simp only [untilL] at h;split at h
  ·rename_i hc;simp at h;exact⟨c,[],h.2.symm,hc⟩
  ·cases h
 | c::d::r,t,u,s,h=>by
  simp only [untilL] at h;split at h
  ·rename_i hc;simp at h;exact⟨c,d::r,h.2.symm,hc⟩
  ·split at h
   ·exact untilL_head one r _ h
   ·exact untilL_head one (d::r) _ h
theorem numL_len:∀(r:Str) (k n:Nat) {m:Nat} {s:Str},numLF r k n=some (m,s)→s.length≤r.length∧(k=0→s.length<r.length)
 | [],k,n,m,s,h=>by
  simp only [numLF] at h;split at h
  ·injection h with h;injection h with _ h;subst h;exact⟨Nat.le_refl _,fun e=>by omega⟩
  ·cases h
 | c::r,k,n,m,s,h=>by
  simp only [numLF] at h;split at h
  ·split at h
   ·cases h
   ·have:=numL_len r (k+1) _ h;simp;omega
  ·split at h
   ·injection h with h;injection h with _ h;subst h;exact⟨Nat.le_refl _,fun e=>by omega⟩
   ·cases h
theorem numR_len {r:Str} {m:Nat} {s:Str} (h:numRF r=some (m,s)):s.length<r.length:=(numL_len r 0 0 h).2 rfl
theorem untilL_len (one:Int):∀(r t:Str) {u s:Str},untilL one r t=some (u,s)→s.length≤r.length
 | [],t,u,s,h=>by simp [untilL] at h
 | [c],t,u,s,h=>by
  simp only [untilL] at h;split at h
  ·simp at h;rw [←h.2];simp
  ·cases h
 | c::d::r,t,u,s,h=>by
  simp only [untilL] at h;split at h
  ·simp at h;rw [←h.2];simp
  ·split at h
   ·have:=untilL_len one r _ h;simp;omega
   ·have:=untilL_len one (d::r) _ h;simp at *;omega
theorem bracedR_len {r:Str} {n:Nat} {f:Fm} {s:Str} (h:bracedR r n=some (f,s)):s.length<r.length:=by
 cases r with
 | nil=>cases h
 | cons c r =>
  simp only [bracedR] at h;split at h
  ·have h1:=congrArg List.length (List.takeWhile_append_dropWhile (p:=ne125) (l:=r))
   split at h
   ·cases h
   ·rename_i heq
    split at h
    ·cases h
    ·injection h with h;injection h with _ h;subst h
     rw [heq] at h1;simp at h1 ⊢;omega
  ·split at h
   ·split at h
    ·rename_i heq
     have:=untilL_len _ _ _ heq
     injection h with h;injection h with _ h;subst h;simp at *;omega
    ·cases h
   ·split at h
    ·split at h
     ·rename_i heq
      have h1:=untilL_len _ _ _ heq;split at h
      ·rename_i heq2
       have h2:=untilL_len _ _ _ heq2;injection h with h;injection h with _ h;subst h;simp at *;omega
      ·cases h
     ·cases h
    ·split at h
     ·split at h
      ·rename_i heq
       have:=untilL_len _ _ _ heq
       injection h with h;injection h with _ h;subst h;simp at *;omega
      ·cases h
     ·split at h
      ·rename_i heq
       have:=untilL_len _ _ _ heq
       injection h with h;injection h with _ h;subst h;simp at *;omega
      ·cases h
theorem partR_len {r:Str} {f:Fm} {s:Str} (h:partR r=some (f,s)):s.length<r.length:=by
 unfold partR at h;split at h
 ·rename_i p heq
  obtain⟨m,s'⟩:=p;have:=numR_len heq
  injection h with h;injection h with _ h;subst h;exact this
 ·cases r with
  | nil=>cases h
  | cons c r =>
   simp only [partB] at h;split at h
   ·split at h
    ·cases h
    ·rename_i p heq
     obtain⟨m,s'⟩:=p;have h1:=numR_len heq;cases s' with
     | nil=>cases h
     | cons d r3 =>
      simp only [partC] at h;split at h
      ·injection h with h;injection h with _ h;subst h;simp at *;omega
      ·split at h
       ·have:=bracedR_len h;simp at *;omega
       ·cases h
   ·cases h
def flushF (tx:Str) (fs:List Fm):List Fm:=if tx=[] then fs else fs++[⟨0,0,0,tx,[]⟩]
def readN:Nat→Str→Str→List Fm→Option (List Fm × Str)
 | 0,_,_,_=>none
 | _+1,[],_,_=>none
 | k+1,c::r,tx,fs =>
  if c.toNat=47 then some (flushF tx fs,c::r)
  else if c.toNat=36 then
   (match partR r with
    | some p=>readN k p.2 [] (flushF tx fs++[p.1])
    | none=>readN k r (tx++[c]) fs)
  else if c.toNat=92∧stands r four=true then readN k (r.drop 1) (tx++r.take 1) fs
  else readN k r (tx++[c]) fs
theorem readN_more:∀(k k':Nat) (r tx:Str) (fs:List Fm),r.length<k→r.length<k'→readN k r tx fs=readN k' r tx fs
 | 0,_,_,_,_,h,_=>by omega
 | _+1,0,_,_,_,_,h=>by omega
 | k+1,k'+1,[],tx,fs,_,_=>rfl
 | k+1,k'+1,c::r,tx,fs,h,h'=>by
  simp only [List.length_cons] at h h';have hd:(r.drop 1).length≤r.length:=by simp
  simp only [readN];rw [readN_more k k' r (tx++[c]) fs (by omega) (by omega),readN_more k k' (r.drop 1) (tx++r.take 1) fs (by omega) (by omega)];cases hp:partR r with
  | none=>rfl
  | some p =>
   have hl:=partR_len (f:=p.1) (s:=p.2) hp;simp only [];rw [readN_more k k' p.2 [] _ (by omega) (by omega)]
def readX (r tx:Str) (fs:List Fm):Option (List Fm × Str):=readN (r.length+1) r tx fs
theorem readX_cons (c:UInt8) (r tx:Str) (fs:List Fm):readX (c::r) tx fs =
  if c.toNat=47 then some (flushF tx fs,c::r)
  else if c.toNat=36 then
   (match partR r with
    | some p=>readX p.2 [] (flushF tx fs++[p.1])
    | none=>readX r (tx++[c]) fs)
  else if c.toNat=92∧stands r four=true then readX (r.drop 1) (tx++r.take 1) fs
  else readX r (tx++[c]) fs:=by
 have hd:(r.drop 1).length≤r.length:=by simp
 simp only [readX,readN,List.length_cons];rw [readN_more (r.length+1) ((r.drop 1).length+1) (r.drop 1) (tx++r.take 1) fs (by omega) (by omega)];cases hp:partR r with
 | none=>rfl
 | some p =>
  have hl:=partR_len (f:=p.1) (s:=p.2) hp;simp only [];rw [readN_more (r.length+1) (p.2.length+1) p.2 [] _ (by omega) (by omega)]
end Go.Proofs.YtbgcjpefocdkkaaGreat
set_option maxRecDepth 100000
namespace Go.Proofs.YtbgcjpefocdkkaaGreat
open Go.RowKit
theorem stringslite_IndexByte (l:Str) (c:Int) (w:World) :
  Calls Tryz.prog 53 #[.string ⟨(l).toArray⟩,.int .u8 c] w fun e w'=>e=.returned (.int .i64 (Lib.indexByte l c.toNat.toUInt8))∧w=w':=by
 go_enter Tryz.func53,Tryz.ntmps53
 go_wp2
 rw [run_callFunc_extern Tryz.func69 (by kernel_rfl) (by kernel_rfl) (by kernel_rfl) (e:=Extern.BytealgIndexByte.indexByte) (by kernel_rfl),Lib.run_indexByteString];simp only [Result.andThen];rw [Oper.upon_value];go_wp2
 go_ret
 exact⟨rfl,rfl⟩
theorem strings_IndexByte (l:Str) (c:Int) (w:World) :
  Calls Tryz.prog 36 #[.string ⟨(l).toArray⟩,.int .u8 c] w fun e w'=>e=.returned (.int .i64 (Lib.indexByte l c.toNat.toUInt8))∧w=w':=by
 go_enter Tryz.func36,Tryz.ntmps36
 go_wp2_with (go_at_call 53;refine(stringslite_IndexByte _ _ _).mono ?_;rintro e w1 ⟨rfl,rfl⟩)
 go_ret
 exact⟨rfl,rfl⟩
theorem idx_ge (l:Str) (c:UInt8):0≤Lib.indexByte l c↔l.contains c=true:=by
 induction l with
 | nil=>simp [Lib.indexByte]
 | cons b l ih =>
  have:=Lib.indexByte_ge l c
  unfold Lib.indexByte;rw [List.contains_cons,Bool.or_eq_true,←ih];by_cases h:b=c
  ·simp [h]
  ·have h':(b==c)=false:=by simpa using h
   have h'':¬(c==b)=true:=by simpa using (fun e=>h e.symm)
   rw [h',if_neg (by simp)];by_cases h1:Lib.indexByte l c=-1
   ·simp [h1];exact fun e=>h e.symm
   ·have h2:¬(Lib.indexByte l c==-1)=true:=by simpa using h1
    rw [if_neg h2];simp [h''];omega
theorem idx_dec (l:Str) (c:UInt8):decide (0≤Lib.indexByte l c)=l.contains c:=by
 rw [Bool.eq_iff_iff,decide_eq_true_iff];exact idx_ge l c
theorem IndexByte_eq {l:Str} {c k:Int} (w:World) (h:Lib.indexByte l c.toNat.toUInt8=k) :
  Calls Tryz.prog 36 #[.string ⟨(l).toArray⟩,.int .u8 c] w fun e w'=>e=.returned (.int .i64 k)∧w=w':=by
 subst h;exact strings_IndexByte l c w
theorem idx_hit {th:Str} {c:UInt8} (h:th.contains c=true):∃k:Nat,Lib.indexByte th ((c.toNat:Int)).toNat.toUInt8=(k:Int):=by
 have h1:=(idx_ge th c).2 h;rw [show ((c.toNat:Int)).toNat.toUInt8=c by simp];exact Int.eq_ofNat_of_zero_le h1
theorem idx_miss {th:Str} {c:UInt8} (h:¬th.contains c=true):Lib.indexByte th ((c.toNat:Int)).toNat.toUInt8=-1:=by
 rw [show ((c.toNat:Int)).toNat.toUInt8=c by simp];have h1:=Lib.indexByte_ge th c;have h2:¬0≤Lib.indexByte th c:=fun h3=>h ((idx_ge th c).1 h3)
 omega
end Go.Proofs.YtbgcjpefocdkkaaGreat
set_option maxRecDepth 100000
namespace Go.Proofs.YtbgcjpefocdkkaaGreat
open Go.RowKit
theorem pre_eq (l p:Str):p.isPrefixOf l=(List.take p.length l==p):=by
 rw [Bool.eq_iff_iff,List.isPrefixOf_iff_prefix,beq_iff_eq,List.prefix_iff_eq_take];exact⟨fun h=>h.symm,fun h=>h.symm⟩
theorem has_any (l p:Str) (i:Int) (w:World) (h0:0≤i) (hs:l.length≤100000000) (hp:p.length≤100000000) :
  Calls Tryz.prog 108 #[.string ⟨(l).toArray⟩,.int .i64 i,.string ⟨(p).toArray⟩] w fun e w'=>e=.returned (.bool (p.isPrefixOf (l.drop i.toNat)))∧w=w':=by
 obtain⟨n,rfl⟩:=Int.eq_ofNat_of_zero_le h0;rw [Int.toNat_natCast];generalize hR:List.isPrefixOf p (List.drop n l)=R
 have HR:=Lib.hid hR;clear hR;go_enter Tryz.func108,Tryz.ntmps108
 go_wp2
 ·rename_i h1 h2
  go_ret;refine⟨?_,rfl⟩;rw [←HR.out,List.drop_of_length_le (by omega),h2];rfl
 ·rename_i h1 h2
  go_ret;refine⟨?_,rfl⟩;rw [←HR.out,List.drop_of_length_le (by omega)];cases p<;>simp_all
 ·go_ret;refine⟨?_,rfl⟩;rw [←HR.out,pre_eq];simp
 ·rename_i h1 h2
  go_ret;refine⟨?_,rfl⟩;rw [←HR.out,pre_eq]
  have:(List.take p.length (List.drop n l))≠p:=fun h=>by
   have:=congrArg List.length h;simp at this;omega
  simp [this]
theorem stands_any (l p:Str) (i:Int) (w:World) (h0:0≤i) (h1:i≤100000000) (_hs:l.length≤100000000) (_hp:p.length≤100000000) :
  Calls Tryz.prog 93 #[.string ⟨(l).toArray⟩,.int .i64 i,.string ⟨(p).toArray⟩] w fun e w'=>e=.returned (.bool (stands (l.drop (i.toNat+1)) p))∧w=w':=by
 obtain⟨n,rfl⟩:=Int.eq_ofNat_of_zero_le h0;rw [Int.toNat_natCast];cases hd:l.drop (n+1) with
 | nil =>
  have h2:=drop_nil hd;clear hd;go_enter Tryz.func93,Tryz.ntmps93
  go_wp2
  go_ret
  exact⟨rfl,rfl⟩
 | cons c r =>
  obtain⟨h2,h3,_⟩:=drop_cons hd;clear hd;go_enter Tryz.func93,Tryz.ntmps93
  go_wp2_with (go_at_call 36;refine(strings_IndexByte _ _ _).mono ?_;rintro e w1 ⟨rfl,rfl⟩)
  go_ret
  refine⟨?_,rfl⟩;simp [stands,idx_dec]
def NumPostF (l:Str) (i:Int) (R:Option (Nat × Str)) (e:Ending):Prop :=
 match R with
 | none=>e=.returned (.tuple #[.int .i64 0,.int .i64 i,.bool false])
 | some (n,r)=>n<10000∧∃j:Nat,i<j∧j≤l.length∧l.drop j=r∧e=.returned (.tuple #[.int .i64 n,.int .i64 j,.bool true])
theorem numberF_any (l:Str) (i:Int) (w:World) (h0:0≤i) (h1:i≤100000000) (hs:l.length≤100000000) :
  Calls Tryz.prog 107 #[.string ⟨(l).toArray⟩,.int .i64 i] w fun e w'=>w=w'∧NumPostF l i (numRF (l.drop i.toNat)) e:=by
 obtain⟨i,rfl⟩:=Int.eq_ofNat_of_zero_le h0;rw [Int.toNat_natCast];generalize hR:numRF (l.drop i)=R
 have HR:Hid (numLF (l.drop (i+0)) 0 0=R):=Lib.hid hR;clear hR;go_enter Tryz.func107,Tryz.ntmps107
 go_wp2
 go_loop [7,8] (fun n q=>∃k m:Nat,k≤4∧(k=0∨i+k≤l.length)∧m<10 ^ k∧q=.int .i64 ((i+k:Nat):Int)∧n=.int .i64 (m:Int)∧Hid (numLF (l.drop (i+k)) k m=R)) (fun _ q=>l.length-(intOf q).toNat)
 case atStart=>exact⟨0,0,by omega,by omega,by omega,by simp,rfl,HR⟩
 case round =>
  obtain⟨k,m,hk,hik,hm,rfl,rfl,HF⟩:=hrel;clear HR;have hm4:m<10000:=Nat.lt_of_lt_of_le hm (Nat.pow_le_pow_right (by omega) hk);have Hm:=Lib.hid hm;clear hm;cases hd:l.drop (i+k) with
  | nil =>
   have h2:=drop_nil hd;have HF':Hid (numLF [] k m=R):=Lib.hid (by rw [←hd];exact HF.out);clear hd HF;go_wp2
   go_ret3
   refine⟨rfl,?_⟩;rw [←HF'.out];unfold numLF;by_cases h0k:0<k
   ·rw [if_pos h0k];exact⟨hm4,i+k,by omega,by omega,List.drop_of_length_le h2,by simp;omega⟩
   ·have hk0:k=0:=by omega
    subst hk0;have:=Hm.out
    rw [if_neg h0k];unfold NumPostF;simp;omega
  | cons c r =>
   obtain⟨h2,h3,hr⟩:=drop_cons hd;have HF':Hid (numLF (c::r) k m=R):=Lib.hid (by rw [←hd];exact HF.out);have Hr:=Lib.hid hr;clear hd HF hr;go_wp2
   ·rename_i g1 g2
    go_ret3
    refine⟨rfl,?_⟩;have hk4:k=4:=by simp at g2;omega
    rw [←HF'.out];unfold numLF;rw [if_pos (by omega),if_pos hk4];unfold NumPostF;simp
   ·rename_i g1 g2
    go_round
    have hk4:¬k=4:=by simp at g2;omega
    case rel =>
     refine⟨k+1,10*m+(c.toNat-48),by omega,by omega,?_,by go_num,?_,?_⟩
     ·have:=Hm.out;rw [Nat.pow_succ];omega
     ·congr 1;omega
     ·refine Lib.hid ?_
      rw [←HF'.out,show i+(k+1)=i+k+1 from rfl,Hr.out];conv=>rhs;unfold numLF
      rw [if_pos (by omega),if_neg hk4]
    case measure=>simp [intOf];omega
   all_goals
    go_ret3
    refine⟨rfl,?_⟩;rw [←HF'.out];unfold numLF;rw [if_neg (by omega)];by_cases h0k:0<k
    ·rw [if_pos h0k];exact⟨hm4,i+k,by omega,by omega,by rw [List.drop_eq_getElem_cons h2,h3,Hr.out],by simp;omega⟩
    ·have hk0:k=0:=by omega
     subst hk0;have:=Hm.out
     rw [if_neg h0k];unfold NumPostF;simp;omega
end Go.Proofs.YtbgcjpefocdkkaaGreat
set_option maxRecDepth 100000
namespace Go.Proofs.YtbgcjpefocdkkaaGreat
open Go.RowKit
def tagOf (w:World) (k:Nat):Option TypeId:=match w.heap[k]? with|some (.cells _ e _)=>some e|_=>none
theorem tagOf_own {w:World} {B:Nat} {e:TypeId} {sz:Nat} {v:Value} {n:Nat} {xs:List Value} (h:w.ownsRow B e sz v n xs) {k:Nat} (hk:v.ownBlock=some k):B≤k∧tagOf w k=some e:=by
 rcases h.2 with⟨rfl,_⟩|⟨g,cap,cur,rfl,hb,hg,_⟩
 ·simp [Value.ownBlock] at hk
 ·simp [Value.ownBlock] at hk;subst hk;exact⟨hb,by simp [tagOf,hg]⟩
theorem heap_lt {w:World} {k:Nat} {o:Obj} (h:w.heap[k]?=some o):k<w.heap.size:=by
 rcases Nat.lt_or_ge k w.heap.size with h1|h1
 ·exact h1
 ·rw [Array.getElem?_eq_none h1] at h;cases h
end Go.Proofs.YtbgcjpefocdkkaaGreat
set_option maxRecDepth 100000
namespace Go.Proofs.YtbgcjpefocdkkaaGreat
open Go.RowKit
def Sl (w:World) (B:Nat) (a:Option Addr) (sz n:Nat) (cs:List Value):Prop :=
 cs.length=n*sz∧(0<n→∃b o,a=some ⟨b,o,none⟩∧b<B∧∀(j:Nat) (u:Value),cs[j]?=some u→w.cell? ⟨b,o+j,none⟩=some u)
theorem Sl.keep {w w':World} {B:Nat} {a:Option Addr} {sz n:Nat} {cs:List Value} (h:Sl w B a sz n cs) (hb:Below B w w'):Sl w' B a sz n cs :=
 ⟨h.1,fun hn=>by
  obtain⟨b,o,h1,h2,h3⟩:=h.2 hn;exact⟨b,o,h1,h2,fun j u hu=>(hb.cell (p:=⟨b,o+j,none⟩) h2).trans (h3 j u hu)⟩⟩
theorem Sl.mono {w:World} {B B':Nat} {a:Option Addr} {sz n:Nat} {cs:List Value} (h:Sl w B a sz n cs) (hB:B≤B'):Sl w B' a sz n cs :=
 ⟨h.1,fun hn=>by
  obtain⟨b,o,h1,h2,h3⟩:=h.2 hn;exact⟨b,o,h1,by omega,h3⟩⟩
theorem Sl.of_own {w:World} {B0:Nat} {e:TypeId} {sz:Nat} {a:Option Addr} {n c:Nat} {xs:List Value} (h:w.ownsRow B0 e sz (.slice a n c) n xs):Sl w w.heap.size a sz n xs:=by
 refine⟨h.1,fun hn=>?_⟩;rcases h.2 with⟨hv,h0⟩|⟨g,cap,cur,hv,hb,hg,r⟩
 ·omega
 ·injection hv with ha _ _
  subst ha;refine⟨g,0,rfl,heap_lt hg,fun j u hu=>?_⟩;have:=h.cells (g:=g) rfl j u hu
  have hadd:(⟨g,0,none⟩:Addr).add j=⟨g,0+j,none⟩:=by unfold Addr.add;split<;>simp_all
  rw [hadd] at this;exact this
theorem Sl.lit {w:World} {g sz n:Nat} {cs:Array Value} {t:TypeId} {m:Nat × Nat} (h:w.heap[g]?=some (.cells cs t m)) (hn:cs.size=n*sz):Sl w w.heap.size (some ⟨g,0,none⟩) sz n cs.toList:=by
 refine⟨by simpa using hn,fun _=>⟨g,0,rfl,heap_lt h,fun j u hu=>?_⟩⟩;rw [Lib.cell_of_heap h];simpa using hu
theorem Sl.alloc_self {w:World} {a:Option Addr} {sz n:Nat} {cs:List Value} (h:Sl w w.heap.size a sz n cs) (o:Obj):Sl (w.alloc o) (w.alloc o).heap.size a sz n cs :=
 (h.keep ((Below.refl _ _).alloc (Nat.le_refl _) o)).mono (by simp)
theorem ldrop_cons {α:Type} {l r:List α} {i:Nat} {c:α} (h:l.drop i=c::r):i<l.length∧l[i]?=some c∧l.drop (i+1)=r:=by
 have hi:i<l.length:=by
  rcases Nat.lt_or_ge i l.length with h1|h1
  ·exact h1
  ·rw [List.drop_of_length_le h1] at h;cases h
 rw [List.drop_eq_getElem_cons hi] at h;injection h with h1 h2
 exact⟨hi,by rw [List.getElem?_eq_getElem hi,h1],h2⟩
theorem bcell {W w1:World} (hb:Below W.heap.size W w1):(∀b o,b<W.heap.size→w1.cell? ⟨b,o,none⟩=W.cell? ⟨b,o,none⟩)∧(∀b o,b<W.heap.size→w1.frozen? ⟨b,o,none⟩=W.frozen? ⟨b,o,none⟩) :=
 ⟨fun b o h=>hb.cell (p:=⟨b,o,none⟩) h,fun b o h=>hb.frozen (p:=⟨b,o,none⟩) h⟩
def scells (ps:List Str):List Value:=ps.map fun p=>.string ⟨(p).toArray⟩
theorem Sl.str {w:World} {B:Nat} {a:Option Addr} {n:Nat} {ps:List Str} (h:Sl w B a 1 n (scells ps)) {k:Nat} {p:Str} (hk:ps[k]?=some p) :
  ∃b o,a=some ⟨b,o,none⟩∧b<B∧w.cell? ⟨b,o+k,none⟩=some (.string ⟨(p).toArray⟩):=by
 have hlt:=(List.getElem?_eq_some_iff.1 hk).1;have hn:n=ps.length:=by have:=h.1;simp [scells] at this;omega
 obtain⟨b,o,h1,h2,h3⟩:=h.2 (by omega);exact⟨b,o,h1,h2,h3 k _ (by simp [scells,hk])⟩
theorem cell_kept {w w':World} (hb:Below w.heap.size w w') (a:Addr) (u:Value) (h:w.cell? a=some u):w'.cell? a=some u :=
 (hb.cell (World.block_lt_of_cell? w a h)).trans h
end Go.Proofs.YtbgcjpefocdkkaaGreat
set_option maxRecDepth 100000
namespace Go.Proofs.YtbgcjpefocdkkaaGreat
open Go.RowKit
theorem run_app_nil {P:Program} (w:World) (base:Nat) (t ty e:TypeId) (i:TypeInfo) (size:Nat) (ht:P.underlying t=some (.slice e)) (hi:P.info? e=some i)
  (v:Value) (n:Nat) (xs:List Value) (hown:w.ownsRow base e size v n xs) (c:Nat):(Builtin.append_ #[t,t] ty #[v,.slice none 0 c]).run P w=.ok v w:=by
 rcases hown.2 with⟨rfl,rfl⟩|⟨g,cap,cur,rfl,_,_,hnc,_⟩
 ·simp [Builtin.append_,run_underlying ht,sizeOf,typeInfo,hi,Builtin.lenOf,Builtin.firstCells]
 ·simp [Builtin.append_,run_underlying ht,sizeOf,typeInfo,hi,Builtin.lenOf,Builtin.firstCells,hnc,storeCells]
end Go.Proofs.YtbgcjpefocdkkaaGreat
set_option maxRecDepth 100000
namespace Go.Proofs.YtbgcjpefocdkkaaGreat
inductive Rx where
 | mk (kind:Int) (chr:Str) (neg:Bool) (rows:List (Str × Str)) (lo hi:Int) (lazy:Bool) (kids:List Rx)
namespace Rx
def kind:Rx→Int|mk k _ _ _ _ _ _ _=>k
def chr:Rx→Str|mk _ c _ _ _ _ _ _=>c
def neg:Rx→Bool|mk _ _ n _ _ _ _ _=>n
def rows:Rx→List (Str × Str)|mk _ _ _ r _ _ _ _=>r
def lo:Rx→Int|mk _ _ _ _ l _ _ _=>l
def hi:Rx→Int|mk _ _ _ _ _ h _ _=>h
def lazy:Rx→Bool|mk _ _ _ _ _ _ z _=>z
def kids:Rx→List Rx|mk _ _ _ _ _ _ _ k=>k
mutual
def parts:Rx→Nat
 | mk _ _ _ _ _ _ _ ks=>1+partsL ks
def partsL:List Rx→Nat
 | []=>0
 | x::r=>parts x+partsL r
end
mutual
def groups:Rx→Nat
 | mk k _ _ _ _ _ _ ks=>(if k=5 then 1 else 0)+groupsL ks
def groupsL:List Rx→Nat
 | []=>0
 | x::r=>groups x+groupsL r
end
mutual
def deep:Rx→Nat
 | mk k _ _ _ _ _ _ ks=>deepL ks+(if k=5∨k=6 then 1 else 0)
def deepL:List Rx→Nat
 | []=>0
 | x::r=>max (deep x) (deepL r)
end
theorem parts_pos:∀x:Rx,1≤parts x
 | mk _ _ _ _ _ _ _ ks=>by simp only [parts];omega
theorem parts_mem:∀{ks:List Rx} {x:Rx},x∈ks→parts x≤partsL ks
 | [],_,h=>by simp at h
 | y::r,x,h=>by
  simp only [partsL];rcases List.mem_cons.1 h with rfl|h
  ·omega
  ·have:=parts_mem h;omega
theorem len_parts:∀ks:List Rx,ks.length≤partsL ks
 | []=>by simp
 | x::r=>by have:=parts_pos x;have:=len_parts r;simp only [partsL,List.length_cons];omega
end Rx
def insideB (c:UInt8):Bool:=decide (128≤c.toNat∧c.toNat≤191)
def properB:Str→Bool
 | []=>false
 | c::r=>!insideB c&&r.all insideB
def leS (a b:Str):Bool:=Op.bytesLess a b||a==b
@[go_sem] theorem fold_leS (a b:Str):(Op.bytesLess a b||a==b)=leS a b:=rfl
def rowB (r:Str × Str):Bool:=properB r.1&&properB r.2&&leS r.1 r.2
def rowsL:Option Str→List (Str × Str)→Bool
 | _,[]=>true
 | p,r::rs=>rowB r&&(match p with|none=>true|some t=>!leS r.1 t)&&rowsL (some r.2) rs
def rowsB (rs:List (Str × Str)):Bool:=rowsL none rs
def bareB (x:Rx):Bool:=decide (x.chr=[])&&!x.neg&&decide (x.rows=[])&&decide (x.lo=0)&&decide (x.hi=0)&&!x.lazy
def repB (k:Int):Bool:=decide (k=2∨k=3∨k=4∨k=5∨k=6)
def fieldsB:Rx→Bool
 | .mk k c ng rs lo hi lz ks =>
  if k=2 then bareB (.mk k [] ng rs lo hi lz ks)&&decide (ks=[])&&properB c
  else if k=4 then bareB (.mk k c false [] lo hi lz ks)&&decide (ks=[])&&rowsB rs
  else if k=7 then bareB (.mk k c ng rs 0 0 false ks)&&(match ks with|[x]=>repB x.kind|_=>false)&&decide (0≤lo∧lo≤255∧(hi=-1∨lo≤hi∧hi≤255))
  else if k=0 then bareB (.mk k c ng rs lo hi lz ks)&&decide (ks.length≠1)&&ks.all fun x=>decide (x.kind≠0∧x.kind≠1)
  else if k=1 then bareB (.mk k c ng rs lo hi lz ks)&&decide (1<ks.length)&&ks.all fun x=>decide (x.kind≠1)
  else if k=5∨k=6 then bareB (.mk k c ng rs lo hi lz ks)&&decide (ks.length=1)
  else if k=3∨k=8∨k=9∨k=10∨k=11 then bareB (.mk k c ng rs lo hi lz ks)&&decide (ks=[])
  else false
namespace Rx
mutual
def wf:Rx→Bool
 | mk k c ng rs lo hi lz ks=>fieldsB (mk k c ng rs lo hi lz ks)&&wfL ks
def wfL:List Rx→Bool
 | []=>true
 | x::r=>wf x&&wfL r
end
end Rx
def okB (x:Rx) (left dp:Int):Bool:=x.wf&&decide ((x.parts:Int)≤left)&&decide ((x.deep:Int)≤dp)
def okL (ks:List Rx) (left dp:Int):Bool:=Rx.wfL ks&&decide ((Rx.partsL ks:Int)≤left)&&decide ((Rx.deepL ks:Int)≤dp)
def mayB (x:Rx):Bool:=okB x 512 16
theorem okL_cons (x:Rx) (r:List Rx) (left dp:Int):okL (x::r) left dp=(okB x left dp&&okL r (left-x.parts) dp):=by
 rw [Bool.eq_iff_iff];have:=Rx.parts_pos x
 simp only [okL,okB,Bool.and_eq_true,decide_eq_true_eq];simp only [Rx.wfL,Rx.partsL,Rx.deepL,Bool.and_eq_true];constructor
 ·rintro⟨⟨⟨a,b⟩,c⟩,d⟩
  exact⟨⟨⟨a,by omega⟩,by omega⟩,⟨b,by omega⟩,by omega⟩
 ·rintro⟨⟨⟨a,b⟩,c⟩,⟨d,e⟩,f⟩
  exact⟨⟨⟨a,d⟩,by omega⟩,by omega⟩
def grpB (k:Int):Bool:=decide (k=5∨k=6)
theorem okB_eq (k:Int) (c:Str) (ng:Bool) (rs:List (Str × Str)) (lo hi:Int) (lz:Bool) (ks:List Rx) (left dp:Int) :
  okB (.mk k c ng rs lo hi lz ks) left dp=(decide (1≤left)&&decide (0≤dp-(if grpB k then 1 else 0))&&fieldsB (.mk k c ng rs lo hi lz ks)&&okL ks (left-1) (dp-(if grpB k then 1 else 0))):=by
 rw [Bool.eq_iff_iff];have hd:((Rx.deepL ks+if k=5∨k=6 then 1 else 0:Nat):Int)=(Rx.deepL ks:Int)+(if grpB k then 1 else 0):=by
  by_cases h:k=5∨k=6<;>simp [grpB,h]
 simp only [okB,okL,Bool.and_eq_true,decide_eq_true_eq];simp only [Rx.wf,Rx.parts,Rx.deep,Bool.and_eq_true,hd];generalize (if grpB k=true then(1:Int) else 0)=g
 constructor
 ·rintro⟨⟨⟨a,b⟩,c⟩,d⟩
  exact⟨⟨⟨by omega,by omega⟩,a⟩,⟨b,by omega⟩,by omega⟩
 ·rintro⟨⟨⟨a,b⟩,c⟩,⟨d,e⟩,f⟩
  exact⟨⟨⟨c,d⟩,by omega⟩,by omega⟩
end Go.Proofs.YtbgcjpefocdkkaaGreat
set_option maxRecDepth 100000
namespace Go.Proofs.YtbgcjpefocdkkaaGreat
open Go.RowKit
def SlS (w:World) (S:Nat→Prop) (a:Option Addr) (sz n:Nat) (cs:List Value):Prop :=
 cs.length=n*sz∧(0<n→∃b o,a=some ⟨b,o,none⟩∧S b∧b<w.heap.size∧∀(j:Nat) (u:Value),cs[j]?=some u→w.cell? ⟨b,o+j,none⟩=some u)
def Kept (S:Nat→Prop) (w w':World):Prop:=w.heap.size≤w'.heap.size∧∀b,S b→b<w.heap.size→w'.heap[b]?=w.heap[b]?
theorem Kept.all {S:Nat→Prop} {w w':World} (h:Below w.heap.size w w'):Kept S w w':=⟨h.size,fun b _ hlt=>h.block b hlt⟩
theorem SlS.keep {w w':World} {S:Nat→Prop} {a:Option Addr} {sz n:Nat} {cs:List Value} (h:SlS w S a sz n cs) (hk:Kept S w w'):SlS w' S a sz n cs :=
 ⟨h.1,fun hn=>by
  obtain⟨b,o,h1,h2,h3,h4⟩:=h.2 hn;exact⟨b,o,h1,h2,Nat.lt_of_lt_of_le h3 hk.1,fun j u hu=>by
   have e:=hk.2 b h2 h3;have:=h4 j u hu
   simp only [World.cell?] at this ⊢;rw [e];exact this⟩⟩
theorem SlS.mono {w:World} {S S':Nat→Prop} {a:Option Addr} {sz n:Nat} {cs:List Value} (h:SlS w S a sz n cs) (hS:∀b,S b→b<w.heap.size→S' b):SlS w S' a sz n cs :=
 ⟨h.1,fun hn=>by
  obtain⟨b,o,h1,h2,h3,h4⟩:=h.2 hn;exact⟨b,o,h1,hS b h2 h3,h3,h4⟩⟩
theorem SlS.none_ (w:World) (S:Nat→Prop) (a:Option Addr) (sz:Nat):SlS w S a sz 0 []:=⟨by simp,fun h=>by omega⟩
theorem SlS.sl {w:World} {S:Nat→Prop} {a:Option Addr} {sz n:Nat} {cs:List Value} (h:SlS w S a sz n cs):Sl w w.heap.size a sz n cs :=
 ⟨h.1,fun hn=>by
  obtain⟨b,o,h1,h2,h3,h4⟩:=h.2 hn;exact⟨b,o,h1,h3,h4⟩⟩
def rcells (rs:List (Str × Str)):List Value:=rs.flatMap fun r=>[.string ⟨(r.1).toArray⟩,.string ⟨(r.2).toArray⟩]
theorem rcells_length (rs:List (Str × Str)):(rcells rs).length=rs.length*2:=by
 induction rs with
 | nil=>rfl
 | cons r rs ih=>simp only [rcells,List.flatMap_cons,List.length_append] at *;rw [ih];simp;omega
theorem rcells_at {rs:List (Str × Str)} {k:Nat} {r:Str × Str} (h:rs[k]?=some r):(rcells rs)[k*2]?=some (.string ⟨(r.1).toArray⟩)∧(rcells rs)[k*2+1]?=some (.string ⟨(r.2).toArray⟩):=by
 induction rs generalizing k with
 | nil=>simp at h
 | cons g rs ih =>
  cases k with
  | zero=>simp at h;subst h;simp [rcells]
  | succ k =>
   simp only [List.getElem?_cons_succ] at h;obtain⟨h1,h2⟩:=ih h;simp only [rcells,List.flatMap_cons] at h1 h2 ⊢;refine⟨?_,?_⟩
   ·rw [List.getElem?_append_right (by simp;omega)];simpa [show (k+1)*2-2=k*2 by omega] using h1
   ·rw [List.getElem?_append_right (by simp;omega)];simpa [show (k+1)*2+1-2=k*2+1 by omega] using h2
theorem Sl.row {w:World} {B:Nat} {a:Option Addr} {n:Nat} {rs:List (Str × Str)} (h:Sl w B a 2 n (rcells rs)) {k:Nat} {r:Str × Str} (hk:rs[k]?=some r) :
  ∃b o,a=some ⟨b,o,none⟩∧b<B∧w.cell? ⟨b,o+k*2,none⟩=some (.string ⟨(r.1).toArray⟩)∧w.cell? ⟨b,o+k*2+1,none⟩=some (.string ⟨(r.2).toArray⟩):=by
 have hlt:=(List.getElem?_eq_some_iff.1 hk).1;have hn:n=rs.length:=by have:=h.1;rw [rcells_length] at this;omega
 obtain⟨b,o,h1,h2,h3⟩:=h.2 (by omega);obtain⟨c1,c2⟩:=rcells_at hk;exact⟨b,o,h1,h2,h3 _ _ c1,h3 _ _ c2⟩
theorem Sl.row_len {w:World} {B:Nat} {a:Option Addr} {n:Nat} {rs:List (Str × Str)} (h:Sl w B a 2 n (rcells rs)):n=rs.length:=by
 have:=h.1;rw [rcells_length] at this;omega
def rxc (k:Int) (c:Str) (ng:Bool) (ra:Option Addr) (rn rc:Nat) (lo hi:Int) (lz:Bool) (ka:Option Addr) (kn kc:Nat):List Value :=
 [.int .i64 k,.string ⟨(c).toArray⟩,.bool ng,.slice ra rn rc,.int .i64 lo,.int .i64 hi,.bool lz,.slice ka kn kc]
mutual
inductive RxV (w:World) (S:Nat→Prop):List Value→Rx→Prop
 | mk {k:Int} {c:Str} {ng:Bool} {rs:List (Str × Str)} {lo hi:Int} {lz:Bool} {ks:List Rx} {ra ka:Option Addr} {rc kc:Nat} {css:List (List Value)} :
   SlS w S ra 2 rs.length (rcells rs)→SlS w S ka 8 ks.length css.flatten→RxVs w S css ks→RxV w S (rxc k c ng ra rs.length rc lo hi lz ka ks.length kc) (.mk k c ng rs lo hi lz ks)
inductive RxVs (w:World) (S:Nat→Prop):List (List Value)→List Rx→Prop
 | nil:RxVs w S [] []
 | cons {c:List Value} {x:Rx} {cs:List (List Value)} {xs:List Rx}:RxV w S c x→RxVs w S cs xs→RxVs w S (c::cs) (x::xs)
end
mutual
theorem RxV.keep {w w':World} {S:Nat→Prop} (hk:Kept S w w'):∀{c:List Value} {x:Rx},RxV w S c x→RxV w' S c x
 | _,_,.mk h1 h2 h3=>.mk (h1.keep hk) (h2.keep hk) (RxVs.keep hk h3)
theorem RxVs.keep {w w':World} {S:Nat→Prop} (hk:Kept S w w'):∀{cs:List (List Value)} {xs:List Rx},RxVs w S cs xs→RxVs w' S cs xs
 | _,_,.nil=>.nil
 | _,_,.cons h1 h2=>.cons (RxV.keep hk h1) (RxVs.keep hk h2)
end
mutual
theorem RxV.mono {w:World} {S S':Nat→Prop} (hS:∀b,S b→b<w.heap.size→S' b):∀{c:List Value} {x:Rx},RxV w S c x→RxV w S' c x
 | _,_,.mk h1 h2 h3=>.mk (h1.mono hS) (h2.mono hS) (RxVs.mono hS h3)
theorem RxVs.mono {w:World} {S S':Nat→Prop} (hS:∀b,S b→b<w.heap.size→S' b):∀{cs:List (List Value)} {xs:List Rx},RxVs w S cs xs→RxVs w S' cs xs
 | _,_,.nil=>.nil
 | _,_,.cons h1 h2=>.cons (RxV.mono hS h1) (RxVs.mono hS h2)
end
theorem RxV.later {w w':World} {S:Nat→Prop} {c:List Value} {x:Rx} (h:RxV w S c x) (hb:Below w.heap.size w w'):RxV w' S c x:=h.keep (Kept.all hb)
theorem RxVs.later {w w':World} {S:Nat→Prop} {c:List (List Value)} {x:List Rx} (h:RxVs w S c x) (hb:Below w.heap.size w w'):RxVs w' S c x:=h.keep (Kept.all hb)
theorem RxV.len {w:World} {S:Nat→Prop} {c:List Value} {x:Rx} (h:RxV w S c x):c.length=8:=by cases h;rfl
theorem RxVs.length {w:World} {S:Nat→Prop}:∀{cs:List (List Value)} {xs:List Rx},RxVs w S cs xs→cs.length=xs.length
 | _,_,.nil=>rfl
 | _,_,.cons _ h=>by simp [h.length]
theorem RxVs.eights {w:World} {S:Nat→Prop}:∀{cs:List (List Value)} {xs:List Rx},RxVs w S cs xs→∀c∈cs,c.length=8
 | _,_,.nil,c,hc=>by simp at hc
 | _,_,.cons h1 h2,c,hc=>by
  rcases List.mem_cons.1 hc with rfl|hc
  ·exact h1.len
  ·exact h2.eights c hc
theorem RxVs.at_ {w:World} {S:Nat→Prop}:∀{cs:List (List Value)} {xs:List Rx},RxVs w S cs xs→∀{k:Nat} {x:Rx},xs[k]?=some x→∃c,cs[k]?=some c∧RxV w S c x
 | _,_,.nil,k,x,h=>by simp at h
 | _,_,.cons h1 h2,0,x,h=>by simp at h;subst h;exact⟨_,rfl,h1⟩
 | _,_,.cons h1 h2,k+1,x,h=>by simpa using h2.at_ (by simpa using h)
theorem RxVs.append {w:World} {S:Nat→Prop}:∀{cs ds:List (List Value)} {xs ys:List Rx},RxVs w S cs xs→RxVs w S ds ys→RxVs w S (cs++ds) (xs++ys)
 | _,_,_,_,.nil,h=>h
 | _,_,_,_,.cons h1 h2,h=>.cons h1 (h2.append h)
theorem flat_at {C:Nat}:∀{css:List (List Value)},(∀c∈css,c.length=C)→∀{k:Nat} {c:List Value},css[k]?=some c→∀{j:Nat} {u:Value},c[j]?=some u→css.flatten[k*C+j]?=some u
 | [],_,k,c,h,j,u,hj=>by simp at h
 | d::css,hC,0,c,h,j,u,hj=>by
  simp at h;subst h
  rw [List.flatten_cons,Nat.zero_mul,Nat.zero_add,List.getElem?_append_left (List.getElem?_eq_some_iff.1 hj).1];exact hj
 | d::css,hC,k+1,c,h,j,u,hj=>by
  have hd:=hC d (List.mem_cons_self ..);have ih:=flat_at (fun x hx=>hC x (List.mem_cons_of_mem _ hx)) (show css[k]?=some c by simpa using h) hj;rw [List.flatten_cons,List.getElem?_append_right (by rw [hd,Nat.succ_mul];omega),hd,show (k+1)*C+j-C=k*C+j by rw [Nat.succ_mul];omega];exact ih
def RxSl (w:World) (S:Nat→Prop) (a:Option Addr) (n:Nat) (xs:List Rx):Prop:=∃css,SlS w S a 8 n css.flatten∧RxVs w S css xs
theorem RxSl.keep {w w':World} {S:Nat→Prop} {a:Option Addr} {n:Nat} {xs:List Rx} (h:RxSl w S a n xs) (hk:Kept S w w'):RxSl w' S a n xs:=by
 obtain⟨css,h1,h2⟩:=h;exact⟨css,h1.keep hk,h2.keep hk⟩
theorem RxSl.later {w w':World} {S:Nat→Prop} {a:Option Addr} {n:Nat} {xs:List Rx} (h:RxSl w S a n xs) (hb:Below w.heap.size w w'):RxSl w' S a n xs:=h.keep (Kept.all hb)
theorem RxSl.mono {w:World} {S S':Nat→Prop} {a:Option Addr} {n:Nat} {xs:List Rx} (h:RxSl w S a n xs) (hS:∀b,S b→b<w.heap.size→S' b):RxSl w S' a n xs:=by
 obtain⟨css,h1,h2⟩:=h;exact⟨css,h1.mono hS,h2.mono hS⟩
theorem RxSl.len {w:World} {S:Nat→Prop} {a:Option Addr} {n:Nat} {xs:List Rx} (h:RxSl w S a n xs):n=xs.length:=by
 obtain⟨css,h1,h2⟩:=h;have h3:=h1.1;have h4:∀{cs:List (List Value)},(∀c∈cs,c.length=8)→cs.flatten.length=cs.length*8:=by
  intro cs;induction cs with
  | nil=>intro _;rfl
  | cons c cs ih=>intro h;rw [List.flatten_cons,List.length_append,ih (fun x hx=>h x (List.mem_cons_of_mem _ hx)),h c (List.mem_cons_self ..)];simp;omega
 rw [h4 h2.eights,h2.length] at h3;omega
theorem RxSl.at_ {w:World} {S:Nat→Prop} {a:Option Addr} {n:Nat} {xs:List Rx} (h:RxSl w S a n xs) {k:Nat} {x:Rx} (hk:xs[k]?=some x) :
  ∃b o c,a=some ⟨b,o,none⟩∧S b∧b<w.heap.size∧RxV w S c x∧∀(j:Nat) (u:Value),c[j]?=some u→w.cell? ⟨b,o+(k*8+j),none⟩=some u:=by
 have hn:=h.len;obtain⟨css,h1,h2⟩:=h;have hlt:=(List.getElem?_eq_some_iff.1 hk).1;obtain⟨b,o,e1,e2,e3,e4⟩:=h1.2 (by omega);obtain⟨c,hc,hv⟩:=h2.at_ hk;exact⟨b,o,c,e1,e2,e3,hv,fun j u hj=>e4 _ u (flat_at h2.eights hc hj)⟩
theorem RxSl.cells {w:World} {S:Nat→Prop} {a:Option Addr} {n:Nat} {xs:List Rx} (h:RxSl w S a n xs) {m:Nat} {k:Int} {c:Str} {ng:Bool} {rs:List (Str × Str)} {lo hi:Int} {lz:Bool} {ks:List Rx} (hk:xs[m]?=some (.mk k c ng rs lo hi lz ks)) :
  ∃b o ra rc ka kc,a=some ⟨b,o,none⟩∧S b∧b<w.heap.size∧SlS w S ra 2 rs.length (rcells rs)∧RxSl w S ka ks.length ks∧RxV w S (rxc k c ng ra rs.length rc lo hi lz ka ks.length kc) (.mk k c ng rs lo hi lz ks) ∧
   w.cell? ⟨b,o+m*8,none⟩=some (.int .i64 k)∧w.cell? ⟨b,o+m*8+1,none⟩=some (.string ⟨(c).toArray⟩)∧w.cell? ⟨b,o+m*8+2,none⟩=some (.bool ng)∧w.cell? ⟨b,o+m*8+3,none⟩=some (.slice ra rs.length rc) ∧
   w.cell? ⟨b,o+m*8+4,none⟩=some (.int .i64 lo)∧w.cell? ⟨b,o+m*8+5,none⟩=some (.int .i64 hi)∧w.cell? ⟨b,o+m*8+6,none⟩=some (.bool lz)∧w.cell? ⟨b,o+m*8+7,none⟩=some (.slice ka ks.length kc):=by
 obtain⟨b,o,cc,e1,e2,e3,hv,hc⟩:=h.at_ hk;cases hv with
 | mk h1 h2 h3 =>
  exact⟨b,o,_,_,_,_,e1,e2,e3,h1,⟨_,h2,h3⟩,.mk h1 h2 h3,hc 0 _ rfl,hc 1 _ rfl,hc 2 _ rfl,hc 3 _ rfl,hc 4 _ rfl,hc 5 _ rfl,hc 6 _ rfl,hc 7 _ rfl⟩
theorem RxV.open_ {w:World} {S:Nat→Prop} {cc:List Value} {k:Int} {c:Str} {ng:Bool} {rs:List (Str × Str)} {lo hi:Int} {lz:Bool} {ks:List Rx} (h:RxV w S cc (.mk k c ng rs lo hi lz ks)) :
  ∃ra rc ka kc,cc=rxc k c ng ra rs.length rc lo hi lz ka ks.length kc∧SlS w S ra 2 rs.length (rcells rs)∧RxSl w S ka ks.length ks:=by
 cases h with
 | mk h1 h2 h3=>exact⟨_,_,_,_,rfl,h1,_,h2,h3⟩
theorem RxV.close {w:World} {S:Nat→Prop} {k:Int} {c:Str} {ng:Bool} {rs:List (Str × Str)} {lo hi:Int} {lz:Bool} {ks:List Rx} {ra ka:Option Addr} {rc kc:Nat} (h1:SlS w S ra 2 rs.length (rcells rs)) (h2:RxSl w S ka ks.length ks) :
  RxV w S (rxc k c ng ra rs.length rc lo hi lz ka ks.length kc) (.mk k c ng rs lo hi lz ks):=by
 obtain⟨css,a,b⟩:=h2;exact .mk h1 a b
end Go.Proofs.YtbgcjpefocdkkaaGreat
set_option maxRecDepth 100000
namespace Go.Proofs.YtbgcjpefocdkkaaGreat
open Go.RowKit
def spanE (l:Str) (i:Nat):Nat:=i+1+((l.drop (i+1)).takeWhile insideB).length
theorem inside_any (c:Int) (w:World) :
  Calls Tryz.prog 103 #[.int .u8 c] w fun e w'=>e=.returned (.bool (decide (128≤c∧c≤191)))∧w=w':=by
 by_cases h:128≤c∧c≤191
 ·obtain⟨h1,h2⟩:=h
  have hR:decide (128≤c∧c≤191)=true:=by simp;omega
  rw [hR];clear hR;go_enter Tryz.func103,Tryz.ntmps103
  go_wp2
  go_ret
  exact⟨rfl,rfl⟩
 ·have hR:decide (128≤c∧c≤191)=false:=by simpa using h
  rw [hR];clear hR;go_enter Tryz.func103,Tryz.ntmps103
  go_wp2
  all_goals
   go_ret
   refine⟨ret_bool ?_,rfl⟩;simp<;>omega
theorem inside_c (c:UInt8) {b:Bool} (w:World) (h:insideB c=b) :
  Calls Tryz.prog 103 #[.int .u8 c.toNat] w fun e w'=>e=.returned (.bool b)∧w=w':=by
 refine(inside_any (c.toNat:Int) w).mono ?_
 rintro e w' ⟨rfl,rfl⟩;refine⟨ret_bool ?_,rfl⟩;rw [←h,Bool.eq_iff_iff];simp [insideB];omega
set_option maxHeartbeats 400000 in
theorem end_any (l:Str) (i:Nat) (w:World) (hi:i≤100000000) (hs:l.length≤100000000) :
  Calls Tryz.prog 102 #[.string ⟨(l).toArray⟩,.int .i64 i] w fun e w'=>e=.returned (.int .i64 (spanE l i))∧w=w':=by
 generalize hR:spanE l i=R
 have HR:=Lib.hid hR;clear hR;have HR0:Hid (i+1+0+((l.drop (i+1+0)).takeWhile insideB).length=R):=HR;clear HR;go_enter Tryz.func102,Tryz.ntmps102
 go_wp2
 go_loop [1] (fun q=>∃k:Nat,k≤l.length∧q=.int .i64 ((i+1+k:Nat):Int)∧Hid (i+1+k+((l.drop (i+1+k)).takeWhile insideB).length=R)) (fun q=>l.length-(intOf q).toNat)
 case atStart=>exact⟨0,by omega,by go_num,HR0⟩
 case round =>
  obtain⟨k,hk,rfl,HF⟩:=hrel;clear HR0;cases hd:l.drop (i+1+k) with
  | nil =>
   have h2:=drop_nil hd;have HE:Hid (i+1+k=R):=Lib.hid (by rw [←HF.out,hd];rfl);clear hd HF;go_wp2
   go_ret
   exact⟨ret_int (by rw [←HE.out];omega),rfl⟩
  | cons c r =>
   obtain⟨h2,h3,hr⟩:=drop_cons hd;have HE:Hid (i+1+k+((c::r).takeWhile insideB).length=R):=Lib.hid (by rw [←HF.out,hd]);have Hr:=Lib.hid hr;clear hd HF hr;cases hc:insideB c with
   | true =>
    go_wp2_with (go_at_call 103;refine(inside_c c _ hc).mono ?_;rintro e w1 ⟨rfl,rfl⟩)
    go_round
    case rel =>
     refine⟨k+1,by omega,by go_num,Lib.hid ?_⟩;rw [show i+1+(k+1)=i+1+k+1 from rfl,Hr.out,←HE.out,List.takeWhile_cons_of_pos hc];simp;omega
    case measure=>simp [intOf];omega
   | false =>
    go_wp2_with (go_at_call 103;refine(inside_c c _ hc).mono ?_;rintro e w1 ⟨rfl,rfl⟩)
    go_ret
    refine⟨ret_int ?_,rfl⟩;rw [←HE.out,List.takeWhile_cons_of_neg (by simp [hc])];simp
theorem takeWhile_all:∀r:Str,((r.takeWhile insideB).length=r.length)↔r.all insideB=true
 | []=>by simp
 | c::r=>by
  have ih:=takeWhile_all r;cases hc:insideB c with
  | true=>rw [List.takeWhile_cons_of_pos hc];simp only [List.length_cons,List.all_cons,hc,Bool.true_and,←ih];omega
  | false=>rw [List.takeWhile_cons_of_neg (by simp [hc])];simp [hc]
theorem Proper_any (l:Str) (w:World) (hs:l.length≤100000000) :
  Calls Tryz.prog 88 #[.string ⟨(l).toArray⟩] w fun e w'=>e=.returned (.bool (properB l))∧w=w':=by
 cases l with
 | nil =>
  go_enter Tryz.func88,Tryz.ntmps88
  go_wp2
  go_ret
  exact⟨rfl,rfl⟩
 | cons c r =>
  have hE:spanE (c::r) 0=1+(r.takeWhile insideB).length:=by simp [spanE]
  have hta:=takeWhile_all r;obtain⟨E,hE2⟩:∃E,spanE (c::r) 0=E:=⟨_,rfl⟩;have HE:=Lib.hid hE;have HTA:=Lib.hid hta;clear hE hta;cases hc:insideB c with
  | true =>
   have hP:properB (c::r)=false:=by simp [properB,hc]
   rw [hP];clear hP hE2;go_enter Tryz.func88,Tryz.ntmps88
   go_wp2_with (go_at_call 103;refine(inside_c c _ hc).mono ?_;rintro e w1 ⟨rfl,rfl⟩)
   go_ret
   exact⟨rfl,rfl⟩
  | false =>
   have hP:properB (c::r)=decide ((E:Int)=((c::r).length:Int)):=by
    rw [Bool.eq_iff_iff,decide_eq_true_eq,←hE2,HE.out];simp only [properB,hc,Bool.not_false,Bool.true_and,←HTA.out,List.length_cons];omega
   have HP:=Lib.hid hP;have HE2:=Lib.hid hE2;clear hP hE2;rw [HP.out];go_enter Tryz.func88,Tryz.ntmps88
   go_wp2_with (first|(go_at_call 103;refine(inside_c c _ hc).mono ?_;rintro e w1 ⟨rfl,rfl⟩)|(go_at_call 102;refine(end_any (c::r) 0 _ (by omega) hs).mono ?_;rintro e w1 ⟨rfl,rfl⟩;rw [HE2.out]))
   go_ret
   refine⟨ret_bool ?_,rfl⟩;rw [Bool.eq_iff_iff];simp
set_option maxHeartbeats 400000 in
theorem row_any (f t:Str) (w:World) (hf:f.length≤100000000) (ht:t.length≤100000000) :
  Calls Tryz.prog 125 #[.agg #[.string ⟨(f).toArray⟩,.string ⟨(t).toArray⟩]] w fun e w'=>e=.returned (.bool (rowB (f,t)))∧Below w.heap.size w w':=by
 generalize hR:rowB (f,t)=R
 have HR:=Lib.hid hR;clear hR;cases h1:properB f with
 | false =>
  have HE:Hid (R=false):=Lib.hid (by rw [←HR.out];simp [rowB,h1]);go_enter Tryz.func125,Tryz.ntmps125
  go_wp2_with (go_at_call 88;refine(Proper_any _ _ (by omega)).mono ?_;rintro e w1 ⟨rfl,rfl⟩)
  go_ret
  exact⟨ret_bool HE.out.symm,(Below.refl _ _).alloc (Nat.le_refl _) _⟩
 | true =>
  cases h2:properB t with
  | false =>
   have HE:Hid (R=false):=Lib.hid (by rw [←HR.out];simp [rowB,h2]);go_enter Tryz.func125,Tryz.ntmps125
   go_wp2_with (go_at_call 88;refine(Proper_any _ _ (by omega)).mono ?_;rintro e w1 ⟨rfl,rfl⟩)
   go_ret
   exact⟨ret_bool HE.out.symm,(Below.refl _ _).alloc (Nat.le_refl _) _⟩
  | true =>
   have HE:Hid (R=leS f t):=Lib.hid (by rw [←HR.out];simp [rowB,h1,h2]);go_enter Tryz.func125,Tryz.ntmps125
   go_wp2_with (go_at_call 88;refine(Proper_any _ _ (by omega)).mono ?_;rintro e w1 ⟨rfl,rfl⟩)
   go_ret
   exact⟨ret_bool (by rw [HE.out]),(Below.refl _ _).alloc (Nat.le_refl _) _⟩
end Go.Proofs.YtbgcjpefocdkkaaGreat
set_option maxRecDepth 100000
namespace Go.Proofs.YtbgcjpefocdkkaaGreat
open Go.RowKit
structure ExtOf (w:World) where
 val:World
 ext:Below w.heap.size w val
instance (w:World):Nonempty (ExtOf w):=⟨⟨w,Below.refl _ _⟩⟩
theorem wp_region_ext {P:Program} {id:Nat} {Q:Exit→Act→World→Prop} {a:Act} {w:World} {l:List Oper} (hm:P.follows .mixedOrders=true) (hB:Region.lexB .any l.toArray=true)
  (h:wpQuiet P l.toArray (fun w'=>∃x:ExtOf w,w'=x.val) (fun a'=>∀w',(∃x:ExtOf w,w'=x.val)→Q .normal a' w') l a):(Code.region id l.toArray true).wp P Q a w :=
 wp_region_quiet (C:=fun w'=>∃x:ExtOf w,w'=x.val) hm hB ⟨⟨w.drew,(Below.refl _ _).drew⟩,rfl⟩ (by simpa using h)
theorem ext_call {P:Program} {f:FuncId} {args:Array Value} {w:World} {x:ExtOf w} {v:Value} (h:Calls P f args x.val fun e w'=>e=.returned v∧Below x.val.heap.size x.val w') :
  Calls P f args x.val fun e w''=>e=.returned v∧∃y:ExtOf w,w''=y.val :=
 h.mono fun _ w' ⟨he,hb⟩=>⟨he,⟨w',x.ext.trans (hb.mono x.ext.size)⟩,rfl⟩
theorem ExtOf.cell {w:World} {a:Addr} {u:Value} (h:w.cell? a=some u) (x:ExtOf w):x.val.cell? a=some u :=
 (x.ext.cell (World.block_lt_of_cell? w a h)).trans h
end Go.Proofs.YtbgcjpefocdkkaaGreat
set_option maxRecDepth 100000
namespace Go.Proofs.YtbgcjpefocdkkaaGreat
open Go.RowKit
theorem row_eq {f t:Str} {b:Bool} (w:World) (h:rowB (f,t)=b) (hf:f.length≤100000000) (ht:t.length≤100000000) :
  Calls Tryz.prog 125 #[.agg #[.string ⟨(f).toArray⟩,.string ⟨(t).toArray⟩]] w fun e w'=>e=.returned (.bool b)∧Below w.heap.size w w':=by
 subst h;exact row_any f t w hf ht
def MayRel (rs:List (Str × Str)) (R:Bool) (w:World) (q:Value) (wr:World):Prop :=
 ∃(k:Nat) (p:Option Str),k≤rs.length∧q=.int .i64 k∧Below w.heap.size w wr∧Hid ((k=0∧p=none)∨∃j r,k=j+1∧rs[j]?=some r∧p=some r.2)∧Hid (rowsL p (rs.drop k)=R)
set_option maxHeartbeats 1000000 in
theorem RowsMay_any (a:Option Addr) (n c:Nat) (rs:List (Str × Str)) (w:World) (h:Sl w w.heap.size a 2 n (rcells rs)) (hn:n≤100000000) (hsz:∀r∈rs,r.1.length≤100000000∧r.2.length≤100000000) :
  Calls Tryz.prog 116 #[.slice a n c] w fun e w'=>e=.returned (.bool (rowsB rs))∧Below w.heap.size w w':=by
 obtain rfl:=h.row_len;generalize hR:rowsB rs=R
 have HR:=Lib.hid hR;clear hR;have HR0:Hid (rowsL none (rs.drop 0)=R):=HR;have HSl:=Lib.hid h;have HSz:=Lib.hid hsz;clear HR h hsz;go_enter Tryz.func116,Tryz.ntmps116
 go_wp2
 go_loopw [7] (fun q wr=>MayRel rs R w q wr) (fun q _=>rs.length-(intOf q).toNat)
 case atStart=>exact⟨0,none,by omega,rfl,Below.refl _ _,Lib.hid (.inl ⟨rfl,rfl⟩),HR0⟩
 case round =>
  obtain⟨k,p,hk,rfl,hb,HP,HF⟩:=hrel;clear HR0;have hB:=hb.size;cases hd:rs.drop k with
  | nil =>
   have h2:rs.length≤k:=by simpa using hd
   have HE:Hid (R=true):=Lib.hid (by rw [←HF.out,hd];rfl);clear hd HF;go_wp2
   go_ret
   exact⟨ret_bool HE.out.symm,hb⟩
  | cons r0 r =>
   obtain⟨h2,h3,hr⟩:=ldrop_cons hd;have HF':Hid (rowsL p (r0::r)=R):=Lib.hid (by rw [←HF.out,hd]);have Hr:=Lib.hid hr;obtain⟨b,o,rfl,hbB,c0,c1⟩:=(HSl.out.keep hb).row h3;obtain⟨z1,z2⟩:=HSz.out r0 (List.mem_of_getElem? h3);have HE3:=Lib.hid h3;obtain⟨f,t⟩:=r0;replace z1:f.length≤100000000:=z1;replace z2:t.length≤100000000:=z2;clear hd HF hr h3;have e0:∀x:ExtOf (wr.alloc (.cells #[.string ⟨(f).toArray⟩,.string ⟨(t).toArray⟩] 103)),x.val.cell? ⟨wr.heap.size,0,none⟩=some (.string ⟨(f).toArray⟩):=ExtOf.cell (by simp);have e1:∀x:ExtOf (wr.alloc (.cells #[.string ⟨(f).toArray⟩,.string ⟨(t).toArray⟩] 103)),x.val.cell? ⟨wr.heap.size,1,none⟩=some (.string ⟨(t).toArray⟩):=ExtOf.cell (by simp);cases hB1:rowB (f,t) with
   | false =>
    have HB:=Lib.hid hB1;have HE:Hid (R=false):=Lib.hid (by rw [←HF'.out];simp only [rowsL];rw [HB.out];rfl);clear hB1;go_wp2
    refine wp_region_ext (by kernel_rfl) (by kernel_rfl) ?_;repeat (go_big_quiet_step (((go_at_call 125;exact ext_call (row_eq _ HB.out (by omega) (by omega))))))
    refine wpQuiet_nil ?_;rintro _ ⟨xq,rfl⟩;go_wp2
    go_ret
    exact⟨ret_bool HE.out.symm,(hb.alloc hB _).trans (xq.ext.mono (by simp;omega))⟩
   | true =>
    have HB:=Lib.hid hB1;clear hB1;rcases HP.out with⟨hk0,hp0⟩|⟨j,r',hkj,hj,hpj⟩
    ·have hk0':decide (0<k)=false:=by rw [decide_eq_false_iff_not];omega
     have HL:Hid (p=none):=Lib.hid hp0;clear hk0 hp0;go_wp2
     refine wp_region_ext (by kernel_rfl) (by kernel_rfl) ?_;repeat (go_big_quiet_step (((go_at_call 125;exact ext_call (row_eq _ HB.out (by omega) (by omega))))))
     refine wpQuiet_nil ?_;rintro _ ⟨xq,rfl⟩;go_wp2
     go_roundw
     case rel=>exact⟨k+1,some t,by omega,by go_num,(hb.alloc hB _).trans (xq.ext.mono (by simp;omega)),Lib.hid (.inr ⟨k,(f,t),rfl,HE3.out,rfl⟩),Lib.hid (by rw [Hr.out,←HF'.out];simp only [rowsL];rw [HB.out];simp [HL.out])⟩
     case measure=>simp [intOf];omega
    ·obtain⟨b',o',hab,_,d0,d1⟩:=(HSl.out.keep hb).row hj
     obtain⟨rfl,rfl⟩:b=b'∧o=o':=by simpa using hab
     obtain⟨f',t'⟩:=r';have HPJ:=Lib.hid hpj;subst hkj;clear hj hpj hab;have d2:∀x:ExtOf (wr.alloc (.cells #[.string ⟨(f).toArray⟩,.string ⟨(t).toArray⟩] 103)),x.val.cell? ⟨b,o+j*2+1,none⟩=some (.string ⟨(t').toArray⟩):=ExtOf.cell (by rw [World.cell?_alloc_lt _ _ _ (by simp;omega)];exact d1);have d1':(wr.alloc (.cells #[.string ⟨(f).toArray⟩,.string ⟨(t).toArray⟩] 103)).cell? ⟨b,o+j*2+1,none⟩=some (.string ⟨(t').toArray⟩):=by
      rw [World.cell?_alloc_lt _ _ _ (by simp;omega)];exact d1
     go_wp2
     refine wp_region_ext (by kernel_rfl) (by kernel_rfl) ?_;repeat (go_big_quiet_step (((go_at_call 125;exact ext_call (row_eq _ HB.out (by omega) (by omega))))))
     refine wpQuiet_nil ?_;rintro _ ⟨xq,rfl⟩;cases hL1:leS f t' with
     | true =>
      have HE:Hid (R=false):=Lib.hid (by rw [←HF'.out,HPJ.out];simp only [rowsL];rw [HB.out,hL1];rfl);go_wp2
      go_ret
      exact⟨ret_bool HE.out.symm,(hb.alloc hB _).trans (xq.ext.mono (by simp;omega))⟩
     | false =>
      have HL:=Lib.hid hL1;go_wp2
      go_roundw
      case rel=>exact⟨j+1+1,some t,by omega,by go_num,(hb.alloc hB _).trans (xq.ext.mono (by simp;omega)),Lib.hid (.inr ⟨j+1,(f,t),rfl,HE3.out,rfl⟩),Lib.hid (by rw [Hr.out,←HF'.out,HPJ.out];simp only [rowsL];rw [HB.out,HL.out];rfl)⟩
      case measure=>simp [intOf];omega
end Go.Proofs.YtbgcjpefocdkkaaGreat
