/- Small laws on strings told as lists of bytes, on rows that a call owns, and on worlds; nothing of the program's own but the numbers of its types. -/
import Derived.Test.YtdcnncgpomcaaaaGreatDoorRc0
import Derived.Test.YtdcnncgpomcaaaaGreatDoorProg
import Derived.Lib.Bytealg
set_option maxRecDepth 100000
set_option maxHeartbeats 4000000
namespace Go.Proofs.YtdcnncgpomcaaaaGreatDoor
open Go.RowKit
@[simp,go_sem] theorem ba_get (l:List UInt8) (i:Nat) (h:i<(ByteArray.mk l.toArray).size):(ByteArray.mk l.toArray)[i]'h=l[i]'(by exact h):=by
 simp [ByteArray.getElem_eq_getElem_data]
@[simp,go_sem] theorem ba_toList (l:List UInt8):(ByteArray.mk l.toArray).toList=l:=by rw [ByteArray.toList_eq]
@[simp,go_sem] theorem ba_append (l r:List UInt8):ByteArray.mk l.toArray++ByteArray.mk r.toArray=ByteArray.mk (l++r).toArray:=by
 apply ByteArray.ext;simp
@[simp,go_sem] theorem yW (l:List UInt8):(ByteArray.mk l.toArray).size=l.length:=rfl
@[simp,go_sem] theorem FG (l:List UInt8) (i j:Nat):(ByteArray.mk l.toArray).extract i j=ByteArray.mk ((l.drop i).take (j-i)).toArray:=by
 apply ByteArray.ext;simp [ByteArray.data_extract]
@[simp,go_sem] theorem ba_extract_end (l:List UInt8) (i:Nat):(ByteArray.mk l.toArray).extract i l.length=ByteArray.mk (l.drop i).toArray:=by
 rw [FG,List.take_of_length_le gU]
@[simp,go_sem] theorem take_drop_all (l:List UInt8) (i:Nat):(l.drop i).take (l.length-i)=l.drop i:=List.take_of_length_le gU
theorem ba_of (s:ByteArray):s=ByteArray.mk s.data.toList.toArray:=by simp
theorem lG {l r:List UInt8} {i:Nat} {c:UInt8} (h:l.drop i=c::r):i<l.length∧(∀hi:i<l.length,l[i]'hi=c)∧l.drop (i+1)=r:=by
 have hi:i<l.length:=by
  exact cR
 rw [List.drop_eq_getElem_cons hi] at h;injection h with h1 h2
 exact⟨hi,fun _=>h1,h2⟩
theorem ms {l:List UInt8} {i:Nat} (h:l.drop i=[]):l.length≤i:=by simpa using h
theorem u8_lt (c:UInt8):c.toNat<256:=c.toNat_lt
theorem pre1 (k c:UInt8) (r:List UInt8):List.isPrefixOf [k] (c::r)=decide (c.toNat=k.toNat):=by
 rw [Bool.eq_iff_iff];simp only [List.isPrefixOf,Jh,Ji,Jj,←Jk];exact eq_comm
abbrev Str:=List UInt8
def mt (l:Str):List Value:=l.map fun c=>.int .u8 c.toNat
theorem Ac (l:Str):(mt l).length=l.length:=by simp [mt]
theorem qP:(Tryz.prog.info? 5).map (fun i=>(i.zero,i.size,i.bytes))=some (some (.int .u8 0),1,1):=by kernel_rfl
theorem Iv {P:Program} {w:World} {o:Oper} {a:Act} {K:Act→World→Prop} {Q:Exit→Act→World→Prop} (B:Nat) (e:TypeId) {cs:Array Value} {m:Nat × Nat} (s x:Operand) (t:TypeId)
  (ho:o.op=.call { callee:=.builtin .append,args:=#[s,x],argTypes:=#[t,t] })
  {i:TypeInfo} {z:Value} {size bytes:Nat} (ht:P.underlying t=some (.slice e)) (hinf:P.info? e=some i∧i.zero=some z∧i.size=size∧i.bytes=bytes)
  (hzs:z.cells.size=size) (hsz:0<size)
  {v:Value} {n:Nat} {xs:List Value} (hs:a.eval s=v) (hown:w.ownsRow B e size v n xs)
  {g:Nat} (hx:a.eval x=.slice (some ⟨g,0,none⟩) 1 1) (hgz:g=w.heap.size) (hl:cs.size=size) (h1:∀u∈cs.toList,u.oneCell'=true)
  (hn:n≤100000000) (hb:bytes≤1000) (hB:B≤w.heap.size)
  (h:∀v' w',w'.ownsRow B e size v' (n+1) (xs++cs.toList)→w.grownBy w' v.ownBlock→Below B w w'→v'≠.slice none 0 0→K (a.put o.dst v') w') :
  o.wp P a (w.alloc (.cells cs e m)) K Q:=by
 subst hgz;obtain⟨hi,hz0,hz1,hz2⟩:=hinf;refine wp_append_own (P:=P) (w.alloc (.cells cs e m)) s x t ho B e i z size bytes ht hi hz0 hz1 hz2 hzs hsz v n xs hs (hown.alloc _) ⟨w.heap.size,0,none⟩ 1 1 cs.toList hx jU ?_ h1 (by simp only [maxLen];omega) ?_ gV ?_
 ·intro j u hu
  have hadd:(⟨w.heap.size,0,none⟩:Addr).add j=⟨w.heap.size,j,none⟩:=by unfold Addr.add;split<;>simp_all
  rw [hadd,cell_of_row _ w.heap.size j cs e m (heap_alloc_new w _)];simpa using hu
 ·have:(n+1)*bytes≤(100000000+1)*1000:=Nat.mul_le_mul gN hb
  omega
 ·intro v' w' h2 h3 h4
  have hg:w.grownBy w' v.ownBlock:=by
   refine⟨h3.os,h3.tape,h3.output,by have:=h3.size;simp at this;omega,fun k hk hne=>?_⟩;rw [h3.block k gV hne];exact Below.heap_alloc w _ k hk
  refine h v' w' h2 hg ?_ (fun hv=>by have:=(h4.1 hv).2;omega);exact((Below.refl B w).grown hg hB fun k hk=>(hown.lt k hk).1)
theorem mA {P:Program} {w:World} {ops:Array Oper} {rest:List Oper} {o:Oper} {a:Act} {Q:Exit→Act→World→Prop} (B:Nat) (e:TypeId) {cs:Array Value} {m:Nat × Nat} (hgd:o.guard=none) (s x:Operand) (t:TypeId)
  (ho:o.op=.call { callee:=.builtin .append,args:=#[s,x],argTypes:=#[t,t] })
  {i:TypeInfo} {z:Value} {size bytes:Nat} (ht:P.underlying t=some (.slice e)) (hinf:P.info? e=some i∧i.zero=some z∧i.size=size∧i.bytes=bytes)
  (hzs:z.cells.size=size) (hsz:0<size)
  {v:Value} {n:Nat} {xs:List Value} (hs:a.eval s=v) (hown:w.ownsRow B e size v n xs)
  {g:Nat} (hx:a.eval x=.slice (some ⟨g,0,none⟩) 1 1) (hgz:g=w.heap.size) (hl:cs.size=size) (h1:∀u∈cs.toList,u.oneCell'=true)
  (hn:n≤100000000) (hb:bytes≤1000) (hB:B≤w.heap.size)
  (h:∀v' w',w'.ownsRow B e size v' (n+1) (xs++cs.toList)→w.grownBy w' v.ownBlock→Below B w w'→v'≠.slice none 0 0→wpList P ops Q rest (a.put o.dst v') w') :
  wpList P ops Q (o::rest) a (w.alloc (.cells cs e m)) :=
 wpList_plain hgd fun _ hK=>Iv B e s x t ho ht hinf hzs hsz hs hown hx hgz hl h1 hn hb hB fun v' w' a1 a2 a3 a4=>hK _ _ (h v' w' a1 a2 a3 a4)
theorem qw {P:Program} {w W:World} {ops:Array Oper} {o:Oper} {a:Act} {K:Act→World→Prop} {Q:Exit→Act→World→Prop} {E:Prop} (B:Nat) (e:TypeId) {cs:Array Value} {m:Nat × Nat} (hW:W=w.alloc (.cells cs e m)) (hgd:o.guard=none) (s x:Operand) (t:TypeId)
  (ho:o.op=.call { callee:=.builtin .append,args:=#[s,x],argTypes:=#[t,t] })
  {i:TypeInfo} {z:Value} {size bytes:Nat} (ht:P.underlying t=some (.slice e)) (hinf:P.info? e=some i∧i.zero=some z∧i.size=size∧i.bytes=bytes)
  (hzs:z.cells.size=size) (hsz:0<size)
  {v:Value} {n:Nat} {xs:List Value} (hs:a.eval s=v) (hown:w.ownsRow B e size v n xs)
  {g:Nat} (hx:a.eval x=.slice (some ⟨g,0,none⟩) 1 1) (hgz:g=w.heap.size) (hl:cs.size=size) (h1:∀u∈cs.toList,u.oneCell'=true)
  (hn:n≤100000000) (hb:bytes≤1000) (hB:B≤w.heap.size)
  (h:∀v' w',w'.ownsRow B e size v' (n+1) (xs++cs.toList)→w.grownBy w' v.ownBlock→Below B w w'→v'≠.slice none 0 0→K (a.put o.dst v') w') :
  if Region.wanted o (yielded ops a.tmps)=true then Oper.wp P o a W K Q else E:=by
 subst hW;have hw:Region.wanted o (yielded ops a.tmps)=true:=by simp [Region.wanted,hgd]
 rw [Jl hw];exact Iv B e s x t ho ht hinf hzs hsz hs hown hx hgz hl h1 hn hb hB h
theorem oN {P:Program} {w:World} {B:Nat} {src e dst:TypeId} (hs:P.underlying src=some (.slice e)) (he:P.underlying e=some (.int .u8)) (hd:P.underlying dst=some .string)
  {v:Value} {l:Str} {n:Nat} (h:w.ownsRow B e 1 v n (mt l)):(convert src dst v).run P w=.ok (.string ⟨l.toArray⟩) w:=by
 have hn:n=l.length:=by have:=h.1;rw [Ac] at this;omega
 subst hn;rcases h.2 with⟨rfl,h0⟩|⟨g,cap,cur,rfl,hb,hg,hnc,hcm,hcs,htake⟩
 ·have hl:l=[]:=Jm h0
  subst hl;exact run_convert_bytes_nil w src e hs he 0 0 dst hd
 ·refine run_convert_bytes_back w src dst e ⟨g,0,none⟩ cap l hs he hd fun j hj=>?_
  have:=h.cells (g:=g) rfl j (.int .u8 (l[j].toNat)) (by simp [mt,List.getElem?_map,Jn hj])
  exact this
theorem lM {a b:Bool} (h:a=b):Ending.returned (.bool a)=.returned (.bool b):=by rw [h]
theorem nA {k:IntKind} {a b:Int} (h:a=b):Ending.returned (.int k a)=.returned (.int k b):=by rw [h]
theorem ue {a b:Str} (h:a=b):Ending.returned (.string ⟨a.toArray⟩)=.returned (.string ⟨b.toArray⟩):=by rw [h]
theorem lD {w:World} {B:Nat} {e:TypeId} {sz:Nat} {v:Value} {n:Nat} {xs:List Value} (h:w.ownsRow B e sz v n xs):∃a c,v=.slice a n c:=by
 rcases h.2 with⟨rfl,rfl⟩|⟨g,cap,cur,rfl,_⟩
 ·exact⟨_,_,rfl⟩
 ·exact⟨_,_,rfl⟩
def upB (c:UInt8):UInt8:=if 97≤c.toNat∧c.toNat≤122 then c-32 else c
def lowB (c:UInt8):UInt8:=if 65≤c.toNat∧c.toNat≤90 then c+32 else c
def wordBF (c:UInt8):Bool:=decide ((97≤c.toNat∧c.toNat≤122)∨(65≤c.toNat∧c.toNat≤90)∨(48≤c.toNat∧c.toNat≤57)∨128≤c.toNat)
def E0 (small:Bool):Bool→Str→Str→Str
 | _,[],acc=>acc
 | pw,c::r,acc=>if wordBF c=true then(if pw=true then E0 small true r (acc++[c]) else if small=true∧acc=[] then E0 small true r (acc++[lowB c]) else E0 small true r (acc++[upB c])) else E0 small false r acc
def capB:Str→Str
 | []=>[]
 | c::r=>upB c::r
def turn (s:Str) (way:Int):Str × Int :=
 if way=1 then(s.map upB,0) else if way=2 then(s.map lowB,0) else if way=3 then(capB s,0) else if way=4 then(E0 true false s [],0) else if way=5 then(E0 false false s [],0) else([],2)
def n1:Str:=[117,112,99,97,115,101]
def n2:Str:=[100,111,119,110,99,97,115,101]
def n3:Str:=[99,97,112,105,116,97,108,105,122,101]
def n4:Str:=[99,97,109,101,108,99,97,115,101]
def n5:Str:=[112,97,115,99,97,108,99,97,115,101]
def nO (way:Int):Str:=if way=1 then n1 else if way=2 then n2 else if way=3 then n3 else if way=4 then n4 else if way=5 then n5 else []
def qQ (s:Str):Int:=if s=n1 then 1 else if s=n2 then 2 else if s=n3 then 3 else if s=n4 then 4 else if s=n5 then 5 else 0
theorem tO (way:Int):(nO way).length≤10:=by
 unfold nO;(repeat' split)<;>decide
theorem Hj {s:Str} {k:Int} (h1:1≤k) (h5:k≤5) (h:nO k=s):qQ s=k:=by
 have hk:k=1∨k=2∨k=3∨k=4∨k=5:=gN;subst h;rcases hk with rfl|rfl|rfl|rfl|rfl<;>decide
theorem FS {s:Str} (h:∀j:Int,1≤j→j<6→nO j≠s):qQ s=0:=by
 unfold qQ;rw [Jo (fun e=>h 1 gN gN e.symm),Jo (fun e=>h 2 gN gN e.symm),Jo (fun e=>h 3 gN gN e.symm),Jo (fun e=>h 4 gN gN e.symm),Jo (fun e=>h 5 gN gN e.symm)]
def nf:Str→Nat→Nat→Option (Nat × Str)
 | [],k,n=>if 0<k then some (n,[]) else none
 | c::r,k,n=>if 48≤c.toNat∧c.toNat≤57 then(if k=4 then none else nf r (k+1) (10*n+(c.toNat-48))) else if 0<k then some (n,c::r) else none
def oC (r:Str):Option (Nat × Str):=nf r 0 0
def qX (r these:Str):Bool:=match r with|[]=>false|c::_=>these.contains c
def four:Str:=[36,125,92,47]
def five:Str:=[36,125,92,47,58]
def lH (one:Int):Str→Str→Option (Str × Str)
 | [],_=>none
 | [c],t=>if c.toNat=one.toNat then some (t,[c]) else none
 | c::d::r,t=>if c.toNat=one.toNat then some (t,c::d::r) else if c.toNat=92∧five.contains d=true then lH one r (t++[d]) else lH one (d::r) (t++[c])
structure Fm where
 kind:Int
 n:Int
 cse:Int
 thn:Str
 els:Str
deriving DecidableEq
def mV (d:UInt8):Bool:=decide (d.toNat≠125)
def mo (r:Str) (n:Nat):Option (Fm × Str) :=
 match r with
 | []=>none
 | c::r' =>
  if c.toNat=47 then
   (match r'.dropWhile mV with
    | []=>none
    | _::r2=>if qQ (r'.takeWhile mV)=0 then none else some (⟨2,n,qQ (r'.takeWhile mV),[],[]⟩,r2))
  else if c.toNat=43 then
   (match lH 125 r' [] with
    | some (t,_::r2)=>some (⟨3,n,0,t,[]⟩,r2)
    | _=>none)
  else if c.toNat=63 then
   (match lH 58 r' [] with
    | some (t,_::r2) =>
     (match lH 125 r2 [] with
     | some (u,_::r3)=>some (⟨5,n,0,t,u⟩,r3)
     | _=>none)
    | _=>none)
  else if c.toNat=45 then
   (match lH 125 r' [] with
    | some (t,_::r2)=>some (⟨4,n,0,[],t⟩,r2)
    | _=>none)
  else
   (match lH 125 (c::r') [] with
    | some (t,_::r2)=>some (⟨4,n,0,[],t⟩,r2)
    | _=>none)
def uf (n:Nat):Str→Option (Fm × Str)
 | []=>none
 | d::r3=>if d.toNat=125 then some (⟨1,n,0,[],[]⟩,r3) else if d.toNat=58 then mo r3 n else none
def Cq:Str→Option (Fm × Str)
 | []=>none
 | c::r1=>if c.toNat=123 then(match oC r1 with|none=>none|some p=>uf p.1 p.2) else none
def o6 (r:Str):Option (Fm × Str) :=
 match oC r with
 | some p=>some (⟨1,p.1,0,[],[]⟩,p.2)
 | none=>Cq r
theorem nZ (one:Int):∀(r t:Str) {u s:Str},lH one r t=some (u,s)→∃c s',s=c::s'∧c.toNat=one.toNat
 | [],t,u,s,h=>by simp [lH] at h
 | [c],t,u,s,h=>by
  simp only [lH] at h;split at h
  ·rename_i hc;simp at h;exact⟨c,[],h.2.symm,hc⟩
  ·cases h
 | c::d::r,t,u,s,h=>by
  simp only [lH] at h;split at h
  ·rename_i hc;simp at h;exact⟨c,d::r,h.2.symm,hc⟩
  ·split at h
   ·exact nZ one r _ h
   ·exact nZ one (d::r) _ h
theorem Ei:∀(r:Str) (k n:Nat) {m:Nat} {s:Str},nf r k n=some (m,s)→s.length≤r.length∧(k=0→s.length<r.length)
 | [],k,n,m,s,h=>by
  simp only [nf] at h;exact dW
 | c::r,k,n,m,s,h=>by
  simp only [nf] at h;split at h
  ·split at h
   ·cases h
   ·have:=Ei r (k+1) _ h;simp;omega
  ·exact dW
theorem vl {r:Str} {m:Nat} {s:Str} (h:oC r=some (m,s)):s.length<r.length:=(Ei r 0 0 h).2 rfl
theorem qx (one:Int):∀(r t:Str) {u s:Str},lH one r t=some (u,s)→s.length≤r.length
 | [],t,u,s,h=>by simp [lH] at h
 | [c],t,u,s,h=>by
  simp only [lH] at h;split at h
  ·simp at h;rw [←h.2];simp
  ·cases h
 | c::d::r,t,u,s,h=>by
  simp only [lH] at h;split at h
  ·simp at h;rw [←h.2];simp
  ·split at h
   ·have:=qx one r _ h;simp;omega
   ·have:=qx one (d::r) _ h;simp at *;omega
theorem vy {r:Str} {n:Nat} {f:Fm} {s:Str} (h:mo r n=some (f,s)):s.length<r.length:=by
 cases r with
 | nil=>cases h
 | cons c r =>
  simp only [mo] at h;split at h
  ·have h1:=Jp List.length (Jq (p:=mV) (l:=r))
   split at h
   ·cases h
   ·rename_i heq
    split at h
    ·cases h
    ·injection h with h;injection h with _ h;subst h
     rw [heq] at h1;simp at h1 ⊢;omega
  ·split at h
   ·exact fZ
   ·split at h
    ·split at h
     ·rename_i heq
      have h1:=qx _ _ _ heq;split at h
      ·rename_i heq2
       have h2:=qx _ _ _ heq2;exact b8
      ·cases h
     ·cases h
    ·split at h
     ·exact fZ
     ·exact fZ
theorem rD {r:Str} {f:Fm} {s:Str} (h:o6 r=some (f,s)):s.length<r.length:=by
 unfold o6 at h;split at h
 ·rename_i p heq
  obtain⟨m,s'⟩:=p;have:=vl heq
  exact d9
 ·cases r with
  | nil=>cases h
  | cons c r =>
   simp only [Cq] at h;split at h
   ·split at h
    ·cases h
    ·rename_i p heq
     obtain⟨m,s'⟩:=p;have h1:=vl heq;cases s' with
     | nil=>cases h
     | cons d r3 =>
      simp only [uf] at h;split at h
      ·exact b8
      ·split at h
       ·have:=vy h;simp at *;omega
       ·cases h
   ·cases h
def m9 (tx:Str) (fs:List Fm):List Fm:=if tx=[] then fs else fs++[⟨0,0,0,tx,[]⟩]
def pE:Nat→Str→Str→List Fm→Option (List Fm × Str)
 | 0,_,_,_=>none
 | _+1,[],_,_=>none
 | k+1,c::r,tx,fs =>
  if c.toNat=47 then some (m9 tx fs,c::r)
  else if c.toNat=36 then
   (match o6 r with
    | some p=>pE k p.2 [] (m9 tx fs++[p.1])
    | none=>pE k r (tx++[c]) fs)
  else if c.toNat=92∧qX r four=true then pE k (r.drop 1) (tx++r.take 1) fs
  else pE k r (tx++[c]) fs
theorem qo:∀(k k':Nat) (r tx:Str) (fs:List Fm),r.length<k→r.length<k'→pE k r tx fs=pE k' r tx fs
 | 0,_,_,_,_,h,_=>by omega
 | _+1,0,_,_,_,_,h=>by omega
 | k+1,k'+1,[],tx,fs,_,_=>rfl
 | k+1,k'+1,c::r,tx,fs,h,h'=>by
  simp only [Jr] at h h';have hd:(r.drop 1).length≤r.length:=gU;simp only [pE];rw [qo k k' r (tx++[c]) fs gN gN,qo k k' (r.drop 1) (tx++r.take 1) fs gN gN];cases hp:o6 r with
  | none=>rfl
  | some p =>
   have hl:=rD (f:=p.1) (s:=p.2) hp;simp only [];rw [qo k k' p.2 [] _ gN gN]
def oB (r tx:Str) (fs:List Fm):Option (List Fm × Str):=pE (r.length+1) r tx fs
theorem ns (c:UInt8) (r tx:Str) (fs:List Fm):oB (c::r) tx fs =
  if c.toNat=47 then some (m9 tx fs,c::r)
  else if c.toNat=36 then
   (match o6 r with
    | some p=>oB p.2 [] (m9 tx fs++[p.1])
    | none=>oB r (tx++[c]) fs)
  else if c.toNat=92∧qX r four=true then oB (r.drop 1) (tx++r.take 1) fs
  else oB r (tx++[c]) fs:=by
 have hd:(r.drop 1).length≤r.length:=gU;simp only [oB,pE,Jr];rw [qo (r.length+1) ((r.drop 1).length+1) (r.drop 1) (tx++r.take 1) fs gN gN];cases hp:o6 r with
 | none=>rfl
 | some p =>
  have hl:=rD (f:=p.1) (s:=p.2) hp;simp only [];rw [qo (r.length+1) (p.2.length+1) p.2 [] _ gN gN]
open Go.RowKit
theorem rB (l:Str) (c:Int) (w:World) :
  Calls Tryz.prog 64 #[.string ⟨l.toArray⟩,.int .u8 c] w fun e w'=>e=.returned (.int .i64 (Lib.indexByte l c.toNat.toUInt8))∧w=w':=by
 go_enter Tryz.func64,Tryz.ntmps64
 go_wp2
 rw [run_callFunc_extern Tryz.func80 gT gT gT (e:=Extern.BytealgIndexByte.indexByte) gT,Lib.run_indexByteString];simp only [Result.andThen];rw [Oper.upon_value];exact dq
theorem qj (l:Str) (c:Int) (w:World) :
  Calls Tryz.prog 47 #[.string ⟨l.toArray⟩,.int .u8 c] w fun e w'=>e=.returned (.int .i64 (Lib.indexByte l c.toNat.toUInt8))∧w=w':=by
 go_enter Tryz.func47,Tryz.ntmps47
 go_wp2_with (go_at_call 64;refine(rB _ _ _).mono ?_;rintro e w1 ⟨rfl,rfl⟩)
 go_ret
 exact⟨rfl,rfl⟩
theorem Hz (l:Str) (c:UInt8):0≤Lib.indexByte l c↔l.contains c=true:=by
 induction l with
 | nil=>simp [Lib.indexByte]
 | cons b l ih =>
  have:=Lib.indexByte_ge l c
  unfold Lib.indexByte;rw [List.contains_cons,Js,←ih];by_cases h:b=c
  ·simp [h]
  ·have h':(b==c)=false:=gQ
   have h'':¬(c==b)=true:=by simpa using (fun e=>h e.symm)
   rw [h',Jo gU];by_cases h1:Lib.indexByte l c=-1
   ·simp [h1];exact fun e=>h e.symm
   ·have h2:¬(Lib.indexByte l c==-1)=true:=by simpa using h1
    rw [Jo h2];simp [h''];omega
theorem idx_dec (l:Str) (c:UInt8):decide (0≤Lib.indexByte l c)=l.contains c:=by
 rw [Bool.eq_iff_iff,decide_eq_true_iff];exact Hz l c
theorem lX {l:Str} {c k:Int} (w:World) (h:Lib.indexByte l c.toNat.toUInt8=k) :
  Calls Tryz.prog 47 #[.string ⟨l.toArray⟩,.int .u8 c] w fun e w'=>e=.returned (.int .i64 k)∧w=w':=by
 subst h;exact qj l c w
theorem zn {th:Str} {c:UInt8} (h:th.contains c=true):∃k:Nat,Lib.indexByte th ((c.toNat:Int)).toNat.toUInt8=(k:Int):=by
 have h1:=(Hz th c).2 h;rw [show ((c.toNat:Int)).toNat.toUInt8=c by simp];exact Int.eq_ofNat_of_zero_le h1
theorem vq {th:Str} {c:UInt8} (h:¬th.contains c=true):Lib.indexByte th ((c.toNat:Int)).toNat.toUInt8=-1:=by
 rw [show ((c.toNat:Int)).toNat.toUInt8=c by simp];have h1:=Lib.indexByte_ge th c;have h2:¬0≤Lib.indexByte th c:=fun h3=>h ((Hz th c).1 h3)
 omega
open Go.RowKit
theorem D0 (l p:Str):p.isPrefixOf l=(List.take p.length l==p):=by
 rw [Bool.eq_iff_iff,List.isPrefixOf_iff_prefix,Ji,List.prefix_iff_eq_take];exact⟨fun h=>h.symm,fun h=>h.symm⟩
theorem nE (l p:Str) (i:Int) (w:World) (h0:0≤i) (hs:l.length≤100000000) (hp:p.length≤100000000) :
  Calls Tryz.prog 125 #[.string ⟨l.toArray⟩,.int .i64 i,.string ⟨p.toArray⟩] w fun e w'=>e=.returned (.bool (p.isPrefixOf (l.drop i.toNat)))∧w=w':=by
 obtain⟨n,rfl⟩:=Int.eq_ofNat_of_zero_le h0;rw [Int.toNat_natCast];generalize hR:List.isPrefixOf p (List.drop n l)=R
 have HR:=ab hR;clear hR;go_enter Tryz.func125,Tryz.ntmps125
 go_wp2
 ·rename_i h1 h2
  go_ret;refine⟨?_,rfl⟩;rw [←HR.out,List.drop_of_length_le gN,h2];rfl
 ·rename_i h1 h2
  go_ret;refine⟨?_,rfl⟩;rw [←HR.out,List.drop_of_length_le gN];cases p<;>simp_all
 ·go_ret;refine⟨?_,rfl⟩;rw [←HR.out,D0];simp
 ·rename_i h1 h2
  go_ret;refine⟨?_,rfl⟩;rw [←HR.out,D0]
  have:(List.take p.length (List.drop n l))≠p:=fun h=>by
   have:=Jp List.length h;simp at this;omega
  simp [this]
theorem sc (l p:Str) (i:Int) (w:World) (h0:0≤i) (h1:i≤100000000) (_hs:l.length≤100000000) (_hp:p.length≤100000000) :
  Calls Tryz.prog 120 #[.string ⟨l.toArray⟩,.int .i64 i,.string ⟨p.toArray⟩] w fun e w'=>e=.returned (.bool (qX (l.drop (i.toNat+1)) p))∧w=w':=by
 obtain⟨n,rfl⟩:=Int.eq_ofNat_of_zero_le h0;rw [Int.toNat_natCast];cases hd:l.drop (n+1) with
 | nil =>
  have h2:=ms hd;clear hd;go_enter Tryz.func120,Tryz.ntmps120
  exact dq
 | cons c r =>
  obtain⟨h2,h3,_⟩:=lG hd;clear hd;go_enter Tryz.func120,Tryz.ntmps120
  go_wp2_with (go_at_call 47;refine(qj _ _ _).mono ?_;rintro e w1 ⟨rfl,rfl⟩)
  go_ret
  refine⟨?_,rfl⟩;simp [qX,idx_dec]
def zZ (l:Str) (i:Int) (R:Option (Nat × Str)) (e:Ending):Prop :=
 match R with
 | none=>e=.returned (.tuple #[.int .i64 0,.int .i64 i,.bool false])
 | some (n,r)=>n<10000∧∃j:Nat,i<j∧j≤l.length∧l.drop j=r∧e=.returned (.tuple #[.int .i64 n,.int .i64 j,.bool true])
theorem Ct (l:Str) (i:Int) (w:World) (h0:0≤i) (h1:i≤100000000) (hs:l.length≤100000000) :
  Calls Tryz.prog 124 #[.string ⟨l.toArray⟩,.int .i64 i] w fun e w'=>w=w'∧zZ l i (oC (l.drop i.toNat)) e:=by
 obtain⟨i,rfl⟩:=Int.eq_ofNat_of_zero_le h0;rw [Int.toNat_natCast];generalize hR:oC (l.drop i)=R
 have HR:Hid (nf (l.drop (i+0)) 0 0=R):=ab hR;clear hR;go_enter Tryz.func124,Tryz.ntmps124
 go_wp2
 go_loop [7,8] (fun n q=>∃k m:Nat,k≤4∧(k=0∨i+k≤l.length)∧m<10 ^ k∧q=.int .i64 ((i+k:Nat):Int)∧n=.int .i64 (m:Int)∧Hid (nf (l.drop (i+k)) k m=R)) (fun _ q=>l.length-(intOf q).toNat)
 case atStart=>exact⟨0,0,by omega,by omega,by omega,by simp,rfl,HR⟩
 case round =>
  obtain⟨k,m,hk,hik,hm,rfl,rfl,HF⟩:=hrel;clear HR;have hm4:m<10000:=Jt hm (Nat.pow_le_pow_right gN hk);have Hm:=ab hm;clear hm;cases hd:l.drop (i+k) with
  | nil =>
   have h2:=ms hd;have HF':Hid (nf [] k m=R):=ab iL;clear hd HF;go_wp2
   go_ret3
   refine⟨rfl,?_⟩;rw [←HF'.out];unfold nf;by_cases h0k:0<k
   ·rw [Jl h0k];exact⟨hm4,i+k,by omega,by omega,List.drop_of_length_le h2,by simp;omega⟩
   ·exact eK
  | cons c r =>
   obtain⟨h2,h3,hr⟩:=lG hd;have HF':Hid (nf (c::r) k m=R):=ab iL;have Hr:=ab hr;clear hd HF hr;go_wp2
   ·rename_i g1 g2
    go_ret3
    refine⟨rfl,?_⟩;have hk4:k=4:=by simp at g2;omega
    rw [←HF'.out];unfold nf;rw [Jl gN,Jl hk4];unfold zZ;simp
   ·rename_i g1 g2
    go_round
    have hk4:¬k=4:=by simp at g2;omega
    case rel =>
     refine⟨k+1,10*m+(c.toNat-48),by omega,by omega,?_,by go_num,?_,?_⟩
     ·have:=Hm.out;rw [Nat.pow_succ];omega
     ·congr 1;omega
     ·refine ab ?_
      rw [←HF'.out,show i+(k+1)=i+k+1 from rfl,Hr.out];conv=>rhs;unfold nf
      rw [Jl gN,Jo hk4]
    case measure=>simp [intOf];omega
   all_goals
    go_ret3
    refine⟨rfl,?_⟩;rw [←HF'.out];unfold nf;rw [Jo gN];by_cases h0k:0<k
    ·rw [Jl h0k];exact⟨hm4,i+k,by omega,by omega,by rw [List.drop_eq_getElem_cons h2,h3,Hr.out],by simp;omega⟩
    ·exact eK
open Go.RowKit
def yS (w:World) (k:Nat):Option TypeId:=match w.heap[k]? with|some (.cells _ e _)=>some e|_=>none
structure Fr (B:Nat) (gs:List Nat) (es:List TypeId) (w w':World):Prop where
 os:w'.os=w.os
 tape:w'.tape=w.tape
 output:w'.output=w.output
 size:w.heap.size≤w'.heap.size
 block:∀k,k<w.heap.size→k ∉ gs→(k<B∨∀e∈es,yS w k≠some e)→w'.heap[k]?=w.heap[k]?
theorem Fr.refl (B gs es w):Fr B gs es w w:=⟨rfl,rfl,rfl,Ju _,fun _ _ _ _=>rfl⟩
theorem Fr.trans {B gs es} {a b c:World} (h:Fr B gs es a b) (k:Fr B gs es b c):Fr B gs es a c :=
 ⟨k.os.trans h.os,k.tape.trans h.tape,k.output.trans h.output,Jv h.size k.size,fun i hi hg ht=>by
  have h1:=h.block i hi hg ht;refine(k.block i (Jt hi h.size) hg ?_).trans h1
  unfold yS at ht ⊢;rw [h1];exact ht⟩
theorem Fr.below {B gs es} {w w':World} (h:Fr B gs es w w') (hB:B≤w.heap.size) (hg:∀g∈gs,B≤g):Below B w w' :=
 ⟨h.os,h.tape,h.output,h.size,fun k hk=>h.block k gN (fun hm=>by have:=hg k hm;omega) (.inl hk)⟩
theorem Fr.of_below {B C gs es} {w w':World} (h:Below C w w') (hC:w.heap.size≤C):Fr B gs es w w' :=
 ⟨h.os,h.tape,h.output,h.size,fun k hk _ _=>h.block k gN⟩
theorem Fr.alloc {B gs es} {a w:World} (h:Fr B gs es a w) (o:Obj):Fr B gs es a (w.alloc o) :=
 h.trans ⟨rfl,rfl,rfl,by simp,fun k hk _ _=>Below.heap_alloc _ _ _ hk⟩
theorem Fr.setCell {B gs es} {a w:World} (h:Fr B gs es a w) {p:Addr} (hp:p.block∈gs) (u:Value):Fr B gs es a (w.setCell p u) :=
 h.trans ⟨rfl,rfl,rfl,by simp [World.setCell],fun k _ hk _=>Below.heap_setCell _ _ _ _ (fun e=>hk (e▸hp))⟩
theorem qq {w:World} {B:Nat} {e:TypeId} {sz:Nat} {v:Value} {n:Nat} {xs:List Value} (h:w.ownsRow B e sz v n xs) {k:Nat} (hk:v.ownBlock=some k):B≤k∧yS w k=some e:=by
 rcases h.2 with⟨rfl,_⟩|⟨g,cap,cur,rfl,hb,hg,_⟩
 ·simp [Value.ownBlock] at hk
 ·simp [Value.ownBlock] at hk;subst hk;exact⟨hb,by simp [yS,hg]⟩
theorem Fr.grown {B gs es} {a w w':World} (h:Fr B gs es a w) {e:TypeId} {sz:Nat} {v:Value} {n:Nat} {xs:List Value} (hown:w.ownsRow B e sz v n xs) (he:e∈es) (hg:w.grownBy w' v.ownBlock):Fr B gs es a w' :=
 h.trans ⟨hg.os,hg.tape,hg.output,hg.size,fun k hk _ ht=>hg.block k hk (fun e'=>by
  obtain⟨h1,h2⟩:=qq hown e'.symm;rcases ht with ht|ht
  ·omega
  ·exact ht e he h2)⟩
theorem kT {w:World} {k:Nat} {o:Obj} (h:w.heap[k]?=some o):k<w.heap.size:=by
 rcases Nat.lt_or_ge k w.heap.size with h1|h1
 ·exact h1
 ·rw [Array.getElem?_eq_none h1] at h;cases h
def Bld (B g:Nat) (l:Str) (w:World):Prop :=
 ∃p v,w.heap[g]?=some (.cells #[p,v] 54 (0,0))∧B≤g∧(p=.pointer none∨p=.pointer (some ⟨g,0,none⟩))∧w.ownsRow B 5 1 v l.length (mt l)
theorem Bld.fresh (B:Nat) (w:World) (hB:B≤w.heap.size):Bld B w.heap.size [] (w.alloc (.cells #[.pointer none,.slice none 0 0] 54)) :=
 ⟨_,_,heap_alloc_new w _,hB,.inl rfl,World.ownsRow_nil _ _ _ _⟩
theorem Bld.lt {B g:Nat} {l:Str} {w:World} (h:Bld B g l w):g<w.heap.size:=by
 obtain⟨p,v,h,_⟩:=h;exact kT h
theorem Bld.le {B g:Nat} {l:Str} {w:World} (h:Bld B g l w):B≤g:=by
 obtain⟨p,v,_,h,_⟩:=h;exact h
theorem Bld.keep {B g:Nat} {l:Str} {w w':World} (h:Bld B g l w) (_hs:w.heap.size≤w'.heap.size) (hk:∀k,k<w.heap.size→w'.heap[k]?=w.heap[k]?):Bld B g l w':=by
 obtain⟨p,v,h1,h2,h3,h4,h5⟩:=h;refine⟨p,v,(hk g (kT h1)).trans h1,h2,h3,h4,?_⟩;rcases h5 with h5|⟨g',cap,cur,hv,hb,hg,r⟩
 ·exact .inl h5
 ·exact .inr ⟨g',cap,cur,hv,hb,(hk g' (kT hg)).trans hg,r⟩
theorem Bld.alloc {B g:Nat} {l:Str} {w:World} (h:Bld B g l w) (o:Obj):Bld B g l (w.alloc o) :=
 h.keep gU fun k hk=>Below.heap_alloc _ _ _ hk
theorem Bld.below {B g:Nat} {l:Str} {w w':World} (h:Bld B g l w) (hb:Below w.heap.size w w'):Bld B g l w' :=
 h.keep hb.size fun k hk=>hb.block k hk
theorem bld_size:(Tryz.prog.info? 54).map (·.size)=some 2:=by kernel_rfl
theorem bld_lies:liesAt Tryz.prog Tryz.prog.depth 54 (2 / Tryz.prog.cellsOf 54) 0 54 1=true:=by kernel_rfl
theorem Fb:Tryz.prog.cellsOf 5=1:=by kernel_rfl
theorem tN (g:Nat) (v p:Value) (w:World) (h:w.heap[g]?=some (.cells #[p,v] 54 (0,0))) (hp:p=.pointer none∨p=.pointer (some ⟨g,0,none⟩)) :
  Calls Tryz.prog 48 #[.pointer (some ⟨g,0,none⟩)] w fun e w'=>e=.returned (.tuple #[])∧w'.heap[g]?=some (.cells #[.pointer (some ⟨g,0,none⟩),v] 54 (0,0))∧(∀k,k≠g→w'.heap[k]?=w.heap[k]?)∧w'.heap.size=w.heap.size∧w'.os=w.os∧w'.tape=w.tape∧w'.output=w.output:=by
 obtain⟨j,hj,hjs⟩:=Option.map_eq_some_iff.1 bld_size;rcases hp with rfl|rfl
 ·have h0:w.cell? ⟨g,0,none⟩=some (.pointer none):=by simp [World.cell?,h]
  have hsh:w.shape? g=some (54,2):=by simp [World.shape?,h]
  have hfz:w.frozen? ⟨g,0,none⟩=false:=by simp [World.frozen?,h]
  have H:=ab h;clear h;refine Calls.mono (R:=fun e w'=>e=.returned (.tuple #[])∧w'=w.setCell ⟨g,0,none⟩ (.pointer (some ⟨g,0,none⟩))) ?_ ?_
  ·go_enter Tryz.func48,Tryz.ntmps48
   go_wp2
   rw [Lib.run_to_unsafe w ⟨g,0,none⟩ Tryz.underlying51 Tryz.underlying111 hj (by rw [hjs];decide) hsh (Nat.zero_lt_succ 1)];simp only [Result.andThen];rw [Oper.upon_value];go_wp2
   rw [run_callFunc_extern Tryz.func65 gT gT gT (e:=Extern.AbiNoEscape.same) gT];rw [Lib.run_noEscape];simp only [Result.andThen];rw [Oper.upon_value];go_wp2
   rw [Lib.run_from_unsafe w ⟨g,0,none⟩ Tryz.underlying111 Tryz.underlying51 hj hsh bld_lies];simp only [Result.andThen];rw [Oper.upon_value];go_wp2
   go_end0
   exact⟨rfl,rfl⟩
  ·rintro e w' ⟨rfl,rfl⟩
   refine⟨rfl,?_,fun k hk=>Below.heap_setCell _ _ _ _ hk,by simp [World.setCell],rfl,rfl,rfl⟩;simp [World.setCell,Array.getElem?_modify,H.out]
 ·have h0:w.cell? ⟨g,0,none⟩=some (.pointer (some ⟨g,0,none⟩)):=by simp [World.cell?,h]
  have H:=ab h;clear h;go_enter Tryz.func48,Tryz.ntmps48
  go_wp2
  rw [Lib.run_neq_ptr_same w _ Tryz.underlying51 hj];go_wp2
  go_end0
  exact⟨rfl,H.out,fun _ _=>rfl,rfl,rfl,rfl,rfl⟩
theorem G9 {B g:Nat} {l r:Str} {w w1 w2:World} {v v':Value} (hB:B≤g)
  (h1:w1.heap[g]?=some (.cells #[.pointer (some ⟨g,0,none⟩),v] 54 (0,0))) (hrest:∀k,k≠g→w1.heap[k]?=w.heap[k]?) (hsz:w1.heap.size=w.heap.size)
  (hos:w1.os=w.os∧w1.tape=w.tape∧w1.output=w.output)
  (hown:w1.ownsRow B 5 1 v l.length (mt l)) (hown2:w2.ownsRow B 5 1 v' (l++r).length (mt (l++r))) (hg:w1.grownBy w2 v.ownBlock) :
  w2.heap[g]?=some (.cells #[.pointer (some ⟨g,0,none⟩),v] 54 (0,0))∧Bld B g (l++r) (w2.setCell ⟨g,1,none⟩ v')∧Fr B [g] [5] w (w2.setCell ⟨g,1,none⟩ v'):=by
 have hne:v.ownBlock≠some g:=fun he=>by
  have:=(qq hown he).2
  simp [yS,h1] at this
 have hlt:=kT h1;have h2:w2.heap[g]?=some (.cells #[.pointer (some ⟨g,0,none⟩),v] 54 (0,0)):=(hg.block g hlt (fun e=>hne e.symm)).trans h1;have hne2:v'.ownBlock≠some g:=fun he=>by
  have:=(qq hown2 he).2
  simp [yS,h2] at this
 refine⟨h2,⟨_,v',by simp [World.setCell,Array.getElem?_modify,h2],hB,.inr rfl,?_⟩,?_⟩
 ·exact hown2.kept (row:=some g) ⟨rfl,rfl,rfl,by simp [World.setCell],fun k _ hk=>Below.heap_setCell _ _ _ _ (fun e=>hk (by simp [e]))⟩ (.inr hne2)
 ·have f1:Fr B [g] [5] w w1:=⟨hos.1,hos.2.1,hos.2.2,by omega,fun k _ hk _=>hrest k (by simpa using hk)⟩
  exact(f1.grown hown gU hg).setCell (p:=⟨g,1,none⟩) gU v'
theorem DF {B g:Nat} {w w1:World} {v p q:Value} {n:Nat} {xs:List Value} (h:w.ownsRow B 5 1 v n xs) (h0:w.heap[g]?=some (.cells #[p,q] 54 (0,0)))
  (hrest:∀k,k≠g→w1.heap[k]?=w.heap[k]?):w1.ownsRow B 5 1 v n xs:=by
 refine⟨h.1,?_⟩;rcases h.2 with h5|⟨g',cap,cur,hv,hb,hg,r⟩
 ·exact .inl h5
 ·refine .inr ⟨g',cap,cur,hv,hb,(hrest g' (fun e=>?_)).trans hg,r⟩
  subst e;rw [h0] at hg;simp at hg
theorem lv (B g:Nat) (l:Str) (c:Int) (w:World) (h:Bld B g l w) (hl:l.length≤50000000) (hBw:B≤w.heap.size) (hc0:0≤c) (hc:c<256) :
  Calls Tryz.prog 34 #[.pointer (some ⟨g,0,none⟩),.int .u8 c] w fun e w'=>e=.returned .nilIface∧Bld B g (l++[UInt8.ofNat c.toNat]) w'∧Fr B [g] [5] w w':=by
 obtain⟨p,v,h0,hB,hp,hown⟩:=h;obtain⟨iu,hiu⟩:=info_parts qP;have H0:=ab h0;clear h0;go_enter Tryz.func34,Tryz.ntmps34
 go_wp2_with (go_at_call 48;refine(tN g v p _ H0.out hp).mono ?_)
 rintro e w1 ⟨rfl,h1,hrest,hsz,hos⟩;have hown1:=DF hown H0.out hrest;have c0:w1.cell? ⟨g,0,none⟩=some (.pointer (some ⟨g,0,none⟩)):=by rw [Jw h1];rfl
 have c1:w1.cell? ⟨g,1,none⟩=some v:=by rw [Jw h1];rfl
 have HR:Hid (∀k,k≠g→w1.heap[k]?=w.heap[k]?):=hrest;have HO:=ab hos;have H1:=ab h1;have HZ:=ab hsz;have hBw1:B≤w1.heap.size:=gN;clear hrest hos h1 hsz;go_wp2_with (at_builtin;refine mA B 5 rfl _ _ 52 rfl Tryz.underlying52 hiu rfl gR rfl hown1 rfl iV rfl ii gN gR hBw1 ?_)
 intro v' w2 hown2 hg2 _ _;have hchr:mt l++[Value.int .u8 c]=mt (l++[UInt8.ofNat c.toNat]):=by
  simp only [mt,List.map_append,List.map_cons,List.map_nil];rw [show (((UInt8.ofNat c.toNat).toNat:Nat):Int)=c by simp [UInt8.toNat_ofNat'];omega]
 obtain⟨k1,k2,k3⟩:=G9 hB H1.out HR.out HZ.out ⟨HO.out.1,HO.out.2.1,HO.out.2.2⟩ hown1 (r:=[UInt8.ofNat c.toNat]) (by rw [←hchr];simpa using hown2) hg2;have d1:w2.cell? ⟨g,1,none⟩=some v:=by rw [Jw k1];rfl
 have d2:w2.frozen? ⟨g,1,none⟩=false:=Lib.frozen_of_heap k1 1;clear hchr;have K1:=ab k1;clear k1;obtain⟨a',c',rfl⟩:=lD hown2;go_wp2
 go_ret
 exact⟨rfl,k2,k3⟩
theorem lB (B g:Nat) (l r:Str) (w:World) (h:Bld B g l w) (hl:l.length≤50000000) (hr:r.length≤50000000) (hBw:B≤w.heap.size) :
  Calls Tryz.prog 32 #[.pointer (some ⟨g,0,none⟩),.string ⟨r.toArray⟩] w fun e w'=>e=.returned (.tuple #[.int .i64 r.length,.nilIface])∧Bld B g (l++r) w'∧Fr B [g] [5] w w':=by
 obtain⟨p,v,h0,hB,hp,hown⟩:=h;obtain⟨iu,hi,hz0,hz1,hz2⟩:=info_parts qP;have H0:=ab h0;clear h0;go_enter Tryz.func32,Tryz.ntmps32
 go_wp2_with (go_at_call 48;refine(tN g v p _ H0.out hp).mono ?_)
 rintro e w1 ⟨rfl,h1,hrest,hsz,hos⟩;have hown1:=DF hown H0.out hrest;have c0:w1.cell? ⟨g,0,none⟩=some (.pointer (some ⟨g,0,none⟩)):=by rw [Jw h1];rfl
 have c1:w1.cell? ⟨g,1,none⟩=some v:=by rw [Jw h1];rfl
 have HR:Hid (∀k,k≠g→w1.heap[k]?=w.heap[k]?):=hrest;have HO:=ab hos;have H1:=ab h1;have HZ:=ab hsz;have hBw1:B≤w1.heap.size:=gN;clear hrest hos h1 hsz;go_wp2_with (at_builtin;refine Lib.wpList_append_own_string _ rfl _ _ 52 9 rfl B 5 iu Tryz.underlying52 Tryz.underlying9 hi hz0 hz1 hz2 _ _ _ rfl hown1 _ rfl (by simp only [maxLen,yW];omega) (by simp only [yW];omega) hBw1 ?_)
 intro v' w2 hown2 hg2 _;obtain⟨k1,k2,k3⟩:=G9 hB H1.out HR.out HZ.out ⟨HO.out.1,HO.out.2.1,HO.out.2.2⟩ hown1 (r:=r) (by simpa [mt,Lib.strCells] using hown2) hg2;have d1:w2.cell? ⟨g,1,none⟩=some v:=by rw [Jw k1];rfl
 have d2:w2.frozen? ⟨g,1,none⟩=false:=Lib.frozen_of_heap k1 1;have K1:=ab k1;clear k1;obtain⟨a',c',rfl⟩:=lD hown2;go_wp2
 go_ret2
 exact⟨rfl,k2,k3⟩
theorem GF (B g:Nat) (l:Str) (w:World) (h:Bld B g l w) (h0:l≠[]) :
  Calls Tryz.prog 21 #[.pointer (some ⟨g,0,none⟩)] w fun e w'=>e=.returned (.string ⟨l.toArray⟩)∧Below B w w':=by
 obtain⟨p,v,hbk,hB,hp,hown⟩:=h;have hl0:l.length≠0:=by simpa using h0
 obtain⟨g',cap,cur,rfl,hbg,hg,hnc,hcm,hcs,htake⟩:∃g' cap cur,v=.slice (some ⟨g',0,none⟩) l.length cap∧B≤g'∧w.heap[g']?=some (.cells cur 5 (0,0))∧l.length≤cap∧cap≤maxLen∧cur.size=cap*1∧cur.toList.take (l.length*1)=mt l:=by
  rcases hown.2 with⟨_,hz⟩|⟨g',cap,cur,hv,r⟩
  ·exact absurd hz hl0
  ·exact⟨g',cap,cur,hv,r⟩
 have c1:w.drew.cell? ⟨g,1,none⟩=some (.slice (some ⟨g',0,none⟩) l.length cap):=by
  have:w.drew.heap[g]?=some (.cells #[p,.slice (some ⟨g',0,none⟩) l.length cap] 54 (0,0)):=hbk
  exact eD
 have hSD:(Builtin.unsafeSliceData_ #[52] 80 #[.slice (some ⟨g',0,none⟩) l.length cap]).run Tryz.prog w.drew=.ok (.pointer (some ⟨g',0,none⟩)) w.drew :=
  Lib.run_unsafeSliceData_row _ _ _ _ _ _ gN
 have hUS:(Builtin.unsafeString_ #[80,3] 9 #[.pointer (some ⟨g',0,none⟩),.int .i64 l.length]).run Tryz.prog w.drew=.ok (.string ⟨l.toArray⟩) (w.drew.freeze ⟨g',0,none⟩ l.length):=by
  refine Lib.run_unsafeString_row w.drew 80 3 9 5 Tryz.underlying80 Fb g' cur.size (by have hg':w.drew.heap[g']?=some (.cells cur 5 (0,0)):=hg;simp [World.shape?,hg']) l h0 gN (by unfold maxLen at hcm;omega) ?_;intro j x hx;exact hown.cells (g:=g') rfl j (.int .u8 x.toNat) (by simp [mt,List.getElem?_map,hx])
 clear hbk hg htake hcs hown;go_enter Tryz.func21,Tryz.ntmps21
 go_wp2
 go_region
 all_goals (go_wp2;go_ret;exact⟨rfl,Lib.below_freeze (Below.drew (Below.refl B w)) (p:=⟨g',0,none⟩) hbg _⟩)
theorem FC (B g:Nat) (p:Value) (w:World) (hbk:w.heap[g]?=some (.cells #[p,.slice none 0 0] 54 (0,0))) :
  Calls Tryz.prog 21 #[.pointer (some ⟨g,0,none⟩)] w fun e w'=>e=.returned (.string ⟨#[]⟩)∧Below B w w':=by
 have hUS:∀(W:World) (q:Option Addr),(Builtin.unsafeString_ #[80,3] 9 #[.pointer q,.int .i64 0]).run Tryz.prog W=.ok (.string .empty) W:=fun W q=>Lib.run_unsafeString_none W _ _ _ q
 have c1:w.drew.cell? ⟨g,1,none⟩=some (.slice none 0 0):=by
  have:w.drew.heap[g]?=some (.cells #[p,.slice none 0 0] 54 (0,0)):=hbk
  exact eD
 have hSD:(Builtin.unsafeSliceData_ #[52] 80 #[.slice none 0 0]).run Tryz.prog w.drew=.ok (.pointer none) w.drew:=rfl;clear hbk;exact dM
theorem B9 (B g g' cap:Nat) (p:Value) (w:World) (hc0:cap≠0) (hbk:w.heap[g]?=some (.cells #[p,.slice (some ⟨g',0,none⟩) 0 cap] 54 (0,0))) :
  Calls Tryz.prog 21 #[.pointer (some ⟨g,0,none⟩)] w fun e w'=>e=.returned (.string ⟨#[]⟩)∧Below B w w':=by
 have hUS:∀(W:World) (q:Option Addr),(Builtin.unsafeString_ #[80,3] 9 #[.pointer q,.int .i64 0]).run Tryz.prog W=.ok (.string .empty) W:=fun W q=>Lib.run_unsafeString_none W _ _ _ q
 have c1:w.drew.cell? ⟨g,1,none⟩=some (.slice (some ⟨g',0,none⟩) 0 cap):=by
  have:w.drew.heap[g]?=some (.cells #[p,.slice (some ⟨g',0,none⟩) 0 cap] 54 (0,0)):=hbk
  exact eD
 have hSD:(Builtin.unsafeSliceData_ #[52] 80 #[.slice (some ⟨g',0,none⟩) 0 cap]).run Tryz.prog w.drew=.ok (.pointer (some ⟨g',0,none⟩)) w.drew :=
  Lib.run_unsafeSliceData_row _ _ _ _ _ _ hc0
 clear hbk hc0;exact dM
theorem zh (B g g':Nat) (p:Value) (cur:Array Value) (w:World) (hBw:B≤w.heap.size) (hbk:w.heap[g]?=some (.cells #[p,.slice (some ⟨g',0,none⟩) 0 0] 54 (0,0))) (hg:w.heap[g']?=some (.cells cur 5 (0,0))) :
  Calls Tryz.prog 21 #[.pointer (some ⟨g,0,none⟩)] w fun e w'=>e=.returned (.string ⟨#[]⟩)∧Below B w w':=by
 have hUS:∀(W:World) (q:Option Addr),(Builtin.unsafeString_ #[80,3] 9 #[.pointer q,.int .i64 0]).run Tryz.prog W=.ok (.string .empty) W:=fun W q=>Lib.run_unsafeString_none W _ _ _ q
 have hlt:g<w.heap.size:=kT hbk;have c1:w.drew.cell? ⟨g,1,none⟩=some (.slice (some ⟨g',0,none⟩) 0 0):=by
  have:w.drew.heap[g]?=some (.cells #[p,.slice (some ⟨g',0,none⟩) 0 0] 54 (0,0)):=hbk
  exact eD
 have hSD:(Builtin.unsafeSliceData_ #[52] 80 #[.slice (some ⟨g',0,none⟩) 0 0]).run Tryz.prog w.drew=.ok (.pointer (some ⟨w.drew.heap.size,0,none⟩)) (w.drew.alloc (.view ⟨g',0,none⟩ 5)) :=
  Lib.run_unsafeSliceData_zero w.drew _ _ 5 Tryz.underlying80 ⟨g',0,none⟩ 0 (5,cur.size) (by have hg':w.drew.heap[g']?=some (.cells cur 5 (0,0)):=hg;simp [World.shape?,hg'])
 have c2:(w.drew.alloc (.view ⟨g',0,none⟩ 5)).cell? ⟨g,1,none⟩=some (.slice (some ⟨g',0,none⟩) 0 0):=by
  have:(w.drew.alloc (.view ⟨g',0,none⟩ 5)).heap[g]?=_:=(Lib.alloc_old w.drew _ g hlt).trans hbk
  exact eD
 have c3:(w.alloc (.view ⟨g',0,none⟩ 5)).drew.cell? ⟨g,1,none⟩=some (.slice (some ⟨g',0,none⟩) 0 0):=c2;have c0:w.cell? ⟨g,1,none⟩=some (.slice (some ⟨g',0,none⟩) 0 0):=c1;clear hbk hg;go_enter Tryz.func21,Tryz.ntmps21
 go_wp2
 go_region
 all_goals (go_wp2;go_ret;exact⟨rfl,(Below.drew (Below.refl B w)).alloc hBw _⟩)
theorem si (B g:Nat) (l:Str) (w:World) (h:Bld B g l w) (hBw:B≤w.heap.size) :
  Calls Tryz.prog 21 #[.pointer (some ⟨g,0,none⟩)] w fun e w'=>e=.returned (.string ⟨l.toArray⟩)∧Below B w w':=by
 by_cases h0:l=[]
 ·subst h0
  obtain⟨p,v,hbk,hB,hp,hown⟩:=h;rcases hown.2 with⟨rfl,_⟩|⟨g',cap,cur,rfl,_,hg,_⟩
  ·exact FC B g p w hbk
  ·by_cases hc:cap=0
   ·subst hc;exact zh B g g' p cur w hBw hbk hg
   ·exact B9 B g g' cap p w hc hbk
 ·exact GF B g l w h h0
open Go.RowKit
def Sl (w:World) (B:Nat) (a:Option Addr) (sz n:Nat) (cs:List Value):Prop :=
 cs.length=n*sz∧(0<n→∃b o,a=some ⟨b,o,none⟩∧b<B∧∀(j:Nat) (u:Value),cs[j]?=some u→w.cell? ⟨b,o+j,none⟩=some u)
theorem Sl.keep {w w':World} {B:Nat} {a:Option Addr} {sz n:Nat} {cs:List Value} (h:Sl w B a sz n cs) (hb:Below B w w'):Sl w' B a sz n cs :=
 ⟨h.1,fun hn=>by
  obtain⟨b,o,h1,h2,h3⟩:=h.2 hn;exact⟨b,o,h1,h2,fun j u hu=>(hb.cell (p:=⟨b,o+j,none⟩) h2).trans (h3 j u hu)⟩⟩
theorem Sl.mono {w:World} {B B':Nat} {a:Option Addr} {sz n:Nat} {cs:List Value} (h:Sl w B a sz n cs) (hB:B≤B'):Sl w B' a sz n cs :=
 ⟨h.1,fun hn=>by
  obtain⟨b,o,h1,h2,h3⟩:=h.2 hn;exact⟨b,o,h1,by omega,h3⟩⟩
theorem Sl.none_ (w:World) (B:Nat) (a:Option Addr) (sz:Nat):Sl w B a sz 0 []:=⟨by simp,fun h=>by omega⟩
theorem Sl.of_own {w:World} {B0:Nat} {e:TypeId} {sz:Nat} {a:Option Addr} {n c:Nat} {xs:List Value} (h:w.ownsRow B0 e sz (.slice a n c) n xs):Sl w w.heap.size a sz n xs:=by
 refine⟨h.1,fun hn=>?_⟩;rcases h.2 with⟨hv,h0⟩|⟨g,cap,cur,hv,hb,hg,r⟩
 ·omega
 ·injection hv with ha _ _
  subst ha;refine⟨g,0,rfl,kT hg,fun j u hu=>?_⟩;exact dk
theorem Sl.lit {w:World} {g sz n:Nat} {cs:Array Value} {t:TypeId} {m:Nat × Nat} (h:w.heap[g]?=some (.cells cs t m)) (hn:cs.size=n*sz):Sl w w.heap.size (some ⟨g,0,none⟩) sz n cs.toList:=by
 refine⟨by simpa using hn,fun _=>⟨g,0,rfl,kT h,fun j u hu=>?_⟩⟩;rw [Jw h];simpa using hu
theorem Sl.alloc_self {w:World} {a:Option Addr} {sz n:Nat} {cs:List Value} (h:Sl w w.heap.size a sz n cs) (o:Obj):Sl (w.alloc o) (w.alloc o).heap.size a sz n cs :=
 (h.keep ((Below.refl _ _).alloc (Ju _) o)).mono gU
theorem lC {α:Type} {l r:List α} {i:Nat} {c:α} (h:l.drop i=c::r):i<l.length∧l[i]?=some c∧l.drop (i+1)=r:=by
 have hi:i<l.length:=by
  exact cR
 rw [List.drop_eq_getElem_cons hi] at h;injection h with h1 h2
 exact⟨hi,by rw [Jn hi,h1],h2⟩
theorem ub {W w1:World} (hb:Below W.heap.size W w1):(∀b o,b<W.heap.size→w1.cell? ⟨b,o,none⟩=W.cell? ⟨b,o,none⟩)∧(∀b o,b<W.heap.size→w1.frozen? ⟨b,o,none⟩=W.frozen? ⟨b,o,none⟩) :=
 ⟨fun b o h=>hb.cell (p:=⟨b,o,none⟩) h,fun b o h=>hb.frozen (p:=⟨b,o,none⟩) h⟩
def mE (ps:List Str):List Value:=ps.map fun p=>.string ⟨p.toArray⟩
theorem Sl.str {w:World} {B:Nat} {a:Option Addr} {n:Nat} {ps:List Str} (h:Sl w B a 1 n (mE ps)) {k:Nat} {p:Str} (hk:ps[k]?=some p) :
  ∃b o,a=some ⟨b,o,none⟩∧b<B∧w.cell? ⟨b,o+k,none⟩=some (.string ⟨p.toArray⟩):=by
 have hlt:=(Jx.1 hk).1;have hn:n=ps.length:=by have:=h.1;simp [mE] at this;omega
 obtain⟨b,o,h1,h2,h3⟩:=h.2 gN;exact⟨b,o,h1,h2,h3 k _ (by simp [mE,hk])⟩
theorem lP {w w':World} (hb:Below w.heap.size w w') (a:Addr) (u:Value) (h:w.cell? a=some u):w'.cell? a=some u :=
 (hb.cell (World.block_lt_of_cell? w a h)).trans h
theorem sn {B:Nat} {w w':World} (hb:Below B w w') (hB:w.heap.size≤B) {a:Addr} {u:Value} (h:w.cell? a=some u):w'.cell? a=some u :=
 (hb.cell (Jt (World.block_lt_of_cell? w a h) hB)).trans h
open Go.RowKit
theorem BV {P:Program} (w:World) (base:Nat) (t ty e:TypeId) (i:TypeInfo) (size:Nat) (ht:P.underlying t=some (.slice e)) (hi:P.info? e=some i)
  (v:Value) (n:Nat) (xs:List Value) (hown:w.ownsRow base e size v n xs) (c:Nat):(Builtin.append_ #[t,t] ty #[v,.slice none 0 c]).run P w=.ok v w:=by
 rcases hown.2 with⟨rfl,rfl⟩|⟨g,cap,cur,rfl,_,_,hnc,_⟩
 ·simp [Builtin.append_,run_underlying ht,sizeOf,typeInfo,hi,Builtin.lenOf,Builtin.firstCells]
 ·simp [Builtin.append_,run_underlying ht,sizeOf,typeInfo,hi,Builtin.lenOf,Builtin.firstCells,hnc,storeCells]
inductive Rx where
 | mk (kind:Int) (chr:Str) (neg:Bool) (rows:List (Str × Str)) (lo hi:Int) (lazy:Bool) (kids:List Rx)
namespace Rx
def kind:Rx→Int|mk k _ _ _ _ _ _ _=>k
def chr:Rx→Str|mk _ c _ _ _ _ _ _=>c
def neg:Rx→Bool|mk _ _ n _ _ _ _ _=>n
def rows:Rx→List (Str × Str)|mk _ _ _ r _ _ _ _=>r
def lo:Rx→Int|mk _ _ _ _ l _ _ _=>l
def hi:Rx→Int|mk _ _ _ _ _ h _ _=>h
def lazy:Rx→Bool|mk _ _ _ _ _ _ z _=>z
def kids:Rx→List Rx|mk _ _ _ _ _ _ _ k=>k
mutual
def parts:Rx→Nat
 | mk _ _ _ _ _ _ _ ks=>1+partsL ks
def partsL:List Rx→Nat
 | []=>0
 | x::r=>parts x+partsL r
end
mutual
def groups:Rx→Nat
 | mk k _ _ _ _ _ _ ks=>(if k=5 then 1 else 0)+groupsL ks
def groupsL:List Rx→Nat
 | []=>0
 | x::r=>groups x+groupsL r
end
mutual
def deep:Rx→Nat
 | mk k _ _ _ _ _ _ ks=>deepL ks+(if k=5∨k=6 then 1 else 0)
def deepL:List Rx→Nat
 | []=>0
 | x::r=>max (deep x) (deepL r)
end
theorem parts_pos:∀x:Rx,1≤parts x
 | mk _ _ _ _ _ _ _ ks=>by simp only [parts];omega
theorem parts_mem:∀{ks:List Rx} {x:Rx},x∈ks→parts x≤partsL ks
 | [],_,h=>by simp at h
 | y::r,x,h=>by
  exact eL
theorem len_parts:∀ks:List Rx,ks.length≤partsL ks
 | []=>by simp
 | x::r=>by have:=parts_pos x;have:=len_parts r;simp only [partsL,Jr];omega
end Rx
def lf (c:UInt8):Bool:=decide (128≤c.toNat∧c.toNat≤191)
def l5:Str→Bool
 | []=>false
 | c::r=>!lf c&&r.all lf
def leS (a b:Str):Bool:=Op.bytesLess a b||a==b
@[go_sem] theorem fold_leS (a b:Str):(Op.bytesLess a b||a==b)=leS a b:=rfl
def rowB (r:Str × Str):Bool:=l5 r.1&&l5 r.2&&leS r.1 r.2
def oh:Option Str→List (Str × Str)→Bool
 | _,[]=>true
 | p,r::rs=>rowB r&&(match p with|none=>true|some t=>!leS r.1 t)&&oh (some r.2) rs
def oY (rs:List (Str × Str)):Bool:=oh none rs
def sL (x:Rx):Bool:=decide (x.chr=[])&&!x.neg&&decide (x.rows=[])&&decide (x.lo=0)&&decide (x.hi=0)&&!x.lazy
def repB (k:Int):Bool:=decide (k=2∨k=3∨k=4∨k=5∨k=6)
def lI:Rx→Bool
 | .mk k c ng rs lo hi lz ks =>
  if k=2 then sL (.mk k [] ng rs lo hi lz ks)&&decide (ks=[])&&l5 c
  else if k=4 then sL (.mk k c false [] lo hi lz ks)&&decide (ks=[])&&oY rs
  else if k=7 then sL (.mk k c ng rs 0 0 false ks)&&(match ks with|[x]=>repB x.kind|_=>false)&&decide (0≤lo∧lo≤255∧(hi=-1∨lo≤hi∧hi≤255))
  else if k=0 then sL (.mk k c ng rs lo hi lz ks)&&decide (ks.length≠1)&&ks.all fun x=>decide (x.kind≠0∧x.kind≠1)
  else if k=1 then sL (.mk k c ng rs lo hi lz ks)&&decide (1<ks.length)&&ks.all fun x=>decide (x.kind≠1)
  else if k=5∨k=6 then sL (.mk k c ng rs lo hi lz ks)&&decide (ks.length=1)
  else if k=3∨k=8∨k=9∨k=10∨k=11 then sL (.mk k c ng rs lo hi lz ks)&&decide (ks=[])
  else false
namespace Rx
mutual
def wf:Rx→Bool
 | mk k c ng rs lo hi lz ks=>lI (mk k c ng rs lo hi lz ks)&&wfL ks
def wfL:List Rx→Bool
 | []=>true
 | x::r=>wf x&&wfL r
end
end Rx
def okB (x:Rx) (left dp:Int):Bool:=x.wf&&decide ((x.parts:Int)≤left)&&decide ((x.deep:Int)≤dp)
def okL (ks:List Rx) (left dp:Int):Bool:=Rx.wfL ks&&decide ((Rx.partsL ks:Int)≤left)&&decide ((Rx.deepL ks:Int)≤dp)
def mayB (x:Rx):Bool:=okB x 512 16
theorem DU (x:Rx) (r:List Rx) (left dp:Int):okL (x::r) left dp=(okB x left dp&&okL r (left-x.parts) dp):=by
 rw [Bool.eq_iff_iff];have:=Rx.parts_pos x
 simp only [okL,okB,Jy,Jj];simp only [Rx.wfL,Rx.partsL,Rx.deepL,Jy];constructor
 ·rintro⟨⟨⟨a,b⟩,c⟩,d⟩
  exact⟨⟨⟨a,by omega⟩,by omega⟩,⟨b,by omega⟩,by omega⟩
 ·rintro⟨⟨⟨a,b⟩,c⟩,⟨d,e⟩,f⟩
  exact⟨⟨⟨a,d⟩,by omega⟩,by omega⟩
def grpB (k:Int):Bool:=decide (k=5∨k=6)
theorem DV (k:Int) (c:Str) (ng:Bool) (rs:List (Str × Str)) (lo hi:Int) (lz:Bool) (ks:List Rx) (left dp:Int) :
  okB (.mk k c ng rs lo hi lz ks) left dp=(decide (1≤left)&&decide (0≤dp-(if grpB k then 1 else 0))&&lI (.mk k c ng rs lo hi lz ks)&&okL ks (left-1) (dp-(if grpB k then 1 else 0))):=by
 rw [Bool.eq_iff_iff];have hd:((Rx.deepL ks+if k=5∨k=6 then 1 else 0:Nat):Int)=(Rx.deepL ks:Int)+(if grpB k then 1 else 0):=by
  by_cases h:k=5∨k=6<;>simp [grpB,h]
 simp only [okB,okL,Jy,Jj];simp only [Rx.wf,Rx.parts,Rx.deep,Jy,hd];generalize (if grpB k=true then(1:Int) else 0)=g
 constructor
 ·rintro⟨⟨⟨a,b⟩,c⟩,d⟩
  exact⟨⟨⟨by omega,by omega⟩,a⟩,⟨b,by omega⟩,by omega⟩
 ·rintro⟨⟨⟨a,b⟩,c⟩,⟨d,e⟩,f⟩
  exact⟨⟨⟨c,d⟩,by omega⟩,by omega⟩
open Go.RowKit
def SlS (w:World) (S:Nat→Prop) (a:Option Addr) (sz n:Nat) (cs:List Value):Prop :=
 cs.length=n*sz∧(0<n→∃b o,a=some ⟨b,o,none⟩∧S b∧b<w.heap.size∧∀(j:Nat) (u:Value),cs[j]?=some u→w.cell? ⟨b,o+j,none⟩=some u)
def Kept (S:Nat→Prop) (w w':World):Prop:=w.heap.size≤w'.heap.size∧∀b,S b→b<w.heap.size→w'.heap[b]?=w.heap[b]?
theorem Kept.below {S:Nat→Prop} {B:Nat} {w w':World} (h:Below B w w') (hS:∀b,S b→b<w.heap.size→b<B):Kept S w w':=⟨h.size,fun b hb hlt=>h.block b (hS b hb hlt)⟩
theorem Kept.all {S:Nat→Prop} {w w':World} (h:Below w.heap.size w w'):Kept S w w':=⟨h.size,fun b _ hlt=>h.block b hlt⟩
theorem SlS.keep {w w':World} {S:Nat→Prop} {a:Option Addr} {sz n:Nat} {cs:List Value} (h:SlS w S a sz n cs) (hk:Kept S w w'):SlS w' S a sz n cs :=
 ⟨h.1,fun hn=>by
  obtain⟨b,o,h1,h2,h3,h4⟩:=h.2 hn;exact⟨b,o,h1,h2,Jt h3 hk.1,fun j u hu=>by
   have e:=hk.2 b h2 h3;have:=h4 j u hu
   simp only [World.cell?] at this ⊢;rw [e];exact this⟩⟩
theorem SlS.mono {w:World} {S S':Nat→Prop} {a:Option Addr} {sz n:Nat} {cs:List Value} (h:SlS w S a sz n cs) (hS:∀b,S b→b<w.heap.size→S' b):SlS w S' a sz n cs :=
 ⟨h.1,fun hn=>by
  obtain⟨b,o,h1,h2,h3,h4⟩:=h.2 hn;exact⟨b,o,h1,hS b h2 h3,h3,h4⟩⟩
theorem SlS.none_ (w:World) (S:Nat→Prop) (a:Option Addr) (sz:Nat):SlS w S a sz 0 []:=⟨by simp,fun h=>by omega⟩
theorem SlS.sl {w:World} {S:Nat→Prop} {a:Option Addr} {sz n:Nat} {cs:List Value} (h:SlS w S a sz n cs):Sl w w.heap.size a sz n cs :=
 ⟨h.1,fun hn=>by
  obtain⟨b,o,h1,h2,h3,h4⟩:=h.2 hn;exact⟨b,o,h1,h3,h4⟩⟩
theorem Sl.slS {w:World} {B:Nat} {a:Option Addr} {sz n:Nat} {cs:List Value} (h:Sl w B a sz n cs) (hB:B≤w.heap.size):SlS w (·<B) a sz n cs :=
 ⟨h.1,fun hn=>by
  obtain⟨b,o,h1,h2,h3⟩:=h.2 hn;exact⟨b,o,h1,h2,by omega,h3⟩⟩
def lw (rs:List (Str × Str)):List Value:=rs.flatMap fun r=>[.string ⟨(r.1).toArray⟩,.string ⟨(r.2).toArray⟩]
theorem ox (rs:List (Str × Str)):(lw rs).length=rs.length*2:=by
 induction rs with
 | nil=>rfl
 | cons r rs ih=>simp only [lw,Jz,JA] at *;rw [ih];simp;omega
theorem xf {rs:List (Str × Str)} {k:Nat} {r:Str × Str} (h:rs[k]?=some r):(lw rs)[k*2]?=some (.string ⟨(r.1).toArray⟩)∧(lw rs)[k*2+1]?=some (.string ⟨(r.2).toArray⟩):=by
 induction rs generalizing k with
 | nil=>simp at h
 | cons g rs ih =>
  cases k with
  | zero=>simp at h;subst h;simp [lw]
  | succ k =>
   simp only [List.getElem?_cons_succ] at h;obtain⟨h1,h2⟩:=ih h;simp only [lw,Jz] at h1 h2 ⊢;refine⟨?_,?_⟩
   ·rw [JB gV];simpa [show (k+1)*2-2=k*2 by omega] using h1
   ·rw [JB gV];simpa [show (k+1)*2+1-2=k*2+1 by omega] using h2
theorem Sl.row {w:World} {B:Nat} {a:Option Addr} {n:Nat} {rs:List (Str × Str)} (h:Sl w B a 2 n (lw rs)) {k:Nat} {r:Str × Str} (hk:rs[k]?=some r) :
  ∃b o,a=some ⟨b,o,none⟩∧b<B∧w.cell? ⟨b,o+k*2,none⟩=some (.string ⟨(r.1).toArray⟩)∧w.cell? ⟨b,o+k*2+1,none⟩=some (.string ⟨(r.2).toArray⟩):=by
 have hlt:=(Jx.1 hk).1;have hn:n=rs.length:=by have:=h.1;rw [ox] at this;omega
 obtain⟨b,o,h1,h2,h3⟩:=h.2 gN;obtain⟨c1,c2⟩:=xf hk;exact⟨b,o,h1,h2,h3 _ _ c1,h3 _ _ c2⟩
theorem Sl.row_len {w:World} {B:Nat} {a:Option Addr} {n:Nat} {rs:List (Str × Str)} (h:Sl w B a 2 n (lw rs)):n=rs.length:=by
 have:=h.1;rw [ox] at this;omega
def rxc (k:Int) (c:Str) (ng:Bool) (ra:Option Addr) (rn rc:Nat) (lo hi:Int) (lz:Bool) (ka:Option Addr) (kn kc:Nat):List Value :=
 [.int .i64 k,.string ⟨c.toArray⟩,.bool ng,.slice ra rn rc,.int .i64 lo,.int .i64 hi,.bool lz,.slice ka kn kc]
mutual
inductive RxV (w:World) (S:Nat→Prop):List Value→Rx→Prop
 | mk {k:Int} {c:Str} {ng:Bool} {rs:List (Str × Str)} {lo hi:Int} {lz:Bool} {ks:List Rx} {ra ka:Option Addr} {rc kc:Nat} {css:List (List Value)} :
   SlS w S ra 2 rs.length (lw rs)→SlS w S ka 8 ks.length css.flatten→RxVs w S css ks→RxV w S (rxc k c ng ra rs.length rc lo hi lz ka ks.length kc) (.mk k c ng rs lo hi lz ks)
inductive RxVs (w:World) (S:Nat→Prop):List (List Value)→List Rx→Prop
 | nil:RxVs w S [] []
 | cons {c:List Value} {x:Rx} {cs:List (List Value)} {xs:List Rx}:RxV w S c x→RxVs w S cs xs→RxVs w S (c::cs) (x::xs)
end
mutual
theorem RxV.keep {w w':World} {S:Nat→Prop} (hk:Kept S w w'):∀{c:List Value} {x:Rx},RxV w S c x→RxV w' S c x
 | _,_,.mk h1 h2 h3=>.mk (h1.keep hk) (h2.keep hk) (RxVs.keep hk h3)
theorem RxVs.keep {w w':World} {S:Nat→Prop} (hk:Kept S w w'):∀{cs:List (List Value)} {xs:List Rx},RxVs w S cs xs→RxVs w' S cs xs
 | _,_,.nil=>.nil
 | _,_,.cons h1 h2=>.cons (RxV.keep hk h1) (RxVs.keep hk h2)
end
mutual
theorem RxV.mono {w:World} {S S':Nat→Prop} (hS:∀b,S b→b<w.heap.size→S' b):∀{c:List Value} {x:Rx},RxV w S c x→RxV w S' c x
 | _,_,.mk h1 h2 h3=>.mk (h1.mono hS) (h2.mono hS) (RxVs.mono hS h3)
theorem RxVs.mono {w:World} {S S':Nat→Prop} (hS:∀b,S b→b<w.heap.size→S' b):∀{cs:List (List Value)} {xs:List Rx},RxVs w S cs xs→RxVs w S' cs xs
 | _,_,.nil=>.nil
 | _,_,.cons h1 h2=>.cons (RxV.mono hS h1) (RxVs.mono hS h2)
end
def Any (_:Nat):Prop:=True
theorem RxV.any {w:World} {S:Nat→Prop} {c:List Value} {x:Rx} (h:RxV w S c x):RxV w Any c x:=h.mono fun _ _ _=>trivial
theorem RxV.later {w w':World} {S:Nat→Prop} {c:List Value} {x:Rx} (h:RxV w S c x) (hb:Below w.heap.size w w'):RxV w' S c x:=h.keep (Kept.all hb)
theorem RxVs.later {w w':World} {S:Nat→Prop} {c:List (List Value)} {x:List Rx} (h:RxVs w S c x) (hb:Below w.heap.size w w'):RxVs w' S c x:=h.keep (Kept.all hb)
theorem RxV.len {w:World} {S:Nat→Prop} {c:List Value} {x:Rx} (h:RxV w S c x):c.length=8:=by cases h;rfl
theorem RxVs.length {w:World} {S:Nat→Prop}:∀{cs:List (List Value)} {xs:List Rx},RxVs w S cs xs→cs.length=xs.length
 | _,_,.nil=>rfl
 | _,_,.cons _ h=>by simp [h.length]
theorem RxVs.eights {w:World} {S:Nat→Prop}:∀{cs:List (List Value)} {xs:List Rx},RxVs w S cs xs→∀c∈cs,c.length=8
 | _,_,.nil,c,hc=>by simp at hc
 | _,_,.cons h1 h2,c,hc=>by
  rcases JC.1 hc with rfl|hc
  ·exact h1.len
  ·exact h2.eights c hc
theorem RxVs.at_ {w:World} {S:Nat→Prop}:∀{cs:List (List Value)} {xs:List Rx},RxVs w S cs xs→∀{k:Nat} {x:Rx},xs[k]?=some x→∃c,cs[k]?=some c∧RxV w S c x
 | _,_,.nil,k,x,h=>by simp at h
 | _,_,.cons h1 h2,0,x,h=>by simp at h;subst h;exact⟨_,rfl,h1⟩
 | _,_,.cons h1 h2,k+1,x,h=>by simpa using h2.at_ gQ
theorem RxVs.append {w:World} {S:Nat→Prop}:∀{cs ds:List (List Value)} {xs ys:List Rx},RxVs w S cs xs→RxVs w S ds ys→RxVs w S (cs++ds) (xs++ys)
 | _,_,_,_,.nil,h=>h
 | _,_,_,_,.cons h1 h2,h=>.cons h1 (h2.append h)
theorem Ip {C:Nat}:∀{css:List (List Value)},(∀c∈css,c.length=C)→∀{k:Nat} {c:List Value},css[k]?=some c→∀{j:Nat} {u:Value},c[j]?=some u→css.flatten[k*C+j]?=some u
 | [],_,k,c,h,j,u,hj=>by simp at h
 | d::css,hC,0,c,h,j,u,hj=>by
  simp at h;subst h
  rw [List.flatten_cons,Nat.zero_mul,Nat.zero_add,JD (Jx.1 hj).1];exact hj
 | d::css,hC,k+1,c,h,j,u,hj=>by
  have hd:=hC d (JE ..);have ih:=Ip (fun x hx=>hC x (JF _ hx)) (show css[k]?=some c by simpa using h) hj;rw [List.flatten_cons,JB (by rw [hd,Nat.succ_mul];omega),hd,show (k+1)*C+j-C=k*C+j by rw [Nat.succ_mul];omega];exact ih
def RxSl (w:World) (S:Nat→Prop) (a:Option Addr) (n:Nat) (xs:List Rx):Prop:=∃css,SlS w S a 8 n css.flatten∧RxVs w S css xs
theorem RxSl.keep {w w':World} {S:Nat→Prop} {a:Option Addr} {n:Nat} {xs:List Rx} (h:RxSl w S a n xs) (hk:Kept S w w'):RxSl w' S a n xs:=by
 obtain⟨css,h1,h2⟩:=h;exact⟨css,h1.keep hk,h2.keep hk⟩
theorem RxSl.later {w w':World} {S:Nat→Prop} {a:Option Addr} {n:Nat} {xs:List Rx} (h:RxSl w S a n xs) (hb:Below w.heap.size w w'):RxSl w' S a n xs:=h.keep (Kept.all hb)
theorem RxSl.mono {w:World} {S S':Nat→Prop} {a:Option Addr} {n:Nat} {xs:List Rx} (h:RxSl w S a n xs) (hS:∀b,S b→b<w.heap.size→S' b):RxSl w S' a n xs:=by
 obtain⟨css,h1,h2⟩:=h;exact⟨css,h1.mono hS,h2.mono hS⟩
theorem RxSl.len {w:World} {S:Nat→Prop} {a:Option Addr} {n:Nat} {xs:List Rx} (h:RxSl w S a n xs):n=xs.length:=by
 obtain⟨css,h1,h2⟩:=h;have h3:=h1.1;have h4:∀{cs:List (List Value)},(∀c∈cs,c.length=8)→cs.flatten.length=cs.length*8:=by
  intro cs;induction cs with
  | nil=>intro _;rfl
  | cons c cs ih=>intro h;rw [List.flatten_cons,JA,ih (fun x hx=>h x (JF _ hx)),h c (JE ..)];simp;omega
 rw [h4 h2.eights,h2.length] at h3;omega
theorem RxSl.at_ {w:World} {S:Nat→Prop} {a:Option Addr} {n:Nat} {xs:List Rx} (h:RxSl w S a n xs) {k:Nat} {x:Rx} (hk:xs[k]?=some x) :
  ∃b o c,a=some ⟨b,o,none⟩∧S b∧b<w.heap.size∧RxV w S c x∧∀(j:Nat) (u:Value),c[j]?=some u→w.cell? ⟨b,o+(k*8+j),none⟩=some u:=by
 exact cA
theorem RxSl.cells {w:World} {S:Nat→Prop} {a:Option Addr} {n:Nat} {xs:List Rx} (h:RxSl w S a n xs) {m:Nat} {k:Int} {c:Str} {ng:Bool} {rs:List (Str × Str)} {lo hi:Int} {lz:Bool} {ks:List Rx} (hk:xs[m]?=some (.mk k c ng rs lo hi lz ks)) :
  ∃b o ra rc ka kc,a=some ⟨b,o,none⟩∧S b∧b<w.heap.size∧SlS w S ra 2 rs.length (lw rs)∧RxSl w S ka ks.length ks∧RxV w S (rxc k c ng ra rs.length rc lo hi lz ka ks.length kc) (.mk k c ng rs lo hi lz ks) ∧
   w.cell? ⟨b,o+m*8,none⟩=some (.int .i64 k)∧w.cell? ⟨b,o+m*8+1,none⟩=some (.string ⟨c.toArray⟩)∧w.cell? ⟨b,o+m*8+2,none⟩=some (.bool ng)∧w.cell? ⟨b,o+m*8+3,none⟩=some (.slice ra rs.length rc) ∧
   w.cell? ⟨b,o+m*8+4,none⟩=some (.int .i64 lo)∧w.cell? ⟨b,o+m*8+5,none⟩=some (.int .i64 hi)∧w.cell? ⟨b,o+m*8+6,none⟩=some (.bool lz)∧w.cell? ⟨b,o+m*8+7,none⟩=some (.slice ka ks.length kc):=by
 obtain⟨b,o,cc,e1,e2,e3,hv,hc⟩:=h.at_ hk;cases hv with
 | mk h1 h2 h3 =>
  exact⟨b,o,_,_,_,_,e1,e2,e3,h1,⟨_,h2,h3⟩,.mk h1 h2 h3,hc 0 _ rfl,hc 1 _ rfl,hc 2 _ rfl,hc 3 _ rfl,hc 4 _ rfl,hc 5 _ rfl,hc 6 _ rfl,hc 7 _ rfl⟩
theorem RxV.open_ {w:World} {S:Nat→Prop} {cc:List Value} {k:Int} {c:Str} {ng:Bool} {rs:List (Str × Str)} {lo hi:Int} {lz:Bool} {ks:List Rx} (h:RxV w S cc (.mk k c ng rs lo hi lz ks)) :
  ∃ra rc ka kc,cc=rxc k c ng ra rs.length rc lo hi lz ka ks.length kc∧SlS w S ra 2 rs.length (lw rs)∧RxSl w S ka ks.length ks:=by
 cases h with
 | mk h1 h2 h3=>exact⟨_,_,_,_,rfl,h1,_,h2,h3⟩
theorem RxV.close {w:World} {S:Nat→Prop} {k:Int} {c:Str} {ng:Bool} {rs:List (Str × Str)} {lo hi:Int} {lz:Bool} {ks:List Rx} {ra ka:Option Addr} {rc kc:Nat} (h1:SlS w S ra 2 rs.length (lw rs)) (h2:RxSl w S ka ks.length ks) :
  RxV w S (rxc k c ng ra rs.length rc lo hi lz ka ks.length kc) (.mk k c ng rs lo hi lz ks):=by
 obtain⟨css,a,b⟩:=h2;exact .mk h1 a b
end Go.Proofs.YtdcnncgpomcaaaaGreatDoor
