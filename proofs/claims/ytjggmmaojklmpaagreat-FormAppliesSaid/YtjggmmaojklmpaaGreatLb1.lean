/- Small laws on strings told as lists of bytes, on rows that a call owns, and on worlds; nothing of the program's own but the numbers of its types. -/
import Derived.Test.YtjggmmaojklmpaaGreatLb0
import Derived.Test.YtjggmmaojklmpaaGreatProg
set_option maxRecDepth 100000
set_option maxHeartbeats 4000000
namespace Go.Proofs.YtjggmmaojklmpaaGreat
open Go.RowKit
@[simp,go_sem] theorem ba_get (l:List UInt8) (i:Nat) (h:i<(ByteArray.mk l.toArray).size):(ByteArray.mk l.toArray)[i]'h=l[i]'(by exact h):=by
 simp [ByteArray.getElem_eq_getElem_data]
@[simp,go_sem] theorem ba_toList (l:List UInt8):(ByteArray.mk l.toArray).toList=l:=by rw [ByteArray.toList_eq]
@[simp,go_sem] theorem ba_append (l r:List UInt8):ByteArray.mk l.toArray++ByteArray.mk r.toArray=ByteArray.mk (l++r).toArray:=by
 apply ByteArray.ext;simp
@[simp,go_sem] theorem Be (l:List UInt8):(ByteArray.mk l.toArray).size=l.length:=rfl
@[simp,go_sem] theorem zW (l:List UInt8) (i j:Nat):(ByteArray.mk l.toArray).extract i j=ByteArray.mk ((l.drop i).take (j-i)).toArray:=by
 apply ByteArray.ext;simp [ByteArray.data_extract]
@[simp,go_sem] theorem ba_extract_end (l:List UInt8) (i:Nat):(ByteArray.mk l.toArray).extract i l.length=ByteArray.mk (l.drop i).toArray:=by
 rw [zW,List.take_of_length_le gF]
@[simp,go_sem] theorem take_drop_all (l:List UInt8) (i:Nat):(l.drop i).take (l.length-i)=l.drop i:=List.take_of_length_le gF
theorem ba_of (s:ByteArray):s=ByteArray.mk s.data.toList.toArray:=by simp
theorem ky {l r:List UInt8} {i:Nat} {c:UInt8} (h:l.drop i=c::r):i<l.length∧(∀hi:i<l.length,l[i]'hi=c)∧l.drop (i+1)=r:=by
 have hi:i<l.length:=by
  exact cP
 rw [List.drop_eq_getElem_cons hi] at h;injection h with h1 h2
 exact⟨hi,fun _=>h1,h2⟩
theorem ll {l:List UInt8} {i:Nat} (h:l.drop i=[]):l.length≤i:=by simpa using h
theorem ud (c:UInt8):UInt8.ofNat ((c.toNat:Int)).toNat=c:=by simp
theorem mE (c:UInt8):c.toNat<256:=c.toNat_lt
theorem pre1 (k c:UInt8) (r:List UInt8):List.isPrefixOf [k] (c::r)=decide (c.toNat=k.toNat):=by
 rw [Bool.eq_iff_iff];simp only [List.isPrefixOf,Ch,Ci,Cj,←Ck];exact eq_comm
abbrev Str:=List UInt8
def kR (l:Str):List Value:=l.map fun c=>.int .u8 c.toNat
theorem tE (l:Str):(kR l).length=l.length:=by simp [kR]
theorem qi:(Tryz.prog.info? 5).map (fun i=>(i.zero,i.size,i.bytes))=some (some (.int .u8 0),1,1):=by kernel_rfl
theorem Bt {P:Program} {w:World} {o:Oper} {a:Act} {K:Act→World→Prop} {Q:Exit→Act→World→Prop} (B:Nat) (e:TypeId) {cs:Array Value} {m:Nat × Nat} (s x:Operand) (t:TypeId)
  (ho:o.op=.call { callee:=.builtin .append,args:=#[s,x],argTypes:=#[t,t] })
  {i:TypeInfo} {z:Value} {size bytes:Nat} (ht:P.underlying t=some (.slice e)) (hinf:P.info? e=some i∧i.zero=some z∧i.size=size∧i.bytes=bytes)
  (hzs:z.cells.size=size) (hsz:0<size)
  {v:Value} {n:Nat} {xs:List Value} (hs:a.eval s=v) (hown:w.ownsRow B e size v n xs)
  {g:Nat} (hx:a.eval x=.slice (some ⟨g,0,none⟩) 1 1) (hgz:g=w.heap.size) (hl:cs.size=size) (h1:∀u∈cs.toList,u.oneCell'=true)
  (hn:n≤100000000) (hb:bytes≤1000) (hB:B≤w.heap.size)
  (h:∀v' w',w'.ownsRow B e size v' (n+1) (xs++cs.toList)→w.grownBy w' v.ownBlock→Below B w w'→v'≠.slice none 0 0→K (a.put o.dst v') w') :
  o.wp P a (w.alloc (.cells cs e m)) K Q:=by
 subst hgz;obtain⟨hi,hz0,hz1,hz2⟩:=hinf;refine wp_append_own (P:=P) (w.alloc (.cells cs e m)) s x t ho B e i z size bytes ht hi hz0 hz1 hz2 hzs hsz v n xs hs (hown.alloc _) ⟨w.heap.size,0,none⟩ 1 1 cs.toList hx (by simpa using hl) ?_ h1 (by simp only [maxLen];omega) ?_ gH ?_
 ·intro j u hu
  have hadd:(⟨w.heap.size,0,none⟩:Addr).add j=⟨w.heap.size,j,none⟩:=by unfold Addr.add;split<;>simp_all
  rw [hadd,cell_of_row _ w.heap.size j cs e m (heap_alloc_new w _)];simpa using hu
 ·have:(n+1)*bytes≤(100000000+1)*1000:=Nat.mul_le_mul gu hb
  omega
 ·intro v' w' h2 h3 h4
  have hg:w.grownBy w' v.ownBlock:=by
   refine⟨h3.os,h3.tape,h3.output,by have:=h3.size;simp at this;omega,fun k hk hne=>?_⟩;rw [h3.block k gH hne];exact Below.heap_alloc w _ k hk
  refine h v' w' h2 hg ?_ (fun hv=>by have:=(h4.1 hv).2;omega);exact((Below.refl B w).grown hg hB fun k hk=>(hown.lt k hk).1)
theorem kz {P:Program} {w:World} {ops:Array Oper} {rest:List Oper} {o:Oper} {a:Act} {Q:Exit→Act→World→Prop} (B:Nat) (e:TypeId) {cs:Array Value} {m:Nat × Nat} (hgd:o.guard=none) (s x:Operand) (t:TypeId)
  (ho:o.op=.call { callee:=.builtin .append,args:=#[s,x],argTypes:=#[t,t] })
  {i:TypeInfo} {z:Value} {size bytes:Nat} (ht:P.underlying t=some (.slice e)) (hinf:P.info? e=some i∧i.zero=some z∧i.size=size∧i.bytes=bytes)
  (hzs:z.cells.size=size) (hsz:0<size)
  {v:Value} {n:Nat} {xs:List Value} (hs:a.eval s=v) (hown:w.ownsRow B e size v n xs)
  {g:Nat} (hx:a.eval x=.slice (some ⟨g,0,none⟩) 1 1) (hgz:g=w.heap.size) (hl:cs.size=size) (h1:∀u∈cs.toList,u.oneCell'=true)
  (hn:n≤100000000) (hb:bytes≤1000) (hB:B≤w.heap.size)
  (h:∀v' w',w'.ownsRow B e size v' (n+1) (xs++cs.toList)→w.grownBy w' v.ownBlock→Below B w w'→v'≠.slice none 0 0→wpList P ops Q rest (a.put o.dst v') w') :
  wpList P ops Q (o::rest) a (w.alloc (.cells cs e m)) :=
 wpList_plain hgd fun _ hK=>Bt B e s x t ho ht hinf hzs hsz hs hown hx hgz hl h1 hn hb hB fun v' w' a1 a2 a3 a4=>hK _ _ (h v' w' a1 a2 a3 a4)
theorem si {P:Program} {w W:World} {ops:Array Oper} {o:Oper} {a:Act} {K:Act→World→Prop} {Q:Exit→Act→World→Prop} {E:Prop} (B:Nat) (e:TypeId) {cs:Array Value} {m:Nat × Nat} (hW:W=w.alloc (.cells cs e m)) (hgd:o.guard=none) (s x:Operand) (t:TypeId)
  (ho:o.op=.call { callee:=.builtin .append,args:=#[s,x],argTypes:=#[t,t] })
  {i:TypeInfo} {z:Value} {size bytes:Nat} (ht:P.underlying t=some (.slice e)) (hinf:P.info? e=some i∧i.zero=some z∧i.size=size∧i.bytes=bytes)
  (hzs:z.cells.size=size) (hsz:0<size)
  {v:Value} {n:Nat} {xs:List Value} (hs:a.eval s=v) (hown:w.ownsRow B e size v n xs)
  {g:Nat} (hx:a.eval x=.slice (some ⟨g,0,none⟩) 1 1) (hgz:g=w.heap.size) (hl:cs.size=size) (h1:∀u∈cs.toList,u.oneCell'=true)
  (hn:n≤100000000) (hb:bytes≤1000) (hB:B≤w.heap.size)
  (h:∀v' w',w'.ownsRow B e size v' (n+1) (xs++cs.toList)→w.grownBy w' v.ownBlock→Below B w w'→v'≠.slice none 0 0→K (a.put o.dst v') w') :
  if Region.wanted o (yielded ops a.tmps)=true then Oper.wp P o a W K Q else E:=by
 subst hW;have hw:Region.wanted o (yielded ops a.tmps)=true:=jt;rw [Cl hw];exact Bt B e s x t ho ht hinf hzs hsz hs hown hx hgz hl h1 hn hb hB h
theorem qS {P:Program} {w:World} {B:Nat} {src e dst:TypeId} (hs:P.underlying src=some (.slice e)) (he:P.underlying e=some (.int .u8)) (hd:P.underlying dst=some .string)
  {v:Value} {l:Str} {n:Nat} (h:w.ownsRow B e 1 v n (kR l)):(convert src dst v).run P w=.ok (.string ⟨l.toArray⟩) w:=by
 have hn:n=l.length:=by have:=h.1;rw [tE] at this;omega
 subst hn;rcases h.2 with⟨rfl,h0⟩|⟨g,cap,cur,rfl,hb,hg,hnc,hcm,hcs,htake⟩
 ·have hl:l=[]:=Cm h0
  subst hl;exact run_convert_bytes_nil w src e hs he 0 0 dst hd
 ·refine run_convert_bytes_back w src dst e ⟨g,0,none⟩ cap l hs he hd fun j hj=>?_
  have:=h.cells (g:=g) rfl j (.int .u8 (l[j].toNat)) (by simp [kR,List.getElem?_map,Cn hj])
  exact this
def BRow (w:World) (g:Nat) (bs:Str):Prop :=
 ∃arr lo hi,w.heap[g]?=some (.cells arr 5 (lo,hi))∧bs.length≤lo∧bs.length≤arr.size∧∀(j:Nat) (c:UInt8),bs[j]?=some c→arr[j]?=some (.int .u8 c.toNat)
theorem BRow.cell {w:World} {g:Nat} {bs:Str} (h:BRow w g bs) {j:Nat} {c:UInt8} (hj:bs[j]?=some c):w.cell? ⟨g,j,none⟩=some (.int .u8 c.toNat):=by
 obtain⟨arr,lo,hi,h1,_,_,h4⟩:=h;simp only [World.cell?,h1];simpa using h4 j c hj
theorem BRow.free {w:World} {g:Nat} {bs:Str} (h:BRow w g bs) {j:Nat} (hj:j<bs.length):w.frozen? ⟨g,j,none⟩=false:=by
 obtain⟨arr,lo,hi,h1,h2,_,_⟩:=h;simp only [World.frozen?,h1];simp;omega
theorem BRow.set {w:World} {g:Nat} {bs:Str} (h:BRow w g bs) {j:Nat} (c:UInt8):BRow (w.setCell ⟨g,j,none⟩ (.int .u8 c.toNat)) g (bs.set j c):=by
 obtain⟨arr,lo,hi,h1,h2,h3,h4⟩:=h;refine⟨arr.setIfInBounds j (.int .u8 c.toNat),lo,hi,by simp [World.setCell,Array.getElem?_modify,h1],by simpa using h2,by simpa using h3,fun i d hd=>?_⟩;rw [List.getElem?_set] at hd;by_cases hij:j=i
 ·subst hij
  simp at hd
  obtain⟨hlt,rfl⟩:=hd;simp [Array.getElem?_setIfInBounds];omega
 ·rw [Co hij] at hd
  rw [Array.getElem?_setIfInBounds_ne hij];exact h4 i d hd
theorem BRow.back {P:Program} {w:World} {g:Nat} {bs:Str} (h:BRow w g bs) {src e dst:TypeId} (hs:P.underlying src=some (.slice e)) (he:P.underlying e=some (.int .u8)) (hd:P.underlying dst=some .string) (cap:Nat) :
  (convert src dst (.slice (some ⟨g,0,none⟩) bs.length cap)).run P w=.ok (.string ⟨bs.toArray⟩) w:=by
 refine run_convert_bytes_back w src dst e ⟨g,0,none⟩ cap bs hs he hd fun j hj=>?_
 have hadd:(⟨g,0,none⟩:Addr).add j=⟨g,j,none⟩:=by unfold Addr.add;split<;>simp_all
 rw [hadd];exact h.cell (Cn hj)
theorem BRow.made {P:Program} (w:World) {src dst:TypeId} (l:Str) (hs:P.underlying src=some .string) (hd:P.underlying dst=some (.slice 5)) (he:P.underlying 5=some (.int .u8)) :
  ∃cap w1,(convert src dst (.string ⟨l.toArray⟩)).run P w=.ok (.slice (some ⟨w.heap.size,0,none⟩) l.length cap) w1∧BRow w1 w.heap.size l∧Below w.heap.size w w1∧w1.heap.size=w.heap.size+1:=by
 have h:=run_bytes_of_string (P:=P) w src dst 5 ⟨l.toArray⟩ hs hd he;refine⟨_,_,h,⟨_,_,_,heap_alloc_new w.drew _,?_,?_,fun j c hj=>?_⟩,((Below.refl _ w).drew).alloc (Cp _) _,by simp⟩
 ·simp [bytesRow]
 ·simp [bytesRow]
 ·have hlt:=(Cq.1 hj).1
  simp only [bytesRow];rw [Array.getElem?_append_left (by simpa using hlt)];simp [hj]
theorem jU {a b:Bool} (h:a=b):Ending.returned (.bool a)=.returned (.bool b):=by rw [h]
theorem lD {k:IntKind} {a b:Int} (h:a=b):Ending.returned (.int k a)=.returned (.int k b):=by rw [h]
theorem wV {a b:Str} (h:a=b):Ending.returned (.string ⟨a.toArray⟩)=.returned (.string ⟨b.toArray⟩):=by rw [h]
theorem j7 {w:World} {B:Nat} {e:TypeId} {sz:Nat} {v:Value} {n:Nat} {xs:List Value} (h:w.ownsRow B e sz v n xs):∃a c,v=.slice a n c:=by
 rcases h.2 with⟨rfl,rfl⟩|⟨g,cap,cur,rfl,_⟩
 ·exact⟨_,_,rfl⟩
 ·exact⟨_,_,rfl⟩
inductive Rx where
 | mk (kind:Int) (chr:Str) (neg:Bool) (rows:List (Str × Str)) (lo hi:Int) (lazy:Bool) (kids:List Rx)
namespace Rx
def kind:Rx→Int|mk k _ _ _ _ _ _ _=>k
def chr:Rx→Str|mk _ c _ _ _ _ _ _=>c
def neg:Rx→Bool|mk _ _ n _ _ _ _ _=>n
def rows:Rx→List (Str × Str)|mk _ _ _ r _ _ _ _=>r
def lo:Rx→Int|mk _ _ _ _ l _ _ _=>l
def hi:Rx→Int|mk _ _ _ _ _ h _ _=>h
def lazy:Rx→Bool|mk _ _ _ _ _ _ z _=>z
def kids:Rx→List Rx|mk _ _ _ _ _ _ _ k=>k
mutual
def parts:Rx→Nat
 | mk _ _ _ _ _ _ _ ks=>1+partsL ks
def partsL:List Rx→Nat
 | []=>0
 | x::r=>parts x+partsL r
end
mutual
def groups:Rx→Nat
 | mk k _ _ _ _ _ _ ks=>(if k=5 then 1 else 0)+groupsL ks
def groupsL:List Rx→Nat
 | []=>0
 | x::r=>groups x+groupsL r
end
mutual
def deep:Rx→Nat
 | mk k _ _ _ _ _ _ ks=>deepL ks+(if k=5∨k=6 then 1 else 0)
def deepL:List Rx→Nat
 | []=>0
 | x::r=>max (deep x) (deepL r)
end
theorem parts_pos:∀x:Rx,1≤parts x
 | mk _ _ _ _ _ _ _ ks=>by simp only [parts];omega
theorem parts_mem:∀{ks:List Rx} {x:Rx},x∈ks→parts x≤partsL ks
 | [],_,h=>by simp at h
 | y::r,x,h=>by
  exact eA
theorem len_parts:∀ks:List Rx,ks.length≤partsL ks
 | []=>by simp
 | x::r=>by have:=parts_pos x;have:=len_parts r;simp only [partsL,Cr];omega
theorem groups_parts:∀x:Rx,groups x≤parts x:=by
 have key:∀n,∀x:Rx,parts x≤n→groups x≤parts x:=by
  intro n;induction n with
  | zero=>intro x h;have:=parts_pos x;omega
  | succ n ih =>
   rintro⟨k,c,ng,rs,lo,hi,lz,ks⟩ h;have hl:∀l:List Rx,partsL l≤n→groupsL l≤partsL l:=by
    intro l;induction l with
    | nil=>intro _;simp [groupsL,partsL]
    | cons x r ihl =>
     intro hx;simp only [partsL] at hx;simp only [groupsL,partsL];have:=ih x gu;have:=ihl gu;omega
   simp only [parts] at h;have:=hl ks gu
   simp only [groups,parts];split<;>omega
 exact fun x=>key _ x (Cp _)
theorem deep_parts:∀x:Rx,deep x≤parts x:=by
 have key:∀n,∀x:Rx,parts x≤n→deep x≤parts x:=by
  intro n;induction n with
  | zero=>intro x h;have:=parts_pos x;omega
  | succ n ih =>
   rintro⟨k,c,ng,rs,lo,hi,lz,ks⟩ h;have hl:∀l:List Rx,partsL l≤n→deepL l≤partsL l:=by
    intro l;induction l with
    | nil=>intro _;simp [deepL,partsL]
    | cons x r ihl =>
     intro hx;simp only [partsL] at hx;simp only [deepL,partsL];have:=ih x gu;have:=ihl gu;omega
   simp only [parts] at h;have:=hl ks gu
   simp only [deep,parts];split<;>omega
 exact fun x=>key _ x (Cp _)
end Rx
def j0 (c:UInt8):Bool:=decide (128≤c.toNat∧c.toNat≤191)
def kX:Str→Bool
 | []=>false
 | c::r=>!j0 c&&r.all j0
def leS (a b:Str):Bool:=Op.bytesLess a b||a==b
@[go_sem] theorem fold_leS (a b:Str):(Op.bytesLess a b||a==b)=leS a b:=rfl
def rowB (r:Str × Str):Bool:=kX r.1&&kX r.2&&leS r.1 r.2
def pM:Option Str→List (Str × Str)→Bool
 | _,[]=>true
 | p,r::rs=>rowB r&&(match p with|none=>true|some t=>!leS r.1 t)&&pM (some r.2) rs
def sD (rs:List (Str × Str)):Bool:=pM none rs
def uP (x:Rx):Bool:=decide (x.chr=[])&&!x.neg&&decide (x.rows=[])&&decide (x.lo=0)&&decide (x.hi=0)&&!x.lazy
def repB (k:Int):Bool:=decide (k=2∨k=3∨k=4∨k=5∨k=6)
def kw:Rx→Bool
 | .mk k c ng rs lo hi lz ks =>
  if k=2 then uP (.mk k [] ng rs lo hi lz ks)&&decide (ks=[])&&kX c
  else if k=4 then uP (.mk k c false [] lo hi lz ks)&&decide (ks=[])&&sD rs
  else if k=7 then uP (.mk k c ng rs 0 0 false ks)&&(match ks with|[x]=>repB x.kind|_=>false)&&decide (0≤lo∧lo≤255∧(hi=-1∨lo≤hi∧hi≤255))
  else if k=0 then uP (.mk k c ng rs lo hi lz ks)&&decide (ks.length≠1)&&ks.all fun x=>decide (x.kind≠0∧x.kind≠1)
  else if k=1 then uP (.mk k c ng rs lo hi lz ks)&&decide (1<ks.length)&&ks.all fun x=>decide (x.kind≠1)
  else if k=5∨k=6 then uP (.mk k c ng rs lo hi lz ks)&&decide (ks.length=1)
  else if k=3∨k=8∨k=9∨k=10∨k=11 then uP (.mk k c ng rs lo hi lz ks)&&decide (ks=[])
  else false
namespace Rx
mutual
def wf:Rx→Bool
 | mk k c ng rs lo hi lz ks=>kw (mk k c ng rs lo hi lz ks)&&wfL ks
def wfL:List Rx→Bool
 | []=>true
 | x::r=>wf x&&wfL r
end
end Rx
def okB (x:Rx) (left dp:Int):Bool:=x.wf&&decide ((x.parts:Int)≤left)&&decide ((x.deep:Int)≤dp)
def okL (ks:List Rx) (left dp:Int):Bool:=Rx.wfL ks&&decide ((Rx.partsL ks:Int)≤left)&&decide ((Rx.deepL ks:Int)≤dp)
def mayB (x:Rx):Bool:=okB x 512 16
theorem yf (x:Rx) (r:List Rx) (left dp:Int):okL (x::r) left dp=(okB x left dp&&okL r (left-x.parts) dp):=by
 rw [Bool.eq_iff_iff];have:=Rx.parts_pos x
 simp only [okL,okB,Cs,Cj];simp only [Rx.wfL,Rx.partsL,Rx.deepL,Cs];constructor
 ·rintro⟨⟨⟨a,b⟩,c⟩,d⟩
  exact⟨⟨⟨a,by omega⟩,by omega⟩,⟨b,by omega⟩,by omega⟩
 ·rintro⟨⟨⟨a,b⟩,c⟩,⟨d,e⟩,f⟩
  exact⟨⟨⟨a,d⟩,by omega⟩,by omega⟩
def grpB (k:Int):Bool:=decide (k=5∨k=6)
theorem xN (k:Int) (c:Str) (ng:Bool) (rs:List (Str × Str)) (lo hi:Int) (lz:Bool) (ks:List Rx) (left dp:Int) :
  okB (.mk k c ng rs lo hi lz ks) left dp=(decide (1≤left)&&decide (0≤dp-(if grpB k then 1 else 0))&&kw (.mk k c ng rs lo hi lz ks)&&okL ks (left-1) (dp-(if grpB k then 1 else 0))):=by
 rw [Bool.eq_iff_iff];have hd:((Rx.deepL ks+if k=5∨k=6 then 1 else 0:Nat):Int)=(Rx.deepL ks:Int)+(if grpB k then 1 else 0):=by
  by_cases h:k=5∨k=6<;>simp [grpB,h]
 simp only [okB,okL,Cs,Cj];simp only [Rx.wf,Rx.parts,Rx.deep,Cs,hd];generalize (if grpB k=true then(1:Int) else 0)=g
 constructor
 ·rintro⟨⟨⟨a,b⟩,c⟩,d⟩
  exact⟨⟨⟨by omega,by omega⟩,a⟩,⟨b,by omega⟩,by omega⟩
 ·rintro⟨⟨⟨a,b⟩,c⟩,⟨d,e⟩,f⟩
  exact⟨⟨⟨c,d⟩,by omega⟩,by omega⟩
open Go.RowKit
def wd (w:World) (k:Nat):Option TypeId:=match w.heap[k]? with|some (.cells _ e _)=>some e|_=>none
structure Fr (B:Nat) (gs:List Nat) (es:List TypeId) (w w':World):Prop where
 os:w'.os=w.os
 tape:w'.tape=w.tape
 output:w'.output=w.output
 size:w.heap.size≤w'.heap.size
 block:∀k,k<w.heap.size→k ∉ gs→(k<B∨∀e∈es,wd w k≠some e)→w'.heap[k]?=w.heap[k]?
theorem Fr.refl (B gs es w):Fr B gs es w w:=⟨rfl,rfl,rfl,Cp _,fun _ _ _ _=>rfl⟩
theorem Fr.trans {B gs es} {a b c:World} (h:Fr B gs es a b) (k:Fr B gs es b c):Fr B gs es a c :=
 ⟨k.os.trans h.os,k.tape.trans h.tape,k.output.trans h.output,Ct h.size k.size,fun i hi hg ht=>by
  have h1:=h.block i hi hg ht;refine(k.block i (Cu hi h.size) hg ?_).trans h1
  unfold wd at ht ⊢;rw [h1];exact ht⟩
theorem Fr.below {B gs es} {w w':World} (h:Fr B gs es w w') (hB:B≤w.heap.size) (hg:∀g∈gs,B≤g):Below B w w' :=
 ⟨h.os,h.tape,h.output,h.size,fun k hk=>h.block k gu (fun hm=>by have:=hg k hm;omega) (.inl hk)⟩
theorem Fr.setCell {B gs es} {a w:World} (h:Fr B gs es a w) {p:Addr} (hp:p.block∈gs) (u:Value):Fr B gs es a (w.setCell p u) :=
 h.trans ⟨rfl,rfl,rfl,by simp [World.setCell],fun k _ hk _=>Below.heap_setCell _ _ _ _ (fun e=>hk (e▸hp))⟩
theorem ni {w:World} {B:Nat} {e:TypeId} {sz:Nat} {v:Value} {n:Nat} {xs:List Value} (h:w.ownsRow B e sz v n xs) {k:Nat} (hk:v.ownBlock=some k):B≤k∧wd w k=some e:=by
 rcases h.2 with⟨rfl,_⟩|⟨g,cap,cur,rfl,hb,hg,_⟩
 ·simp [Value.ownBlock] at hk
 ·simp [Value.ownBlock] at hk;subst hk;exact⟨hb,by simp [wd,hg]⟩
theorem Fr.grown {B gs es} {a w w':World} (h:Fr B gs es a w) {e:TypeId} {sz:Nat} {v:Value} {n:Nat} {xs:List Value} (hown:w.ownsRow B e sz v n xs) (he:e∈es) (hg:w.grownBy w' v.ownBlock):Fr B gs es a w' :=
 h.trans ⟨hg.os,hg.tape,hg.output,hg.size,fun k hk _ ht=>hg.block k hk (fun e'=>by
  obtain⟨h1,h2⟩:=ni hown e'.symm;rcases ht with ht|ht
  ·omega
  ·exact ht e he h2)⟩
theorem jO {w:World} {k:Nat} {o:Obj} (h:w.heap[k]?=some o):k<w.heap.size:=by
 rcases Nat.lt_or_ge k w.heap.size with h1|h1
 ·exact h1
 ·rw [Array.getElem?_eq_none h1] at h;cases h
def Bld (B g:Nat) (l:Str) (w:World):Prop :=
 ∃p v,w.heap[g]?=some (.cells #[p,v] 80 (0,0))∧B≤g∧(p=.pointer none∨p=.pointer (some ⟨g,0,none⟩))∧w.ownsRow B 5 1 v l.length (kR l)
theorem Bld.fresh (B:Nat) (w:World) (hB:B≤w.heap.size):Bld B w.heap.size [] (w.alloc (.cells #[.pointer none,.slice none 0 0] 80)) :=
 ⟨_,_,heap_alloc_new w _,hB,.inl rfl,World.ownsRow_nil _ _ _ _⟩
theorem Bld.lt {B g:Nat} {l:Str} {w:World} (h:Bld B g l w):g<w.heap.size:=by
 obtain⟨p,v,h,_⟩:=h;exact jO h
theorem Bld.le {B g:Nat} {l:Str} {w:World} (h:Bld B g l w):B≤g:=by
 obtain⟨p,v,_,h,_⟩:=h;exact h
theorem Bld.keep {B g:Nat} {l:Str} {w w':World} (h:Bld B g l w) (_hs:w.heap.size≤w'.heap.size) (hk:∀k,k<w.heap.size→w'.heap[k]?=w.heap[k]?):Bld B g l w':=by
 obtain⟨p,v,h1,h2,h3,h4,h5⟩:=h;refine⟨p,v,(hk g (jO h1)).trans h1,h2,h3,h4,?_⟩;rcases h5 with h5|⟨g',cap,cur,hv,hb,hg,r⟩
 ·exact .inl h5
 ·exact .inr ⟨g',cap,cur,hv,hb,(hk g' (jO hg)).trans hg,r⟩
theorem Bld.alloc {B g:Nat} {l:Str} {w:World} (h:Bld B g l w) (o:Obj):Bld B g l (w.alloc o) :=
 h.keep gF fun k hk=>Below.heap_alloc _ _ _ hk
theorem Bld.below {B g:Nat} {l:Str} {w w':World} (h:Bld B g l w) (hb:Below w.heap.size w w'):Bld B g l w' :=
 h.keep hb.size fun k hk=>hb.block k hk
theorem bld_size:(Tryz.prog.info? 80).map (·.size)=some 2:=by kernel_rfl
theorem bld_lies:liesAt Tryz.prog Tryz.prog.depth 80 (2 / Tryz.prog.cellsOf 80) 0 80 1=true:=by kernel_rfl
theorem zG:Tryz.prog.cellsOf 5=1:=by kernel_rfl
theorem qe (g:Nat) (v p:Value) (w:World) (h:w.heap[g]?=some (.cells #[p,v] 80 (0,0))) (hp:p=.pointer none∨p=.pointer (some ⟨g,0,none⟩)) :
  Calls Tryz.prog 62 #[.pointer (some ⟨g,0,none⟩)] w fun e w'=>e=.returned (.tuple #[])∧w'.heap[g]?=some (.cells #[.pointer (some ⟨g,0,none⟩),v] 80 (0,0))∧(∀k,k≠g→w'.heap[k]?=w.heap[k]?)∧w'.heap.size=w.heap.size∧w'.os=w.os∧w'.tape=w.tape∧w'.output=w.output:=by
 obtain⟨j,hj,hjs⟩:=Option.map_eq_some_iff.1 bld_size;rcases hp with rfl|rfl
 ·have h0:w.cell? ⟨g,0,none⟩=some (.pointer none):=by simp [World.cell?,h]
  have hsh:w.shape? g=some (80,2):=by simp [World.shape?,h]
  have hfz:w.frozen? ⟨g,0,none⟩=false:=by simp [World.frozen?,h]
  have H:=ab h;clear h;refine Calls.mono (R:=fun e w'=>e=.returned (.tuple #[])∧w'=w.setCell ⟨g,0,none⟩ (.pointer (some ⟨g,0,none⟩))) ?_ ?_
  ·go_enter Tryz.func62,Tryz.ntmps62
   go_wp2
   rw [Lib.run_to_unsafe w ⟨g,0,none⟩ Tryz.underlying78 Tryz.underlying150 hj (by rw [hjs];decide) hsh (Nat.zero_lt_succ 1)];simp only [Result.andThen];rw [Oper.upon_value];go_wp2
   rw [run_callFunc_extern Tryz.func99 gE gE gE (e:=Extern.AbiNoEscape.same) gE];rw [Lib.run_noEscape];simp only [Result.andThen];rw [Oper.upon_value];go_wp2
   rw [Lib.run_from_unsafe w ⟨g,0,none⟩ Tryz.underlying150 Tryz.underlying78 hj hsh bld_lies];simp only [Result.andThen];rw [Oper.upon_value];go_wp2
   go_end0
   exact⟨rfl,rfl⟩
  ·rintro e w' ⟨rfl,rfl⟩
   refine⟨rfl,?_,fun k hk=>Below.heap_setCell _ _ _ _ hk,by simp [World.setCell],rfl,rfl,rfl⟩;simp [World.setCell,Array.getElem?_modify,H.out]
 ·have h0:w.cell? ⟨g,0,none⟩=some (.pointer (some ⟨g,0,none⟩)):=by simp [World.cell?,h]
  have H:=ab h;clear h;go_enter Tryz.func62,Tryz.ntmps62
  go_wp2
  rw [Lib.run_neq_ptr_same w _ Tryz.underlying78 hj];go_wp2
  go_end0
  exact⟨rfl,H.out,fun _ _=>rfl,rfl,rfl,rfl,rfl⟩
theorem AY {B g:Nat} {l r:Str} {w w1 w2:World} {v v':Value} (hB:B≤g)
  (h1:w1.heap[g]?=some (.cells #[.pointer (some ⟨g,0,none⟩),v] 80 (0,0))) (hrest:∀k,k≠g→w1.heap[k]?=w.heap[k]?) (hsz:w1.heap.size=w.heap.size)
  (hos:w1.os=w.os∧w1.tape=w.tape∧w1.output=w.output)
  (hown:w1.ownsRow B 5 1 v l.length (kR l)) (hown2:w2.ownsRow B 5 1 v' (l++r).length (kR (l++r))) (hg:w1.grownBy w2 v.ownBlock) :
  w2.heap[g]?=some (.cells #[.pointer (some ⟨g,0,none⟩),v] 80 (0,0))∧Bld B g (l++r) (w2.setCell ⟨g,1,none⟩ v')∧Fr B [g] [5] w (w2.setCell ⟨g,1,none⟩ v'):=by
 have hne:v.ownBlock≠some g:=fun he=>by
  have:=(ni hown he).2
  simp [wd,h1] at this
 have hlt:=jO h1;have h2:w2.heap[g]?=some (.cells #[.pointer (some ⟨g,0,none⟩),v] 80 (0,0)):=(hg.block g hlt (fun e=>hne e.symm)).trans h1;have hne2:v'.ownBlock≠some g:=fun he=>by
  have:=(ni hown2 he).2
  simp [wd,h2] at this
 refine⟨h2,⟨_,v',by simp [World.setCell,Array.getElem?_modify,h2],hB,.inr rfl,?_⟩,?_⟩
 ·exact hown2.kept (row:=some g) ⟨rfl,rfl,rfl,by simp [World.setCell],fun k _ hk=>Below.heap_setCell _ _ _ _ (fun e=>hk (by simp [e]))⟩ (.inr hne2)
 ·have f1:Fr B [g] [5] w w1:=⟨hos.1,hos.2.1,hos.2.2,by omega,fun k _ hk _=>hrest k (by simpa using hk)⟩
  exact(f1.grown hown gF hg).setCell (p:=⟨g,1,none⟩) gF v'
theorem yE {B g:Nat} {w w1:World} {v p q:Value} {n:Nat} {xs:List Value} (h:w.ownsRow B 5 1 v n xs) (h0:w.heap[g]?=some (.cells #[p,q] 80 (0,0)))
  (hrest:∀k,k≠g→w1.heap[k]?=w.heap[k]?):w1.ownsRow B 5 1 v n xs:=by
 refine⟨h.1,?_⟩;rcases h.2 with h5|⟨g',cap,cur,hv,hb,hg,r⟩
 ·exact .inl h5
 ·refine .inr ⟨g',cap,cur,hv,hb,(hrest g' (fun e=>?_)).trans hg,r⟩
  subst e;rw [h0] at hg;simp at hg
theorem mC (B g:Nat) (l:Str) (c:Int) (w:World) (h:Bld B g l w) (hl:l.length≤50000000) (hBw:B≤w.heap.size) (hc0:0≤c) (hc:c<256) :
  Calls Tryz.prog 101 #[.pointer (some ⟨g,0,none⟩),.int .u8 c] w fun e w'=>e=.returned .nilIface∧Bld B g (l++[UInt8.ofNat c.toNat]) w'∧Fr B [g] [5] w w':=by
 obtain⟨p,v,h0,hB,hp,hown⟩:=h;obtain⟨iu,hiu⟩:=info_parts qi;have H0:=ab h0;clear h0;go_enter Tryz.func101,Tryz.ntmps101
 go_wp2_with (go_at_call 62;refine(qe g v p _ H0.out hp).mono ?_)
 rintro e w1 ⟨rfl,h1,hrest,hsz,hos⟩;have hown1:=yE hown H0.out hrest;have c0:w1.cell? ⟨g,0,none⟩=some (.pointer (some ⟨g,0,none⟩)):=by rw [Cv h1];rfl
 have c1:w1.cell? ⟨g,1,none⟩=some v:=by rw [Cv h1];rfl
 have HR:Hid (∀k,k≠g→w1.heap[k]?=w.heap[k]?):=hrest;have HO:=ab hos;have H1:=ab h1;have HZ:=ab hsz;have hBw1:B≤w1.heap.size:=gu;clear hrest hos h1 hsz;go_wp2_with (at_builtin;refine kz B 5 rfl _ _ 46 rfl Tryz.underlying46 hiu rfl gD rfl hown1 rfl gZ rfl gG gu gD hBw1 ?_)
 intro v' w2 hown2 hg2 _ _;have hchr:kR l++[Value.int .u8 c]=kR (l++[UInt8.ofNat c.toNat]):=by
  simp only [kR,List.map_append,Cw,List.map_nil];rw [show (((UInt8.ofNat c.toNat).toNat:Nat):Int)=c by simp [UInt8.toNat_ofNat'];omega]
 obtain⟨k1,k2,k3⟩:=AY hB H1.out HR.out HZ.out ⟨HO.out.1,HO.out.2.1,HO.out.2.2⟩ hown1 (r:=[UInt8.ofNat c.toNat]) (by rw [←hchr];simpa using hown2) hg2;have d1:w2.cell? ⟨g,1,none⟩=some v:=by rw [Cv k1];rfl
 have d2:w2.frozen? ⟨g,1,none⟩=false:=Lib.frozen_of_heap k1 1;clear hchr;have K1:=ab k1;clear k1;obtain⟨a',c',rfl⟩:=j7 hown2;go_wp2
 go_ret
 exact⟨rfl,k2,k3⟩
theorem lq (B g:Nat) (l r:Str) (w:World) (h:Bld B g l w) (hl:l.length≤50000000) (hr:r.length≤50000000) (hBw:B≤w.heap.size) :
  Calls Tryz.prog 33 #[.pointer (some ⟨g,0,none⟩),.string ⟨r.toArray⟩] w fun e w'=>e=.returned (.tuple #[.int .i64 r.length,.nilIface])∧Bld B g (l++r) w'∧Fr B [g] [5] w w':=by
 obtain⟨p,v,h0,hB,hp,hown⟩:=h;obtain⟨iu,hi,hz0,hz1,hz2⟩:=info_parts qi;have H0:=ab h0;clear h0;go_enter Tryz.func33,Tryz.ntmps33
 go_wp2_with (go_at_call 62;refine(qe g v p _ H0.out hp).mono ?_)
 rintro e w1 ⟨rfl,h1,hrest,hsz,hos⟩;have hown1:=yE hown H0.out hrest;have c0:w1.cell? ⟨g,0,none⟩=some (.pointer (some ⟨g,0,none⟩)):=by rw [Cv h1];rfl
 have c1:w1.cell? ⟨g,1,none⟩=some v:=by rw [Cv h1];rfl
 have HR:Hid (∀k,k≠g→w1.heap[k]?=w.heap[k]?):=hrest;have HO:=ab hos;have H1:=ab h1;have HZ:=ab hsz;have hBw1:B≤w1.heap.size:=gu;clear hrest hos h1 hsz;go_wp2_with (at_builtin;refine Lib.wpList_append_own_string _ rfl _ _ 46 9 rfl B 5 iu Tryz.underlying46 Tryz.underlying9 hi hz0 hz1 hz2 _ _ _ rfl hown1 _ rfl iT jr hBw1 ?_)
 intro v' w2 hown2 hg2 _;obtain⟨k1,k2,k3⟩:=AY hB H1.out HR.out HZ.out ⟨HO.out.1,HO.out.2.1,HO.out.2.2⟩ hown1 (r:=r) (by simpa [kR,Lib.strCells] using hown2) hg2;have d1:w2.cell? ⟨g,1,none⟩=some v:=by rw [Cv k1];rfl
 have d2:w2.frozen? ⟨g,1,none⟩=false:=Lib.frozen_of_heap k1 1;have K1:=ab k1;clear k1;obtain⟨a',c',rfl⟩:=j7 hown2;go_wp2
 go_ret2
 exact⟨rfl,k2,k3⟩
theorem An (B g:Nat) (l:Str) (w:World) (h:Bld B g l w) :
  Calls Tryz.prog 102 #[.pointer (some ⟨g,0,none⟩)] w fun e w'=>e=.returned (.int .i64 l.length)∧w=w':=by
 obtain⟨p,v,h0,hB,hp,hown⟩:=h;obtain⟨ao,cap,rfl⟩:=j7 hown;have c1:w.cell? ⟨g,1,none⟩=some (.slice ao l.length cap):=by rw [Cv h0];rfl
 clear h0;go_enter Tryz.func102,Tryz.ntmps102
 exact cw
theorem AX (B g:Nat) (l:Str) (w:World) (h:Bld B g l w) (h0:l≠[]) :
  Calls Tryz.prog 35 #[.pointer (some ⟨g,0,none⟩)] w fun e w'=>e=.returned (.string ⟨l.toArray⟩)∧Below B w w':=by
 obtain⟨p,v,hbk,hB,hp,hown⟩:=h;have hl0:l.length≠0:=by simpa using h0
 obtain⟨g',cap,cur,rfl,hbg,hg,hnc,hcm,hcs,htake⟩:∃g' cap cur,v=.slice (some ⟨g',0,none⟩) l.length cap∧B≤g'∧w.heap[g']?=some (.cells cur 5 (0,0))∧l.length≤cap∧cap≤maxLen∧cur.size=cap*1∧cur.toList.take (l.length*1)=kR l:=by
  rcases hown.2 with⟨_,hz⟩|⟨g',cap,cur,hv,r⟩
  ·exact absurd hz hl0
  ·exact⟨g',cap,cur,hv,r⟩
 have c1:w.drew.cell? ⟨g,1,none⟩=some (.slice (some ⟨g',0,none⟩) l.length cap):=by
  have:w.drew.heap[g]?=some (.cells #[p,.slice (some ⟨g',0,none⟩) l.length cap] 80 (0,0)):=hbk
  exact et
 have hSD:(Builtin.unsafeSliceData_ #[46] 131 #[.slice (some ⟨g',0,none⟩) l.length cap]).run Tryz.prog w.drew=.ok (.pointer (some ⟨g',0,none⟩)) w.drew :=
  Lib.run_unsafeSliceData_row _ _ _ _ _ _ gu
 have hUS:(Builtin.unsafeString_ #[131,3] 9 #[.pointer (some ⟨g',0,none⟩),.int .i64 l.length]).run Tryz.prog w.drew=.ok (.string ⟨l.toArray⟩) (w.drew.freeze ⟨g',0,none⟩ l.length):=by
  refine Lib.run_unsafeString_row w.drew 131 3 9 5 Tryz.underlying131 zG g' cur.size (by have hg':w.drew.heap[g']?=some (.cells cur 5 (0,0)):=hg;simp [World.shape?,hg']) l h0 gu (by unfold maxLen at hcm;omega) ?_;intro j x hx;exact hown.cells (g:=g') rfl j (.int .u8 x.toNat) (by simp [kR,List.getElem?_map,hx])
 clear hbk hg htake hcs hown;go_enter Tryz.func35,Tryz.ntmps35
 go_wp2
 go_region
 all_goals (go_wp2;go_ret;exact⟨rfl,Lib.below_freeze (Below.drew (Below.refl B w)) (p:=⟨g',0,none⟩) hbg _⟩)
theorem zd (B g:Nat) (p:Value) (w:World) (hbk:w.heap[g]?=some (.cells #[p,.slice none 0 0] 80 (0,0))) :
  Calls Tryz.prog 35 #[.pointer (some ⟨g,0,none⟩)] w fun e w'=>e=.returned (.string ⟨#[]⟩)∧Below B w w':=by
 have hUS:∀(W:World) (q:Option Addr),(Builtin.unsafeString_ #[131,3] 9 #[.pointer q,.int .i64 0]).run Tryz.prog W=.ok (.string .empty) W:=fun W q=>Lib.run_unsafeString_none W _ _ _ q
 have c1:w.drew.cell? ⟨g,1,none⟩=some (.slice none 0 0):=by
  have:w.drew.heap[g]?=some (.cells #[p,.slice none 0 0] 80 (0,0)):=hbk
  exact et
 have hSD:(Builtin.unsafeSliceData_ #[46] 131 #[.slice none 0 0]).run Tryz.prog w.drew=.ok (.pointer none) w.drew:=rfl;clear hbk;exact dG
theorem wC (B g g' cap:Nat) (p:Value) (w:World) (hc0:cap≠0) (hbk:w.heap[g]?=some (.cells #[p,.slice (some ⟨g',0,none⟩) 0 cap] 80 (0,0))) :
  Calls Tryz.prog 35 #[.pointer (some ⟨g,0,none⟩)] w fun e w'=>e=.returned (.string ⟨#[]⟩)∧Below B w w':=by
 have hUS:∀(W:World) (q:Option Addr),(Builtin.unsafeString_ #[131,3] 9 #[.pointer q,.int .i64 0]).run Tryz.prog W=.ok (.string .empty) W:=fun W q=>Lib.run_unsafeString_none W _ _ _ q
 have c1:w.drew.cell? ⟨g,1,none⟩=some (.slice (some ⟨g',0,none⟩) 0 cap):=by
  have:w.drew.heap[g]?=some (.cells #[p,.slice (some ⟨g',0,none⟩) 0 cap] 80 (0,0)):=hbk
  exact et
 have hSD:(Builtin.unsafeSliceData_ #[46] 131 #[.slice (some ⟨g',0,none⟩) 0 cap]).run Tryz.prog w.drew=.ok (.pointer (some ⟨g',0,none⟩)) w.drew :=
  Lib.run_unsafeSliceData_row _ _ _ _ _ _ hc0
 clear hbk hc0;exact dG
theorem uj (B g g':Nat) (p:Value) (cur:Array Value) (w:World) (hBw:B≤w.heap.size) (hbk:w.heap[g]?=some (.cells #[p,.slice (some ⟨g',0,none⟩) 0 0] 80 (0,0))) (hg:w.heap[g']?=some (.cells cur 5 (0,0))) :
  Calls Tryz.prog 35 #[.pointer (some ⟨g,0,none⟩)] w fun e w'=>e=.returned (.string ⟨#[]⟩)∧Below B w w':=by
 have hUS:∀(W:World) (q:Option Addr),(Builtin.unsafeString_ #[131,3] 9 #[.pointer q,.int .i64 0]).run Tryz.prog W=.ok (.string .empty) W:=fun W q=>Lib.run_unsafeString_none W _ _ _ q
 have hlt:g<w.heap.size:=jO hbk;have c1:w.drew.cell? ⟨g,1,none⟩=some (.slice (some ⟨g',0,none⟩) 0 0):=by
  have:w.drew.heap[g]?=some (.cells #[p,.slice (some ⟨g',0,none⟩) 0 0] 80 (0,0)):=hbk
  exact et
 have hSD:(Builtin.unsafeSliceData_ #[46] 131 #[.slice (some ⟨g',0,none⟩) 0 0]).run Tryz.prog w.drew=.ok (.pointer (some ⟨w.drew.heap.size,0,none⟩)) (w.drew.alloc (.view ⟨g',0,none⟩ 5)) :=
  Lib.run_unsafeSliceData_zero w.drew _ _ 5 Tryz.underlying131 ⟨g',0,none⟩ 0 (5,cur.size) (by have hg':w.drew.heap[g']?=some (.cells cur 5 (0,0)):=hg;simp [World.shape?,hg'])
 have c2:(w.drew.alloc (.view ⟨g',0,none⟩ 5)).cell? ⟨g,1,none⟩=some (.slice (some ⟨g',0,none⟩) 0 0):=by
  have:(w.drew.alloc (.view ⟨g',0,none⟩ 5)).heap[g]?=_:=(Lib.alloc_old w.drew _ g hlt).trans hbk
  exact et
 have c3:(w.alloc (.view ⟨g',0,none⟩ 5)).drew.cell? ⟨g,1,none⟩=some (.slice (some ⟨g',0,none⟩) 0 0):=c2;have c0:w.cell? ⟨g,1,none⟩=some (.slice (some ⟨g',0,none⟩) 0 0):=c1;clear hbk hg;go_enter Tryz.func35,Tryz.ntmps35
 go_wp2
 go_region
 all_goals (go_wp2;go_ret;exact⟨rfl,(Below.drew (Below.refl B w)).alloc hBw _⟩)
theorem sY (B g:Nat) (l:Str) (w:World) (h:Bld B g l w) (hBw:B≤w.heap.size) :
  Calls Tryz.prog 35 #[.pointer (some ⟨g,0,none⟩)] w fun e w'=>e=.returned (.string ⟨l.toArray⟩)∧Below B w w':=by
 by_cases h0:l=[]
 ·subst h0
  obtain⟨p,v,hbk,hB,hp,hown⟩:=h;rcases hown.2 with⟨rfl,_⟩|⟨g',cap,cur,rfl,_,hg,_⟩
  ·exact zd B g p w hbk
  ·by_cases hc:cap=0
   ·subst hc;exact uj B g g' p cur w hBw hbk hg
   ·exact wC B g g' cap p w hc hbk
 ·exact AX B g l w h h0
open Go.RowKit
def Sl (w:World) (B:Nat) (a:Option Addr) (sz n:Nat) (cs:List Value):Prop :=
 cs.length=n*sz∧(0<n→∃b o,a=some ⟨b,o,none⟩∧b<B∧∀(j:Nat) (u:Value),cs[j]?=some u→w.cell? ⟨b,o+j,none⟩=some u)
theorem Sl.keep {w w':World} {B:Nat} {a:Option Addr} {sz n:Nat} {cs:List Value} (h:Sl w B a sz n cs) (hb:Below B w w'):Sl w' B a sz n cs :=
 ⟨h.1,fun hn=>by
  obtain⟨b,o,h1,h2,h3⟩:=h.2 hn;exact⟨b,o,h1,h2,fun j u hu=>(hb.cell (p:=⟨b,o+j,none⟩) h2).trans (h3 j u hu)⟩⟩
theorem Sl.mono {w:World} {B B':Nat} {a:Option Addr} {sz n:Nat} {cs:List Value} (h:Sl w B a sz n cs) (hB:B≤B'):Sl w B' a sz n cs :=
 ⟨h.1,fun hn=>by
  obtain⟨b,o,h1,h2,h3⟩:=h.2 hn;exact⟨b,o,h1,by omega,h3⟩⟩
theorem Sl.none_ (w:World) (B:Nat) (a:Option Addr) (sz:Nat):Sl w B a sz 0 []:=⟨by simp,fun h=>by omega⟩
theorem Sl.of_own {w:World} {B0:Nat} {e:TypeId} {sz:Nat} {a:Option Addr} {n c:Nat} {xs:List Value} (h:w.ownsRow B0 e sz (.slice a n c) n xs):Sl w w.heap.size a sz n xs:=by
 refine⟨h.1,fun hn=>?_⟩;rcases h.2 with⟨hv,h0⟩|⟨g,cap,cur,hv,hb,hg,r⟩
 ·omega
 ·injection hv with ha _ _
  subst ha;refine⟨g,0,rfl,jO hg,fun j u hu=>?_⟩;exact di
theorem Sl.lit {w:World} {g sz n:Nat} {cs:Array Value} {t:TypeId} {m:Nat × Nat} (h:w.heap[g]?=some (.cells cs t m)) (hn:cs.size=n*sz):Sl w w.heap.size (some ⟨g,0,none⟩) sz n cs.toList:=by
 refine⟨by simpa using hn,fun _=>⟨g,0,rfl,jO h,fun j u hu=>?_⟩⟩;rw [Cv h];simpa using hu
theorem Sl.alloc_self {w:World} {a:Option Addr} {sz n:Nat} {cs:List Value} (h:Sl w w.heap.size a sz n cs) (o:Obj):Sl (w.alloc o) (w.alloc o).heap.size a sz n cs :=
 (h.keep ((Below.refl _ _).alloc (Cp _) o)).mono gF
theorem j6 {α:Type} {l r:List α} {i:Nat} {c:α} (h:l.drop i=c::r):i<l.length∧l[i]?=some c∧l.drop (i+1)=r:=by
 have hi:i<l.length:=by
  exact cP
 rw [List.drop_eq_getElem_cons hi] at h;injection h with h1 h2
 exact⟨hi,by rw [Cn hi,h1],h2⟩
theorem qy {W w1:World} (hb:Below W.heap.size W w1):(∀b o,b<W.heap.size→w1.cell? ⟨b,o,none⟩=W.cell? ⟨b,o,none⟩)∧(∀b o,b<W.heap.size→w1.frozen? ⟨b,o,none⟩=W.frozen? ⟨b,o,none⟩) :=
 ⟨fun b o h=>hb.cell (p:=⟨b,o,none⟩) h,fun b o h=>hb.frozen (p:=⟨b,o,none⟩) h⟩
def kv (ps:List Str):List Value:=ps.map fun p=>.string ⟨p.toArray⟩
theorem Sl.str {w:World} {B:Nat} {a:Option Addr} {n:Nat} {ps:List Str} (h:Sl w B a 1 n (kv ps)) {k:Nat} {p:Str} (hk:ps[k]?=some p) :
  ∃b o,a=some ⟨b,o,none⟩∧b<B∧w.cell? ⟨b,o+k,none⟩=some (.string ⟨p.toArray⟩):=by
 have hlt:=(Cq.1 hk).1;have hn:n=ps.length:=by have:=h.1;simp [kv] at this;omega
 obtain⟨b,o,h1,h2,h3⟩:=h.2 gu;exact⟨b,o,h1,h2,h3 k _ (by simp [kv,hk])⟩
theorem Sl.str_len {w:World} {B:Nat} {a:Option Addr} {n:Nat} {ps:List Str} (h:Sl w B a 1 n (kv ps)):n=ps.length:=by
 have:=h.1;simp [kv] at this;omega
theorem jP {w w':World} (hb:Below w.heap.size w w') (a:Addr) (u:Value) (h:w.cell? a=some u):w'.cell? a=some u :=
 (hb.cell (World.block_lt_of_cell? w a h)).trans h
open Go.RowKit
def SlS (w:World) (S:Nat→Prop) (a:Option Addr) (sz n:Nat) (cs:List Value):Prop :=
 cs.length=n*sz∧(0<n→∃b o,a=some ⟨b,o,none⟩∧S b∧b<w.heap.size∧∀(j:Nat) (u:Value),cs[j]?=some u→w.cell? ⟨b,o+j,none⟩=some u)
def Kept (S:Nat→Prop) (w w':World):Prop:=w.heap.size≤w'.heap.size∧∀b,S b→b<w.heap.size→w'.heap[b]?=w.heap[b]?
theorem Kept.all {S:Nat→Prop} {w w':World} (h:Below w.heap.size w w'):Kept S w w':=⟨h.size,fun b _ hlt=>h.block b hlt⟩
theorem SlS.keep {w w':World} {S:Nat→Prop} {a:Option Addr} {sz n:Nat} {cs:List Value} (h:SlS w S a sz n cs) (hk:Kept S w w'):SlS w' S a sz n cs :=
 ⟨h.1,fun hn=>by
  obtain⟨b,o,h1,h2,h3,h4⟩:=h.2 hn;exact⟨b,o,h1,h2,Cu h3 hk.1,fun j u hu=>by
   have e:=hk.2 b h2 h3;have:=h4 j u hu
   simp only [World.cell?] at this ⊢;rw [e];exact this⟩⟩
theorem SlS.mono {w:World} {S S':Nat→Prop} {a:Option Addr} {sz n:Nat} {cs:List Value} (h:SlS w S a sz n cs) (hS:∀b,S b→b<w.heap.size→S' b):SlS w S' a sz n cs :=
 ⟨h.1,fun hn=>by
  obtain⟨b,o,h1,h2,h3,h4⟩:=h.2 hn;exact⟨b,o,h1,hS b h2 h3,h3,h4⟩⟩
theorem SlS.none_ (w:World) (S:Nat→Prop) (a:Option Addr) (sz:Nat):SlS w S a sz 0 []:=⟨by simp,fun h=>by omega⟩
theorem SlS.sl {w:World} {S:Nat→Prop} {a:Option Addr} {sz n:Nat} {cs:List Value} (h:SlS w S a sz n cs):Sl w w.heap.size a sz n cs :=
 ⟨h.1,fun hn=>by
  obtain⟨b,o,h1,h2,h3,h4⟩:=h.2 hn;exact⟨b,o,h1,h3,h4⟩⟩
theorem Sl.slS {w:World} {B:Nat} {a:Option Addr} {sz n:Nat} {cs:List Value} (h:Sl w B a sz n cs) (hB:B≤w.heap.size):SlS w (·<B) a sz n cs :=
 ⟨h.1,fun hn=>by
  obtain⟨b,o,h1,h2,h3⟩:=h.2 hn;exact⟨b,o,h1,h2,by omega,h3⟩⟩
def jX (rs:List (Str × Str)):List Value:=rs.flatMap fun r=>[.string ⟨(r.1).toArray⟩,.string ⟨(r.2).toArray⟩]
theorem l7 (rs:List (Str × Str)):(jX rs).length=rs.length*2:=by
 induction rs with
 | nil=>rfl
 | cons r rs ih=>simp only [jX,Cx,Cy] at *;rw [ih];simp;omega
theorem ru {rs:List (Str × Str)} {k:Nat} {r:Str × Str} (h:rs[k]?=some r):(jX rs)[k*2]?=some (.string ⟨(r.1).toArray⟩)∧(jX rs)[k*2+1]?=some (.string ⟨(r.2).toArray⟩):=by
 induction rs generalizing k with
 | nil=>simp at h
 | cons g rs ih =>
  cases k with
  | zero=>simp at h;subst h;simp [jX]
  | succ k =>
   simp only [List.getElem?_cons_succ] at h;obtain⟨h1,h2⟩:=ih h;simp only [jX,Cx] at h1 h2 ⊢;exact cL
theorem Sl.row {w:World} {B:Nat} {a:Option Addr} {n:Nat} {rs:List (Str × Str)} (h:Sl w B a 2 n (jX rs)) {k:Nat} {r:Str × Str} (hk:rs[k]?=some r) :
  ∃b o,a=some ⟨b,o,none⟩∧b<B∧w.cell? ⟨b,o+k*2,none⟩=some (.string ⟨(r.1).toArray⟩)∧w.cell? ⟨b,o+k*2+1,none⟩=some (.string ⟨(r.2).toArray⟩):=by
 have hlt:=(Cq.1 hk).1;have hn:n=rs.length:=by have:=h.1;rw [l7] at this;omega
 obtain⟨b,o,h1,h2,h3⟩:=h.2 gu;obtain⟨c1,c2⟩:=ru hk;exact⟨b,o,h1,h2,h3 _ _ c1,h3 _ _ c2⟩
theorem Sl.row_len {w:World} {B:Nat} {a:Option Addr} {n:Nat} {rs:List (Str × Str)} (h:Sl w B a 2 n (jX rs)):n=rs.length:=by
 have:=h.1;rw [l7] at this;omega
def rxc (k:Int) (c:Str) (ng:Bool) (ra:Option Addr) (rn rc:Nat) (lo hi:Int) (lz:Bool) (ka:Option Addr) (kn kc:Nat):List Value :=
 [.int .i64 k,.string ⟨c.toArray⟩,.bool ng,.slice ra rn rc,.int .i64 lo,.int .i64 hi,.bool lz,.slice ka kn kc]
mutual
inductive RxV (w:World) (S:Nat→Prop):List Value→Rx→Prop
 | mk {k:Int} {c:Str} {ng:Bool} {rs:List (Str × Str)} {lo hi:Int} {lz:Bool} {ks:List Rx} {ra ka:Option Addr} {rc kc:Nat} {css:List (List Value)} :
   SlS w S ra 2 rs.length (jX rs)→SlS w S ka 8 ks.length css.flatten→RxVs w S css ks→RxV w S (rxc k c ng ra rs.length rc lo hi lz ka ks.length kc) (.mk k c ng rs lo hi lz ks)
inductive RxVs (w:World) (S:Nat→Prop):List (List Value)→List Rx→Prop
 | nil:RxVs w S [] []
 | cons {c:List Value} {x:Rx} {cs:List (List Value)} {xs:List Rx}:RxV w S c x→RxVs w S cs xs→RxVs w S (c::cs) (x::xs)
end
mutual
theorem RxV.keep {w w':World} {S:Nat→Prop} (hk:Kept S w w'):∀{c:List Value} {x:Rx},RxV w S c x→RxV w' S c x
 | _,_,.mk h1 h2 h3=>.mk (h1.keep hk) (h2.keep hk) (RxVs.keep hk h3)
theorem RxVs.keep {w w':World} {S:Nat→Prop} (hk:Kept S w w'):∀{cs:List (List Value)} {xs:List Rx},RxVs w S cs xs→RxVs w' S cs xs
 | _,_,.nil=>.nil
 | _,_,.cons h1 h2=>.cons (RxV.keep hk h1) (RxVs.keep hk h2)
end
mutual
theorem RxV.mono {w:World} {S S':Nat→Prop} (hS:∀b,S b→b<w.heap.size→S' b):∀{c:List Value} {x:Rx},RxV w S c x→RxV w S' c x
 | _,_,.mk h1 h2 h3=>.mk (h1.mono hS) (h2.mono hS) (RxVs.mono hS h3)
theorem RxVs.mono {w:World} {S S':Nat→Prop} (hS:∀b,S b→b<w.heap.size→S' b):∀{cs:List (List Value)} {xs:List Rx},RxVs w S cs xs→RxVs w S' cs xs
 | _,_,.nil=>.nil
 | _,_,.cons h1 h2=>.cons (RxV.mono hS h1) (RxVs.mono hS h2)
end
def Any (_:Nat):Prop:=True
theorem RxV.later {w w':World} {S:Nat→Prop} {c:List Value} {x:Rx} (h:RxV w S c x) (hb:Below w.heap.size w w'):RxV w' S c x:=h.keep (Kept.all hb)
theorem RxVs.later {w w':World} {S:Nat→Prop} {c:List (List Value)} {x:List Rx} (h:RxVs w S c x) (hb:Below w.heap.size w w'):RxVs w' S c x:=h.keep (Kept.all hb)
theorem RxV.len {w:World} {S:Nat→Prop} {c:List Value} {x:Rx} (h:RxV w S c x):c.length=8:=by cases h;rfl
theorem RxVs.length {w:World} {S:Nat→Prop}:∀{cs:List (List Value)} {xs:List Rx},RxVs w S cs xs→cs.length=xs.length
 | _,_,.nil=>rfl
 | _,_,.cons _ h=>by simp [h.length]
theorem RxVs.eights {w:World} {S:Nat→Prop}:∀{cs:List (List Value)} {xs:List Rx},RxVs w S cs xs→∀c∈cs,c.length=8
 | _,_,.nil,c,hc=>by simp at hc
 | _,_,.cons h1 h2,c,hc=>by
  rcases Cz.1 hc with rfl|hc
  ·exact h1.len
  ·exact h2.eights c hc
theorem RxVs.at_ {w:World} {S:Nat→Prop}:∀{cs:List (List Value)} {xs:List Rx},RxVs w S cs xs→∀{k:Nat} {x:Rx},xs[k]?=some x→∃c,cs[k]?=some c∧RxV w S c x
 | _,_,.nil,k,x,h=>by simp at h
 | _,_,.cons h1 h2,0,x,h=>by simp at h;subst h;exact⟨_,rfl,h1⟩
 | _,_,.cons h1 h2,k+1,x,h=>by simpa using h2.at_ ik
theorem RxVs.append {w:World} {S:Nat→Prop}:∀{cs ds:List (List Value)} {xs ys:List Rx},RxVs w S cs xs→RxVs w S ds ys→RxVs w S (cs++ds) (xs++ys)
 | _,_,_,_,.nil,h=>h
 | _,_,_,_,.cons h1 h2,h=>.cons h1 (h2.append h)
theorem mw {C:Nat}:∀{css:List (List Value)},(∀c∈css,c.length=C)→∀{k:Nat} {c:List Value},css[k]?=some c→∀{j:Nat} {u:Value},c[j]?=some u→css.flatten[k*C+j]?=some u
 | [],_,k,c,h,j,u,hj=>by simp at h
 | d::css,hC,0,c,h,j,u,hj=>by
  simp at h;subst h
  rw [List.flatten_cons,Nat.zero_mul,Nat.zero_add,CA (Cq.1 hj).1];exact hj
 | d::css,hC,k+1,c,h,j,u,hj=>by
  have hd:=hC d (CB ..);have ih:=mw (fun x hx=>hC x (CC _ hx)) (show css[k]?=some c by simpa using h) hj;rw [List.flatten_cons,CD (by rw [hd,Nat.succ_mul];omega),hd,show (k+1)*C+j-C=k*C+j by rw [Nat.succ_mul];omega];exact ih
def RxSl (w:World) (S:Nat→Prop) (a:Option Addr) (n:Nat) (xs:List Rx):Prop:=∃css,SlS w S a 8 n css.flatten∧RxVs w S css xs
theorem RxSl.keep {w w':World} {S:Nat→Prop} {a:Option Addr} {n:Nat} {xs:List Rx} (h:RxSl w S a n xs) (hk:Kept S w w'):RxSl w' S a n xs:=by
 obtain⟨css,h1,h2⟩:=h;exact⟨css,h1.keep hk,h2.keep hk⟩
theorem RxSl.later {w w':World} {S:Nat→Prop} {a:Option Addr} {n:Nat} {xs:List Rx} (h:RxSl w S a n xs) (hb:Below w.heap.size w w'):RxSl w' S a n xs:=h.keep (Kept.all hb)
theorem RxSl.mono {w:World} {S S':Nat→Prop} {a:Option Addr} {n:Nat} {xs:List Rx} (h:RxSl w S a n xs) (hS:∀b,S b→b<w.heap.size→S' b):RxSl w S' a n xs:=by
 obtain⟨css,h1,h2⟩:=h;exact⟨css,h1.mono hS,h2.mono hS⟩
theorem RxSl.len {w:World} {S:Nat→Prop} {a:Option Addr} {n:Nat} {xs:List Rx} (h:RxSl w S a n xs):n=xs.length:=by
 obtain⟨css,h1,h2⟩:=h;have h3:=h1.1;have h4:∀{cs:List (List Value)},(∀c∈cs,c.length=8)→cs.flatten.length=cs.length*8:=by
  intro cs;induction cs with
  | nil=>intro _;rfl
  | cons c cs ih=>exact dv
 rw [h4 h2.eights,h2.length] at h3;omega
theorem RxSl.at_ {w:World} {S:Nat→Prop} {a:Option Addr} {n:Nat} {xs:List Rx} (h:RxSl w S a n xs) {k:Nat} {x:Rx} (hk:xs[k]?=some x) :
  ∃b o c,a=some ⟨b,o,none⟩∧S b∧b<w.heap.size∧RxV w S c x∧∀(j:Nat) (u:Value),c[j]?=some u→w.cell? ⟨b,o+(k*8+j),none⟩=some u:=by
 have hn:=h.len;obtain⟨css,h1,h2⟩:=h;have hlt:=(Cq.1 hk).1;obtain⟨b,o,e1,e2,e3,e4⟩:=h1.2 gu;obtain⟨c,hc,hv⟩:=h2.at_ hk;exact⟨b,o,c,e1,e2,e3,hv,fun j u hj=>e4 _ u (mw h2.eights hc hj)⟩
theorem RxSl.cells {w:World} {S:Nat→Prop} {a:Option Addr} {n:Nat} {xs:List Rx} (h:RxSl w S a n xs) {m:Nat} {k:Int} {c:Str} {ng:Bool} {rs:List (Str × Str)} {lo hi:Int} {lz:Bool} {ks:List Rx} (hk:xs[m]?=some (.mk k c ng rs lo hi lz ks)) :
  ∃b o ra rc ka kc,a=some ⟨b,o,none⟩∧S b∧b<w.heap.size∧SlS w S ra 2 rs.length (jX rs)∧RxSl w S ka ks.length ks∧RxV w S (rxc k c ng ra rs.length rc lo hi lz ka ks.length kc) (.mk k c ng rs lo hi lz ks) ∧
   w.cell? ⟨b,o+m*8,none⟩=some (.int .i64 k)∧w.cell? ⟨b,o+m*8+1,none⟩=some (.string ⟨c.toArray⟩)∧w.cell? ⟨b,o+m*8+2,none⟩=some (.bool ng)∧w.cell? ⟨b,o+m*8+3,none⟩=some (.slice ra rs.length rc) ∧
   w.cell? ⟨b,o+m*8+4,none⟩=some (.int .i64 lo)∧w.cell? ⟨b,o+m*8+5,none⟩=some (.int .i64 hi)∧w.cell? ⟨b,o+m*8+6,none⟩=some (.bool lz)∧w.cell? ⟨b,o+m*8+7,none⟩=some (.slice ka ks.length kc):=by
 obtain⟨b,o,cc,e1,e2,e3,hv,hc⟩:=h.at_ hk;cases hv with
 | mk h1 h2 h3 =>
  exact⟨b,o,_,_,_,_,e1,e2,e3,h1,⟨_,h2,h3⟩,.mk h1 h2 h3,hc 0 _ rfl,hc 1 _ rfl,hc 2 _ rfl,hc 3 _ rfl,hc 4 _ rfl,hc 5 _ rfl,hc 6 _ rfl,hc 7 _ rfl⟩
theorem RxV.open_ {w:World} {S:Nat→Prop} {cc:List Value} {k:Int} {c:Str} {ng:Bool} {rs:List (Str × Str)} {lo hi:Int} {lz:Bool} {ks:List Rx} (h:RxV w S cc (.mk k c ng rs lo hi lz ks)) :
  ∃ra rc ka kc,cc=rxc k c ng ra rs.length rc lo hi lz ka ks.length kc∧SlS w S ra 2 rs.length (jX rs)∧RxSl w S ka ks.length ks:=by
 cases h with
 | mk h1 h2 h3=>exact⟨_,_,_,_,rfl,h1,_,h2,h3⟩
theorem RxV.close {w:World} {S:Nat→Prop} {k:Int} {c:Str} {ng:Bool} {rs:List (Str × Str)} {lo hi:Int} {lz:Bool} {ks:List Rx} {ra ka:Option Addr} {rc kc:Nat} (h1:SlS w S ra 2 rs.length (jX rs)) (h2:RxSl w S ka ks.length ks) :
  RxV w S (rxc k c ng ra rs.length rc lo hi lz ka ks.length kc) (.mk k c ng rs lo hi lz ks):=by
 obtain⟨css,a,b⟩:=h2;exact .mk h1 a b
open Go.RowKit
def nG (l:Str) (i:Nat):Nat:=i+1+((l.drop (i+1)).takeWhile j0).length
theorem zo (c:Int) (w:World) :
  Calls Tryz.prog 74 #[.int .u8 c] w fun e w'=>e=.returned (.bool (decide (128≤c∧c≤191)))∧w=w':=by
 by_cases h:128≤c∧c≤191
 ·obtain⟨h1,h2⟩:=h
  have hR:decide (128≤c∧c≤191)=true:=by simp;omega
  rw [hR];clear hR;go_enter Tryz.func74,Tryz.ntmps74
  exact cw
 ·have hR:decide (128≤c∧c≤191)=false:=ik
  rw [hR];clear hR;go_enter Tryz.func74,Tryz.ntmps74
  go_wp2
  all_goals
   go_ret
   refine⟨jU ?_,rfl⟩;simp<;>omega
theorem qT (c:UInt8) {b:Bool} (w:World) (h:j0 c=b) :
  Calls Tryz.prog 74 #[.int .u8 c.toNat] w fun e w'=>e=.returned (.bool b)∧w=w':=by
 refine(zo (c.toNat:Int) w).mono ?_
 rintro e w' ⟨rfl,rfl⟩;refine⟨jU ?_,rfl⟩;rw [←h,Bool.eq_iff_iff];simp [j0];omega
theorem ww (l:Str) (i:Nat) (w:World) (hi:i≤100000000) (hs:l.length≤100000000) :
  Calls Tryz.prog 73 #[.string ⟨l.toArray⟩,.int .i64 i] w fun e w'=>e=.returned (.int .i64 (nG l i))∧w=w':=by
 generalize hR:nG l i=R
 have HR:=ab hR;clear hR;have HR0:Hid (i+1+0+((l.drop (i+1+0)).takeWhile j0).length=R):=HR;clear HR;go_enter Tryz.func73,Tryz.ntmps73
 go_wp2
 go_loop [1] (fun q=>∃k:Nat,k≤l.length∧q=.int .i64 ((i+1+k:Nat):Int)∧Hid (i+1+k+((l.drop (i+1+k)).takeWhile j0).length=R)) (fun q=>l.length-(intOf q).toNat)
 case atStart=>exact⟨0,by omega,by go_num,HR0⟩
 case round =>
  obtain⟨k,hk,rfl,HF⟩:=hrel;clear HR0;cases hd:l.drop (i+1+k) with
  | nil =>
   have h2:=ll hd;have HE:Hid (i+1+k=R):=ab gY;clear hd HF;go_wp2
   go_ret
   exact⟨lD (by rw [←HE.out];omega),rfl⟩
  | cons c r =>
   obtain⟨h2,h3,hr⟩:=ky hd;have HE:Hid (i+1+k+((c::r).takeWhile j0).length=R):=ab jy;have Hr:=ab hr;clear hd HF hr;cases hc:j0 c with
   | true =>
    go_wp2_with (go_at_call 74;refine(qT c _ hc).mono ?_;rintro e w1 ⟨rfl,rfl⟩)
    go_round
    case rel =>
     refine⟨k+1,by omega,by go_num,ab ?_⟩;rw [show i+1+(k+1)=i+1+k+1 from rfl,Hr.out,←HE.out,List.takeWhile_cons_of_pos hc];simp;omega
    case measure=>simp [intOf];omega
   | false =>
    go_wp2_with (go_at_call 74;refine(qT c _ hc).mono ?_;rintro e w1 ⟨rfl,rfl⟩)
    go_ret
    refine⟨lD ?_,rfl⟩;rw [←HE.out,List.takeWhile_cons_of_neg (by simp [hc])];simp
theorem pT:∀r:Str,((r.takeWhile j0).length=r.length)↔r.all j0=true
 | []=>by simp
 | c::r=>by
  have ih:=pT r;cases hc:j0 c with
  | true=>rw [List.takeWhile_cons_of_pos hc];simp only [Cr,List.all_cons,hc,CE,←ih];omega
  | false=>rw [List.takeWhile_cons_of_neg (by simp [hc])];simp [hc]
theorem nx (l:Str) (w:World) (hs:l.length≤100000000) :
  Calls Tryz.prog 44 #[.string ⟨l.toArray⟩] w fun e w'=>e=.returned (.bool (kX l))∧w=w':=by
 cases l with
 | nil =>
  go_enter Tryz.func44,Tryz.ntmps44
  exact cw
 | cons c r =>
  have hE:nG (c::r) 0=1+(r.takeWhile j0).length:=by simp [nG]
  have hta:=pT r;obtain⟨E,hE2⟩:∃E,nG (c::r) 0=E:=⟨_,rfl⟩;have HE:=ab hE;have HTA:=ab hta;clear hE hta;cases hc:j0 c with
  | true =>
   have hP:kX (c::r)=false:=by simp [kX,hc]
   rw [hP];clear hP hE2;go_enter Tryz.func44,Tryz.ntmps44
   go_wp2_with (go_at_call 74;refine(qT c _ hc).mono ?_;rintro e w1 ⟨rfl,rfl⟩)
   go_ret
   exact⟨rfl,rfl⟩
  | false =>
   have hP:kX (c::r)=decide ((E:Int)=((c::r).length:Int)):=by
    rw [Bool.eq_iff_iff,Cj,←hE2,HE.out];simp only [kX,hc,Bool.not_false,CE,←HTA.out,Cr];omega
   have HP:=ab hP;have HE2:=ab hE2;clear hP hE2;rw [HP.out];go_enter Tryz.func44,Tryz.ntmps44
   go_wp2_with (first|(go_at_call 74;refine(qT c _ hc).mono ?_;rintro e w1 ⟨rfl,rfl⟩)|(go_at_call 73;refine(ww (c::r) 0 _ gu hs).mono ?_;rintro e w1 ⟨rfl,rfl⟩;rw [HE2.out]))
   go_ret
   refine⟨jU ?_,rfl⟩;rw [Bool.eq_iff_iff];simp
theorem Av (f t:Str) (w:World) (hf:f.length≤100000000) (ht:t.length≤100000000) :
  Calls Tryz.prog 148 #[.agg #[.string ⟨f.toArray⟩,.string ⟨t.toArray⟩]] w fun e w'=>e=.returned (.bool (rowB (f,t)))∧Below w.heap.size w w':=by
 generalize hR:rowB (f,t)=R
 have HR:=ab hR;clear hR;cases h1:kX f with
 | false =>
  have HE:Hid (R=false):=ab (by rw [←HR.out];simp [rowB,h1]);exact cM
 | true =>
  cases h2:kX t with
  | false =>
   have HE:Hid (R=false):=ab (by rw [←HR.out];simp [rowB,h2]);exact cM
  | true =>
   have HE:Hid (R=leS f t):=ab (by rw [←HR.out];simp [rowB,h1,h2]);go_enter Tryz.func148,Tryz.ntmps148
   go_wp2_with (go_at_call 44;refine(nx _ _ gu).mono ?_;rintro e w1 ⟨rfl,rfl⟩)
   go_ret
   exact⟨jU (by rw [HE.out]),(Below.refl _ _).alloc (Cp _) _⟩
open Go.RowKit
structure ExtOf (w:World) where
 val:World
 ext:Below w.heap.size w val
instance (w:World):Nonempty (ExtOf w):=⟨⟨w,Below.refl _ _⟩⟩
theorem jS {P:Program} {id:Nat} {Q:Exit→Act→World→Prop} {a:Act} {w:World} {l:List Oper} (hm:P.follows .mixedOrders=true) (hB:Region.lexB .any l.toArray=true)
  (h:wpQuiet P l.toArray (fun w'=>∃x:ExtOf w,w'=x.val) (fun a'=>∀w',(∃x:ExtOf w,w'=x.val)→Q .normal a' w') l a):(Code.region id l.toArray true).wp P Q a w :=
 wp_region_quiet (C:=fun w'=>∃x:ExtOf w,w'=x.val) hm hB ⟨⟨w.drew,(Below.refl _ _).drew⟩,rfl⟩ ik
theorem ku {P:Program} {f:FuncId} {args:Array Value} {w:World} {x:ExtOf w} {v:Value} (h:Calls P f args x.val fun e w'=>e=.returned v∧Below x.val.heap.size x.val w') :
  Calls P f args x.val fun e w''=>e=.returned v∧∃y:ExtOf w,w''=y.val :=
 h.mono fun _ w' ⟨he,hb⟩=>⟨he,⟨w',x.ext.trans (hb.mono x.ext.size)⟩,rfl⟩
theorem tO {P:Program} {f:FuncId} {args:Array Value} {w:World} {x:ExtOf w} {v:Value} (h:Calls P f args x.val fun e w'=>e=.returned v∧x.val=w') :
  Calls P f args x.val fun e w''=>e=.returned v∧∃y:ExtOf w,w''=y.val :=
 h.mono fun _ _ ⟨he,hb⟩=>⟨he,x,hb.symm⟩
theorem ExtOf.cell {w:World} {a:Addr} {u:Value} (h:w.cell? a=some u) (x:ExtOf w):x.val.cell? a=some u :=
 (x.ext.cell (World.block_lt_of_cell? w a h)).trans h
open Go.RowKit
theorem BO {f t:Str} {b:Bool} (w:World) (h:rowB (f,t)=b) (hf:f.length≤100000000) (ht:t.length≤100000000) :
  Calls Tryz.prog 148 #[.agg #[.string ⟨f.toArray⟩,.string ⟨t.toArray⟩]] w fun e w'=>e=.returned (.bool b)∧Below w.heap.size w w':=by
 subst h;exact Av f t w hf ht
def MayRel (rs:List (Str × Str)) (R:Bool) (w:World) (q:Value) (wr:World):Prop :=
 ∃(k:Nat) (p:Option Str),k≤rs.length∧q=.int .i64 k∧Below w.heap.size w wr∧Hid ((k=0∧p=none)∨∃j r,k=j+1∧rs[j]?=some r∧p=some r.2)∧Hid (pM p (rs.drop k)=R)
theorem xg (a:Option Addr) (n c:Nat) (rs:List (Str × Str)) (w:World) (h:Sl w w.heap.size a 2 n (jX rs)) (hn:n≤100000000) (hsz:∀r∈rs,r.1.length≤100000000∧r.2.length≤100000000) :
  Calls Tryz.prog 123 #[.slice a n c] w fun e w'=>e=.returned (.bool (sD rs))∧Below w.heap.size w w':=by
 obtain rfl:=h.row_len;generalize hR:sD rs=R
 have HR:=ab hR;clear hR;have HR0:Hid (pM none (rs.drop 0)=R):=HR;have HSl:=ab h;have HSz:=ab hsz;clear HR h hsz;go_enter Tryz.func123,Tryz.ntmps123
 go_wp2
 go_loopw [7] (fun q wr=>MayRel rs R w q wr) (fun q _=>rs.length-(intOf q).toNat)
 case atStart=>exact⟨0,none,by omega,rfl,Below.refl _ _,ab (.inl ⟨rfl,rfl⟩),HR0⟩
 case round =>
  obtain⟨k,p,hk,rfl,hb,HP,HF⟩:=hrel;clear HR0;have hB:=hb.size;cases hd:rs.drop k with
  | nil =>
   exact df
  | cons r0 r =>
   obtain⟨h2,h3,hr⟩:=j6 hd;have HF':Hid (pM p (r0::r)=R):=ab jy;have Hr:=ab hr;obtain⟨b,o,rfl,hbB,c0,c1⟩:=(HSl.out.keep hb).row h3;obtain⟨z1,z2⟩:=HSz.out r0 (CF h3);have HE3:=ab h3;obtain⟨f,t⟩:=r0;replace z1:f.length≤100000000:=z1;replace z2:t.length≤100000000:=z2;clear hd HF hr h3;have e0:∀x:ExtOf (wr.alloc (.cells #[.string ⟨f.toArray⟩,.string ⟨t.toArray⟩] 72)),x.val.cell? ⟨wr.heap.size,0,none⟩=some (.string ⟨f.toArray⟩):=ExtOf.cell gF;have e1:∀x:ExtOf (wr.alloc (.cells #[.string ⟨f.toArray⟩,.string ⟨t.toArray⟩] 72)),x.val.cell? ⟨wr.heap.size,1,none⟩=some (.string ⟨t.toArray⟩):=ExtOf.cell gF;cases hB1:rowB (f,t) with
   | false =>
    have HB:=ab hB1;have HE:Hid (R=false):=ab (by rw [←HF'.out];simp only [pM];rw [HB.out];rfl);clear hB1;go_wp2
    refine jS gE gE ?_;repeat (go_big_quiet_step (((go_at_call 148;exact ku (BO _ HB.out gu gu)))))
    refine wpQuiet_nil ?_;rintro _ ⟨xq,rfl⟩;exact fY
   | true =>
    have HB:=ab hB1;clear hB1;rcases HP.out with⟨hk0,hp0⟩|⟨j,r',hkj,hj,hpj⟩
    ·have hk0':decide (0<k)=false:=by rw [decide_eq_false_iff_not];omega
     have HL:Hid (p=none):=ab hp0;clear hk0 hp0;go_wp2
     refine jS gE gE ?_;repeat (go_big_quiet_step (((go_at_call 148;exact ku (BO _ HB.out gu gu)))))
     exact ci
    ·obtain⟨b',o',hab,_,d0,d1⟩:=(HSl.out.keep hb).row hj
     obtain⟨rfl,rfl⟩:b=b'∧o=o':=by simpa using hab
     obtain⟨f',t'⟩:=r';have HPJ:=ab hpj;subst hkj;clear hj hpj hab;have d2:∀x:ExtOf (wr.alloc (.cells #[.string ⟨f.toArray⟩,.string ⟨t.toArray⟩] 72)),x.val.cell? ⟨b,o+j*2+1,none⟩=some (.string ⟨t'.toArray⟩):=ExtOf.cell (by rw [World.cell?_alloc_lt _ _ _ gH];exact d1);have d1':(wr.alloc (.cells #[.string ⟨f.toArray⟩,.string ⟨t.toArray⟩] 72)).cell? ⟨b,o+j*2+1,none⟩=some (.string ⟨t'.toArray⟩):=by
      rw [World.cell?_alloc_lt _ _ _ gH];exact d1
     go_wp2
     refine jS gE gE ?_;repeat (go_big_quiet_step (((go_at_call 148;exact ku (BO _ HB.out gu gu)))))
     exact bB
end Go.Proofs.YtjggmmaojklmpaaGreat
