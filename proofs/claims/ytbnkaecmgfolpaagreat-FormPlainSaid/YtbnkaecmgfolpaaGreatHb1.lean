/- Small laws on strings told as lists of bytes, on rows that a call owns, and on worlds; nothing of the program's own but the numbers of its types. -/
import Derived.Test.YtbnkaecmgfolpaaGreatHb0
import Derived.Test.YtbnkaecmgfolpaaGreatProg
set_option maxRecDepth 100000
set_option maxHeartbeats 4000000
namespace Go.Proofs.YtbnkaecmgfolpaaGreat
open Go.RowKit
@[simp,go_sem] theorem ba_get (l:List UInt8) (i:Nat) (h:i<(ByteArray.mk l.toArray).size):(ByteArray.mk l.toArray)[i]'h=l[i]'(by exact h):=by
 simp [ByteArray.getElem_eq_getElem_data]
@[simp,go_sem] theorem ba_toList (l:List UInt8):(ByteArray.mk l.toArray).toList=l:=by rw [ByteArray.toList_eq]
@[simp,go_sem] theorem ba_append (l r:List UInt8):ByteArray.mk l.toArray++ByteArray.mk r.toArray=ByteArray.mk (l++r).toArray:=by
 apply ByteArray.ext;simp
@[simp,go_sem] theorem yC (l:List UInt8):(ByteArray.mk l.toArray).size=l.length:=rfl
@[simp,go_sem] theorem vQ (l:List UInt8) (i j:Nat):(ByteArray.mk l.toArray).extract i j=ByteArray.mk ((l.drop i).take (j-i)).toArray:=by
 apply ByteArray.ext;simp [ByteArray.data_extract]
@[simp,go_sem] theorem ba_extract_end (l:List UInt8) (i:Nat):(ByteArray.mk l.toArray).extract i l.length=ByteArray.mk (l.drop i).toArray:=by
 rw [vQ,List.take_of_length_le fq]
@[simp,go_sem] theorem take_drop_all (l:List UInt8) (i:Nat):(l.drop i).take (l.length-i)=l.drop i:=List.take_of_length_le fq
theorem jv {l r:List UInt8} {i:Nat} {c:UInt8} (h:l.drop i=c::r):i<l.length∧(∀hi:i<l.length,l[i]'hi=c)∧l.drop (i+1)=r:=by
 have hi:i<l.length:=by
  exact cC
 rw [List.drop_eq_getElem_cons hi] at h;injection h with h1 h2
 exact⟨hi,fun _=>h1,h2⟩
theorem ki {l:List UInt8} {i:Nat} (h:l.drop i=[]):l.length≤i:=by simpa using h
theorem u8_back (c:UInt8):UInt8.ofNat ((c.toNat:Int)).toNat=c:=by simp
theorem qy (c:UInt8):c.toNat<256:=c.toNat_lt
theorem pre1 (k c:UInt8) (r:List UInt8):List.isPrefixOf [k] (c::r)=decide (c.toNat=k.toNat):=by
 rw [Bool.eq_iff_iff];simp only [List.isPrefixOf,zH,zI,zJ,←zK];exact eq_comm
abbrev Str:=List UInt8
def jF (l:Str):List Value:=l.map fun c=>.int .u8 c.toNat
theorem rY (l:Str):(jF l).length=l.length:=by simp [jF]
theorem oM:(Tryz.prog.info? 5).map (fun i=>(i.zero,i.size,i.bytes))=some (some (.int .u8 0),1,1):=by kernel_rfl
theorem zk {P:Program} {w:World} {o:Oper} {a:Act} {K:Act→World→Prop} {Q:Exit→Act→World→Prop} (B:Nat) (e:TypeId) {cs:Array Value} {m:Nat × Nat} (s x:Operand) (t:TypeId)
  (ho:o.op=.call { callee:=.builtin .append,args:=#[s,x],argTypes:=#[t,t] })
  {i:TypeInfo} {z:Value} {size bytes:Nat} (ht:P.underlying t=some (.slice e)) (hinf:P.info? e=some i∧i.zero=some z∧i.size=size∧i.bytes=bytes)
  (hzs:z.cells.size=size) (hsz:0<size)
  {v:Value} {n:Nat} {xs:List Value} (hs:a.eval s=v) (hown:w.ownsRow B e size v n xs)
  {g:Nat} (hx:a.eval x=.slice (some ⟨g,0,none⟩) 1 1) (hgz:g=w.heap.size) (hl:cs.size=size) (h1:∀u∈cs.toList,u.oneCell'=true)
  (hn:n≤100000000) (hb:bytes≤1000) (hB:B≤w.heap.size)
  (h:∀v' w',w'.ownsRow B e size v' (n+1) (xs++cs.toList)→w.grownBy w' v.ownBlock→Below B w w'→v'≠.slice none 0 0→K (a.put o.dst v') w') :
  o.wp P a (w.alloc (.cells cs e m)) K Q:=by
 subst hgz;obtain⟨hi,hz0,hz1,hz2⟩:=hinf;refine wp_append_own (P:=P) (w.alloc (.cells cs e m)) s x t ho B e i z size bytes ht hi hz0 hz1 hz2 hzs hsz v n xs hs (hown.alloc _) ⟨w.heap.size,0,none⟩ 1 1 cs.toList hx (by simpa using hl) ?_ h1 (by simp only [maxLen];omega) ?_ fr ?_
 ·intro j u hu
  have hadd:(⟨w.heap.size,0,none⟩:Addr).add j=⟨w.heap.size,j,none⟩:=by unfold Addr.add;split<;>simp_all
  rw [hadd,cell_of_row _ w.heap.size j cs e m (heap_alloc_new w _)];simpa using hu
 ·have:(n+1)*bytes≤(100000000+1)*1000:=Nat.mul_le_mul fg hb
  omega
 ·intro v' w' h2 h3 h4
  have hg:w.grownBy w' v.ownBlock:=by
   refine⟨h3.os,h3.tape,h3.output,by have:=h3.size;simp at this;omega,fun k hk hne=>?_⟩;rw [h3.block k fr hne];exact Below.heap_alloc w _ k hk
  refine h v' w' h2 hg ?_ (fun hv=>by have:=(h4.1 hv).2;omega);exact((Below.refl B w).grown hg hB fun k hk=>(hown.lt k hk).1)
theorem jU {P:Program} {w:World} {ops:Array Oper} {rest:List Oper} {o:Oper} {a:Act} {Q:Exit→Act→World→Prop} (B:Nat) (e:TypeId) {cs:Array Value} {m:Nat × Nat} (hgd:o.guard=none) (s x:Operand) (t:TypeId)
  (ho:o.op=.call { callee:=.builtin .append,args:=#[s,x],argTypes:=#[t,t] })
  {i:TypeInfo} {z:Value} {size bytes:Nat} (ht:P.underlying t=some (.slice e)) (hinf:P.info? e=some i∧i.zero=some z∧i.size=size∧i.bytes=bytes)
  (hzs:z.cells.size=size) (hsz:0<size)
  {v:Value} {n:Nat} {xs:List Value} (hs:a.eval s=v) (hown:w.ownsRow B e size v n xs)
  {g:Nat} (hx:a.eval x=.slice (some ⟨g,0,none⟩) 1 1) (hgz:g=w.heap.size) (hl:cs.size=size) (h1:∀u∈cs.toList,u.oneCell'=true)
  (hn:n≤100000000) (hb:bytes≤1000) (hB:B≤w.heap.size)
  (h:∀v' w',w'.ownsRow B e size v' (n+1) (xs++cs.toList)→w.grownBy w' v.ownBlock→Below B w w'→v'≠.slice none 0 0→wpList P ops Q rest (a.put o.dst v') w') :
  wpList P ops Q (o::rest) a (w.alloc (.cells cs e m)) :=
 wpList_plain hgd fun _ hK=>zk B e s x t ho ht hinf hzs hsz hs hown hx hgz hl h1 hn hb hB fun v' w' a1 a2 a3 a4=>hK _ _ (h v' w' a1 a2 a3 a4)
theorem qG {P:Program} {w W:World} {ops:Array Oper} {o:Oper} {a:Act} {K:Act→World→Prop} {Q:Exit→Act→World→Prop} {E:Prop} (B:Nat) (e:TypeId) {cs:Array Value} {m:Nat × Nat} (hW:W=w.alloc (.cells cs e m)) (hgd:o.guard=none) (s x:Operand) (t:TypeId)
  (ho:o.op=.call { callee:=.builtin .append,args:=#[s,x],argTypes:=#[t,t] })
  {i:TypeInfo} {z:Value} {size bytes:Nat} (ht:P.underlying t=some (.slice e)) (hinf:P.info? e=some i∧i.zero=some z∧i.size=size∧i.bytes=bytes)
  (hzs:z.cells.size=size) (hsz:0<size)
  {v:Value} {n:Nat} {xs:List Value} (hs:a.eval s=v) (hown:w.ownsRow B e size v n xs)
  {g:Nat} (hx:a.eval x=.slice (some ⟨g,0,none⟩) 1 1) (hgz:g=w.heap.size) (hl:cs.size=size) (h1:∀u∈cs.toList,u.oneCell'=true)
  (hn:n≤100000000) (hb:bytes≤1000) (hB:B≤w.heap.size)
  (h:∀v' w',w'.ownsRow B e size v' (n+1) (xs++cs.toList)→w.grownBy w' v.ownBlock→Below B w w'→v'≠.slice none 0 0→K (a.put o.dst v') w') :
  if Region.wanted o (yielded ops a.tmps)=true then Oper.wp P o a W K Q else E:=by
 subst hW;have hw:Region.wanted o (yielded ops a.tmps)=true:=by simp [Region.wanted,hgd]
 rw [zL hw];exact zk B e s x t ho ht hinf hzs hsz hs hown hx hgz hl h1 hn hb hB h
theorem pl {P:Program} {w:World} {B:Nat} {src e dst:TypeId} (hs:P.underlying src=some (.slice e)) (he:P.underlying e=some (.int .u8)) (hd:P.underlying dst=some .string)
  {v:Value} {l:Str} {n:Nat} (h:w.ownsRow B e 1 v n (jF l)):(convert src dst v).run P w=.ok (.string ⟨l.toArray⟩) w:=by
 have hn:n=l.length:=by have:=h.1;rw [rY] at this;omega
 subst hn;rcases h.2 with⟨rfl,h0⟩|⟨g,cap,cur,rfl,hb,hg,hnc,hcm,hcs,htake⟩
 ·have hl:l=[]:=zM h0
  subst hl;exact run_convert_bytes_nil w src e hs he 0 0 dst hd
 ·refine run_convert_bytes_back w src dst e ⟨g,0,none⟩ cap l hs he hd fun j hj=>?_
  have:=h.cells (g:=g) rfl j (.int .u8 (l[j].toNat)) (by simp [jF,List.getElem?_map,zN hj])
  exact this
def BRow (w:World) (g:Nat) (bs:Str):Prop :=
 ∃arr lo hi,w.heap[g]?=some (.cells arr 5 (lo,hi))∧bs.length≤lo∧bs.length≤arr.size∧∀(j:Nat) (c:UInt8),bs[j]?=some c→arr[j]?=some (.int .u8 c.toNat)
theorem BRow.cell {w:World} {g:Nat} {bs:Str} (h:BRow w g bs) {j:Nat} {c:UInt8} (hj:bs[j]?=some c):w.cell? ⟨g,j,none⟩=some (.int .u8 c.toNat):=by
 obtain⟨arr,lo,hi,h1,_,_,h4⟩:=h;simp only [World.cell?,h1];simpa using h4 j c hj
theorem BRow.free {w:World} {g:Nat} {bs:Str} (h:BRow w g bs) {j:Nat} (hj:j<bs.length):w.frozen? ⟨g,j,none⟩=false:=by
 obtain⟨arr,lo,hi,h1,h2,_,_⟩:=h;simp only [World.frozen?,h1];simp;omega
theorem BRow.set {w:World} {g:Nat} {bs:Str} (h:BRow w g bs) {j:Nat} (c:UInt8):BRow (w.setCell ⟨g,j,none⟩ (.int .u8 c.toNat)) g (bs.set j c):=by
 obtain⟨arr,lo,hi,h1,h2,h3,h4⟩:=h;refine⟨arr.setIfInBounds j (.int .u8 c.toNat),lo,hi,by simp [World.setCell,Array.getElem?_modify,h1],by simpa using h2,by simpa using h3,fun i d hd=>?_⟩;rw [List.getElem?_set] at hd;by_cases hij:j=i
 ·subst hij
  simp at hd
  obtain⟨hlt,rfl⟩:=hd;simp [Array.getElem?_setIfInBounds];omega
 ·rw [zO hij] at hd
  rw [Array.getElem?_setIfInBounds_ne hij];exact h4 i d hd
theorem BRow.back {P:Program} {w:World} {g:Nat} {bs:Str} (h:BRow w g bs) {src e dst:TypeId} (hs:P.underlying src=some (.slice e)) (he:P.underlying e=some (.int .u8)) (hd:P.underlying dst=some .string) (cap:Nat) :
  (convert src dst (.slice (some ⟨g,0,none⟩) bs.length cap)).run P w=.ok (.string ⟨bs.toArray⟩) w:=by
 refine run_convert_bytes_back w src dst e ⟨g,0,none⟩ cap bs hs he hd fun j hj=>?_
 have hadd:(⟨g,0,none⟩:Addr).add j=⟨g,j,none⟩:=by unfold Addr.add;split<;>simp_all
 rw [hadd];exact h.cell (zN hj)
theorem BRow.made {P:Program} (w:World) {src dst:TypeId} (l:Str) (hs:P.underlying src=some .string) (hd:P.underlying dst=some (.slice 5)) (he:P.underlying 5=some (.int .u8)) :
  ∃cap w1,(convert src dst (.string ⟨l.toArray⟩)).run P w=.ok (.slice (some ⟨w.heap.size,0,none⟩) l.length cap) w1∧BRow w1 w.heap.size l∧Below w.heap.size w w1∧w1.heap.size=w.heap.size+1:=by
 have h:=run_bytes_of_string (P:=P) w src dst 5 ⟨l.toArray⟩ hs hd he;refine⟨_,_,h,⟨_,_,_,heap_alloc_new w.drew _,?_,?_,fun j c hj=>?_⟩,((Below.refl _ w).drew).alloc (zP _) _,by simp⟩
 ·simp [bytesRow]
 ·simp [bytesRow]
 ·have hlt:=(zQ.1 hj).1
  simp only [bytesRow];rw [Array.getElem?_append_left (by simpa using hlt)];simp [hj]
theorem i9 {a b:Bool} (h:a=b):Ending.returned (.bool a)=.returned (.bool b):=by rw [h]
theorem mU {k:IntKind} {a b:Int} (h:a=b):Ending.returned (.int k a)=.returned (.int k b):=by rw [h]
theorem xG {a b:Str} (h:a=b):Ending.returned (.string ⟨a.toArray⟩)=.returned (.string ⟨b.toArray⟩):=by rw [h]
theorem ja {w:World} {B:Nat} {e:TypeId} {sz:Nat} {v:Value} {n:Nat} {xs:List Value} (h:w.ownsRow B e sz v n xs):∃a c,v=.slice a n c:=by
 rcases h.2 with⟨rfl,rfl⟩|⟨g,cap,cur,rfl,_⟩
 ·exact⟨_,_,rfl⟩
 ·exact⟨_,_,rfl⟩
def uT (w:World) (k:Nat):Option TypeId:=match w.heap[k]? with|some (.cells _ e _)=>some e|_=>none
structure Fr (B:Nat) (gs:List Nat) (es:List TypeId) (w w':World):Prop where
 os:w'.os=w.os
 tape:w'.tape=w.tape
 output:w'.output=w.output
 size:w.heap.size≤w'.heap.size
 block:∀k,k<w.heap.size→k ∉ gs→(k<B∨∀e∈es,uT w k≠some e)→w'.heap[k]?=w.heap[k]?
theorem Fr.refl (B gs es w):Fr B gs es w w:=⟨rfl,rfl,rfl,zP _,fun _ _ _ _=>rfl⟩
theorem Fr.trans {B gs es} {a b c:World} (h:Fr B gs es a b) (k:Fr B gs es b c):Fr B gs es a c :=
 ⟨k.os.trans h.os,k.tape.trans h.tape,k.output.trans h.output,zR h.size k.size,fun i hi hg ht=>by
  have h1:=h.block i hi hg ht;refine(k.block i (zS hi h.size) hg ?_).trans h1
  unfold uT at ht ⊢;rw [h1];exact ht⟩
theorem Fr.below {B gs es} {w w':World} (h:Fr B gs es w w') (hB:B≤w.heap.size) (hg:∀g∈gs,B≤g):Below B w w' :=
 ⟨h.os,h.tape,h.output,h.size,fun k hk=>h.block k fg (fun hm=>by have:=hg k hm;omega) (.inl hk)⟩
theorem Fr.setCell {B gs es} {a w:World} (h:Fr B gs es a w) {p:Addr} (hp:p.block∈gs) (u:Value):Fr B gs es a (w.setCell p u) :=
 h.trans ⟨rfl,rfl,rfl,by simp [World.setCell],fun k _ hk _=>Below.heap_setCell _ _ _ _ (fun e=>hk (e▸hp))⟩
theorem lV {w:World} {B:Nat} {e:TypeId} {sz:Nat} {v:Value} {n:Nat} {xs:List Value} (h:w.ownsRow B e sz v n xs) {k:Nat} (hk:v.ownBlock=some k):B≤k∧uT w k=some e:=by
 rcases h.2 with⟨rfl,_⟩|⟨g,cap,cur,rfl,hb,hg,_⟩
 ·simp [Value.ownBlock] at hk
 ·simp [Value.ownBlock] at hk;subst hk;exact⟨hb,by simp [uT,hg]⟩
theorem Fr.grown {B gs es} {a w w':World} (h:Fr B gs es a w) {e:TypeId} {sz:Nat} {v:Value} {n:Nat} {xs:List Value} (hown:w.ownsRow B e sz v n xs) (he:e∈es) (hg:w.grownBy w' v.ownBlock):Fr B gs es a w' :=
 h.trans ⟨hg.os,hg.tape,hg.output,hg.size,fun k hk _ ht=>hg.block k hk (fun e'=>by
  obtain⟨h1,h2⟩:=lV hown e'.symm;rcases ht with ht|ht
  ·omega
  ·exact ht e he h2)⟩
theorem iN {w:World} {k:Nat} {o:Obj} (h:w.heap[k]?=some o):k<w.heap.size:=by
 rcases Nat.lt_or_ge k w.heap.size with h1|h1
 ·exact h1
 ·rw [Array.getElem?_eq_none h1] at h;cases h
def Bld (B g:Nat) (l:Str) (w:World):Prop :=
 ∃p v,w.heap[g]?=some (.cells #[p,v] 110 (0,0))∧B≤g∧(p=.pointer none∨p=.pointer (some ⟨g,0,none⟩))∧w.ownsRow B 5 1 v l.length (jF l)
theorem Bld.fresh (B:Nat) (w:World) (hB:B≤w.heap.size):Bld B w.heap.size [] (w.alloc (.cells #[.pointer none,.slice none 0 0] 110)) :=
 ⟨_,_,heap_alloc_new w _,hB,.inl rfl,World.ownsRow_nil _ _ _ _⟩
theorem Bld.lt {B g:Nat} {l:Str} {w:World} (h:Bld B g l w):g<w.heap.size:=by
 obtain⟨p,v,h,_⟩:=h;exact iN h
theorem Bld.le {B g:Nat} {l:Str} {w:World} (h:Bld B g l w):B≤g:=by
 obtain⟨p,v,_,h,_⟩:=h;exact h
theorem Bld.keep {B g:Nat} {l:Str} {w w':World} (h:Bld B g l w) (_hs:w.heap.size≤w'.heap.size) (hk:∀k,k<w.heap.size→w'.heap[k]?=w.heap[k]?):Bld B g l w':=by
 obtain⟨p,v,h1,h2,h3,h4,h5⟩:=h;refine⟨p,v,(hk g (iN h1)).trans h1,h2,h3,h4,?_⟩;rcases h5 with h5|⟨g',cap,cur,hv,hb,hg,r⟩
 ·exact .inl h5
 ·exact .inr ⟨g',cap,cur,hv,hb,(hk g' (iN hg)).trans hg,r⟩
theorem Bld.alloc {B g:Nat} {l:Str} {w:World} (h:Bld B g l w) (o:Obj):Bld B g l (w.alloc o) :=
 h.keep fq fun k hk=>Below.heap_alloc _ _ _ hk
theorem Bld.below {B g:Nat} {l:Str} {w w':World} (h:Bld B g l w) (hb:Below w.heap.size w w'):Bld B g l w' :=
 h.keep hb.size fun k hk=>hb.block k hk
theorem bld_size:(Tryz.prog.info? 110).map (·.size)=some 2:=by kernel_rfl
theorem bld_lies:liesAt Tryz.prog Tryz.prog.depth 110 (2 / Tryz.prog.cellsOf 110) 0 110 1=true:=by kernel_rfl
theorem wn:Tryz.prog.cellsOf 5=1:=by kernel_rfl
theorem og (g:Nat) (v p:Value) (w:World) (h:w.heap[g]?=some (.cells #[p,v] 110 (0,0))) (hp:p=.pointer none∨p=.pointer (some ⟨g,0,none⟩)) :
  Calls Tryz.prog 87 #[.pointer (some ⟨g,0,none⟩)] w fun e w'=>e=.returned (.tuple #[])∧w'.heap[g]?=some (.cells #[.pointer (some ⟨g,0,none⟩),v] 110 (0,0))∧(∀k,k≠g→w'.heap[k]?=w.heap[k]?)∧w'.heap.size=w.heap.size∧w'.os=w.os∧w'.tape=w.tape∧w'.output=w.output:=by
 obtain⟨j,hj,hjs⟩:=Option.map_eq_some_iff.1 bld_size;rcases hp with rfl|rfl
 ·have h0:w.cell? ⟨g,0,none⟩=some (.pointer none):=by simp [World.cell?,h]
  have hsh:w.shape? g=some (110,2):=by simp [World.shape?,h]
  have hfz:w.frozen? ⟨g,0,none⟩=false:=by simp [World.frozen?,h]
  have H:=ab h;clear h;refine Calls.mono (R:=fun e w'=>e=.returned (.tuple #[])∧w'=w.setCell ⟨g,0,none⟩ (.pointer (some ⟨g,0,none⟩))) ?_ ?_
  ·go_enter Tryz.func87,Tryz.ntmps87
   go_wp2
   rw [Lib.run_to_unsafe w ⟨g,0,none⟩ Tryz.underlying108 Tryz.underlying173 hj (by rw [hjs];decide) hsh (Nat.zero_lt_succ 1)];simp only [Result.andThen];rw [Oper.upon_value];go_wp2
   rw [run_callFunc_extern Tryz.func124 fp fp fp (e:=Extern.AbiNoEscape.same) fp];rw [Lib.run_noEscape];simp only [Result.andThen];rw [Oper.upon_value];go_wp2
   rw [Lib.run_from_unsafe w ⟨g,0,none⟩ Tryz.underlying173 Tryz.underlying108 hj hsh bld_lies];simp only [Result.andThen];rw [Oper.upon_value];go_wp2
   go_end0
   exact⟨rfl,rfl⟩
  ·rintro e w' ⟨rfl,rfl⟩
   refine⟨rfl,?_,fun k hk=>Below.heap_setCell _ _ _ _ hk,by simp [World.setCell],rfl,rfl,rfl⟩;simp [World.setCell,Array.getElem?_modify,H.out]
 ·have h0:w.cell? ⟨g,0,none⟩=some (.pointer (some ⟨g,0,none⟩)):=by simp [World.cell?,h]
  have H:=ab h;clear h;go_enter Tryz.func87,Tryz.ntmps87
  go_wp2
  rw [Lib.run_neq_ptr_same w _ Tryz.underlying108 hj];go_wp2
  go_end0
  exact⟨rfl,H.out,fun _ _=>rfl,rfl,rfl,rfl,rfl⟩
theorem yO {B g:Nat} {l r:Str} {w w1 w2:World} {v v':Value} (hB:B≤g)
  (h1:w1.heap[g]?=some (.cells #[.pointer (some ⟨g,0,none⟩),v] 110 (0,0))) (hrest:∀k,k≠g→w1.heap[k]?=w.heap[k]?) (hsz:w1.heap.size=w.heap.size)
  (hos:w1.os=w.os∧w1.tape=w.tape∧w1.output=w.output)
  (hown:w1.ownsRow B 5 1 v l.length (jF l)) (hown2:w2.ownsRow B 5 1 v' (l++r).length (jF (l++r))) (hg:w1.grownBy w2 v.ownBlock) :
  w2.heap[g]?=some (.cells #[.pointer (some ⟨g,0,none⟩),v] 110 (0,0))∧Bld B g (l++r) (w2.setCell ⟨g,1,none⟩ v')∧Fr B [g] [5] w (w2.setCell ⟨g,1,none⟩ v'):=by
 have hne:v.ownBlock≠some g:=fun he=>by
  have:=(lV hown he).2
  simp [uT,h1] at this
 have hlt:=iN h1;have h2:w2.heap[g]?=some (.cells #[.pointer (some ⟨g,0,none⟩),v] 110 (0,0)):=(hg.block g hlt (fun e=>hne e.symm)).trans h1;have hne2:v'.ownBlock≠some g:=fun he=>by
  have:=(lV hown2 he).2
  simp [uT,h2] at this
 refine⟨h2,⟨_,v',by simp [World.setCell,Array.getElem?_modify,h2],hB,.inr rfl,?_⟩,?_⟩
 ·exact hown2.kept (row:=some g) ⟨rfl,rfl,rfl,by simp [World.setCell],fun k _ hk=>Below.heap_setCell _ _ _ _ (fun e=>hk (by simp [e]))⟩ (.inr hne2)
 ·have f1:Fr B [g] [5] w w1:=⟨hos.1,hos.2.1,hos.2.2,by omega,fun k _ hk _=>hrest k (by simpa using hk)⟩
  exact(f1.grown hown fq hg).setCell (p:=⟨g,1,none⟩) fq v'
theorem uV {B g:Nat} {w w1:World} {v p q:Value} {n:Nat} {xs:List Value} (h:w.ownsRow B 5 1 v n xs) (h0:w.heap[g]?=some (.cells #[p,q] 110 (0,0)))
  (hrest:∀k,k≠g→w1.heap[k]?=w.heap[k]?):w1.ownsRow B 5 1 v n xs:=by
 refine⟨h.1,?_⟩;rcases h.2 with h5|⟨g',cap,cur,hv,hb,hg,r⟩
 ·exact .inl h5
 ·refine .inr ⟨g',cap,cur,hv,hb,(hrest g' (fun e=>?_)).trans hg,r⟩
  subst e;rw [h0] at hg;simp at hg
theorem ll (B g:Nat) (l:Str) (c:Int) (w:World) (h:Bld B g l w) (hl:l.length≤50000000) (hBw:B≤w.heap.size) (hc0:0≤c) (hc:c<256) :
  Calls Tryz.prog 126 #[.pointer (some ⟨g,0,none⟩),.int .u8 c] w fun e w'=>e=.returned .nilIface∧Bld B g (l++[UInt8.ofNat c.toNat]) w'∧Fr B [g] [5] w w':=by
 obtain⟨p,v,h0,hB,hp,hown⟩:=h;obtain⟨iu,hiu⟩:=info_parts oM;have H0:=ab h0;clear h0;go_enter Tryz.func126,Tryz.ntmps126
 go_wp2_with (go_at_call 87;refine(og g v p _ H0.out hp).mono ?_)
 rintro e w1 ⟨rfl,h1,hrest,hsz,hos⟩;have hown1:=uV hown H0.out hrest;have c0:w1.cell? ⟨g,0,none⟩=some (.pointer (some ⟨g,0,none⟩)):=by rw [zT h1];rfl
 have c1:w1.cell? ⟨g,1,none⟩=some v:=by rw [zT h1];rfl
 have HR:Hid (∀k,k≠g→w1.heap[k]?=w.heap[k]?):=hrest;have HO:=ab hos;have H1:=ab h1;have HZ:=ab hsz;have hBw1:B≤w1.heap.size:=fg;clear hrest hos h1 hsz;go_wp2_with (at_builtin;refine jU B 5 rfl _ _ 67 rfl Tryz.underlying67 hiu rfl fo rfl hown1 rfl f9 rfl fz fg fo hBw1 ?_)
 intro v' w2 hown2 hg2 _ _;have hchr:jF l++[Value.int .u8 c]=jF (l++[UInt8.ofNat c.toNat]):=by
  simp only [jF,List.map_append,zU,zV];rw [show (((UInt8.ofNat c.toNat).toNat:Nat):Int)=c by simp [UInt8.toNat_ofNat'];omega]
 obtain⟨k1,k2,k3⟩:=yO hB H1.out HR.out HZ.out ⟨HO.out.1,HO.out.2.1,HO.out.2.2⟩ hown1 (r:=[UInt8.ofNat c.toNat]) (by rw [←hchr];simpa using hown2) hg2;have d1:w2.cell? ⟨g,1,none⟩=some v:=by rw [zT k1];rfl
 have d2:w2.frozen? ⟨g,1,none⟩=false:=Lib.frozen_of_heap k1 1;clear hchr;have K1:=ab k1;clear k1;obtain⟨a',c',rfl⟩:=ja hown2;go_wp2
 go_ret
 exact⟨rfl,k2,k3⟩
theorem jW (B g:Nat) (l r:Str) (w:World) (h:Bld B g l w) (hl:l.length≤50000000) (hr:r.length≤50000000) (hBw:B≤w.heap.size) :
  Calls Tryz.prog 57 #[.pointer (some ⟨g,0,none⟩),.string ⟨r.toArray⟩] w fun e w'=>e=.returned (.tuple #[.int .i64 r.length,.nilIface])∧Bld B g (l++r) w'∧Fr B [g] [5] w w':=by
 obtain⟨p,v,h0,hB,hp,hown⟩:=h;obtain⟨iu,hi,hz0,hz1,hz2⟩:=info_parts oM;have H0:=ab h0;clear h0;go_enter Tryz.func57,Tryz.ntmps57
 go_wp2_with (go_at_call 87;refine(og g v p _ H0.out hp).mono ?_)
 rintro e w1 ⟨rfl,h1,hrest,hsz,hos⟩;have hown1:=uV hown H0.out hrest;have c0:w1.cell? ⟨g,0,none⟩=some (.pointer (some ⟨g,0,none⟩)):=by rw [zT h1];rfl
 have c1:w1.cell? ⟨g,1,none⟩=some v:=by rw [zT h1];rfl
 have HR:Hid (∀k,k≠g→w1.heap[k]?=w.heap[k]?):=hrest;have HO:=ab hos;have H1:=ab h1;have HZ:=ab hsz;have hBw1:B≤w1.heap.size:=fg;clear hrest hos h1 hsz;go_wp2_with (at_builtin;refine Lib.wpList_append_own_string _ rfl _ _ 67 9 rfl B 5 iu Tryz.underlying67 Tryz.underlying9 hi hz0 hz1 hz2 _ _ _ rfl hown1 _ rfl gJ io hBw1 ?_)
 intro v' w2 hown2 hg2 _;obtain⟨k1,k2,k3⟩:=yO hB H1.out HR.out HZ.out ⟨HO.out.1,HO.out.2.1,HO.out.2.2⟩ hown1 (r:=r) (by simpa [jF,Lib.strCells] using hown2) hg2;have d1:w2.cell? ⟨g,1,none⟩=some v:=by rw [zT k1];rfl
 have d2:w2.frozen? ⟨g,1,none⟩=false:=Lib.frozen_of_heap k1 1;have K1:=ab k1;clear k1;obtain⟨a',c',rfl⟩:=ja hown2;go_wp2
 go_ret2
 exact⟨rfl,k2,k3⟩
theorem zd (B g:Nat) (l:Str) (w:World) (h:Bld B g l w) :
  Calls Tryz.prog 127 #[.pointer (some ⟨g,0,none⟩)] w fun e w'=>e=.returned (.int .i64 l.length)∧w=w':=by
 obtain⟨p,v,h0,hB,hp,hown⟩:=h;obtain⟨ao,cap,rfl⟩:=ja hown;have c1:w.cell? ⟨g,1,none⟩=some (.slice ao l.length cap):=by rw [zT h0];rfl
 clear h0;go_enter Tryz.func127,Tryz.ntmps127
 exact cM
theorem yM (B g:Nat) (l:Str) (w:World) (h:Bld B g l w) (h0:l≠[]) :
  Calls Tryz.prog 59 #[.pointer (some ⟨g,0,none⟩)] w fun e w'=>e=.returned (.string ⟨l.toArray⟩)∧Below B w w':=by
 obtain⟨p,v,hbk,hB,hp,hown⟩:=h;have hl0:l.length≠0:=by simpa using h0
 obtain⟨g',cap,cur,rfl,hbg,hg,hnc,hcm,hcs,htake⟩:∃g' cap cur,v=.slice (some ⟨g',0,none⟩) l.length cap∧B≤g'∧w.heap[g']?=some (.cells cur 5 (0,0))∧l.length≤cap∧cap≤maxLen∧cur.size=cap*1∧cur.toList.take (l.length*1)=jF l:=by
  rcases hown.2 with⟨_,hz⟩|⟨g',cap,cur,hv,r⟩
  ·exact absurd hz hl0
  ·exact⟨g',cap,cur,hv,r⟩
 have c1:w.drew.cell? ⟨g,1,none⟩=some (.slice (some ⟨g',0,none⟩) l.length cap):=by
  have:w.drew.heap[g]?=some (.cells #[p,.slice (some ⟨g',0,none⟩) l.length cap] 110 (0,0)):=hbk
  exact dH
 have hSD:(Builtin.unsafeSliceData_ #[67] 154 #[.slice (some ⟨g',0,none⟩) l.length cap]).run Tryz.prog w.drew=.ok (.pointer (some ⟨g',0,none⟩)) w.drew :=
  Lib.run_unsafeSliceData_row _ _ _ _ _ _ fg
 have hUS:(Builtin.unsafeString_ #[154,3] 9 #[.pointer (some ⟨g',0,none⟩),.int .i64 l.length]).run Tryz.prog w.drew=.ok (.string ⟨l.toArray⟩) (w.drew.freeze ⟨g',0,none⟩ l.length):=by
  refine Lib.run_unsafeString_row w.drew 154 3 9 5 Tryz.underlying154 wn g' cur.size (by have hg':w.drew.heap[g']?=some (.cells cur 5 (0,0)):=hg;simp [World.shape?,hg']) l h0 fg (by unfold maxLen at hcm;omega) ?_;intro j x hx;exact hown.cells (g:=g') rfl j (.int .u8 x.toNat) (by simp [jF,List.getElem?_map,hx])
 clear hbk hg htake hcs hown;go_enter Tryz.func59,Tryz.ntmps59
 go_wp2
 go_region
 all_goals (go_wp2;go_ret;exact⟨rfl,Lib.below_freeze (Below.drew (Below.refl B w)) (p:=⟨g',0,none⟩) hbg _⟩)
theorem ww (B g:Nat) (p:Value) (w:World) (hbk:w.heap[g]?=some (.cells #[p,.slice none 0 0] 110 (0,0))) :
  Calls Tryz.prog 59 #[.pointer (some ⟨g,0,none⟩)] w fun e w'=>e=.returned (.string ⟨#[]⟩)∧Below B w w':=by
 have hUS:∀(W:World) (q:Option Addr),(Builtin.unsafeString_ #[154,3] 9 #[.pointer q,.int .i64 0]).run Tryz.prog W=.ok (.string .empty) W:=fun W q=>Lib.run_unsafeString_none W _ _ _ q
 have c1:w.drew.cell? ⟨g,1,none⟩=some (.slice none 0 0):=by
  have:w.drew.heap[g]?=some (.cells #[p,.slice none 0 0] 110 (0,0)):=hbk
  exact dH
 have hSD:(Builtin.unsafeSliceData_ #[67] 154 #[.slice none 0 0]).run Tryz.prog w.drew=.ok (.pointer none) w.drew:=rfl;clear hbk;exact di
theorem uj (B g g' cap:Nat) (p:Value) (w:World) (hc0:cap≠0) (hbk:w.heap[g]?=some (.cells #[p,.slice (some ⟨g',0,none⟩) 0 cap] 110 (0,0))) :
  Calls Tryz.prog 59 #[.pointer (some ⟨g,0,none⟩)] w fun e w'=>e=.returned (.string ⟨#[]⟩)∧Below B w w':=by
 have hUS:∀(W:World) (q:Option Addr),(Builtin.unsafeString_ #[154,3] 9 #[.pointer q,.int .i64 0]).run Tryz.prog W=.ok (.string .empty) W:=fun W q=>Lib.run_unsafeString_none W _ _ _ q
 have c1:w.drew.cell? ⟨g,1,none⟩=some (.slice (some ⟨g',0,none⟩) 0 cap):=by
  have:w.drew.heap[g]?=some (.cells #[p,.slice (some ⟨g',0,none⟩) 0 cap] 110 (0,0)):=hbk
  exact dH
 have hSD:(Builtin.unsafeSliceData_ #[67] 154 #[.slice (some ⟨g',0,none⟩) 0 cap]).run Tryz.prog w.drew=.ok (.pointer (some ⟨g',0,none⟩)) w.drew :=
  Lib.run_unsafeSliceData_row _ _ _ _ _ _ hc0
 clear hbk hc0;exact di
theorem sF (B g g':Nat) (p:Value) (cur:Array Value) (w:World) (hBw:B≤w.heap.size) (hbk:w.heap[g]?=some (.cells #[p,.slice (some ⟨g',0,none⟩) 0 0] 110 (0,0))) (hg:w.heap[g']?=some (.cells cur 5 (0,0))) :
  Calls Tryz.prog 59 #[.pointer (some ⟨g,0,none⟩)] w fun e w'=>e=.returned (.string ⟨#[]⟩)∧Below B w w':=by
 have hUS:∀(W:World) (q:Option Addr),(Builtin.unsafeString_ #[154,3] 9 #[.pointer q,.int .i64 0]).run Tryz.prog W=.ok (.string .empty) W:=fun W q=>Lib.run_unsafeString_none W _ _ _ q
 have hlt:g<w.heap.size:=iN hbk;have c1:w.drew.cell? ⟨g,1,none⟩=some (.slice (some ⟨g',0,none⟩) 0 0):=by
  have:w.drew.heap[g]?=some (.cells #[p,.slice (some ⟨g',0,none⟩) 0 0] 110 (0,0)):=hbk
  exact dH
 have hSD:(Builtin.unsafeSliceData_ #[67] 154 #[.slice (some ⟨g',0,none⟩) 0 0]).run Tryz.prog w.drew=.ok (.pointer (some ⟨w.drew.heap.size,0,none⟩)) (w.drew.alloc (.view ⟨g',0,none⟩ 5)) :=
  Lib.run_unsafeSliceData_zero w.drew _ _ 5 Tryz.underlying154 ⟨g',0,none⟩ 0 (5,cur.size) (by have hg':w.drew.heap[g']?=some (.cells cur 5 (0,0)):=hg;simp [World.shape?,hg'])
 have c2:(w.drew.alloc (.view ⟨g',0,none⟩ 5)).cell? ⟨g,1,none⟩=some (.slice (some ⟨g',0,none⟩) 0 0):=by
  have:(w.drew.alloc (.view ⟨g',0,none⟩ 5)).heap[g]?=_:=(Lib.alloc_old w.drew _ g hlt).trans hbk
  exact dH
 have c3:(w.alloc (.view ⟨g',0,none⟩ 5)).drew.cell? ⟨g,1,none⟩=some (.slice (some ⟨g',0,none⟩) 0 0):=c2;have c0:w.cell? ⟨g,1,none⟩=some (.slice (some ⟨g',0,none⟩) 0 0):=c1;clear hbk hg;go_enter Tryz.func59,Tryz.ntmps59
 go_wp2
 go_region
 all_goals (go_wp2;go_ret;exact⟨rfl,(Below.drew (Below.refl B w)).alloc hBw _⟩)
theorem rF (B g:Nat) (l:Str) (w:World) (h:Bld B g l w) (hBw:B≤w.heap.size) :
  Calls Tryz.prog 59 #[.pointer (some ⟨g,0,none⟩)] w fun e w'=>e=.returned (.string ⟨l.toArray⟩)∧Below B w w':=by
 by_cases h0:l=[]
 ·subst h0
  obtain⟨p,v,hbk,hB,hp,hown⟩:=h;rcases hown.2 with⟨rfl,_⟩|⟨g',cap,cur,rfl,_,hg,_⟩
  ·exact ww B g p w hbk
  ·by_cases hc:cap=0
   ·subst hc;exact sF B g g' p cur w hBw hbk hg
   ·exact uj B g g' cap p w hc hbk
 ·exact yM B g l w h h0
def upB (c:UInt8):UInt8:=if 97≤c.toNat∧c.toNat≤122 then c-32 else c
def lowB (c:UInt8):UInt8:=if 65≤c.toNat∧c.toNat≤90 then c+32 else c
def ox (c:UInt8):Bool:=decide ((97≤c.toNat∧c.toNat≤122)∨(65≤c.toNat∧c.toNat≤90)∨(48≤c.toNat∧c.toNat≤57)∨128≤c.toNat)
def lL (small:Bool):Bool→Str→Str→Str
 | _,[],acc=>acc
 | pw,c::r,acc=>if ox c=true then(if pw=true then lL small true r (acc++[c]) else if small=true∧acc=[] then lL small true r (acc++[lowB c]) else lL small true r (acc++[upB c])) else lL small false r acc
def capB:Str→Str
 | []=>[]
 | c::r=>upB c::r
def turn (s:Str) (way:Int):Str × Int :=
 if way=1 then(s.map upB,0) else if way=2 then(s.map lowB,0) else if way=3 then(capB s,0) else if way=4 then(lL true false s [],0) else if way=5 then(lL false false s [],0) else([],2)
def n1:Str:=[117,112,99,97,115,101]
def n2:Str:=[100,111,119,110,99,97,115,101]
def n3:Str:=[99,97,112,105,116,97,108,105,122,101]
def n4:Str:=[99,97,109,101,108,99,97,115,101]
def n5:Str:=[112,97,115,99,97,108,99,97,115,101]
def mF (way:Int):Str:=if way=1 then n1 else if way=2 then n2 else if way=3 then n3 else if way=4 then n4 else if way=5 then n5 else []
def nM (s:Str):Int:=if s=n1 then 1 else if s=n2 then 2 else if s=n3 then 3 else if s=n4 then 4 else if s=n5 then 5 else 0
theorem ky (small:Bool):∀(s:Str) (pw:Bool) (acc:Str),(lL small pw s acc).length≤s.length+acc.length
 | [],pw,acc=>by simp [lL]
 | c::r,pw,acc=>by
  have h1:=ky small r true (acc++[c]);have h2:=ky small r true (acc++[lowB c]);have h3:=ky small r true (acc++[upB c]);have h4:=ky small r false acc;simp only [lL,zW,zX,zY] at *
  (repeat' split)<;>omega
theorem nN (s:Str) (way:Int):(turn s way).1.length≤s.length:=by
 unfold turn;have h1:=ky true s false [];have h2:=ky false s false []
 (repeat' split)<;>simp_all
 cases s<;>simp [capB]
theorem upB_nat (c:UInt8):(upB c).toNat=if 97≤c.toNat∧c.toNat≤122 then c.toNat-32 else c.toNat:=by
 unfold upB;split
 ·rename_i h
  rw [UInt8.toNat_sub_of_le _ _ (by rw [UInt8.le_iff_toNat_le];have:(32:UInt8).toNat=32:=rfl;omega)];rfl
 ·rfl
theorem lowB_nat (c:UInt8):(lowB c).toNat=if 65≤c.toNat∧c.toNat≤90 then c.toNat+32 else c.toNat:=by
 unfold lowB;split
 ·rename_i h
  rw [UInt8.toNat_add];have:(32:UInt8).toNat=32:=rfl;omega
 ·rfl
theorem pT {c:Int} (h1:c<256):(UInt8.ofNat c.toNat).toNat=c.toNat:=by
 rw [UInt8.toNat_ofNat'];omega
theorem xF {s:Str} {k:Int} (h1:1≤k) (h5:k≤5) (h:mF k=s):nM s=k:=by
 have hk:k=1∨k=2∨k=3∨k=4∨k=5:=fg;subst h;rcases hk with rfl|rfl|rfl|rfl|rfl<;>decide
theorem wJ {s:Str} (h:∀j:Int,1≤j→j<6→mF j≠s):nM s=0:=by
 unfold nM;rw [zO (fun e=>h 1 fg fg e.symm),zO (fun e=>h 2 fg fg e.symm),zO (fun e=>h 3 fg fg e.symm),zO (fun e=>h 4 fg fg e.symm),zO (fun e=>h 5 fg fg e.symm)]
theorem od (c:Int) (w:World) (h0:0≤c) (h1:c<256) :
  Calls Tryz.prog 88 #[.int .u8 c] w fun e w'=>e=.returned (.int .u8 (upB (UInt8.ofNat c.toNat)).toNat)∧w=w':=by
 obtain⟨R,hR⟩:∃R:Nat,R=(upB (UInt8.ofNat c.toNat)).toNat:=⟨_,rfl⟩;rw [←hR];rw [upB_nat,pT h1] at hR;have HR:=ab hR;clear hR;go_enter Tryz.func88,Tryz.ntmps88
 exact db
theorem tW (c:Int) (w:World) (h0:0≤c) (h1:c<256) :
  Calls Tryz.prog 89 #[.int .u8 c] w fun e w'=>e=.returned (.int .u8 (lowB (UInt8.ofNat c.toNat)).toNat)∧w=w':=by
 obtain⟨R,hR⟩:∃R:Nat,R=(lowB (UInt8.ofNat c.toNat)).toNat:=⟨_,rfl⟩;rw [←hR];rw [lowB_nat,pT h1] at hR;have HR:=ab hR;clear hR;go_enter Tryz.func89,Tryz.ntmps89
 exact db
theorem nU (c:Int) (w:World) (h0:0≤c) (h1:c<256) :
  Calls Tryz.prog 125 #[.int .u8 c] w fun e w'=>e=.returned (.bool (ox (UInt8.ofNat c.toNat)))∧w=w':=by
 obtain⟨R,hR⟩:∃R:Bool,R=ox (UInt8.ofNat c.toNat):=⟨_,rfl⟩;rw [←hR];rw [ox,pT h1] at hR;have HR:=ab hR;clear hR;go_enter Tryz.func125,Tryz.ntmps125
 go_wp2
 all_goals
  go_ret
  refine⟨i9 ?_,rfl⟩;rw [HR.out,Bool.eq_iff_iff];simp;try omega
theorem r8 (n:Int) (w:World) :
  Calls Tryz.prog 118 #[.int .i64 n] w fun e w'=>e=.returned (.string ⟨(mF n).toArray⟩)∧Below w.heap.size w w':=by
 by_cases h:1≤n∧n≤5
 ·obtain⟨h1,h2⟩:=h
  have hn:n=1∨n=2∨n=3∨n=4∨n=5:=fg;rcases hn with rfl|rfl|rfl|rfl|rfl
  all_goals
   go_enter Tryz.func118,Tryz.ntmps118
   go_wp2
   go_ret
   exact⟨rfl,(Below.refl _ _).alloc (zP _) _⟩
 ·have hz:mF n=[]:=by
   unfold mF;rw [zO fg,zO fg,zO fg,zO fg,zO fg]
  rw [hz];go_enter Tryz.func118,Tryz.ntmps118
  go_wp2
  all_goals
   first
   | (go_ret;exact⟨rfl,Below.refl _ _⟩)
   | (exfalso;omega)
theorem Way_any (s:Str) (w:World) :
  Calls Tryz.prog 138 #[.string ⟨s.toArray⟩] w fun e w'=>e=.returned (.int .i64 (nM s))∧Below w.heap.size w w':=by
 generalize hR:nM s=R
 have HR:=ab hR;clear hR;go_enter Tryz.func138,Tryz.ntmps138
 go_wp2
 go_loopw [3] (fun q wr=>∃k:Int,1≤k∧k≤6∧q=.int .i64 k∧Below w.heap.size w wr∧Hid (∀j:Int,1≤j→j<k→mF j≠s)) (fun q _=>(6-intOf q).toNat)
 case atStart=>exact⟨1,by omega,by omega,rfl,Below.refl _ _,ab fun j h1 h2=>by omega⟩
 case round =>
  obtain⟨k,hk1,hk6,rfl,hb,HM⟩:=hrel;by_cases h5:k≤5
  ·by_cases hq:mF k=s
   ·have hbq:(mF k==s)=true:=by simp [hq]
    have Hq:=ab hq;clear hq;go_wp2_with (go_at_call 118;refine(r8 _ _).mono ?_;rintro e w1 ⟨rfl,hb1⟩)
    go_ret
    exact⟨mU (by rw [←HR.out,xF hk1 h5 Hq.out]),hb.trans (hb1.mono hb.size)⟩
   ·have hbq:(mF k==s)=false:=by simp [hq]
    have Hq:=ab hq;clear hq;go_wp2_with (go_at_call 118;refine(r8 _ _).mono ?_;rintro e w1 ⟨rfl,hb1⟩)
    go_roundw
    case rel =>
     refine⟨k+1,by omega,by omega,rfl,hb.trans (hb1.mono hb.size),ab fun j h1 h2=>?_⟩;by_cases hj:j=k
     ·subst hj;exact Hq.out
     ·exact HM.out j h1 fg
    case measure=>simp [intOf];omega
  ·go_wp2
   go_ret
   have:k=6:=fg
   subst this;exact⟨mU (by rw [←HR.out,wJ HM.out]),hb⟩
theorem wz (l:Str) (small:Bool) (w:World) (hs:l.length≤1000000) :
  Calls Tryz.prog 90 #[.string ⟨l.toArray⟩,.bool small] w fun e w'=>e=.returned (.string ⟨(lL small false l []).toArray⟩)∧Below w.heap.size w w':=by
 generalize hR:lL small false l []=R
 have HR:=ab hR;clear hR;have HR0:Hid (lL small false (l.drop 0) []=R):=HR;clear HR;go_enter Tryz.func90,Tryz.ntmps90
 go_wp2
 go_loopw [6] (fun q wr=>∃(i:Nat) (acc:Str) (pw:Bool),i≤l.length∧q=.int .i64 i∧Bld w.heap.size w.heap.size acc wr∧Below w.heap.size w wr∧acc.length≤i∧Hid ((i=0→pw=false)∧(0<i→∀x,l[i-1]?=some x→ox x=pw))∧Hid (lL small pw (l.drop i) acc=R)) (fun q _=>l.length-(intOf q).toNat)
 case atStart=>exact⟨0,[],false,by omega,rfl,Bld.fresh _ _ (zP _),(Below.refl _ _).alloc (zP _) _,by simp,ab ⟨fun _=>rfl,fun h=>by omega⟩,HR0⟩
 case round =>
  obtain⟨i,acc,pw,hi,rfl,hbl,hb,hacc,HP,HF⟩:=hrel;clear HR0;have hB:=hb.size;cases hd:l.drop i with
  | nil =>
   have h2:=ki hd;have HF':Hid (lL small pw [] acc=R):=ab gr;clear hd HF;go_wp2_with (go_at_call 59;refine(rF _ _ _ _ hbl hB).mono ?_;rintro e w1 ⟨rfl,hb1⟩)
   go_ret
   exact⟨xG (by rw [←HF'.out];rfl),hb.trans hb1⟩
  | cons c r =>
   obtain⟨h2,h3,hr⟩:=jv hd;have HF':Hid (lL small pw (c::r) acc=R):=ab gr;have Hr:=ab hr;have hc256:=qy c;clear hd HF hr;by_cases hw:ox c=true
   ·have HW:=ab hw
    by_cases hpw:pw=true
    ·have hi0:0<i:=by
      rcases Nat.eq_zero_or_pos i with h|h
      ·have:=HP.out.1 h;rw [this] at hpw;cases hpw
      ·exact h
     obtain⟨x,hx⟩:∃x,l[i-1]?=some x:=⟨l[i-1],zN fg⟩;have hxw:ox x=true:=by rw [HP.out.2 hi0 x hx,hpw]
     have hx3:∀h:i-1<l.length,l[i-1]'h=x:=fun h=>by rw [zN h] at hx;injection hx
     have hx256:=qy x;have hgt:decide ((0:Int)<i)=true:=by simp;omega
     subst hpw;clear hx;go_wp2_with (first|(go_at_call 125;refine(nU _ _ fg fg).mono ?_;rintro e w1 ⟨rfl,rfl⟩)|(go_at_call 126;refine(ll w.heap.size _ acc _ _ hbl fg hB fg fg).mono ?_))
     rintro e w2 ⟨rfl,hbl2,hfr2⟩;rw [u8_back] at hbl2;clear hw hxw hx3;have hB3:=hbl2.lt;go_wp2_with fail
     go_roundw
     case rel =>
      refine⟨i+1,acc++[c],true,by omega,by go_num,hbl2,hb.trans (hfr2.below hB fq),?_,ab ⟨fun h=>by omega,fun _ x hx=>?_⟩,?_⟩
      ·exact eU
      ·exact eo
      ·refine ab ?_
       rw [Hr.out,←HF'.out];conv=>rhs;unfold lL;rw [zL HW.out,zL rfl]
     case measure=>simp [intOf];omega
    ·have hpf:pw=false:=by simpa using hpw
     subst hpf;clear hpw;rcases Nat.eq_zero_or_pos i with hi0|hi0
     ·have hgt:i≤0:=fg
      have HI0:=ab hi0;clear hi0;exact av
     ·obtain⟨x,hx⟩:∃x,l[i-1]?=some x:=⟨l[i-1],zN fg⟩
      have hxw:ox x=false:=HP.out.2 hi0 x hx;have hx3:∀h:i-1<l.length,l[i-1]'h=x:=fun h=>by rw [zN h] at hx;injection hx
      have hx256:=qy x;have hgt:decide ((0:Int)<i)=true:=by simp;omega
      clear hx;exact av
   ·have hw':ox c=false:=by simpa using hw
    have HW:=ab hw';have hbl2:=hbl;have hfr2:Fr w.heap.size [w.heap.size] [5] wr wr:=Fr.refl _ _ _ _;clear hw;go_wp2_with (go_at_call 125;refine(nU _ _ fg fg).mono ?_;rintro e w1 ⟨rfl,rfl⟩)
    go_roundw
    case rel =>
     refine⟨i+1,acc,false,by omega,by go_num,hbl2,hb,by omega,ab ⟨fun h=>by omega,fun _ x hx=>?_⟩,?_⟩
     ·rw [show i+1-1=i from rfl,zN h2,h3] at hx
      injection hx with hx;subst hx;exact HW.out
     ·refine ab ?_
      rw [Hr.out,←HF'.out];conv=>rhs;unfold lL;rw [zO (by rw [HW.out];simp)]
    case measure=>simp [intOf];omega
theorem qe (f:UInt8→UInt8) (l:Str) (k:Nat) (hk:k<l.length):((l.take k).map f++l.drop k).set k (f l[k])=(l.take (k+1)).map f++l.drop (k+1):=by
 apply List.ext_getElem?
 intro i;have e1:((l.take k).map f).length=k:=by simp;omega
 have e2:((l.take (k+1)).map f).length=k+1:=by simp;omega
 rw [List.getElem?_set];by_cases h:k=i
 ·subst h
  rw [zL rfl,zL fr,zZ fg,List.getElem?_map,List.getElem?_take_of_lt fg,zN hk];rfl
 ·rw [zO h]
  by_cases h2:i<k
  ·rw [zZ fg,zZ fg,List.getElem?_map,List.getElem?_map,List.getElem?_take_of_lt h2,List.getElem?_take_of_lt fg]
  ·rw [Aa fg,Aa fg,e1,e2,List.getElem?_drop,List.getElem?_drop]
   congr 1;omega
theorem Turn_up (l:Str) (w:World) (hs:l.length≤1000000) :
  Calls Tryz.prog 58 #[.string ⟨l.toArray⟩,.int .i64 1] w fun e w'=>e=.returned (.tuple #[.string ⟨(l.map upB).toArray⟩,.int .i64 0])∧Below w.heap.size w w':=by
 obtain⟨cap,w0,hcv,hrow,hb0,hsz⟩:=BRow.made (P:=Tryz.prog) w (src:=9) (dst:=67) l Tryz.underlying9 Tryz.underlying67 Tryz.underlying5;have HZ:=ab hsz;clear hsz;have hsz0:w.heap.size<w0.heap.size:=by have:=HZ.out;omega
 go_enter Tryz.func58,Tryz.ntmps58
 go_wp2_with (fail)
 go_loopw [18] (fun q wr=>∃k:Nat,k≤l.length∧q=.int .i64 k∧BRow wr w.heap.size ((l.take k).map upB++l.drop k)∧Below w.heap.size w wr∧w.heap.size<wr.heap.size) (fun q _=>l.length-(intOf q).toNat)
 case atStart=>exact cO
 case round =>
  obtain⟨k,hk,rfl,hr,hb,hlt⟩:=hrel;by_cases h2:k<l.length
  ·have hc:=hr.cell (j:=k) (c:=l[k]) (by rw [Aa fr,List.getElem?_drop,Ab,Ac,show k+(k-min k l.length)=k by omega,zN h2])
   have hf:=hr.free (j:=k) fr;have h256:=qy l[k];have HS:=hr.set (j:=k) (upB l[k]);rw [qe upB l k h2] at HS;have HS':=ab HS;clear HS;generalize hx:l[k]=x at *
   have Hx:=ab hx;clear hx;go_wp2_with (go_at_call 88;refine(od _ _ fg fg).mono ?_;rintro e w1 ⟨rfl,rfl⟩)
   exact cE
  ·exact b8
theorem yj (l:Str) (w:World) (hs:l.length≤1000000) :
  Calls Tryz.prog 58 #[.string ⟨l.toArray⟩,.int .i64 2] w fun e w'=>e=.returned (.tuple #[.string ⟨(l.map lowB).toArray⟩,.int .i64 0])∧Below w.heap.size w w':=by
 obtain⟨cap,w0,hcv,hrow,hb0,hsz⟩:=BRow.made (P:=Tryz.prog) w (src:=9) (dst:=67) l Tryz.underlying9 Tryz.underlying67 Tryz.underlying5;have HZ:=ab hsz;clear hsz;have hsz0:w.heap.size<w0.heap.size:=by have:=HZ.out;omega
 go_enter Tryz.func58,Tryz.ntmps58
 go_wp2_with (fail)
 go_loopw [33] (fun q wr=>∃k:Nat,k≤l.length∧q=.int .i64 k∧BRow wr w.heap.size ((l.take k).map lowB++l.drop k)∧Below w.heap.size w wr∧w.heap.size<wr.heap.size) (fun q _=>l.length-(intOf q).toNat)
 case atStart=>exact cO
 case round =>
  obtain⟨k,hk,rfl,hr,hb,hlt⟩:=hrel;by_cases h2:k<l.length
  ·have hc:=hr.cell (j:=k) (c:=l[k]) (by rw [Aa fr,List.getElem?_drop,Ab,Ac,show k+(k-min k l.length)=k by omega,zN h2])
   have hf:=hr.free (j:=k) fr;have h256:=qy l[k];have HS:=hr.set (j:=k) (lowB l[k]);rw [qe lowB l k h2] at HS;have HS':=ab HS;clear HS;generalize hx:l[k]=x at *
   have Hx:=ab hx;clear hx;go_wp2_with (go_at_call 89;refine(tW _ _ fg fg).mono ?_;rintro e w1 ⟨rfl,rfl⟩)
   exact cE
  ·exact b8
theorem Turn_cap (l:Str) (w:World) (hs:l.length≤1000000) :
  Calls Tryz.prog 58 #[.string ⟨l.toArray⟩,.int .i64 3] w fun e w'=>e=.returned (.tuple #[.string ⟨(capB l).toArray⟩,.int .i64 0])∧Below w.heap.size w w':=by
 obtain⟨cap,w0,hcv,hrow,hb0,hsz⟩:=BRow.made (P:=Tryz.prog) w (src:=9) (dst:=67) l Tryz.underlying9 Tryz.underlying67 Tryz.underlying5;have HZ:=ab hsz;clear hsz;have hsz0:w.heap.size<w0.heap.size:=by have:=HZ.out;omega
 cases l with
 | nil =>
  have hcv2:=hrow.back (P:=Tryz.prog) (src:=67) (dst:=9) Tryz.underlying67 Tryz.underlying5 Tryz.underlying9 cap;simp only [zY] at hcv hcv2;go_enter Tryz.func58,Tryz.ntmps58
  go_wp2_with (fail)
  go_ret2
  exact⟨rfl,hb0⟩
 | cons c r =>
  have hc:=hrow.cell (j:=0) (c:=c) rfl;have hf:=hrow.free (j:=0) fq;have h256:=qy c;have HS:=hrow.set (j:=0) (upB c);have hcv2:=HS.back (P:=Tryz.prog) (src:=67) (dst:=9) Tryz.underlying67 Tryz.underlying5 Tryz.underlying9 cap;simp only [List.set_cons_zero,zW] at hcv2;clear HS;go_enter Tryz.func58,Tryz.ntmps58
  go_wp2_with (go_at_call 88;refine(od _ _ fg fg).mono ?_;rintro e w1 ⟨rfl,rfl⟩)
  go_ret2
  exact⟨rfl,hb0.setCell (p:=⟨w.heap.size,0,none⟩) (zP _) _⟩
theorem vN (l:Str) (way:Int) (w:World) (hs:l.length≤1000000) :
  Calls Tryz.prog 58 #[.string ⟨l.toArray⟩,.int .i64 way] w fun e w'=>e=.returned (.tuple #[.string ⟨((turn l way).1).toArray⟩,.int .i64 (turn l way).2])∧Below w.heap.size w w':=by
 by_cases h1:way=1
 ·subst h1;exact Turn_up l w hs
 by_cases h2:way=2
 ·subst h2;exact yj l w hs
 by_cases h3:way=3
 ·subst h3;exact Turn_cap l w hs
 obtain⟨cap,w0,hcv,hrow,hb0,hsz⟩:=BRow.made (P:=Tryz.prog) w (src:=9) (dst:=67) l Tryz.underlying9 Tryz.underlying67 Tryz.underlying5;have HZ:=ab hsz;clear hsz;by_cases h4:way=4
 ·subst h4
  exact cI
 by_cases h5:way=5
 ·subst h5
  exact cI
 have hT:turn l way=([],2):=by unfold turn;rw [zO h1,zO h2,zO h3,zO h4,zO h5]
 rw [hT];have e1:(way==1)=false:=by simpa using h1
 have e2:(way==2)=false:=by simpa using h2
 have e3:(way==3)=false:=by simpa using h3
 have e4:(way==4)=false:=by simpa using h4
 have e5:(way==5)=false:=by simpa using h5
 clear h1 h2 h3 h4 h5 hT;go_enter Tryz.func58,Tryz.ntmps58
 go_wp2_with (fail)
 go_ret2
 exact⟨rfl,hb0⟩
def oW:Str→Nat→Nat→Option (Nat × Str)
 | [],k,n=>if 0<k then some (n,[]) else none
 | c::r,k,n=>if 48≤c.toNat∧c.toNat≤57 then(if k=4 then none else oW r (k+1) (10*n+(c.toNat-48))) else if 0<k then some (n,c::r) else none
def n9 (r:Str):Option (Nat × Str):=oW r 0 0
def mG (r these:Str):Bool:=match r with|[]=>false|c::_=>these.contains c
def four:Str:=[36,125,92,47]
def five:Str:=[36,125,92,47,58]
def ji (one:Int):Str→Str→Option (Str × Str)
 | [],_=>none
 | [c],t=>if c.toNat=one.toNat then some (t,[c]) else none
 | c::d::r,t=>if c.toNat=one.toNat then some (t,c::d::r) else if c.toNat=92∧five.contains d=true then ji one r (t++[d]) else ji one (d::r) (t++[c])
structure Fm where
 kind:Int
 n:Int
 cse:Int
 thn:Str
 els:Str
deriving DecidableEq
def kq (d:UInt8):Bool:=decide (d.toNat≠125)
def km (r:Str) (n:Nat):Option (Fm × Str) :=
 match r with
 | []=>none
 | c::r' =>
  if c.toNat=47 then
   (match r'.dropWhile kq with
    | []=>none
    | _::r2=>if nM (r'.takeWhile kq)=0 then none else some (⟨2,n,nM (r'.takeWhile kq),[],[]⟩,r2))
  else if c.toNat=43 then
   (match ji 125 r' [] with
    | some (t,_::r2)=>some (⟨3,n,0,t,[]⟩,r2)
    | _=>none)
  else if c.toNat=63 then
   (match ji 58 r' [] with
    | some (t,_::r2) =>
     (match ji 125 r2 [] with
     | some (u,_::r3)=>some (⟨5,n,0,t,u⟩,r3)
     | _=>none)
    | _=>none)
  else if c.toNat=45 then
   (match ji 125 r' [] with
    | some (t,_::r2)=>some (⟨4,n,0,[],t⟩,r2)
    | _=>none)
  else
   (match ji 125 (c::r') [] with
    | some (t,_::r2)=>some (⟨4,n,0,[],t⟩,r2)
    | _=>none)
def partC (n:Nat):Str→Option (Fm × Str)
 | []=>none
 | d::r3=>if d.toNat=125 then some (⟨1,n,0,[],[]⟩,r3) else if d.toNat=58 then km r3 n else none
def partB:Str→Option (Fm × Str)
 | []=>none
 | c::r1=>if c.toNat=123 then(match n9 r1 with|none=>none|some p=>partC p.1 p.2) else none
def nS (r:Str):Option (Fm × Str) :=
 match n9 r with
 | some p=>some (⟨1,p.1,0,[],[]⟩,p.2)
 | none=>partB r
theorem kt (one:Int):∀(r t:Str) {u s:Str},ji one r t=some (u,s)→∃c s',s=c::s'∧c.toNat=one.toNat
 | [],t,u,s,h=>by simp [ji] at h
 | [c],t,u,s,h=>by
  simp only [ji] at h;split at h
  ·rename_i hc;simp at h;exact⟨c,[],h.2.symm,hc⟩
  ·cases h
 | c::d::r,t,u,s,h=>by
  simp only [ji] at h;split at h
  ·rename_i hc;simp at h;exact⟨c,d::r,h.2.symm,hc⟩
  ·split at h
   ·exact kt one r _ h
   ·exact kt one (d::r) _ h
theorem vq:∀(r:Str) (k n:Nat) {m:Nat} {s:Str},oW r k n=some (m,s)→s.length≤r.length∧(k=0→s.length<r.length)
 | [],k,n,m,s,h=>by
  simp only [oW] at h;exact dq
 | c::r,k,n,m,s,h=>by
  simp only [oW] at h;split at h
  ·split at h
   ·cases h
   ·have:=vq r (k+1) _ h;simp;omega
  ·exact dq
theorem vx {r:Str} {m:Nat} {s:Str} (h:n9 r=some (m,s)):s.length<r.length:=(vq r 0 0 h).2 rfl
theorem lY (one:Int):∀(r t:Str) {u s:Str},ji one r t=some (u,s)→s.length≤r.length
 | [],t,u,s,h=>by simp [ji] at h
 | [c],t,u,s,h=>by
  simp only [ji] at h;split at h
  ·simp at h;rw [←h.2];simp
  ·cases h
 | c::d::r,t,u,s,h=>by
  simp only [ji] at h;split at h
  ·simp at h;rw [←h.2];simp
  ·split at h
   ·have:=lY one r _ h;simp;omega
   ·have:=lY one (d::r) _ h;simp at *;omega
theorem uM {r:Str} {n:Nat} {f:Fm} {s:Str} (h:km r n=some (f,s)):s.length<r.length:=by
 cases r with
 | nil=>cases h
 | cons c r =>
  simp only [km] at h;split at h
  ·have h1:=Ad List.length (Ae (p:=kq) (l:=r))
   split at h
   ·cases h
   ·rename_i heq
    split at h
    ·cases h
    ·injection h with h;injection h with _ h;subst h
     rw [heq] at h1;simp at h1 ⊢;omega
  ·split at h
   ·exact cg
   ·split at h
    ·split at h
     ·rename_i heq
      have h1:=lY _ _ _ heq;split at h
      ·rename_i heq2
       have h2:=lY _ _ _ heq2;exact eM
      ·cases h
     ·cases h
    ·split at h
     ·exact cg
     ·exact cg
theorem n6 {r:Str} {f:Fm} {s:Str} (h:nS r=some (f,s)):s.length<r.length:=by
 unfold nS at h;split at h
 ·rename_i p heq
  obtain⟨m,s'⟩:=p;have:=vx heq
  injection h with h;injection h with _ h;subst h;exact this
 ·cases r with
  | nil=>cases h
  | cons c r =>
   simp only [partB] at h;split at h
   ·split at h
    ·cases h
    ·rename_i p heq
     obtain⟨m,s'⟩:=p;have h1:=vx heq;cases s' with
     | nil=>cases h
     | cons d r3 =>
      simp only [partC] at h;split at h
      ·exact eM
      ·split at h
       ·have:=uM h;simp at *;omega
       ·cases h
   ·cases h
def lc (tx:Str) (fs:List Fm):List Fm:=if tx=[] then fs else fs++[⟨0,0,0,tx,[]⟩]
def o4:Nat→Str→Str→List Fm→Option (List Fm × Str)
 | 0,_,_,_=>none
 | _+1,[],_,_=>none
 | k+1,c::r,tx,fs =>
  if c.toNat=47 then some (lc tx fs,c::r)
  else if c.toNat=36 then
   (match nS r with
    | some p=>o4 k p.2 [] (lc tx fs++[p.1])
    | none=>o4 k r (tx++[c]) fs)
  else if c.toNat=92∧mG r four=true then o4 k (r.drop 1) (tx++r.take 1) fs
  else o4 k r (tx++[c]) fs
theorem mb:∀(k k':Nat) (r tx:Str) (fs:List Fm),r.length<k→r.length<k'→o4 k r tx fs=o4 k' r tx fs
 | 0,_,_,_,_,h,_=>by omega
 | _+1,0,_,_,_,_,h=>by omega
 | k+1,k'+1,[],tx,fs,_,_=>rfl
 | k+1,k'+1,c::r,tx,fs,h,h'=>by
  simp only [zW] at h h';have hd:(r.drop 1).length≤r.length:=fq;simp only [o4];rw [mb k k' r (tx++[c]) fs fg fg,mb k k' (r.drop 1) (tx++r.take 1) fs fg fg];cases hp:nS r with
  | none=>rfl
  | some p =>
   have hl:=n6 (f:=p.1) (s:=p.2) hp;simp only [];rw [mb k k' p.2 [] _ fg fg]
def lE (r tx:Str) (fs:List Fm):Option (List Fm × Str):=o4 (r.length+1) r tx fs
theorem lu (c:UInt8) (r tx:Str) (fs:List Fm):lE (c::r) tx fs =
  if c.toNat=47 then some (lc tx fs,c::r)
  else if c.toNat=36 then
   (match nS r with
    | some p=>lE p.2 [] (lc tx fs++[p.1])
    | none=>lE r (tx++[c]) fs)
  else if c.toNat=92∧mG r four=true then lE (r.drop 1) (tx++r.take 1) fs
  else lE r (tx++[c]) fs:=by
 have hd:(r.drop 1).length≤r.length:=fq;simp only [lE,o4,zW];rw [mb (r.length+1) ((r.drop 1).length+1) (r.drop 1) (tx++r.take 1) fs fg fg];cases hp:nS r with
 | none=>rfl
 | some p =>
  have hl:=n6 (f:=p.1) (s:=p.2) hp;simp only [];rw [mb (r.length+1) (p.2.length+1) p.2 [] _ fg fg]
def Sl (w:World) (B:Nat) (a:Option Addr) (sz n:Nat) (cs:List Value):Prop :=
 cs.length=n*sz∧(0<n→∃b o,a=some ⟨b,o,none⟩∧b<B∧∀(j:Nat) (u:Value),cs[j]?=some u→w.cell? ⟨b,o+j,none⟩=some u)
theorem Sl.keep {w w':World} {B:Nat} {a:Option Addr} {sz n:Nat} {cs:List Value} (h:Sl w B a sz n cs) (hb:Below B w w'):Sl w' B a sz n cs :=
 ⟨h.1,fun hn=>by
  obtain⟨b,o,h1,h2,h3⟩:=h.2 hn;exact⟨b,o,h1,h2,fun j u hu=>(hb.cell (p:=⟨b,o+j,none⟩) h2).trans (h3 j u hu)⟩⟩
theorem Sl.mono {w:World} {B B':Nat} {a:Option Addr} {sz n:Nat} {cs:List Value} (h:Sl w B a sz n cs) (hB:B≤B'):Sl w B' a sz n cs :=
 ⟨h.1,fun hn=>by
  obtain⟨b,o,h1,h2,h3⟩:=h.2 hn;exact⟨b,o,h1,by omega,h3⟩⟩
theorem Sl.none_ (w:World) (B:Nat) (a:Option Addr) (sz:Nat):Sl w B a sz 0 []:=⟨by simp,fun h=>by omega⟩
theorem Sl.of_own {w:World} {B0:Nat} {e:TypeId} {sz:Nat} {a:Option Addr} {n c:Nat} {xs:List Value} (h:w.ownsRow B0 e sz (.slice a n c) n xs):Sl w w.heap.size a sz n xs:=by
 refine⟨h.1,fun hn=>?_⟩;rcases h.2 with⟨hv,h0⟩|⟨g,cap,cur,hv,hb,hg,r⟩
 ·omega
 ·injection hv with ha _ _
  subst ha;refine⟨g,0,rfl,iN hg,fun j u hu=>?_⟩;exact cR
theorem Sl.lit {w:World} {g sz n:Nat} {cs:Array Value} {t:TypeId} {m:Nat × Nat} (h:w.heap[g]?=some (.cells cs t m)) (hn:cs.size=n*sz):Sl w w.heap.size (some ⟨g,0,none⟩) sz n cs.toList:=by
 refine⟨by simpa using hn,fun _=>⟨g,0,rfl,iN h,fun j u hu=>?_⟩⟩;rw [zT h];simpa using hu
theorem Sl.alloc_self {w:World} {a:Option Addr} {sz n:Nat} {cs:List Value} (h:Sl w w.heap.size a sz n cs) (o:Obj):Sl (w.alloc o) (w.alloc o).heap.size a sz n cs :=
 (h.keep ((Below.refl _ _).alloc (zP _) o)).mono fq
theorem js {α:Type} {l r:List α} {i:Nat} {c:α} (h:l.drop i=c::r):i<l.length∧l[i]?=some c∧l.drop (i+1)=r:=by
 have hi:i<l.length:=by
  exact cC
 rw [List.drop_eq_getElem_cons hi] at h;injection h with h1 h2
 exact⟨hi,by rw [zN hi,h1],h2⟩
theorem oY {W w1:World} (hb:Below W.heap.size W w1):(∀b o,b<W.heap.size→w1.cell? ⟨b,o,none⟩=W.cell? ⟨b,o,none⟩)∧(∀b o,b<W.heap.size→w1.frozen? ⟨b,o,none⟩=W.frozen? ⟨b,o,none⟩) :=
 ⟨fun b o h=>hb.cell (p:=⟨b,o,none⟩) h,fun b o h=>hb.frozen (p:=⟨b,o,none⟩) h⟩
def j7 (ps:List Str):List Value:=ps.map fun p=>.string ⟨p.toArray⟩
theorem Sl.str {w:World} {B:Nat} {a:Option Addr} {n:Nat} {ps:List Str} (h:Sl w B a 1 n (j7 ps)) {k:Nat} {p:Str} (hk:ps[k]?=some p) :
  ∃b o,a=some ⟨b,o,none⟩∧b<B∧w.cell? ⟨b,o+k,none⟩=some (.string ⟨p.toArray⟩):=by
 have hlt:=(zQ.1 hk).1;have hn:n=ps.length:=by have:=h.1;simp [j7] at this;omega
 obtain⟨b,o,h1,h2,h3⟩:=h.2 fg;exact⟨b,o,h1,h2,h3 k _ (by simp [j7,hk])⟩
theorem Sl.str_len {w:World} {B:Nat} {a:Option Addr} {n:Nat} {ps:List Str} (h:Sl w B a 1 n (j7 ps)):n=ps.length:=by
 have:=h.1;simp [j7] at this;omega
theorem i6 {w w':World} (hb:Below w.heap.size w w') (a:Addr) (u:Value) (h:w.cell? a=some u):w'.cell? a=some u :=
 (hb.cell (World.block_lt_of_cell? w a h)).trans h
end Go.Proofs.YtbnkaecmgfolpaaGreat
