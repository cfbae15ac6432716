/- Small laws on strings told as lists of bytes, on rows that a call owns, and on worlds; nothing of the program's own but the numbers of its types. -/
import Derived.Test.YtbmakifbppocaaaGreatDoorProg
import Derived.WalkKit
import Derived.WalkLawsBesides
import Derived.WalkSpells
import Derived.BigQuiet
import Derived.Deep.QuietTactic
import Derived.Deep.LoopGhost
import Derived.Deep.DeepCutAuto
import Derived.Lib.Hide
import Derived.Deep.RegionLaw
import Derived.BigRegion
import Derived.KernelRfl
import Derived.Lib.Bytealg
import Derived.Lib.Builder
import Derived.Lib.AppendStr
import Derived.Lib.UnsafeStr
import Derived.Laws.Externs
import Derived.Deep.Quiet
set_option maxRecDepth 100000
namespace Go.Proofs.YtbmakifbppocaaaGreatDoor
open Go.RowKit

@[simp,go_sem] theorem ba_get (l:List UInt8) (i:Nat) (h:i < (ByteArray.mk l.toArray).size):(ByteArray.mk l.toArray)[i]'h=l[i]'(by exact h):=by
 simp [ByteArray.getElem_eq_getElem_data]
@[simp,go_sem] theorem ba_toList (l:List UInt8):(ByteArray.mk l.toArray).toList=l:=by rw [ByteArray.toList_eq]
@[simp,go_sem] theorem ba_append (l r:List UInt8):ByteArray.mk l.toArray++ByteArray.mk r.toArray=ByteArray.mk (l++r).toArray:=by
 apply ByteArray.ext;simp
@[simp,go_sem] theorem ba_size (l:List UInt8):(ByteArray.mk l.toArray).size=l.length:=rfl
@[simp,go_sem] theorem ba_extract (l:List UInt8) (i j:Nat):(ByteArray.mk l.toArray).extract i j=ByteArray.mk ((l.drop i).take (j - i)).toArray:=by
 apply ByteArray.ext;simp [ByteArray.data_extract]
@[simp,go_sem] theorem ba_extract_end (l:List UInt8) (i:Nat):(ByteArray.mk l.toArray).extract i l.length=ByteArray.mk (l.drop i).toArray:=by
 rw [ba_extract,List.take_of_length_le (by simp)]
@[simp,go_sem] theorem take_drop_all (l:List UInt8) (i:Nat):(l.drop i).take (l.length - i)=l.drop i:=List.take_of_length_le (by simp)
theorem ba_of (s:ByteArray):s=ByteArray.mk s.data.toList.toArray:=by simp
theorem drop_cons {l r:List UInt8} {i:Nat} {c:UInt8} (h:l.drop i=c :: r):i < l.length∧(∀ hi:i < l.length,l[i]'hi=c)∧l.drop (i+1)=r:=by
 have hi:i < l.length:=by
  rcases Nat.lt_or_ge i l.length with h1 | h1
  ·exact h1
  ·rw [List.drop_of_length_le h1] at h;cases h
 rw [List.drop_eq_getElem_cons hi] at h
 injection h with h1 h2
 exact ⟨hi,fun _=>h1,h2⟩
theorem drop_nil {l:List UInt8} {i:Nat} (h:l.drop i=[]):l.length≤i:=by simpa using h

theorem u8_lt (c:UInt8):c.toNat < 256:=c.toNat_lt

abbrev Str:=List UInt8
def bcells (l:Str):List Value:=l.map fun c=>.int .u8 c.toNat
theorem bcells_length (l:Str):(bcells l).length=l.length:=by simp [bcells]

theorem u8_info:(Tryz.prog.info? 5).map (fun i=>(i.zero,i.size,i.bytes))=some (some (.int .u8 0),1,1):=by kernel_rfl

theorem wp_app1 {P:Program} {w:World} {o:Oper} {a:Act} {K:Act→World→Prop} {Q:Exit→Act→World→Prop} (B:Nat) (e:TypeId) {cs:Array Value} {m:Nat × Nat} (s x:Operand) (t:TypeId)
  (ho:o.op=.call { callee:=.builtin .append,args:=#[s,x],argTypes:=#[t,t] })
  {i:TypeInfo} {z:Value} {size bytes:Nat} (ht:P.underlying t=some (.slice e)) (hinf:P.info? e=some i∧i.zero=some z∧i.size=size∧i.bytes=bytes)
  (hzs:z.cells.size=size) (hsz:0 < size)
  {v:Value} {n:Nat} {xs:List Value} (hs:a.eval s=v) (hown:w.ownsRow B e size v n xs)
  {g:Nat} (hx:a.eval x=.slice (some ⟨g,0,none⟩) 1 1) (hgz:g=w.heap.size) (hl:cs.size=size) (h1:∀ u ∈ cs.toList,u.oneCell'=true)
  (hn:n≤100000000) (hb:bytes≤1000) (hB:B≤w.heap.size)
  (h:∀ v' w',w'.ownsRow B e size v' (n+1) (xs++cs.toList)→w.grownBy w' v.ownBlock→Below B w w'→v'≠.slice none 0 0→K (a.put o.dst v') w') :
  o.wp P a (w.alloc (.cells cs e m)) K Q:=by
 subst hgz
 obtain ⟨hi,hz0,hz1,hz2⟩:=hinf
 refine wp_append_own (P:=P) (w.alloc (.cells cs e m)) s x t ho B e i z size bytes ht hi hz0 hz1 hz2 hzs hsz v n xs hs (hown.alloc _) ⟨w.heap.size,0,none⟩ 1 1 cs.toList hx (by simpa using hl) ?_ h1 (by simp only [maxLen];omega) ?_ (by simp;omega) ?_
 ·intro j u hu
  have hadd:(⟨w.heap.size,0,none⟩:Addr).add j=⟨w.heap.size,j,none⟩:=by unfold Addr.add;split <;> simp_all
  rw [hadd,cell_of_row _ w.heap.size j cs e m (heap_alloc_new w _)]
  simpa using hu
 ·have:(n+1) * bytes≤(100000000+1) * 1000:=Nat.mul_le_mul (by omega) hb
  omega
 ·intro v' w' h2 h3 h4
  have hg:w.grownBy w' v.ownBlock:=by
   refine ⟨h3.os,h3.tape,h3.output,by have:=h3.size;simp at this;omega,fun k hk hne=>?_⟩
   rw [h3.block k (by simp;omega) hne]
   exact Below.heap_alloc w _ k hk
  refine h v' w' h2 hg ?_ (fun hv=>by have:=(h4.1 hv).2;omega)
  exact ((Below.refl B w).grown hg hB fun k hk=>(hown.lt k hk).1)
/-- 'append(v, x)': x lies in a block that was just laid; v's row is the call's own. -/
theorem wpList_app1 {P:Program} {w:World} {ops:Array Oper} {rest:List Oper} {o:Oper} {a:Act} {Q:Exit→Act→World→Prop} (B:Nat) (e:TypeId) {cs:Array Value} {m:Nat × Nat} (hgd:o.guard=none) (s x:Operand) (t:TypeId)
  (ho:o.op=.call { callee:=.builtin .append,args:=#[s,x],argTypes:=#[t,t] })
  {i:TypeInfo} {z:Value} {size bytes:Nat} (ht:P.underlying t=some (.slice e)) (hinf:P.info? e=some i∧i.zero=some z∧i.size=size∧i.bytes=bytes)
  (hzs:z.cells.size=size) (hsz:0 < size)
  {v:Value} {n:Nat} {xs:List Value} (hs:a.eval s=v) (hown:w.ownsRow B e size v n xs)
  {g:Nat} (hx:a.eval x=.slice (some ⟨g,0,none⟩) 1 1) (hgz:g=w.heap.size) (hl:cs.size=size) (h1:∀ u ∈ cs.toList,u.oneCell'=true)
  (hn:n≤100000000) (hb:bytes≤1000) (hB:B≤w.heap.size)
  (h:∀ v' w',w'.ownsRow B e size v' (n+1) (xs++cs.toList)→w.grownBy w' v.ownBlock→Below B w w'→v'≠.slice none 0 0→wpList P ops Q rest (a.put o.dst v') w') :
  wpList P ops Q (o :: rest) a (w.alloc (.cells cs e m)) :=
 wpList_plain hgd fun _ hK=>wp_app1 B e s x t ho ht hinf hzs hsz hs hown hx hgz hl h1 hn hb hB fun v' w' a1 a2 a3 a4=>hK _ _ (h v' w' a1 a2 a3 a4)
/-- 'string(v)' of bytes that the call owns. -/
theorem conv_own {P:Program} {w:World} {B:Nat} {src e dst:TypeId} (hs:P.underlying src=some (.slice e)) (he:P.underlying e=some (.int .u8)) (hd:P.underlying dst=some .string)
  {v:Value} {l:Str} {n:Nat} (h:w.ownsRow B e 1 v n (bcells l)):(convert src dst v).run P w=.ok (.string ⟨l.toArray⟩) w:=by
 have hn:n=l.length:=by have:=h.1;rw [bcells_length] at this;omega
 subst hn
 rcases h.2 with ⟨rfl,h0⟩ | ⟨g,cap,cur,rfl,hb,hg,hnc,hcm,hcs,htake⟩
 ·have hl:l=[]:=List.eq_nil_of_length_eq_zero h0
  subst hl
  exact run_convert_bytes_nil w src e hs he 0 0 dst hd
 ·refine run_convert_bytes_back w src dst e ⟨g,0,none⟩ cap l hs he hd fun j hj=>?_
  have:=h.cells (g:=g) rfl j (.int .u8 (l[j].toNat)) (by simp [bcells,List.getElem?_map,List.getElem?_eq_getElem hj])
  exact this
theorem ret_bool {a b:Bool} (h:a=b):Ending.returned (.bool a)=.returned (.bool b):=by rw [h]
theorem ret_int {k:IntKind} {a b:Int} (h:a=b):Ending.returned (.int k a)=.returned (.int k b):=by rw [h]
theorem ret_str {a b:Str} (h:a=b):Ending.returned (.string ⟨(a).toArray⟩)=.returned (.string ⟨(b).toArray⟩):=by rw [h]
theorem own_form {w:World} {B:Nat} {e:TypeId} {sz:Nat} {v:Value} {n:Nat} {xs:List Value} (h:w.ownsRow B e sz v n xs):∃ a c,v=.slice a n c:=by
 rcases h.2 with ⟨rfl,rfl⟩ | ⟨g,cap,cur,rfl,_⟩
 ·exact ⟨_,_,rfl⟩
 ·exact ⟨_,_,rfl⟩
end Go.Proofs.YtbmakifbppocaaaGreatDoor
set_option maxRecDepth 100000
namespace Go.Proofs.YtbmakifbppocaaaGreatDoor
def n1:Str:=[117,112,99,97,115,101]
def n2:Str:=[100,111,119,110,99,97,115,101]
def n3:Str:=[99,97,112,105,116,97,108,105,122,101]
def n4:Str:=[99,97,109,101,108,99,97,115,101]
def n5:Str:=[112,97,115,99,97,108,99,97,115,101]
def nameOf (way:Int):Str:=if way=1 then n1 else if way=2 then n2 else if way=3 then n3 else if way=4 then n4 else if way=5 then n5 else []
theorem nameOf_length (way:Int):(nameOf way).length≤10:=by
 unfold nameOf;(repeat' split) <;> decide
end Go.Proofs.YtbmakifbppocaaaGreatDoor
set_option maxRecDepth 100000
namespace Go.Proofs.YtbmakifbppocaaaGreatDoor
/-- 'stands': is the first byte one of these? -/
def stands (r these:Str):Bool:=match r with | []=>false | c :: _=>these.contains c
/-- 'until': a text up to the first byte that is one, and that no backslash stands for. -/
def four:Str:=[36,125,92,47]
def five:Str:=[36,125,92,47,58]
structure Fm where
 kind:Int
 n:Int
 cse:Int
 thn:Str
 els:Str
deriving DecidableEq
end Go.Proofs.YtbmakifbppocaaaGreatDoor
set_option maxRecDepth 100000
namespace Go.Proofs.YtbmakifbppocaaaGreatDoor
open Go.RowKit
theorem stringslite_IndexByte (l:Str) (c:Int) (w:World) :
  Calls Tryz.prog 41 #[.string ⟨(l).toArray⟩,.int .u8 c] w fun e w'=>e=.returned (.int .i64 (Lib.indexByte l c.toNat.toUInt8))∧w=w':=by
 go_enter Tryz.func41,Tryz.ntmps41
 go_wp2
 rw [run_callFunc_extern Tryz.func56 (by kernel_rfl) (by kernel_rfl) (by kernel_rfl) (e:=Extern.BytealgIndexByte.indexByte) (by kernel_rfl),Lib.run_indexByteString]
 simp only [Result.andThen]
 rw [Oper.upon_value]
 go_wp2
 go_ret
 exact ⟨rfl,rfl⟩
theorem strings_IndexByte (l:Str) (c:Int) (w:World) :
  Calls Tryz.prog 28 #[.string ⟨(l).toArray⟩,.int .u8 c] w fun e w'=>e=.returned (.int .i64 (Lib.indexByte l c.toNat.toUInt8))∧w=w':=by
 go_enter Tryz.func28,Tryz.ntmps28
 go_wp2_with (go_at_call 41;refine (stringslite_IndexByte _ _ _).mono ?_;rintro e w1 ⟨rfl,rfl⟩)
 go_ret
 exact ⟨rfl,rfl⟩
theorem idx_ge (l:Str) (c:UInt8):0≤Lib.indexByte l c ↔ l.contains c=true:=by
 induction l with
 | nil=>simp [Lib.indexByte]
 | cons b l ih =>
  have:=Lib.indexByte_ge l c
  unfold Lib.indexByte
  rw [List.contains_cons,Bool.or_eq_true,← ih]
  by_cases h:b=c
  ·simp [h]
  ·have h':(b == c)=false:=by simpa using h
   have h'':¬ (c == b)=true:=by simpa using (fun e=>h e.symm)
   rw [h',if_neg (by simp)]
   by_cases h1:Lib.indexByte l c=-1
   ·simp [h1];exact fun e=>h e.symm
   ·have h2:¬ (Lib.indexByte l c == -1)=true:=by simpa using h1
    rw [if_neg h2];simp [h''];omega
theorem IndexByte_eq {l:Str} {c k:Int} (w:World) (h:Lib.indexByte l c.toNat.toUInt8=k) :
  Calls Tryz.prog 28 #[.string ⟨(l).toArray⟩,.int .u8 c] w fun e w'=>e=.returned (.int .i64 k)∧w=w':=by
 subst h;exact strings_IndexByte l c w
theorem idx_hit {th:Str} {c:UInt8} (h:th.contains c=true):∃ k:Nat,Lib.indexByte th ((c.toNat:Int)).toNat.toUInt8=(k:Int):=by
 have h1:=(idx_ge th c).2 h
 rw [show ((c.toNat:Int)).toNat.toUInt8=c by simp]
 exact Int.eq_ofNat_of_zero_le h1
theorem idx_miss {th:Str} {c:UInt8} (h:¬ th.contains c=true):Lib.indexByte th ((c.toNat:Int)).toNat.toUInt8=-1:=by
 rw [show ((c.toNat:Int)).toNat.toUInt8=c by simp]
 have h1:=Lib.indexByte_ge th c
 have h2:¬ 0≤Lib.indexByte th c:=fun h3=>h ((idx_ge th c).1 h3)
 omega
end Go.Proofs.YtbmakifbppocaaaGreatDoor
set_option maxRecDepth 100000
namespace Go.Proofs.YtbmakifbppocaaaGreatDoor
open Go.RowKit

/-- The type that a block's cells have. -/
def tagOf (w:World) (k:Nat):Option TypeId:=match w.heap[k]? with | some (.cells _ e _)=>some e | _=>none
/-- What a block was, it still is: but for the blocks gs, and those from B on whose cells are of one of the types es. -/
structure Fr (B:Nat) (gs:List Nat) (es:List TypeId) (w w':World):Prop where
 os:w'.os=w.os
 tape:w'.tape=w.tape
 output:w'.output=w.output
 size:w.heap.size≤w'.heap.size
 block:∀ k,k < w.heap.size→k ∉ gs→(k < B∨∀ e ∈ es,tagOf w k≠some e)→w'.heap[k]?=w.heap[k]?
theorem Fr.refl (B gs es w):Fr B gs es w w:=⟨rfl,rfl,rfl,Nat.le_refl _,fun _ _ _ _=>rfl⟩
theorem Fr.trans {B gs es} {a b c:World} (h:Fr B gs es a b) (k:Fr B gs es b c):Fr B gs es a c :=
 ⟨k.os.trans h.os,k.tape.trans h.tape,k.output.trans h.output,Nat.le_trans h.size k.size,fun i hi hg ht=>by
  have h1:=h.block i hi hg ht
  refine (k.block i (Nat.lt_of_lt_of_le hi h.size) hg ?_).trans h1
  unfold tagOf at ht ⊢;rw [h1];exact ht⟩
theorem Fr.below {B gs es} {w w':World} (h:Fr B gs es w w') (hB:B≤w.heap.size) (hg:∀ g ∈ gs,B≤g):Below B w w' :=
 ⟨h.os,h.tape,h.output,h.size,fun k hk=>h.block k (by omega) (fun hm=>by have:=hg k hm;omega) (.inl hk)⟩
theorem Fr.of_below {B C gs es} {w w':World} (h:Below C w w') (hC:w.heap.size≤C):Fr B gs es w w' :=
 ⟨h.os,h.tape,h.output,h.size,fun k hk _ _=>h.block k (by omega)⟩
theorem Fr.alloc {B gs es} {a w:World} (h:Fr B gs es a w) (o:Obj):Fr B gs es a (w.alloc o) :=
 h.trans ⟨rfl,rfl,rfl,by simp,fun k hk _ _=>Below.heap_alloc _ _ _ hk⟩
theorem Fr.setCell {B gs es} {a w:World} (h:Fr B gs es a w) {p:Addr} (hp:p.block ∈ gs) (u:Value):Fr B gs es a (w.setCell p u) :=
 h.trans ⟨rfl,rfl,rfl,by simp [World.setCell],fun k _ hk _=>Below.heap_setCell _ _ _ _ (fun e=>hk (e ▸ hp))⟩
theorem tagOf_own {w:World} {B:Nat} {e:TypeId} {sz:Nat} {v:Value} {n:Nat} {xs:List Value} (h:w.ownsRow B e sz v n xs) {k:Nat} (hk:v.ownBlock=some k):B≤k∧tagOf w k=some e:=by
 rcases h.2 with ⟨rfl,_⟩ | ⟨g,cap,cur,rfl,hb,hg,_⟩
 ·simp [Value.ownBlock] at hk
 ·simp [Value.ownBlock] at hk;subst hk;exact ⟨hb,by simp [tagOf,hg]⟩
theorem Fr.grown {B gs es} {a w w':World} (h:Fr B gs es a w) {e:TypeId} {sz:Nat} {v:Value} {n:Nat} {xs:List Value} (hown:w.ownsRow B e sz v n xs) (he:e ∈ es) (hg:w.grownBy w' v.ownBlock):Fr B gs es a w' :=
 h.trans ⟨hg.os,hg.tape,hg.output,hg.size,fun k hk _ ht=>hg.block k hk (fun e'=>by
  obtain ⟨h1,h2⟩:=tagOf_own hown e'.symm
  rcases ht with ht | ht
  ·omega
  ·exact ht e he h2)⟩
theorem heap_lt {w:World} {k:Nat} {o:Obj} (h:w.heap[k]?=some o):k < w.heap.size:=by
 rcases Nat.lt_or_ge k w.heap.size with h1 | h1
 ·exact h1
 ·rw [Array.getElem?_eq_none h1] at h;cases h

/-- A builder in block g, from B on, that holds the bytes l. -/
def Bld (B g:Nat) (l:Str) (w:World):Prop :=
 ∃ p v,w.heap[g]?=some (.cells #[p,v] 43 (0,0))∧B≤g∧(p=.pointer none∨p=.pointer (some ⟨g,0,none⟩))∧w.ownsRow B 5 1 v l.length (bcells l)
theorem Bld.fresh (B:Nat) (w:World) (hB:B≤w.heap.size):Bld B w.heap.size [] (w.alloc (.cells #[.pointer none,.slice none 0 0] 43)) :=
 ⟨_,_,heap_alloc_new w _,hB,.inl rfl,World.ownsRow_nil _ _ _ _⟩
theorem Bld.lt {B g:Nat} {l:Str} {w:World} (h:Bld B g l w):g < w.heap.size:=by
 obtain ⟨p,v,h,_⟩:=h;exact heap_lt h
theorem Bld.le {B g:Nat} {l:Str} {w:World} (h:Bld B g l w):B≤g:=by
 obtain ⟨p,v,_,h,_⟩:=h;exact h
theorem Bld.keep {B g:Nat} {l:Str} {w w':World} (h:Bld B g l w) (_hs:w.heap.size≤w'.heap.size) (hk:∀ k,k < w.heap.size→w'.heap[k]?=w.heap[k]?):Bld B g l w':=by
 obtain ⟨p,v,h1,h2,h3,h4,h5⟩:=h
 refine ⟨p,v,(hk g (heap_lt h1)).trans h1,h2,h3,h4,?_⟩
 rcases h5 with h5 | ⟨g',cap,cur,hv,hb,hg,r⟩
 ·exact .inl h5
 ·exact .inr ⟨g',cap,cur,hv,hb,(hk g' (heap_lt hg)).trans hg,r⟩
theorem Bld.alloc {B g:Nat} {l:Str} {w:World} (h:Bld B g l w) (o:Obj):Bld B g l (w.alloc o) :=
 h.keep (by simp) fun k hk=>Below.heap_alloc _ _ _ hk
theorem Bld.below {B g:Nat} {l:Str} {w w':World} (h:Bld B g l w) (hb:Below w.heap.size w w'):Bld B g l w' :=
 h.keep hb.size fun k hk=>hb.block k hk

theorem bld_size:(Tryz.prog.info? 43).map (·.size)=some 2:=by kernel_rfl
theorem bld_lies:liesAt Tryz.prog Tryz.prog.depth 43 (2 / Tryz.prog.cellsOf 43) 0 43 1=true:=by kernel_rfl
theorem byte_cells:Tryz.prog.cellsOf 5=1:=by kernel_rfl

theorem copyCheck_any (g:Nat) (v p:Value) (w:World) (h:w.heap[g]?=some (.cells #[p,v] 43 (0,0))) (hp:p=.pointer none∨p=.pointer (some ⟨g,0,none⟩)) :
  Calls Tryz.prog 29 #[.pointer (some ⟨g,0,none⟩)] w fun e w'=>e=.returned (.tuple #[])∧w'.heap[g]?=some (.cells #[.pointer (some ⟨g,0,none⟩),v] 43 (0,0))∧(∀ k,k≠g→w'.heap[k]?=w.heap[k]?)∧w'.heap.size=w.heap.size∧w'.os=w.os∧w'.tape=w.tape∧w'.output=w.output:=by
 obtain ⟨j,hj,hjs⟩:=Option.map_eq_some_iff.1 bld_size
 rcases hp with rfl | rfl
 ·have h0:w.cell? ⟨g,0,none⟩=some (.pointer none):=by simp [World.cell?,h]
  have hsh:w.shape? g=some (43,2):=by simp [World.shape?,h]
  have hfz:w.frozen? ⟨g,0,none⟩=false:=by simp [World.frozen?,h]
  have H:=Lib.hid h;clear h
  refine Calls.mono (R:=fun e w'=>e=.returned (.tuple #[])∧w'=w.setCell ⟨g,0,none⟩ (.pointer (some ⟨g,0,none⟩))) ?_ ?_
  ·go_enter Tryz.func29,Tryz.ntmps29
   go_wp2
   rw [Lib.run_to_unsafe w ⟨g,0,none⟩ Tryz.underlying40 Tryz.underlying73 hj (by rw [hjs];decide) hsh (Nat.zero_lt_succ 1)]
   simp only [Result.andThen]
   rw [Oper.upon_value]
   go_wp2
   rw [run_callFunc_extern Tryz.func42 (by kernel_rfl) (by kernel_rfl) (by kernel_rfl) (e:=Extern.AbiNoEscape.same) (by kernel_rfl)]
   rw [Lib.run_noEscape]
   simp only [Result.andThen]
   rw [Oper.upon_value]
   go_wp2
   rw [Lib.run_from_unsafe w ⟨g,0,none⟩ Tryz.underlying73 Tryz.underlying40 hj hsh bld_lies]
   simp only [Result.andThen]
   rw [Oper.upon_value]
   go_wp2
   go_end0
   exact ⟨rfl,rfl⟩
  ·rintro e w' ⟨rfl,rfl⟩
   refine ⟨rfl,?_,fun k hk=>Below.heap_setCell _ _ _ _ hk,by simp [World.setCell],rfl,rfl,rfl⟩
   simp [World.setCell,Array.getElem?_modify,H.out]
 ·have h0:w.cell? ⟨g,0,none⟩=some (.pointer (some ⟨g,0,none⟩)):=by simp [World.cell?,h]
  have H:=Lib.hid h;clear h
  go_enter Tryz.func29,Tryz.ntmps29
  go_wp2
  rw [Lib.run_neq_ptr_same w _ Tryz.underlying40 hj]
  go_wp2
  go_end0
  exact ⟨rfl,H.out,fun _ _=>rfl,rfl,rfl,rfl,rfl⟩
/-- What 'the buffer grown, laid back into the builder' leaves. -/
theorem bld_put {B g:Nat} {l r:Str} {w w1 w2:World} {v v':Value} (hB:B≤g)
  (h1:w1.heap[g]?=some (.cells #[.pointer (some ⟨g,0,none⟩),v] 43 (0,0))) (hrest:∀ k,k≠g→w1.heap[k]?=w.heap[k]?) (hsz:w1.heap.size=w.heap.size)
  (hos:w1.os=w.os∧w1.tape=w.tape∧w1.output=w.output)
  (hown:w1.ownsRow B 5 1 v l.length (bcells l)) (hown2:w2.ownsRow B 5 1 v' (l++r).length (bcells (l++r))) (hg:w1.grownBy w2 v.ownBlock) :
  w2.heap[g]?=some (.cells #[.pointer (some ⟨g,0,none⟩),v] 43 (0,0))∧Bld B g (l++r) (w2.setCell ⟨g,1,none⟩ v')∧Fr B [g] [5] w (w2.setCell ⟨g,1,none⟩ v'):=by
 have hne:v.ownBlock≠some g:=fun he=>by
  have:=(tagOf_own hown he).2
  simp [tagOf,h1] at this
 have hlt:=heap_lt h1
 have h2:w2.heap[g]?=some (.cells #[.pointer (some ⟨g,0,none⟩),v] 43 (0,0)):=(hg.block g hlt (fun e=>hne e.symm)).trans h1
 have hne2:v'.ownBlock≠some g:=fun he=>by
  have:=(tagOf_own hown2 he).2
  simp [tagOf,h2] at this
 refine ⟨h2,⟨_,v',by simp [World.setCell,Array.getElem?_modify,h2],hB,.inr rfl,?_⟩,?_⟩
 ·exact hown2.kept (row:=some g) ⟨rfl,rfl,rfl,by simp [World.setCell],fun k _ hk=>Below.heap_setCell _ _ _ _ (fun e=>hk (by simp [e]))⟩ (.inr hne2)
 ·have f1:Fr B [g] [5] w w1:=⟨hos.1,hos.2.1,hos.2.2,by omega,fun k _ hk _=>hrest k (by simpa using hk)⟩
  exact (f1.grown hown (by simp) hg).setCell (p:=⟨g,1,none⟩) (by simp) v'

theorem keep_own {B g:Nat} {w w1:World} {v p q:Value} {n:Nat} {xs:List Value} (h:w.ownsRow B 5 1 v n xs) (h0:w.heap[g]?=some (.cells #[p,q] 43 (0,0)))
  (hrest:∀ k,k≠g→w1.heap[k]?=w.heap[k]?):w1.ownsRow B 5 1 v n xs:=by
 refine ⟨h.1,?_⟩
 rcases h.2 with h5 | ⟨g',cap,cur,hv,hb,hg,r⟩
 ·exact .inl h5
 ·refine .inr ⟨g',cap,cur,hv,hb,(hrest g' (fun e=>?_)).trans hg,r⟩
  subst e;rw [h0] at hg;simp at hg

set_option maxHeartbeats 1000000 in
theorem WriteByte_any (B g:Nat) (l:Str) (c:Int) (w:World) (h:Bld B g l w) (hl:l.length≤50000000) (hBw:B≤w.heap.size) (hc0:0≤c) (hc:c < 256) :
  Calls Tryz.prog 20 #[.pointer (some ⟨g,0,none⟩),.int .u8 c] w fun e w'=>e=.returned .nilIface∧Bld B g (l++[UInt8.ofNat c.toNat]) w'∧Fr B [g] [5] w w':=by
 obtain ⟨p,v,h0,hB,hp,hown⟩:=h
 obtain ⟨iu,hiu⟩:=info_parts u8_info
 have H0:=Lib.hid h0;clear h0
 go_enter Tryz.func20,Tryz.ntmps20
 go_wp2_with (go_at_call 29;refine (copyCheck_any g v p _ H0.out hp).mono ?_)
 rintro e w1 ⟨rfl,h1,hrest,hsz,hos⟩
 have hown1:=keep_own hown H0.out hrest
 have c0:w1.cell? ⟨g,0,none⟩=some (.pointer (some ⟨g,0,none⟩)):=by rw [Lib.cell_of_heap h1];rfl
 have c1:w1.cell? ⟨g,1,none⟩=some v:=by rw [Lib.cell_of_heap h1];rfl
 have HR:Hid (∀ k,k≠g→w1.heap[k]?=w.heap[k]?):=hrest
 have HO:=Lib.hid hos
 have H1:=Lib.hid h1
 have HZ:=Lib.hid hsz
 have hBw1:B≤w1.heap.size:=by omega
 clear hrest hos h1 hsz
 go_wp2_with (at_builtin;refine wpList_app1 B 5 rfl _ _ 41 rfl Tryz.underlying41 hiu rfl (by decide) rfl hown1 rfl (by first | rfl | simp) rfl (by simp [Value.oneCell']) (by omega) (by decide) hBw1 ?_)
 intro v' w2 hown2 hg2 _ _
 have hchr:bcells l++[Value.int .u8 c]=bcells (l++[UInt8.ofNat c.toNat]):=by
  simp only [bcells,List.map_append,List.map_cons,List.map_nil]
  rw [show (((UInt8.ofNat c.toNat).toNat:Nat):Int)=c by simp [UInt8.toNat_ofNat'];omega]
 obtain ⟨k1,k2,k3⟩:=bld_put hB H1.out HR.out HZ.out ⟨HO.out.1,HO.out.2.1,HO.out.2.2⟩ hown1 (r:=[UInt8.ofNat c.toNat]) (by rw [← hchr];simpa using hown2) hg2
 have d1:w2.cell? ⟨g,1,none⟩=some v:=by rw [Lib.cell_of_heap k1];rfl
 have d2:w2.frozen? ⟨g,1,none⟩=false:=Lib.frozen_of_heap k1 1
 clear hchr
 have K1:=Lib.hid k1;clear k1
 obtain ⟨a',c',rfl⟩:=own_form hown2
 go_wp2
 go_ret
 exact ⟨rfl,k2,k3⟩
set_option maxHeartbeats 1000000 in
theorem WriteString_any (B g:Nat) (l r:Str) (w:World) (h:Bld B g l w) (hl:l.length≤50000000) (hr:r.length≤50000000) (hBw:B≤w.heap.size) :
  Calls Tryz.prog 18 #[.pointer (some ⟨g,0,none⟩),.string ⟨(r).toArray⟩] w fun e w'=>e=.returned (.tuple #[.int .i64 r.length,.nilIface])∧Bld B g (l++r) w'∧Fr B [g] [5] w w':=by
 obtain ⟨p,v,h0,hB,hp,hown⟩:=h
 obtain ⟨iu,hi,hz0,hz1,hz2⟩:=info_parts u8_info
 have H0:=Lib.hid h0;clear h0
 go_enter Tryz.func18,Tryz.ntmps18
 go_wp2_with (go_at_call 29;refine (copyCheck_any g v p _ H0.out hp).mono ?_)
 rintro e w1 ⟨rfl,h1,hrest,hsz,hos⟩
 have hown1:=keep_own hown H0.out hrest
 have c0:w1.cell? ⟨g,0,none⟩=some (.pointer (some ⟨g,0,none⟩)):=by rw [Lib.cell_of_heap h1];rfl
 have c1:w1.cell? ⟨g,1,none⟩=some v:=by rw [Lib.cell_of_heap h1];rfl
 have HR:Hid (∀ k,k≠g→w1.heap[k]?=w.heap[k]?):=hrest
 have HO:=Lib.hid hos
 have H1:=Lib.hid h1
 have HZ:=Lib.hid hsz
 have hBw1:B≤w1.heap.size:=by omega
 clear hrest hos h1 hsz
 go_wp2_with (at_builtin;refine Lib.wpList_append_own_string _ rfl _ _ 41 9 rfl B 5 iu Tryz.underlying41 Tryz.underlying9 hi hz0 hz1 hz2 _ _ _ rfl hown1 _ rfl (by simp only [maxLen,ba_size];omega) (by simp only [ba_size];omega) hBw1 ?_)
 intro v' w2 hown2 hg2 _
 obtain ⟨k1,k2,k3⟩:=bld_put hB H1.out HR.out HZ.out ⟨HO.out.1,HO.out.2.1,HO.out.2.2⟩ hown1 (r:=r) (by simpa [bcells,Lib.strCells] using hown2) hg2
 have d1:w2.cell? ⟨g,1,none⟩=some v:=by rw [Lib.cell_of_heap k1];rfl
 have d2:w2.frozen? ⟨g,1,none⟩=false:=Lib.frozen_of_heap k1 1
 have K1:=Lib.hid k1;clear k1
 obtain ⟨a',c',rfl⟩:=own_form hown2
 go_wp2
 go_ret2
 exact ⟨rfl,k2,k3⟩

set_option maxHeartbeats 1000000 in
theorem String_ne (B g:Nat) (l:Str) (w:World) (h:Bld B g l w) (h0:l≠[]) :
  Calls Tryz.prog 11 #[.pointer (some ⟨g,0,none⟩)] w fun e w'=>e=.returned (.string ⟨(l).toArray⟩)∧Below B w w':=by
 obtain ⟨p,v,hbk,hB,hp,hown⟩:=h
 have hl0:l.length≠0:=by simpa using h0
 obtain ⟨g',cap,cur,rfl,hbg,hg,hnc,hcm,hcs,htake⟩:∃ g' cap cur,v=.slice (some ⟨g',0,none⟩) l.length cap∧B≤g'∧w.heap[g']?=some (.cells cur 5 (0,0))∧l.length≤cap∧cap≤maxLen∧cur.size=cap * 1∧cur.toList.take (l.length * 1)=bcells l:=by
  rcases hown.2 with ⟨_,hz⟩ | ⟨g',cap,cur,hv,r⟩
  ·exact absurd hz hl0
  ·exact ⟨g',cap,cur,hv,r⟩
 have c1:w.drew.cell? ⟨g,1,none⟩=some (.slice (some ⟨g',0,none⟩) l.length cap):=by
  have:w.drew.heap[g]?=some (.cells #[p,.slice (some ⟨g',0,none⟩) l.length cap] 43 (0,0)):=hbk
  rw [Lib.cell_of_heap this];rfl
 have hSD:(Builtin.unsafeSliceData_ #[41] 58 #[.slice (some ⟨g',0,none⟩) l.length cap]).run Tryz.prog w.drew=.ok (.pointer (some ⟨g',0,none⟩)) w.drew :=
  Lib.run_unsafeSliceData_row _ _ _ _ _ _ (by omega)
 have hUS:(Builtin.unsafeString_ #[58,3] 9 #[.pointer (some ⟨g',0,none⟩),.int .i64 l.length]).run Tryz.prog w.drew=.ok (.string ⟨l.toArray⟩) (w.drew.freeze ⟨g',0,none⟩ l.length):=by
  refine Lib.run_unsafeString_row w.drew 58 3 9 5 Tryz.underlying58 byte_cells g' cur.size (by have hg':w.drew.heap[g']?=some (.cells cur 5 (0,0)):=hg;simp [World.shape?,hg']) l h0 (by omega) (by unfold maxLen at hcm;omega) ?_
  intro j x hx
  exact hown.cells (g:=g') rfl j (.int .u8 x.toNat) (by simp [bcells,List.getElem?_map,hx])
 clear hbk hg htake hcs hown
 go_enter Tryz.func11,Tryz.ntmps11
 go_wp2
 go_region
 all_goals (go_wp2;go_ret;exact ⟨rfl,Lib.below_freeze (Below.drew (Below.refl B w)) (p:=⟨g',0,none⟩) hbg _⟩)
theorem String_nil (B g:Nat) (p:Value) (w:World) (hbk:w.heap[g]?=some (.cells #[p,.slice none 0 0] 43 (0,0))) :
  Calls Tryz.prog 11 #[.pointer (some ⟨g,0,none⟩)] w fun e w'=>e=.returned (.string ⟨#[]⟩)∧Below B w w':=by
 have hUS:∀ (W:World) (q:Option Addr),(Builtin.unsafeString_ #[58,3] 9 #[.pointer q,.int .i64 0]).run Tryz.prog W=.ok (.string .empty) W:=fun W q=>Lib.run_unsafeString_none W _ _ _ q
 have c1:w.drew.cell? ⟨g,1,none⟩=some (.slice none 0 0):=by
  have:w.drew.heap[g]?=some (.cells #[p,.slice none 0 0] 43 (0,0)):=hbk
  rw [Lib.cell_of_heap this];rfl
 have hSD:(Builtin.unsafeSliceData_ #[41] 58 #[.slice none 0 0]).run Tryz.prog w.drew=.ok (.pointer none) w.drew:=rfl
 clear hbk
 go_enter Tryz.func11,Tryz.ntmps11
 go_wp2
 go_region
 all_goals (go_wp2;go_ret;exact ⟨rfl,Below.drew (Below.refl B w)⟩)
theorem String_room (B g g' cap:Nat) (p:Value) (w:World) (hc0:cap≠0) (hbk:w.heap[g]?=some (.cells #[p,.slice (some ⟨g',0,none⟩) 0 cap] 43 (0,0))) :
  Calls Tryz.prog 11 #[.pointer (some ⟨g,0,none⟩)] w fun e w'=>e=.returned (.string ⟨#[]⟩)∧Below B w w':=by
 have hUS:∀ (W:World) (q:Option Addr),(Builtin.unsafeString_ #[58,3] 9 #[.pointer q,.int .i64 0]).run Tryz.prog W=.ok (.string .empty) W:=fun W q=>Lib.run_unsafeString_none W _ _ _ q
 have c1:w.drew.cell? ⟨g,1,none⟩=some (.slice (some ⟨g',0,none⟩) 0 cap):=by
  have:w.drew.heap[g]?=some (.cells #[p,.slice (some ⟨g',0,none⟩) 0 cap] 43 (0,0)):=hbk
  rw [Lib.cell_of_heap this];rfl
 have hSD:(Builtin.unsafeSliceData_ #[41] 58 #[.slice (some ⟨g',0,none⟩) 0 cap]).run Tryz.prog w.drew=.ok (.pointer (some ⟨g',0,none⟩)) w.drew :=
  Lib.run_unsafeSliceData_row _ _ _ _ _ _ hc0
 clear hbk hc0
 go_enter Tryz.func11,Tryz.ntmps11
 go_wp2
 go_region
 all_goals (go_wp2;go_ret;exact ⟨rfl,Below.drew (Below.refl B w)⟩)
theorem String_noroom (B g g':Nat) (p:Value) (cur:Array Value) (w:World) (hBw:B≤w.heap.size) (hbk:w.heap[g]?=some (.cells #[p,.slice (some ⟨g',0,none⟩) 0 0] 43 (0,0))) (hg:w.heap[g']?=some (.cells cur 5 (0,0))) :
  Calls Tryz.prog 11 #[.pointer (some ⟨g,0,none⟩)] w fun e w'=>e=.returned (.string ⟨#[]⟩)∧Below B w w':=by
 have hUS:∀ (W:World) (q:Option Addr),(Builtin.unsafeString_ #[58,3] 9 #[.pointer q,.int .i64 0]).run Tryz.prog W=.ok (.string .empty) W:=fun W q=>Lib.run_unsafeString_none W _ _ _ q
 have hlt:g < w.heap.size:=heap_lt hbk
 have c1:w.drew.cell? ⟨g,1,none⟩=some (.slice (some ⟨g',0,none⟩) 0 0):=by
  have:w.drew.heap[g]?=some (.cells #[p,.slice (some ⟨g',0,none⟩) 0 0] 43 (0,0)):=hbk
  rw [Lib.cell_of_heap this];rfl
 have hSD:(Builtin.unsafeSliceData_ #[41] 58 #[.slice (some ⟨g',0,none⟩) 0 0]).run Tryz.prog w.drew=.ok (.pointer (some ⟨w.drew.heap.size,0,none⟩)) (w.drew.alloc (.view ⟨g',0,none⟩ 5)) :=
  Lib.run_unsafeSliceData_zero w.drew _ _ 5 Tryz.underlying58 ⟨g',0,none⟩ 0 (5,cur.size) (by have hg':w.drew.heap[g']?=some (.cells cur 5 (0,0)):=hg;simp [World.shape?,hg'])
 have c2:(w.drew.alloc (.view ⟨g',0,none⟩ 5)).cell? ⟨g,1,none⟩=some (.slice (some ⟨g',0,none⟩) 0 0):=by
  have:(w.drew.alloc (.view ⟨g',0,none⟩ 5)).heap[g]?=_:=(Lib.alloc_old w.drew _ g hlt).trans hbk
  rw [Lib.cell_of_heap this];rfl
 have c3:(w.alloc (.view ⟨g',0,none⟩ 5)).drew.cell? ⟨g,1,none⟩=some (.slice (some ⟨g',0,none⟩) 0 0):=c2
 have c0:w.cell? ⟨g,1,none⟩=some (.slice (some ⟨g',0,none⟩) 0 0):=c1
 clear hbk hg
 go_enter Tryz.func11,Tryz.ntmps11
 go_wp2
 go_region
 all_goals (go_wp2;go_ret;exact ⟨rfl,(Below.drew (Below.refl B w)).alloc hBw _⟩)
theorem String_any (B g:Nat) (l:Str) (w:World) (h:Bld B g l w) (hBw:B≤w.heap.size) :
  Calls Tryz.prog 11 #[.pointer (some ⟨g,0,none⟩)] w fun e w'=>e=.returned (.string ⟨(l).toArray⟩)∧Below B w w':=by
 by_cases h0:l=[]
 ·subst h0
  obtain ⟨p,v,hbk,hB,hp,hown⟩:=h
  rcases hown.2 with ⟨rfl,_⟩ | ⟨g',cap,cur,rfl,_,hg,_⟩
  ·exact String_nil B g p w hbk
  ·by_cases hc:cap=0
   ·subst hc;exact String_noroom B g g' p cur w hBw hbk hg
   ·exact String_room B g g' cap p w hc hbk
 ·exact String_ne B g l w h h0
end Go.Proofs.YtbmakifbppocaaaGreatDoor
set_option maxRecDepth 100000
namespace Go.Proofs.YtbmakifbppocaaaGreatDoor
open Go.RowKit
/-- A slice of n elements, of sz cells each, that reads as the cells cs; below block B. -/
def Sl (w:World) (B:Nat) (a:Option Addr) (sz n:Nat) (cs:List Value):Prop :=
 cs.length=n * sz∧(0 < n→∃ b o,a=some ⟨b,o,none⟩∧b < B∧∀ (j:Nat) (u:Value),cs[j]?=some u→w.cell? ⟨b,o+j,none⟩=some u)
theorem Sl.keep {w w':World} {B:Nat} {a:Option Addr} {sz n:Nat} {cs:List Value} (h:Sl w B a sz n cs) (hb:Below B w w'):Sl w' B a sz n cs :=
 ⟨h.1,fun hn=>by
  obtain ⟨b,o,h1,h2,h3⟩:=h.2 hn
  exact ⟨b,o,h1,h2,fun j u hu=>(hb.cell (p:=⟨b,o+j,none⟩) h2).trans (h3 j u hu)⟩⟩
theorem Sl.mono {w:World} {B B':Nat} {a:Option Addr} {sz n:Nat} {cs:List Value} (h:Sl w B a sz n cs) (hB:B≤B'):Sl w B' a sz n cs :=
 ⟨h.1,fun hn=>by
  obtain ⟨b,o,h1,h2,h3⟩:=h.2 hn
  exact ⟨b,o,h1,by omega,h3⟩⟩
theorem Sl.none_ (w:World) (B:Nat) (a:Option Addr) (sz:Nat):Sl w B a sz 0 []:=⟨by simp,fun h=>by omega⟩
theorem Sl.lit {w:World} {g sz n:Nat} {cs:Array Value} {t:TypeId} {m:Nat × Nat} (h:w.heap[g]?=some (.cells cs t m)) (hn:cs.size=n * sz):Sl w w.heap.size (some ⟨g,0,none⟩) sz n cs.toList:=by
 refine ⟨by simpa using hn,fun _=>⟨g,0,rfl,heap_lt h,fun j u hu=>?_⟩⟩
 rw [Lib.cell_of_heap h];simpa using hu
theorem Sl.alloc_self {w:World} {a:Option Addr} {sz n:Nat} {cs:List Value} (h:Sl w w.heap.size a sz n cs) (o:Obj):Sl (w.alloc o) (w.alloc o).heap.size a sz n cs :=
 (h.keep ((Below.refl _ _).alloc (Nat.le_refl _) o)).mono (by simp)
theorem ldrop_cons {α:Type} {l r:List α} {i:Nat} {c:α} (h:l.drop i=c :: r):i < l.length∧l[i]?=some c∧l.drop (i+1)=r:=by
 have hi:i < l.length:=by
  rcases Nat.lt_or_ge i l.length with h1 | h1
  ·exact h1
  ·rw [List.drop_of_length_le h1] at h;cases h
 rw [List.drop_eq_getElem_cons hi] at h
 injection h with h1 h2
 exact ⟨hi,by rw [List.getElem?_eq_getElem hi,h1],h2⟩
def scells (ps:List Str):List Value:=ps.map fun p=>.string ⟨(p).toArray⟩
theorem Sl.str {w:World} {B:Nat} {a:Option Addr} {n:Nat} {ps:List Str} (h:Sl w B a 1 n (scells ps)) {k:Nat} {p:Str} (hk:ps[k]?=some p) :
  ∃ b o,a=some ⟨b,o,none⟩∧b < B∧w.cell? ⟨b,o+k,none⟩=some (.string ⟨(p).toArray⟩):=by
 have hlt:=(List.getElem?_eq_some_iff.1 hk).1
 have hn:n=ps.length:=by have:=h.1;simp [scells] at this;omega
 obtain ⟨b,o,h1,h2,h3⟩:=h.2 (by omega)
 exact ⟨b,o,h1,h2,h3 k _ (by simp [scells,hk])⟩
theorem cell_kept {w w':World} (hb:Below w.heap.size w w') (a:Addr) (u:Value) (h:w.cell? a=some u):w'.cell? a=some u :=
 (hb.cell (World.block_lt_of_cell? w a h)).trans h
theorem cell_kept2 {B:Nat} {w w':World} (hb:Below B w w') (hB:w.heap.size≤B) {a:Addr} {u:Value} (h:w.cell? a=some u):w'.cell? a=some u :=
 (hb.cell (Nat.lt_of_lt_of_le (World.block_lt_of_cell? w a h) hB)).trans h
end Go.Proofs.YtbmakifbppocaaaGreatDoor
set_option maxRecDepth 100000
namespace Go.Proofs.YtbmakifbppocaaaGreatDoor
inductive Rx where
 | mk (kind:Int) (chr:Str) (neg:Bool) (rows:List (Str × Str)) (lo hi:Int) (lazy:Bool) (kids:List Rx)
namespace Rx
def kind:Rx→Int | mk k _ _ _ _ _ _ _=>k
def chr:Rx→Str | mk _ c _ _ _ _ _ _=>c
def neg:Rx→Bool | mk _ _ n _ _ _ _ _=>n
def rows:Rx→List (Str × Str) | mk _ _ _ r _ _ _ _=>r
def lo:Rx→Int | mk _ _ _ _ l _ _ _=>l
def hi:Rx→Int | mk _ _ _ _ _ h _ _=>h
def lazy:Rx→Bool | mk _ _ _ _ _ _ z _=>z
def kids:Rx→List Rx | mk _ _ _ _ _ _ _ k=>k
mutual
def parts:Rx→Nat
 | mk _ _ _ _ _ _ _ ks=>1+partsL ks
def partsL:List Rx→Nat
 | []=>0
 | x :: r=>parts x+partsL r
end
mutual
def groups:Rx→Nat
 | mk k _ _ _ _ _ _ ks=>(if k=5 then 1 else 0)+groupsL ks
def groupsL:List Rx→Nat
 | []=>0
 | x :: r=>groups x+groupsL r
end
mutual
def deep:Rx→Nat
 | mk k _ _ _ _ _ _ ks=>deepL ks+(if k=5∨k=6 then 1 else 0)
def deepL:List Rx→Nat
 | []=>0
 | x :: r=>max (deep x) (deepL r)
end
theorem parts_pos:∀ x:Rx,1≤parts x
 | mk _ _ _ _ _ _ _ ks=>by simp only [parts];omega
theorem parts_mem:∀ {ks:List Rx} {x:Rx},x ∈ ks→parts x≤partsL ks
 | [],_,h=>by simp at h
 | y :: r,x,h=>by
  simp only [partsL]
  rcases List.mem_cons.1 h with rfl | h
  ·omega
  ·have:=parts_mem h;omega
theorem len_parts:∀ ks:List Rx,ks.length≤partsL ks
 | []=>by simp
 | x :: r=>by have:=parts_pos x;have:=len_parts r;simp only [partsL,List.length_cons];omega
theorem deep_parts:∀ x:Rx,deep x≤parts x:=by
 have key:∀ n,∀ x:Rx,parts x≤n→deep x≤parts x:=by
  intro n
  induction n with
  | zero=>intro x h;have:=parts_pos x;omega
  | succ n ih =>
   rintro ⟨k,c,ng,rs,lo,hi,lz,ks⟩ h
   have hl:∀ l:List Rx,partsL l≤n→deepL l≤partsL l:=by
    intro l
    induction l with
    | nil=>intro _;simp [deepL,partsL]
    | cons x r ihl =>
     intro hx
     simp only [partsL] at hx
     simp only [deepL,partsL]
     have:=ih x (by omega);have:=ihl (by omega);omega
   simp only [parts] at h
   have:=hl ks (by omega)
   simp only [deep,parts];split <;> omega
 exact fun x=>key _ x (Nat.le_refl _)
end Rx
def insideB (c:UInt8):Bool:=decide (128≤c.toNat∧c.toNat≤191)
/-- 'Proper': one proper character. -/
def properB:Str→Bool
 | []=>false
 | c :: r=>!insideB c && r.all insideB
/-- Strings by their bytes: not above. -/
def leS (a b:Str):Bool:=Op.bytesLess a b || a == b
@[go_sem] theorem fold_leS (a b:Str):(Op.bytesLess a b || a == b)=leS a b:=rfl
def rowB (r:Str × Str):Bool:=properB r.1 && properB r.2 && leS r.1 r.2
/-- 'rxset.May': prev: the end of the row ahead. -/
def rowsL:Option Str→List (Str × Str)→Bool
 | _,[]=>true
 | p,r :: rs=>rowB r && (match p with | none=>true | some t=>!leS r.1 t) && rowsL (some r.2) rs
def rowsB (rs:List (Str × Str)):Bool:=rowsL none rs
def bareB (x:Rx):Bool:=decide (x.chr=[]) && !x.neg && decide (x.rows=[]) && decide (x.lo=0) && decide (x.hi=0) && !x.lazy
def repB (k:Int):Bool:=decide (k=2∨k=3∨k=4∨k=5∨k=6)
def fieldsB:Rx→Bool
 | .mk k c ng rs lo hi lz ks =>
  if k=2 then bareB (.mk k [] ng rs lo hi lz ks) && decide (ks=[]) && properB c
  else if k=4 then bareB (.mk k c false [] lo hi lz ks) && decide (ks=[]) && rowsB rs
  else if k=7 then bareB (.mk k c ng rs 0 0 false ks) && (match ks with | [x]=>repB x.kind | _=>false) && decide (0≤lo∧lo≤255∧(hi=-1∨lo≤hi∧hi≤255))
  else if k=0 then bareB (.mk k c ng rs lo hi lz ks) && decide (ks.length≠1) && ks.all fun x=>decide (x.kind≠0∧x.kind≠1)
  else if k=1 then bareB (.mk k c ng rs lo hi lz ks) && decide (1 < ks.length) && ks.all fun x=>decide (x.kind≠1)
  else if k=5∨k=6 then bareB (.mk k c ng rs lo hi lz ks) && decide (ks.length=1)
  else if k=3∨k=8∨k=9∨k=10∨k=11 then bareB (.mk k c ng rs lo hi lz ks) && decide (ks=[])
  else false
namespace Rx
mutual
def wf:Rx→Bool
 | mk k c ng rs lo hi lz ks=>fieldsB (mk k c ng rs lo hi lz ks) && wfL ks
def wfL:List Rx→Bool
 | []=>true
 | x :: r=>wf x && wfL r
end
end Rx
def okB (x:Rx) (left dp:Int):Bool:=x.wf && decide ((x.parts:Int)≤left) && decide ((x.deep:Int)≤dp)
def okL (ks:List Rx) (left dp:Int):Bool:=Rx.wfL ks && decide ((Rx.partsL ks:Int)≤left) && decide ((Rx.deepL ks:Int)≤dp)
def mayB (x:Rx):Bool:=okB x 512 16
theorem okL_cons (x:Rx) (r:List Rx) (left dp:Int):okL (x :: r) left dp=(okB x left dp && okL r (left - x.parts) dp):=by
 rw [Bool.eq_iff_iff]
 have:=Rx.parts_pos x
 simp only [okL,okB,Bool.and_eq_true,decide_eq_true_eq]
 simp only [Rx.wfL,Rx.partsL,Rx.deepL,Bool.and_eq_true]
 constructor
 ·rintro ⟨⟨⟨a,b⟩,c⟩,d⟩
  exact ⟨⟨⟨a,by omega⟩,by omega⟩,⟨b,by omega⟩,by omega⟩
 ·rintro ⟨⟨⟨a,b⟩,c⟩,⟨d,e⟩,f⟩
  exact ⟨⟨⟨a,d⟩,by omega⟩,by omega⟩
def grpB (k:Int):Bool:=decide (k=5∨k=6)
theorem okB_eq (k:Int) (c:Str) (ng:Bool) (rs:List (Str × Str)) (lo hi:Int) (lz:Bool) (ks:List Rx) (left dp:Int) :
  okB (.mk k c ng rs lo hi lz ks) left dp=(decide (1≤left) && decide (0≤dp - (if grpB k then 1 else 0)) && fieldsB (.mk k c ng rs lo hi lz ks) && okL ks (left - 1) (dp - (if grpB k then 1 else 0))):=by
 rw [Bool.eq_iff_iff]
 have hd:((Rx.deepL ks+if k=5∨k=6 then 1 else 0:Nat):Int)=(Rx.deepL ks:Int)+(if grpB k then 1 else 0):=by
  by_cases h:k=5∨k=6 <;> simp [grpB,h]
 simp only [okB,okL,Bool.and_eq_true,decide_eq_true_eq]
 simp only [Rx.wf,Rx.parts,Rx.deep,Bool.and_eq_true,hd]
 generalize (if grpB k=true then (1:Int) else 0)=g
 constructor
 ·rintro ⟨⟨⟨a,b⟩,c⟩,d⟩
  exact ⟨⟨⟨by omega,by omega⟩,a⟩,⟨b,by omega⟩,by omega⟩
 ·rintro ⟨⟨⟨a,b⟩,c⟩,⟨d,e⟩,f⟩
  exact ⟨⟨⟨c,d⟩,by omega⟩,by omega⟩
end Go.Proofs.YtbmakifbppocaaaGreatDoor
set_option maxRecDepth 100000
namespace Go.Proofs.YtbmakifbppocaaaGreatDoor
open Go.RowKit
/-- A slice that reads as cells, in a block of S. -/
def SlS (w:World) (S:Nat→Prop) (a:Option Addr) (sz n:Nat) (cs:List Value):Prop :=
 cs.length=n * sz∧(0 < n→∃ b o,a=some ⟨b,o,none⟩∧S b∧b < w.heap.size∧∀ (j:Nat) (u:Value),cs[j]?=some u→w.cell? ⟨b,o+j,none⟩=some u)
/-- What lies in the blocks of S is as it was. -/
def Kept (S:Nat→Prop) (w w':World):Prop:=w.heap.size≤w'.heap.size∧∀ b,S b→b < w.heap.size→w'.heap[b]?=w.heap[b]?
theorem Kept.below {S:Nat→Prop} {B:Nat} {w w':World} (h:Below B w w') (hS:∀ b,S b→b < w.heap.size→b < B):Kept S w w':=⟨h.size,fun b hb hlt=>h.block b (hS b hb hlt)⟩
theorem Kept.all {S:Nat→Prop} {w w':World} (h:Below w.heap.size w w'):Kept S w w':=⟨h.size,fun b _ hlt=>h.block b hlt⟩
theorem SlS.keep {w w':World} {S:Nat→Prop} {a:Option Addr} {sz n:Nat} {cs:List Value} (h:SlS w S a sz n cs) (hk:Kept S w w'):SlS w' S a sz n cs :=
 ⟨h.1,fun hn=>by
  obtain ⟨b,o,h1,h2,h3,h4⟩:=h.2 hn
  exact ⟨b,o,h1,h2,Nat.lt_of_lt_of_le h3 hk.1,fun j u hu=>by
   have e:=hk.2 b h2 h3
   have:=h4 j u hu
   simp only [World.cell?] at this ⊢;rw [e];exact this⟩⟩
theorem SlS.mono {w:World} {S S':Nat→Prop} {a:Option Addr} {sz n:Nat} {cs:List Value} (h:SlS w S a sz n cs) (hS:∀ b,S b→b < w.heap.size→S' b):SlS w S' a sz n cs :=
 ⟨h.1,fun hn=>by
  obtain ⟨b,o,h1,h2,h3,h4⟩:=h.2 hn
  exact ⟨b,o,h1,hS b h2 h3,h3,h4⟩⟩
theorem SlS.none_ (w:World) (S:Nat→Prop) (a:Option Addr) (sz:Nat):SlS w S a sz 0 []:=⟨by simp,fun h=>by omega⟩
theorem SlS.sl {w:World} {S:Nat→Prop} {a:Option Addr} {sz n:Nat} {cs:List Value} (h:SlS w S a sz n cs):Sl w w.heap.size a sz n cs :=
 ⟨h.1,fun hn=>by
  obtain ⟨b,o,h1,h2,h3,h4⟩:=h.2 hn
  exact ⟨b,o,h1,h3,h4⟩⟩
theorem Sl.slS {w:World} {B:Nat} {a:Option Addr} {sz n:Nat} {cs:List Value} (h:Sl w B a sz n cs) (hB:B≤w.heap.size):SlS w (· < B) a sz n cs :=
 ⟨h.1,fun hn=>by
  obtain ⟨b,o,h1,h2,h3⟩:=h.2 hn
  exact ⟨b,o,h1,h2,by omega,h3⟩⟩
/-- Rows as cells. -/
def rcells (rs:List (Str × Str)):List Value:=rs.flatMap fun r=>[.string ⟨(r.1).toArray⟩,.string ⟨(r.2).toArray⟩]
theorem rcells_length (rs:List (Str × Str)):(rcells rs).length=rs.length * 2:=by
 induction rs with
 | nil=>rfl
 | cons r rs ih=>simp only [rcells,List.flatMap_cons,List.length_append] at *;rw [ih];simp;omega
theorem rcells_at {rs:List (Str × Str)} {k:Nat} {r:Str × Str} (h:rs[k]?=some r):(rcells rs)[k * 2]?=some (.string ⟨(r.1).toArray⟩)∧(rcells rs)[k * 2+1]?=some (.string ⟨(r.2).toArray⟩):=by
 induction rs generalizing k with
 | nil=>simp at h
 | cons g rs ih =>
  cases k with
  | zero=>simp at h;subst h;simp [rcells]
  | succ k =>
   simp only [List.getElem?_cons_succ] at h
   obtain ⟨h1,h2⟩:=ih h
   simp only [rcells,List.flatMap_cons] at h1 h2 ⊢
   refine ⟨?_,?_⟩
   ·rw [List.getElem?_append_right (by simp;omega)];simpa [show (k+1) * 2 - 2=k * 2 by omega] using h1
   ·rw [List.getElem?_append_right (by simp;omega)];simpa [show (k+1) * 2+1 - 2=k * 2+1 by omega] using h2
theorem Sl.row {w:World} {B:Nat} {a:Option Addr} {n:Nat} {rs:List (Str × Str)} (h:Sl w B a 2 n (rcells rs)) {k:Nat} {r:Str × Str} (hk:rs[k]?=some r) :
  ∃ b o,a=some ⟨b,o,none⟩∧b < B∧w.cell? ⟨b,o+k * 2,none⟩=some (.string ⟨(r.1).toArray⟩)∧w.cell? ⟨b,o+k * 2+1,none⟩=some (.string ⟨(r.2).toArray⟩):=by
 have hlt:=(List.getElem?_eq_some_iff.1 hk).1
 have hn:n=rs.length:=by have:=h.1;rw [rcells_length] at this;omega
 obtain ⟨b,o,h1,h2,h3⟩:=h.2 (by omega)
 obtain ⟨c1,c2⟩:=rcells_at hk
 exact ⟨b,o,h1,h2,h3 _ _ c1,h3 _ _ c2⟩
theorem Sl.row_len {w:World} {B:Nat} {a:Option Addr} {n:Nat} {rs:List (Str × Str)} (h:Sl w B a 2 n (rcells rs)):n=rs.length:=by
 have:=h.1;rw [rcells_length] at this;omega
/-- The eight cells of a part. -/
def rxc (k:Int) (c:Str) (ng:Bool) (ra:Option Addr) (rn rc:Nat) (lo hi:Int) (lz:Bool) (ka:Option Addr) (kn kc:Nat):List Value :=
 [.int .i64 k,.string ⟨(c).toArray⟩,.bool ng,.slice ra rn rc,.int .i64 lo,.int .i64 hi,.bool lz,.slice ka kn kc]
mutual
inductive RxV (w:World) (S:Nat→Prop):List Value→Rx→Prop
 | mk {k:Int} {c:Str} {ng:Bool} {rs:List (Str × Str)} {lo hi:Int} {lz:Bool} {ks:List Rx} {ra ka:Option Addr} {rc kc:Nat} {css:List (List Value)} :
   SlS w S ra 2 rs.length (rcells rs)→SlS w S ka 8 ks.length css.flatten→RxVs w S css ks→RxV w S (rxc k c ng ra rs.length rc lo hi lz ka ks.length kc) (.mk k c ng rs lo hi lz ks)
inductive RxVs (w:World) (S:Nat→Prop):List (List Value)→List Rx→Prop
 | nil:RxVs w S [] []
 | cons {c:List Value} {x:Rx} {cs:List (List Value)} {xs:List Rx}:RxV w S c x→RxVs w S cs xs→RxVs w S (c :: cs) (x :: xs)
end
mutual
theorem RxV.keep {w w':World} {S:Nat→Prop} (hk:Kept S w w'):∀ {c:List Value} {x:Rx},RxV w S c x→RxV w' S c x
 | _,_,.mk h1 h2 h3=>.mk (h1.keep hk) (h2.keep hk) (RxVs.keep hk h3)
theorem RxVs.keep {w w':World} {S:Nat→Prop} (hk:Kept S w w'):∀ {cs:List (List Value)} {xs:List Rx},RxVs w S cs xs→RxVs w' S cs xs
 | _,_,.nil=>.nil
 | _,_,.cons h1 h2=>.cons (RxV.keep hk h1) (RxVs.keep hk h2)
end
mutual
theorem RxV.mono {w:World} {S S':Nat→Prop} (hS:∀ b,S b→b < w.heap.size→S' b):∀ {c:List Value} {x:Rx},RxV w S c x→RxV w S' c x
 | _,_,.mk h1 h2 h3=>.mk (h1.mono hS) (h2.mono hS) (RxVs.mono hS h3)
theorem RxVs.mono {w:World} {S S':Nat→Prop} (hS:∀ b,S b→b < w.heap.size→S' b):∀ {cs:List (List Value)} {xs:List Rx},RxVs w S cs xs→RxVs w S' cs xs
 | _,_,.nil=>.nil
 | _,_,.cons h1 h2=>.cons (RxV.mono hS h1) (RxVs.mono hS h2)
end
def Any (_:Nat):Prop:=True
theorem RxV.any {w:World} {S:Nat→Prop} {c:List Value} {x:Rx} (h:RxV w S c x):RxV w Any c x:=h.mono fun _ _ _=>trivial
theorem RxV.later {w w':World} {S:Nat→Prop} {c:List Value} {x:Rx} (h:RxV w S c x) (hb:Below w.heap.size w w'):RxV w' S c x:=h.keep (Kept.all hb)
theorem RxV.len {w:World} {S:Nat→Prop} {c:List Value} {x:Rx} (h:RxV w S c x):c.length=8:=by cases h;rfl
theorem RxVs.length {w:World} {S:Nat→Prop}:∀ {cs:List (List Value)} {xs:List Rx},RxVs w S cs xs→cs.length=xs.length
 | _,_,.nil=>rfl
 | _,_,.cons _ h=>by simp [h.length]
theorem RxVs.eights {w:World} {S:Nat→Prop}:∀ {cs:List (List Value)} {xs:List Rx},RxVs w S cs xs→∀ c ∈ cs,c.length=8
 | _,_,.nil,c,hc=>by simp at hc
 | _,_,.cons h1 h2,c,hc=>by
  rcases List.mem_cons.1 hc with rfl | hc
  ·exact h1.len
  ·exact h2.eights c hc
theorem RxVs.at_ {w:World} {S:Nat→Prop}:∀ {cs:List (List Value)} {xs:List Rx},RxVs w S cs xs→∀ {k:Nat} {x:Rx},xs[k]?=some x→∃ c,cs[k]?=some c∧RxV w S c x
 | _,_,.nil,k,x,h=>by simp at h
 | _,_,.cons h1 h2,0,x,h=>by simp at h;subst h;exact ⟨_,rfl,h1⟩
 | _,_,.cons h1 h2,k+1,x,h=>by simpa using h2.at_ (by simpa using h)
theorem flat_at {C:Nat}:∀ {css:List (List Value)},(∀ c ∈ css,c.length=C)→∀ {k:Nat} {c:List Value},css[k]?=some c→∀ {j:Nat} {u:Value},c[j]?=some u→css.flatten[k * C+j]?=some u
 | [],_,k,c,h,j,u,hj=>by simp at h
 | d :: css,hC,0,c,h,j,u,hj=>by
  simp at h;subst h
  rw [List.flatten_cons,Nat.zero_mul,Nat.zero_add,List.getElem?_append_left (List.getElem?_eq_some_iff.1 hj).1];exact hj
 | d :: css,hC,k+1,c,h,j,u,hj=>by
  have hd:=hC d (List.mem_cons_self ..)
  have ih:=flat_at (fun x hx=>hC x (List.mem_cons_of_mem _ hx)) (show css[k]?=some c by simpa using h) hj
  rw [List.flatten_cons,List.getElem?_append_right (by rw [hd,Nat.succ_mul];omega),hd,show (k+1) * C+j - C=k * C+j by rw [Nat.succ_mul];omega]
  exact ih
/-- A slice of parts. -/
def RxSl (w:World) (S:Nat→Prop) (a:Option Addr) (n:Nat) (xs:List Rx):Prop:=∃ css,SlS w S a 8 n css.flatten∧RxVs w S css xs
theorem RxSl.keep {w w':World} {S:Nat→Prop} {a:Option Addr} {n:Nat} {xs:List Rx} (h:RxSl w S a n xs) (hk:Kept S w w'):RxSl w' S a n xs:=by
 obtain ⟨css,h1,h2⟩:=h
 exact ⟨css,h1.keep hk,h2.keep hk⟩
theorem RxSl.later {w w':World} {S:Nat→Prop} {a:Option Addr} {n:Nat} {xs:List Rx} (h:RxSl w S a n xs) (hb:Below w.heap.size w w'):RxSl w' S a n xs:=h.keep (Kept.all hb)
theorem RxSl.len {w:World} {S:Nat→Prop} {a:Option Addr} {n:Nat} {xs:List Rx} (h:RxSl w S a n xs):n=xs.length:=by
 obtain ⟨css,h1,h2⟩:=h
 have h3:=h1.1
 have h4:∀ {cs:List (List Value)},(∀ c ∈ cs,c.length=8)→cs.flatten.length=cs.length * 8:=by
  intro cs
  induction cs with
  | nil=>intro _;rfl
  | cons c cs ih=>intro h;rw [List.flatten_cons,List.length_append,ih (fun x hx=>h x (List.mem_cons_of_mem _ hx)),h c (List.mem_cons_self ..)];simp;omega
 rw [h4 h2.eights,h2.length] at h3;omega
/-- Element k of a slice of parts: its cells. -/
theorem RxSl.at_ {w:World} {S:Nat→Prop} {a:Option Addr} {n:Nat} {xs:List Rx} (h:RxSl w S a n xs) {k:Nat} {x:Rx} (hk:xs[k]?=some x) :
  ∃ b o c,a=some ⟨b,o,none⟩∧S b∧b < w.heap.size∧RxV w S c x∧∀ (j:Nat) (u:Value),c[j]?=some u→w.cell? ⟨b,o+(k * 8+j),none⟩=some u:=by
 have hn:=h.len
 obtain ⟨css,h1,h2⟩:=h
 have hlt:=(List.getElem?_eq_some_iff.1 hk).1
 obtain ⟨b,o,e1,e2,e3,e4⟩:=h1.2 (by omega)
 obtain ⟨c,hc,hv⟩:=h2.at_ hk
 exact ⟨b,o,c,e1,e2,e3,hv,fun j u hj=>e4 _ u (flat_at h2.eights hc hj)⟩
/-- .. told cell by cell. -/
theorem RxSl.cells {w:World} {S:Nat→Prop} {a:Option Addr} {n:Nat} {xs:List Rx} (h:RxSl w S a n xs) {m:Nat} {k:Int} {c:Str} {ng:Bool} {rs:List (Str × Str)} {lo hi:Int} {lz:Bool} {ks:List Rx} (hk:xs[m]?=some (.mk k c ng rs lo hi lz ks)) :
  ∃ b o ra rc ka kc,a=some ⟨b,o,none⟩∧S b∧b < w.heap.size∧SlS w S ra 2 rs.length (rcells rs)∧RxSl w S ka ks.length ks∧RxV w S (rxc k c ng ra rs.length rc lo hi lz ka ks.length kc) (.mk k c ng rs lo hi lz ks) ∧
   w.cell? ⟨b,o+m * 8,none⟩=some (.int .i64 k)∧w.cell? ⟨b,o+m * 8+1,none⟩=some (.string ⟨(c).toArray⟩)∧w.cell? ⟨b,o+m * 8+2,none⟩=some (.bool ng)∧w.cell? ⟨b,o+m * 8+3,none⟩=some (.slice ra rs.length rc) ∧
   w.cell? ⟨b,o+m * 8+4,none⟩=some (.int .i64 lo)∧w.cell? ⟨b,o+m * 8+5,none⟩=some (.int .i64 hi)∧w.cell? ⟨b,o+m * 8+6,none⟩=some (.bool lz)∧w.cell? ⟨b,o+m * 8+7,none⟩=some (.slice ka ks.length kc):=by
 obtain ⟨b,o,cc,e1,e2,e3,hv,hc⟩:=h.at_ hk
 cases hv with
 | mk h1 h2 h3 =>
  exact ⟨b,o,_,_,_,_,e1,e2,e3,h1,⟨_,h2,h3⟩,.mk h1 h2 h3,hc 0 _ rfl,hc 1 _ rfl,hc 2 _ rfl,hc 3 _ rfl,hc 4 _ rfl,hc 5 _ rfl,hc 6 _ rfl,hc 7 _ rfl⟩
/-- A value that is a part, told field by field. -/
theorem RxV.open_ {w:World} {S:Nat→Prop} {cc:List Value} {k:Int} {c:Str} {ng:Bool} {rs:List (Str × Str)} {lo hi:Int} {lz:Bool} {ks:List Rx} (h:RxV w S cc (.mk k c ng rs lo hi lz ks)) :
  ∃ ra rc ka kc,cc=rxc k c ng ra rs.length rc lo hi lz ka ks.length kc∧SlS w S ra 2 rs.length (rcells rs)∧RxSl w S ka ks.length ks:=by
 cases h with
 | mk h1 h2 h3=>exact ⟨_,_,_,_,rfl,h1,_,h2,h3⟩
theorem RxV.close {w:World} {S:Nat→Prop} {k:Int} {c:Str} {ng:Bool} {rs:List (Str × Str)} {lo hi:Int} {lz:Bool} {ks:List Rx} {ra ka:Option Addr} {rc kc:Nat} (h1:SlS w S ra 2 rs.length (rcells rs)) (h2:RxSl w S ka ks.length ks) :
  RxV w S (rxc k c ng ra rs.length rc lo hi lz ka ks.length kc) (.mk k c ng rs lo hi lz ks):=by
 obtain ⟨css,a,b⟩:=h2
 exact .mk h1 a b
end Go.Proofs.YtbmakifbppocaaaGreatDoor
set_option maxRecDepth 100000
namespace Go.Proofs.YtbmakifbppocaaaGreatDoor
open Go.RowKit
def spanE (l:Str) (i:Nat):Nat:=i+1+((l.drop (i+1)).takeWhile insideB).length
theorem inside_any (c:Int) (w:World) :
  Calls Tryz.prog 103 #[.int .u8 c] w fun e w'=>e=.returned (.bool (decide (128≤c∧c≤191)))∧w=w':=by
 by_cases h:128≤c∧c≤191
 ·obtain ⟨h1,h2⟩:=h
  have hR:decide (128≤c∧c≤191)=true:=by simp;omega
  rw [hR]
  clear hR
  go_enter Tryz.func103,Tryz.ntmps103
  go_wp2
  go_ret
  exact ⟨rfl,rfl⟩
 ·have hR:decide (128≤c∧c≤191)=false:=by simpa using h
  rw [hR]
  clear hR
  go_enter Tryz.func103,Tryz.ntmps103
  go_wp2
  all_goals
   go_ret
   refine ⟨ret_bool ?_,rfl⟩
   simp <;> omega
theorem inside_c (c:UInt8) {b:Bool} (w:World) (h:insideB c=b) :
  Calls Tryz.prog 103 #[.int .u8 c.toNat] w fun e w'=>e=.returned (.bool b)∧w=w':=by
 refine (inside_any (c.toNat:Int) w).mono ?_
 rintro e w' ⟨rfl,rfl⟩
 refine ⟨ret_bool ?_,rfl⟩
 rw [← h,Bool.eq_iff_iff];simp [insideB];omega
set_option maxHeartbeats 400000 in
theorem end_any (l:Str) (i:Nat) (w:World) (hi:i≤100000000) (hs:l.length≤100000000) :
  Calls Tryz.prog 104 #[.string ⟨(l).toArray⟩,.int .i64 i] w fun e w'=>e=.returned (.int .i64 (spanE l i))∧w=w':=by
 generalize hR:spanE l i=R
 have HR:=Lib.hid hR
 clear hR
 have HR0:Hid (i+1+0+((l.drop (i+1+0)).takeWhile insideB).length=R):=HR
 clear HR
 go_enter Tryz.func104,Tryz.ntmps104
 go_wp2
 go_loop [1] (fun q=>∃ k:Nat,k≤l.length∧q=.int .i64 ((i+1+k:Nat):Int)∧Hid (i+1+k+((l.drop (i+1+k)).takeWhile insideB).length=R)) (fun q=>l.length - (intOf q).toNat)
 case atStart=>exact ⟨0,by omega,by go_num,HR0⟩
 case round =>
  obtain ⟨k,hk,rfl,HF⟩:=hrel
  clear HR0
  cases hd:l.drop (i+1+k) with
  | nil =>
   have h2:=drop_nil hd
   have HE:Hid (i+1+k=R):=Lib.hid (by rw [← HF.out,hd];rfl)
   clear hd HF
   go_wp2
   go_ret
   exact ⟨ret_int (by rw [← HE.out];omega),rfl⟩
  | cons c r =>
   obtain ⟨h2,h3,hr⟩:=drop_cons hd
   have HE:Hid (i+1+k+((c :: r).takeWhile insideB).length=R):=Lib.hid (by rw [← HF.out,hd])
   have Hr:=Lib.hid hr
   clear hd HF hr
   cases hc:insideB c with
   | true =>
    go_wp2_with (go_at_call 103;refine (inside_c c _ hc).mono ?_;rintro e w1 ⟨rfl,rfl⟩)
    go_round
    case rel =>
     refine ⟨k+1,by omega,by go_num,Lib.hid ?_⟩
     rw [show i+1+(k+1)=i+1+k+1 from rfl,Hr.out,← HE.out,List.takeWhile_cons_of_pos hc];simp;omega
    case measure=>simp [intOf];omega
   | false =>
    go_wp2_with (go_at_call 103;refine (inside_c c _ hc).mono ?_;rintro e w1 ⟨rfl,rfl⟩)
    go_ret
    refine ⟨ret_int ?_,rfl⟩
    rw [← HE.out,List.takeWhile_cons_of_neg (by simp [hc])];simp
theorem takeWhile_all:∀ r:Str,((r.takeWhile insideB).length=r.length) ↔ r.all insideB=true
 | []=>by simp
 | c :: r=>by
  have ih:=takeWhile_all r
  cases hc:insideB c with
  | true=>rw [List.takeWhile_cons_of_pos hc];simp only [List.length_cons,List.all_cons,hc,Bool.true_and,← ih];omega
  | false=>rw [List.takeWhile_cons_of_neg (by simp [hc])];simp [hc]
theorem Proper_any (l:Str) (w:World) (hs:l.length≤100000000) :
  Calls Tryz.prog 99 #[.string ⟨(l).toArray⟩] w fun e w'=>e=.returned (.bool (properB l))∧w=w':=by
 cases l with
 | nil =>
  go_enter Tryz.func99,Tryz.ntmps99
  go_wp2
  go_ret
  exact ⟨rfl,rfl⟩
 | cons c r =>
  have hE:spanE (c :: r) 0=1+(r.takeWhile insideB).length:=by simp [spanE]
  have hta:=takeWhile_all r
  obtain ⟨E,hE2⟩:∃ E,spanE (c :: r) 0=E:=⟨_,rfl⟩
  have HE:=Lib.hid hE
  have HTA:=Lib.hid hta
  clear hE hta
  cases hc:insideB c with
  | true =>
   have hP:properB (c :: r)=false:=by simp [properB,hc]
   rw [hP]
   clear hP hE2
   go_enter Tryz.func99,Tryz.ntmps99
   go_wp2_with (go_at_call 103;refine (inside_c c _ hc).mono ?_;rintro e w1 ⟨rfl,rfl⟩)
   go_ret
   exact ⟨rfl,rfl⟩
  | false =>
   have hP:properB (c :: r)=decide ((E:Int)=((c :: r).length:Int)):=by
    rw [Bool.eq_iff_iff,decide_eq_true_eq,← hE2,HE.out]
    simp only [properB,hc,Bool.not_false,Bool.true_and,← HTA.out,List.length_cons];omega
   have HP:=Lib.hid hP
   have HE2:=Lib.hid hE2
   clear hP hE2
   rw [HP.out]
   go_enter Tryz.func99,Tryz.ntmps99
   go_wp2_with (first | (go_at_call 103;refine (inside_c c _ hc).mono ?_;rintro e w1 ⟨rfl,rfl⟩) | (go_at_call 104;refine (end_any (c :: r) 0 _ (by omega) hs).mono ?_;rintro e w1 ⟨rfl,rfl⟩;rw [HE2.out]))
   go_ret
   refine ⟨ret_bool ?_,rfl⟩
   rw [Bool.eq_iff_iff];simp
set_option maxHeartbeats 400000 in
theorem row_any (f t:Str) (w:World) (hf:f.length≤100000000) (ht:t.length≤100000000) :
  Calls Tryz.prog 105 #[.agg #[.string ⟨(f).toArray⟩,.string ⟨(t).toArray⟩]] w fun e w'=>e=.returned (.bool (rowB (f,t)))∧Below w.heap.size w w':=by
 generalize hR:rowB (f,t)=R
 have HR:=Lib.hid hR
 clear hR
 cases h1:properB f with
 | false =>
  have HE:Hid (R=false):=Lib.hid (by rw [← HR.out];simp [rowB,h1])
  go_enter Tryz.func105,Tryz.ntmps105
  go_wp2_with (go_at_call 99;refine (Proper_any _ _ (by omega)).mono ?_;rintro e w1 ⟨rfl,rfl⟩)
  go_ret
  exact ⟨ret_bool HE.out.symm,(Below.refl _ _).alloc (Nat.le_refl _) _⟩
 | true =>
  cases h2:properB t with
  | false =>
   have HE:Hid (R=false):=Lib.hid (by rw [← HR.out];simp [rowB,h2])
   go_enter Tryz.func105,Tryz.ntmps105
   go_wp2_with (go_at_call 99;refine (Proper_any _ _ (by omega)).mono ?_;rintro e w1 ⟨rfl,rfl⟩)
   go_ret
   exact ⟨ret_bool HE.out.symm,(Below.refl _ _).alloc (Nat.le_refl _) _⟩
  | true =>
   have HE:Hid (R=leS f t):=Lib.hid (by rw [← HR.out];simp [rowB,h1,h2])
   go_enter Tryz.func105,Tryz.ntmps105
   go_wp2_with (go_at_call 99;refine (Proper_any _ _ (by omega)).mono ?_;rintro e w1 ⟨rfl,rfl⟩)
   go_ret
   exact ⟨ret_bool (by rw [HE.out]),(Below.refl _ _).alloc (Nat.le_refl _) _⟩
end Go.Proofs.YtbmakifbppocaaaGreatDoor
set_option maxRecDepth 100000
namespace Go.Proofs.YtbmakifbppocaaaGreatDoor
open Go.RowKit
/-- A world that has w's blocks as they were, and perhaps more. -/
structure ExtOf (w:World) where
 val:World
 ext:Below w.heap.size w val
instance (w:World):Nonempty (ExtOf w):=⟨⟨w,Below.refl _ _⟩⟩
theorem wp_region_ext {P:Program} {id:Nat} {Q:Exit→Act→World→Prop} {a:Act} {w:World} {l:List Oper} (hm:P.follows .mixedOrders=true) (hB:Region.lexB .any l.toArray=true)
  (h:wpQuiet P l.toArray (fun w'=>∃ x:ExtOf w,w'=x.val) (fun a'=>∀ w',(∃ x:ExtOf w,w'=x.val)→Q .normal a' w') l a):(Code.region id l.toArray true).wp P Q a w :=
 wp_region_quiet (C:=fun w'=>∃ x:ExtOf w,w'=x.val) hm hB ⟨⟨w.drew,(Below.refl _ _).drew⟩,rfl⟩ (by simpa using h)
theorem ext_call {P:Program} {f:FuncId} {args:Array Value} {w:World} {x:ExtOf w} {v:Value} (h:Calls P f args x.val fun e w'=>e=.returned v∧Below x.val.heap.size x.val w') :
  Calls P f args x.val fun e w''=>e=.returned v∧∃ y:ExtOf w,w''=y.val :=
 h.mono fun _ w' ⟨he,hb⟩=>⟨he,⟨w',x.ext.trans (hb.mono x.ext.size)⟩,rfl⟩
theorem ExtOf.cell {w:World} {a:Addr} {u:Value} (h:w.cell? a=some u) (x:ExtOf w):x.val.cell? a=some u :=
 (x.ext.cell (World.block_lt_of_cell? w a h)).trans h
end Go.Proofs.YtbmakifbppocaaaGreatDoor
