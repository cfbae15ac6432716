/- sread's reader in memory: its place, its map of what was found. -/
import Derived.Test.YtdcnncgpomcaaaaGreatDoorRc17
import Derived.Deep.MidRow
import Derived.Deep.WholeRow
set_option maxRecDepth 100000
namespace Go.Proofs.YtdcnncgpomcaaaaGreatDoor
open Go.RowKit Go.Maps Go.MapKept
open Go.ChangeMaps (setBlock)
theorem CO:Keyed Tryz.prog 3:=int_keyed Tryz.underlying3
theorem yV {k:Nat} (h:k≤100000000):keyOf Tryz.prog 3 (.int .i64 (k:Int))=some (.int .i64 (k:Int)):=keyOf_int_mk Tryz.underlying3 (by have h1:IntKind.i64.min=-9223372036854775808:= gR;have h2:IntKind.i64.max=9223372036854775807:= gR;simp only [Lit.wf,h1,h2,Jy,Jj];omega)
def FndV (w:World) (S:Nat→Prop) (s:Str) (k:Nat) (v:Value):Prop :=
 ∃(cc:List Value) (x:Sn) (e:Nat) (ok:Bool),v=.agg (cc++[Value.int .i64 (e:Int),Value.bool ok]).toArray∧SnV w S cc x∧e≤s.length ∧
  match l7 (s.drop (k+1)) with
  | some (y,r)=>ok=true∧x=y∧s.drop e=r
  | none=>ok=false∧e=k
structure Rs (S:Nat→Prop) (w:World) (g m:Nat) (s:Str) (i:Nat):Prop where
 pl:Pl [.map (some m)] w g s i
 gm:m<g
 mp:∃es clock,w.heap[m]?=some (.map es clock)∧∀e∈es.toList,∃k:Nat,k≤s.length∧e.key=.int .i64 (k:Int)∧FndV w S s k e.val
 ng:¬S g
 nm:¬S m
 lt:∀b,S b→b<w.heap.size
theorem FndV.keep {w w':World} {S:Nat→Prop} {s:Str} {k:Nat} {v:Value} (h:FndV w S s k v) (hk:Kept S w w'):FndV w' S s k v:=by
 obtain⟨cc,x,e,ok,h1,h2,h3⟩:=h;exact⟨cc,x,e,ok,h1,h2.keep hk,h3⟩
theorem FndV.mono {w:World} {S S':Nat→Prop} {s:Str} {k:Nat} {v:Value} (h:FndV w S s k v) (hS:∀b,S b→b<w.heap.size→S' b):FndV w S' s k v:=by
 obtain⟨cc,x,e,ok,h1,h2,h3⟩:=h;exact⟨cc,x,e,ok,h1,h2.mono hS,h3⟩
theorem Rs.mlt {S:Nat→Prop} {w:World} {g m:Nat} {s:Str} {i:Nat} (h:Rs S w g m s i):m<w.heap.size:=Nat.lt_trans h.gm h.pl.lt
theorem Rs.moved {S:Nat→Prop} {w w':World} {g m:Nat} {s:Str} {i j:Nat} (h:Rs S w g m s i) (hp:Pl [.map (some m)] w' g s j) (hz:w.heap.size≤w'.heap.size) (hk:∀b,(S b∨b=m)→b<w.heap.size→w'.heap[b]?=w.heap[b]?):Rs S w' g m s j:=by
 obtain⟨es,clock,h1,h2⟩:=h.mp;have hK:Kept S w w':=⟨hz,fun b hb hlt=>hk b (.inl hb) hlt⟩;exact⟨hp,h.gm,⟨es,clock,(hk m (.inr rfl) h.mlt).trans h1,fun e he=>by
  obtain⟨k,a,b,c⟩:=h2 e he;exact⟨k,a,b,c.keep hK⟩⟩,h.ng,h.nm,fun b hb=>Jt (h.lt b hb) hz⟩
theorem Rs.place {S:Nat→Prop} {w w':World} {g m:Nat} {s:Str} {i j:Nat} (h:Rs S w g m s i) (hp:Pl [.map (some m)] w' g s j) (hg:w.grownBy w' (some g)):Rs S w' g m s j :=
 h.moved hp hg.size fun b hb hlt=>hg.block b hlt (by
  have:b≠g:=by
   rcases hb with hb|rfl
   ·rintro rfl;exact h.ng hb
   ·exact Nat.ne_of_lt h.gm
  first
   | exact this
   | exact fun e=>this (by injection e)
   | exact fun e=>this jC)
theorem Rs.later {S:Nat→Prop} {w w':World} {g m:Nat} {s:Str} {i:Nat} (h:Rs S w g m s i) (hb:Below w.heap.size w w'):Rs S w' g m s i :=
 h.moved (h.pl.later hb) hb.size fun b _ hlt=>hb.block b hlt
theorem Rs.aside {S:Nat→Prop} {w w':World} {g m:Nat} {s:Str} {i:Nat} (h:Rs S w g m s i) {row:Option Nat} (hg:w.grownBy w' row) (hr:∀b,row=some b→¬S b∧b≠g∧b≠m):Rs S w' g m s i:=by
 have hne:∀b,(S b∨b=m∨b=g)→row≠some b:=fun b hb e=>by
  obtain⟨h1,h2,h3⟩:=hr b e;rcases hb with hb|hb|hb
  ·exact h1 hb
  ·exact h3 hb
  ·exact h2 hb
 refine h.moved (h.pl.grownHi hg (hne g (.inr (.inr rfl)))) hg.size fun b hb hlt=>hg.block b hlt ?_
 have:=hne b (hb.imp id .inl)
 first
  | exact this
  | exact fun e=>this e.symm
  | exact fun e=>this e
theorem Rs.setCell {S:Nat→Prop} {w:World} {g m:Nat} {s:Str} {i:Nat} (h:Rs S w g m s i) {a:Addr} (ha:¬S a.block∧a.block≠g∧a.block≠m) (u:Value):Rs S (w.setCell a u) g m s i :=
 h.moved (h.pl.setHi ha.2.1 u) jP fun b hb _=>heap_setCell_other w a b u (by
  rcases hb with hb|hb
  ·rintro rfl;exact ha.1 hb
  ·rintro rfl;exact ha.2.2 hb)
theorem Rs.mono {S S':Nat→Prop} {w:World} {g m:Nat} {s:Str} {i:Nat} (h:Rs S w g m s i) (hS:∀b,S b→S' b) (ng:¬S' g) (nm:¬S' m) (lt:∀b,S' b→b<w.heap.size):Rs S' w g m s i:=by
 obtain⟨es,clock,h1,h2⟩:=h.mp;exact⟨h.pl,h.gm,⟨es,clock,h1,fun e he=>by
  obtain⟨k,a,b,c⟩:=h2 e he;exact⟨k,a,b,c.mono fun b hb _=>hS b hb⟩⟩,ng,nm,lt⟩
structure Gr2 (g m:Nat) (w w':World):Prop where
 os:w'.os=w.os
 tape:w'.tape=w.tape
 output:w'.output=w.output
 size:w.heap.size≤w'.heap.size
 block:∀k,k<w.heap.size→k≠g→k≠m→w'.heap[k]?=w.heap[k]?
theorem Gr2.refl (g m:Nat) (w:World):Gr2 g m w w:=⟨rfl,rfl,rfl,Ju _,fun _ _ _ _=>rfl⟩
theorem Gr2.trans {g m:Nat} {a b c:World} (h:Gr2 g m a b) (k:Gr2 g m b c):Gr2 g m a c :=
 ⟨k.os.trans h.os,k.tape.trans h.tape,k.output.trans h.output,Jv h.size k.size,fun i hi h1 h2=>(k.block i (Jt hi h.size) h1 h2).trans (h.block i hi h1 h2)⟩
theorem Gr2.grown {g m:Nat} {w w':World} (h:w.grownBy w' (some g)):Gr2 g m w w':=⟨h.os,h.tape,h.output,h.size,fun k hk hg _=>h.block k hk (by first|exact hg|exact fun e=>hg (by injection e)|exact fun e=>hg jC)⟩
theorem Gr2.below {g m:Nat} {w w':World} (h:Below w.heap.size w w'):Gr2 g m w w':=⟨h.os,h.tape,h.output,h.size,fun k hk _ _=>h.block k hk⟩
theorem Gr2.row {g m:Nat} {w0 w w':World} {v:Value} {B:Nat} (h:Gr2 g m w0 w) (hl:∀k,v.ownBlock=some k→B≤k) (hB:w0.heap.size≤B) (hg:w.grownBy w' v.ownBlock):Gr2 g m w0 w' :=
 ⟨hg.os.trans h.os,hg.tape.trans h.tape,hg.output.trans h.output,Jv h.size hg.size,fun k hk h1 h2=>(hg.block k (Jt hk h.size) (by
  intro e;first
   | (have:=hl k e;omega)
   | (have:=hl k e.symm;omega))).trans (h.block k hk h1 h2)⟩
theorem Gr2.setNew {g m:Nat} {w0 w:World} (h:Gr2 g m w0 w) {a:Addr} (ha:w0.heap.size≤a.block) (u:Value):Gr2 g m w0 (w.setCell a u) :=
 ⟨h.os,h.tape,h.output,by simp [World.setCell];exact h.size,fun k hk h1 h2=>(heap_setCell_other w a k u gN).trans (h.block k hk h1 h2)⟩
open Go.RowKit
theorem mF {w:World} {b:Nat} {cs old:Array Value} {t:TypeId} {f:Nat × Nat} (h:w.heap[b]?=some (.cells old t f)):(w.setRow b cs).heap[b]?=some (.cells cs t f):=by
 simp [World.setRow,Array.getElem?_modify,h]
theorem nj {w:World} {b k:Nat} (cs:Array Value) (h:k≠b):(w.setRow b cs).heap[k]?=w.heap[k]?:=by
 simp only [World.setRow,Array.getElem?_modify];rw [Jo (Ne.symm h)]
theorem vC (w:World) (b:Nat) (cs:Array Value):(w.setRow b cs).heap.size=w.heap.size:=by simp [World.setRow]
theorem nv {fn:Func} {p u:Tmp} {ty t:TypeId} {tmps:Array Value} {w:World} {b:Nat} {cs:Array Value} {f:Nat × Nat} {fs:Array Field} {n:Nat} {v:Value} (hr:fn.results=#[.cell p ty,.tmp u]) (hu:Tryz.prog.underlying ty=some (.struct fs)) (hi:(Tryz.prog.info? ty).map (·.size)=some n)
  (h:w.heap[b]?=some (.cells cs t f)) (hn:cs.size=n) (hp:tmps.getD p undef=.pointer (some ⟨b,0,none⟩)) (hv:tmps.getD u undef=v):(results fn tmps).run Tryz.prog w=.ok (.tuple #[.agg cs,v]) w:=by
 subst hn;rw [results_cell_tmp hr,hp,hv];simp only [asAddr,Sem.run_pure,Result.andThen];rw [run_loadVar_row w b t ty cs f _ h hu rfl hi]
theorem ll {P:Program} {ops:Array Oper} {rest:List Oper} {o:Oper} {a:Act} {w W:World} {Q:Exit→Act→World→Prop} (hgd:o.guard=none) (ty:TypeId) (x y:Operand) (ho:o.op=.store ty x y)
  (g:Nat) (cells:Array Value) (hx:a.eval x=.pointer (some ⟨g,0,none⟩)) (hy:a.eval y=.agg cells)
  (t:TypeId) (old:Array Value) {n:Nat} (hg:w.heap[g]?=some (.cells old t (0,0))) (hi:(P.info? ty).map (·.size)=some n) (hn:cells.size=n)
  (hold:old.size=n) (h1:∀u∈cells.toList,u.oneCell'=true) (hW:w.setRow g cells=W)
  (h:wpList P ops Q rest (a.put o.dst undef) W):wpList P ops Q (o::rest) a w:=by
 subst hn;subst hW;exact wpList_store_row hgd ty x y ho g cells hx hy t old hg hi hold (Array.all_eq_true_iff_forall_mem.2 (fun v hv=>h1 v (by simpa using hv))) h
abbrev s0:Obj:=.cells #[.int .i64 0,.string ⟨#[]⟩,.int .i64 0,.bool false,.bool false,.int .i64 0,.string ⟨#[]⟩,.bool false,.slice none 0 0,.int .i64 0,.int .i64 0,.bool false,.slice none 0 0,.slice none 0 0,.bool false,.bool false,.slice none 0 0,.slice none 0 0] 44
theorem kV {P:Program} {ops:Array Oper} {rest:List Oper} {op:Oper} {a:Act} {w:World} {Q:Exit→Act→World→Prop} (hgd:op.guard=none) (ty:TypeId) (x:Operand) (ho:op.op=.load ty x)
  (b o:Nat) (hx:a.eval x=.pointer (some ⟨b,o,none⟩)) (cs:List Value) (d:TypeDesc) (hc:w.rangeAt b o cs)
  (hu:P.underlying ty=some d) (hd:d.isRow=true) (hi:(P.info? ty).map (·.size)=some cs.length)
  (h:wpList P ops Q rest (a.put op.dst (.agg cs.toArray)) w):wpList P ops Q (op::rest) a w:=wpList_load_mid hgd ty x ho b o hx cs d hc hu hd hi h
theorem BN {P:Program} {ops:Array Oper} {rest:List Oper} {o:Oper} {a:Act} {w:World} {Q:Exit→Act→World→Prop} (hgd:o.guard=none) (t:TypeId) (x y:Operand) (ho:o.op=.lookup t x y true) {mv kv v:Value}
  (hx:a.eval x=mv) (hy:a.eval y=kv) (hl:(Instr.lookup t mv kv true).run P w=.ok v w) (h:wpList P ops Q rest (a.put o.dst v) w):wpList P ops Q (o::rest) a w:=by
 refine wpList_plain hgd fun K hK=>?_
 unfold Oper.wp;simp [execOp,ho,hx,hy,hl,Result.andThen]
 exact hK _ _ h
theorem yH {P:Program} {ops:Array Oper} {rest:List Oper} {op:Oper} {a:Act} {w:World} {Q:Act→Prop} (hgd:op.guard=none) (ty:TypeId) (x:Operand) (ho:op.op=.load ty x)
  (b o:Nat) (hx:a.eval x=.pointer (some ⟨b,o,none⟩)) (cs:List Value) (d:TypeDesc) (hc:w.rangeAt b o cs)
  (hu:P.underlying ty=some d) (hd:d.isRow=true) (hi:(P.info? ty).map (·.size)=some cs.length)
  (h:wpStill P ops w Q rest (a.put op.dst (.agg cs.toArray))):wpStill P ops w Q (op::rest) a:=by
 refine wpStill_step fun K hK=>?_
 rw [Jl (by simp [Region.wanted,hgd])];unfold Oper.still execOp;simp only [ho,hx,Instr.loadAt,Instr.sureAddr,Sem.run_bind,Sem.run_pure,Result.andThen_ok,run_loadVar_mid w b o ty cs d hc hu hd hi];rw [Oper.stillUpon_value];exact hK _ h
theorem lc {w:World} {b:Nat} {cs ds:List Value} {t:TypeId} {f:Nat × Nat} (h:w.heap[b]?=some (.cells (cs++ds).toArray t f)):w.rangeAt b 0 cs:=fun j v hv=>by
 rw [Nat.zero_add,Jw h];have:=(Jx.1 hv).1
 simp [JD this,hv]
theorem sM (w:World) (cc:List Value):∃W,W=w.alloc (.cells cc.toArray 44)∧Hid ((w.alloc s0).setRow w.heap.size cc.toArray=W)∧Below w.heap.size w W∧Hid (W.heap[w.heap.size]?=some (.cells cc.toArray 44 (0,0))) :=
 ⟨_,rfl,ab (World.setRow_alloc_new _ _ _ _),(Below.refl _ _).alloc (Ju _) _,ab (heap_alloc_new _ _)⟩
theorem IU {P:Program} {o:Oper} {a:Act} {w:World} {K:Act→World→Prop} {Q:Exit→Act→World→Prop} (h:o.wp P a w K (Exit.then K Q)):o.wp P a w K Q:=by
 exact bJ
theorem uo {P:Program} {o:Oper} {a:Act} {w:World} {K K1 K2:Act→World→Prop} {Q:Exit→Act→World→Prop} (h:o.wp P a w K (Exit.then K1 Q)):o.wp P a w K (Exit.then K2 Q):=by
 exact bJ
def Jb (ops:Array Oper):Bool:=(List.range ops.size).all fun i=>((ops[i]?).map fun o=>o.guard.isNone&&o.after.all fun e=>!Region.binds .any e||decide (e.on<i)).getD true
theorem Ec {ops:Array Oper} (h:Jb ops=true) {i:Nat} {o:Oper} (ho:ops[i]?=some o):o.guard=none∧∀e∈o.after,Region.binds .any e=true→e.on<i:=by
 have hi:i<ops.size:=(Array.getElem?_eq_some_iff.1 ho).1;have h1:=List.all_eq_true.1 h i (List.mem_range.2 hi);rw [ho] at h1;simp only [Option.map_some,Option.getD_some,Jy,Option.isNone_iff_eq_none,Array.all_eq_true_iff_forall_mem] at h1;refine⟨h1.1,fun e he hb=>?_⟩;have:=h1.2 e he
 rw [hb] at this;simpa using this
def open_ (ops:Array Oper) (listed:Array Bool):Nat:=((List.range ops.size).filter fun j=>!listed.getD j true).length
theorem yO {ops:Array Oper} {listed:Array Bool} {i:Nat} (hi:i<ops.size) (hs:listed.size=ops.size) (h:listed.getD i true=false):open_ ops (listed.setIfInBounds i true)<open_ ops listed:=by
 unfold open_;have e:((List.range ops.size).filter fun j=>!(listed.setIfInBounds i true).getD j true)=((List.range ops.size).filter fun j=>!listed.getD j true).filter fun j=>decide (j≠i):=by
  rw [List.filter_filter];apply List.filter_congr
  intro j hj;by_cases hji:j=i
  ·subst hji
   have:(listed.setIfInBounds j true).getD j true=true:=by simp [Array.getD_eq_getD_getElem?,hs]
   rw [this];simp
  ·have:(listed.setIfInBounds i true).getD j true=listed.getD j true:=by
    simp only [Array.getD_eq_getD_getElem?];rw [Array.getElem?_setIfInBounds_ne (Ne.symm hji)]
   rw [this];simp [hji]
 rw [e,List.length_filter_lt_length_iff_exists];exact⟨i,List.mem_filter.2 ⟨List.mem_range.2 hi,by rw [h];rfl⟩,by simp⟩
theorem Ev {ops:Array Oper} (hB:Jb ops=true) {listed:Array Bool} (h:Region.ready .any ops listed=[]) (hs:listed.size=ops.size):∀i,i<ops.size→listed.getD i false=true:=by
 intro i;induction i using Nat.strongRecOn with
 | ind i ih =>
  intro hi;cases hl:listed.getD i false with
  | true=>rfl
  | false =>
   exfalso;obtain⟨o,ho⟩:∃o,ops[i]?=some o:=⟨_,Array.getElem?_eq_getElem hi⟩;have hm:i∈Region.ready .any ops listed:=by
    rw [mem_ready];refine⟨?_,o,ho,fun e he hb=>?_⟩
    ·exact dv
    ·have hlt:=(Ec hB ho).2 e he hb
     exact ih e.on hlt gN
   rw [h] at hm;cases hm
theorem EH {P:Program} {ops:Array Oper} {Q:Exit→Act→World→Prop} (hB:Jb ops=true) (I:(Nat→Bool)→Act→World→Prop)
  (hstep:∀(L:Nat→Bool) (i:Nat) (o:Oper) (a:Act) (w:World),ops[i]?=some o→L i=false→(∀e∈o.after,Region.binds .any e=true→L e.on=true)→I L a w →
   wpList P #[o] (Exit.then (fun a' w'=>I (fun j=>L j||j==i) a' w') Q) [o] a w)
  (hend:∀(L:Nat→Bool) (a:Act) (w:World),(∀i,i<ops.size→L i=true)→I L a w→Q .normal a w) :
  ∀(fuel:Nat) (listed:Array Bool) (L:Nat→Bool) (a:Act) (w:World),listed.size=ops.size→open_ ops listed≤fuel→(∀j,L j=listed.getD j false)→I L a w→wpAny P .any ops Q fuel listed a w:=by
 have fin:∀(listed:Array Bool) (L:Nat→Bool) (a:Act) (w:World),listed.size=ops.size→(∀j,L j=listed.getD j false)→I L a w→Region.ready .any ops listed=[]→Q .normal a w :=
  fun listed L a w hs hL h hr=>hend _ a w (fun i hi=>by rw [hL];exact Ev hB hr hs i hi) h
 intro fuel;induction fuel with
 | zero =>
  exact cl
 | succ fuel ih =>
  intro listed L a w hs hf hL h;refine⟨fin listed L a w hs hL h,fun i hi=>?_⟩;obtain⟨h1,o,ho,hall⟩:=mem_ready.1 hi;have hlt:=(Array.getElem?_eq_some_iff.1 ho).1;have hd:=yO hlt hs h1;have hg:=(Ec hB ho).1;have hls:i<listed.size:=gN;have hLi:L i=false:=by
   exact dV
  have hst:=hstep L i o a w ho hLi (fun e he hb=>by rw [hL];exact hall e he hb) h;have hw:∀t,Region.wanted o (yielded ops t)=true:=fun t=>by simp [Region.wanted,hg]
  have hw1:∀t,Region.wanted o (yielded #[o] t)=true:=fun t=>by simp [Region.wanted,hg]
  unfold wpOp;rw [ho];simp only [hw,if_true];unfold wpList at hst;rw [Jl (hw1 _)] at hst;have key:∀a' w',I (fun j=>L j||j==i) a' w'→wpAny P .any ops Q fuel (listed.setIfInBounds i true) a' w':=fun a' w' h' =>
   ih _ (fun j=>L j||j==i) a' w' (by simpa using hs) gN (fun j=>by
    by_cases hji:j=i
    ·subst hji
     simp [Array.getD_eq_getD_getElem?,hls]
    ·have e1:(j==i)=false:=JP.2 hji
     rw [e1,Bool.or_false,hL];simp only [Array.getD_eq_getD_getElem?];rw [Array.getElem?_setIfInBounds_ne (Ne.symm hji)]) h'
  exact ef
theorem xp {P:Program} {id:Nat} {ops:Array Oper} {Q:Exit→Act→World→Prop} {a:Act} {w:World} (hm:P.follows .mixedOrders=true) (hB:Jb ops=true) (I:(Nat→Bool)→Act→World→Prop)
  (h0:I (fun _=>false) a w.drew)
  (hstep:∀(L:Nat→Bool) (i:Nat) (o:Oper) (a:Act) (w:World),ops[i]?=some o→L i=false→(∀e∈o.after,Region.binds .any e=true→L e.on=true)→I L a w →
   wpList P #[o] (Exit.then (fun a' w'=>I (fun j=>L j||j==i) a' w') Q) [o] a w)
  (hend:∀(L:Nat→Bool) (a:Act) (w:World),(∀i,i<ops.size→L i=true)→I L a w→Q .normal a w):(Code.region id ops true).wp P Q a w :=
 wp_region_any hm (EH hB I hstep hend ops.size (Array.replicate ops.size false) (fun _=>false) a w.drew gU (by
  have:=List.length_filter_le (fun j=>!(Array.replicate ops.size false).getD j true) (List.range ops.size)
  simpa [open_] using this) (fun j=>by simp [Array.getD_eq_getD_getElem?,Array.getElem?_replicate];split<;>rfl) h0)
def lm (o:Oper) (L:Nat→Bool):Prop:=∀e∈o.after,Region.binds .any e=true→L e.on=true
def RelySteps (P:Program) (Q:Exit→Act→World→Prop) (I:(Nat→Bool)→Act→World→Prop):List Oper→Nat→Prop
 | [],_=>True
 | [o],_=>∀(L:Nat→Bool) (a:Act) (w:World),lm o L→I L a w→wpList P #[o] (Exit.then (fun a' w'=>Q .normal a' w') Q) [o] a w
 | o::rest,i=>(∀(L:Nat→Bool) (a:Act) (w:World),L i=false→lm o L→I L a w→wpList P #[o] (Exit.then (fun a' w'=>I (fun j=>L j||j==i) a' w') Q) [o] a w)∧RelySteps P Q I rest (i+1)
theorem RelySteps.last {P:Program} {Q:Exit→Act→World→Prop} {I:(Nat→Bool)→Act→World→Prop}:∀{l:List Oper} {k i:Nat} {o:Oper},RelySteps P Q I l k→l[i]?=some o→i+1=l.length →
  ∀(L:Nat→Bool) (a:Act) (w:World),lm o L→I L a w→wpList P #[o] (Exit.then (fun a' w'=>Q .normal a' w') Q) [o] a w
 | [],_,_,_,_,h,_=>by simp at h
 | [x],_,0,o,hs,h,_=>by simp at h;subst h;exact hs
 | [x],_,i+1,o,_,h,_=>by simp at h
 | x::y::l,k,0,o,_,_,hl=>by simp at hl
 | x::y::l,k,i+1,o,hs,h,hl=>RelySteps.last (l:=y::l) (k:=k+1) (i:=i) hs.2 gQ jU
theorem RelySteps.at_ {P:Program} {Q:Exit→Act→World→Prop} {I:(Nat→Bool)→Act→World→Prop}:∀{l:List Oper} {k i:Nat} {o:Oper},RelySteps P Q I l k→l[i]?=some o→i+1<l.length →
  ∀(L:Nat→Bool) (a:Act) (w:World),L (k+i)=false→lm o L→I L a w→wpList P #[o] (Exit.then (fun a' w'=>I (fun j=>L j||j==k+i) a' w') Q) [o] a w
 | [],_,_,_,_,h,_=>by simp at h
 | [x],_,i,o,_,_,hl=>by simp at hl
 | x::y::l,k,0,o,hs,h,_=>by simp at h;subst h;exact hs.1
 | x::y::l,k,i+1,o,hs,h,hl=>by
  have:=RelySteps.at_ (l:=y::l) (k:=k+1) (i:=i) hs.2 gQ jU
  rw [show k+(i+1)=k+1+i by omega];exact this
def relyL (ops:Array Oper):Bool:=Jb ops&&decide (0<ops.size)&&((ops[ops.size-1]?).map fun o=>(List.range (ops.size-1)).all fun i=>o.after.any fun e=>Region.binds .any e&&e.on==i).getD false
theorem wM {P:Program} {id:Nat} {ops:List Oper} {Q:Exit→Act→World→Prop} {a:Act} {w:World} (hm:P.follows .mixedOrders=true) (hB:relyL ops.toArray=true) (I:(Nat→Bool)→Act→World→Prop)
  (h0:I (fun _=>false) a w.drew) (hs:RelySteps P Q I ops 0):(Code.region id ops.toArray true).wp P Q a w:=by
 unfold relyL at hB;simp only [Jy,Jj] at hB;obtain⟨⟨hB1,hsz⟩,hB3⟩:=hB;obtain⟨n,hn⟩:∃n,ops.length=n+1:=⟨ops.length-1,by simp at hsz;omega⟩;have hsz2:ops.toArray.size=n+1:=by simpa using hn
 obtain⟨ol,hol⟩:∃ol,ops[n]?=some ol:=⟨_,Jn gN⟩;have hall:∀j,j<n→∃e∈ol.after,Region.binds .any e=true∧e.on=j:=by
  intro j hj;rw [hsz2] at hB3;simp only [Nat.add_sub_cancel,List.getElem?_toArray,hol,Option.map_some,Option.getD_some] at hB3;have h1:=List.all_eq_true.1 hB3 j (List.mem_range.2 hj);obtain⟨i,hi,h2,h3⟩:∃(i:Nat) (h:i<ol.after.size),Region.binds .any ol.after[i]=true∧ol.after[i].on=j:=by simpa using h1
  exact⟨ol.after[i],Array.getElem_mem hi,h2,h3⟩
 refine xp hm hB1 (fun L a w=>(L n=false→I L a w)∧(L n=true→(∀j,j<n→L j=true)∧Q .normal a w)) ⟨fun _=>h0,fun h=>by cases h⟩ ?_ ?_
 ·intro L i o a w ho hLi hde hI
  have ho':ops[i]?=some o:=by simpa using ho
  have hlt:i<n+1:=by have:=(Jx.1 ho').1;omega
  by_cases hin:i=n
  ·subst hin
   have hst:=hs.last ho' hn.symm L a w hde (hI.1 hLi);have hLall:∀j,j<i→L j=true:=fun j hj=>by
    obtain rfl:o=ol:=by rw [ho'] at hol;injection hol
    obtain⟨e,he,hb,hon⟩:=hall j hj;rw [←hon];exact hde e he hb
   unfold wpList at hst ⊢;split
   ·rename_i hw
    rw [Jl hw] at hst;refine hst.imp (fun h=>?_) (fun h=>h);refine uo (Oper.wp_mono (K':=wpList P #[o] _ []) ?_ h);intro a' w' h';refine⟨fun h=>by simp at h,fun _=>⟨fun j hj=>by simp [hLall j hj],h'⟩⟩
   ·rename_i hw
    rw [Jo hw] at hst;exact⟨fun h=>by simp at h,fun _=>⟨fun j hj=>by simp [hLall j hj],hst⟩⟩
  ·have hLn:L n=false:=by
    cases h:L n with
    | false=>rfl
    | true=>have:=(hI.2 h).1 i gN;rw [hLi] at this;cases this
   have hst:=hs.at_ ho' gN L a w (by simpa using hLi) hde (hI.1 hLn);have hni:(n==i)=false:=JP.2 (Ne.symm hin);simp only [Nat.zero_add] at hst;unfold wpList at hst ⊢;split
   ·rename_i hw
    rw [Jl hw] at hst;refine hst.imp (fun h=>?_) (fun h=>h);refine uo (Oper.wp_mono (K':=wpList P #[o] _ []) ?_ h);intro a' w' h';exact⟨fun _=>h',fun h=>by simp [hLn,hni] at h⟩
   ·rename_i hw
    rw [Jo hw] at hst;exact⟨fun _=>hst,fun h=>by simp [hLn,hni] at h⟩
 ·intro L a w hL hI
  exact(hI.2 (hL n gN)).2
theorem put_self (a:Act) (d:Nat):a.put (some d) (a.tmps.getD d undef)=a:=by
 have e:a.tmps.setIfInBounds d (a.tmps.getD d undef)=a.tmps:=by
  apply Array.ext_getElem?
  intro i;by_cases h:d=i
  ·subst h
   by_cases hd:d<a.tmps.size
   ·rw [Array.getElem?_setIfInBounds_self_of_lt hd,Array.getElem?_eq_getElem hd,Array.getD_eq_getD_getElem?,Array.getElem?_eq_getElem hd];rfl
   ·rw [Array.getElem?_eq_none it,Array.getElem?_eq_none it]
  ·rw [Array.getElem?_setIfInBounds_ne h]
 show ({ a with tmps:=a.tmps.setIfInBounds d (a.tmps.getD d undef) }:Act)=a
 rw [e]
def mW:List Nat→Nat→(Nat→Value)→Act→Act
 | [],_,_,a=>a
 | d::ds,k,V,a=>mW ds (k+1) V (a.put (some d) (V k))
theorem xC (a:Act):∀(ds:List Nat) (k:Nat) (V:Nat→Value),(∀i d,ds[i]?=some d→V (k+i)=a.tmps.getD d undef)→mW ds k V a=a
 | [],_,_,_=>rfl
 | d::ds,k,V,h=>by
  have h0:=h 0 d rfl;simp only [mW];rw [show V k=a.tmps.getD d undef from h0,put_self];exact xC a ds (k+1) V fun i d' hi=>by have:=h (i+1) d' (by simpa using hi);rw [show k+(i+1)=k+1+i by omega] at this;exact this
theorem nT (a:Act) (ds:List Nat):∃V:Nat→Value,a=mW ds 0 V a:=by
 refine⟨fun i=>a.tmps.getD (ds.getD i 0) undef,(xC a ds 0 _ fun i d hi=>?_).symm⟩;have e:ds.getD i 0=d:=by rw [List.getD_eq_getElem?_getD,hi];rfl
 simp only [Nat.zero_add,e]
def upd (V:Nat→Value) (i:Nat) (v:Value):Nat→Value:=fun j=>if j=i then v else V j
theorem pJ {P:Program} {id:Nat} {ops:List Oper} {Q:Exit→Act→World→Prop} {a:Act} {w:World} (hm:P.follows .mixedOrders=true) (hB:relyL ops.toArray=true) (I:Act→World→(Nat→Bool)→Act→World→Prop)
  (h0:I a w (fun _=>false) a w.drew) (hs:RelySteps P Q (I a w) ops 0):(Code.region id ops.toArray true).wp P Q a w :=
 wM hm hB (I a w) h0 hs
end Go.Proofs.YtdcnncgpomcaaaaGreatDoor
