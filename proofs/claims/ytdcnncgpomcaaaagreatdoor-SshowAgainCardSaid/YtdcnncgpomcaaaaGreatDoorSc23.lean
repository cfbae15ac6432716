/- Steps of a region that draws its order, on a frame that is not laid open. -/
import Derived.Test.YtdcnncgpomcaaaaGreatDoorSc22
import Derived.Test.YtdcnncgpomcaaaaGreatDoorSc21
set_option maxRecDepth 100000
set_option maxHeartbeats 4000000
namespace Go.Proofs.YtdcnncgpomcaaaaGreatDoor
open Go.RowKit
theorem uL (d:Nat) (ds:List Nat) (k:Nat) (V:Nat→Value) (a:Act):ms (d::ds) k V a=ms ds (k+1) V (a.put (some d) (V k)):=rfl
theorem zV:∀(ds:List Nat) (k:Nat) (V:Nat→Value) (a:Act),(ms ds k V a).tmps.size=a.tmps.size
 | [],_,_,_=>rfl
 | d::ds,k,V,a=>(zV ds (k+1) V _).trans (by simp [Act.put])
theorem sa:∀(ds:List Nat) (k:Nat) (V:Nat→Value) (a:Act) (t:Nat),t ∉ ds→(ms ds k V a).tmps[t]?=a.tmps[t]?
 | [],_,_,_,_,_=>rfl
 | d::ds,k,V,a,t,h=>by
  rw [uL,sa ds (k+1) V _ t (fun e=>h (Il _ e))];simp only [Act.put];rw [Array.getElem?_setIfInBounds_ne (fun e=>h (by simp [e]))]
theorem uS:∀(ds:List Nat) (k:Nat) (V:Nat→Value) (a:Act) (i t:Nat),ds.Nodup→ds[i]?=some t→t<a.tmps.size→(ms ds k V a).tmps[t]?=some (V (k+i))
 | [],_,_,_,i,t,_,h,_=>by simp at h
 | d::ds,k,V,a,0,t,hn,h,hs=>by
  simp at h;subst h
  rw [uL,sa ds (k+1) V _ _ (List.nodup_cons.1 hn).1];simp [Act.put,hs]
 | d::ds,k,V,a,i+1,t,hn,h,hs=>by
  rw [uL,uS ds (k+1) V _ i t (List.nodup_cons.1 hn).2 gu (by simpa [Act.put] using hs)];rw [show k+1+i=k+(i+1) by omega]
theorem rW:∀(ds:List Nat) (k:Nat) (V:Nat→Value) (a:Act),(ms ds k V a).defers=a.defers
 | [],_,_,_=>rfl
 | _::ds,k,V,_=>(rW ds (k+1) V _).trans rfl
theorem puts_put (ds:List Nat) (V:Nat→Value) (a:Act) (i t:Nat) (v:Value) (hn:ds.Nodup) (h:ds[i]?=some t) (hb:∀d∈ds,d<a.tmps.size):(ms ds 0 V a).put (some t) v=ms ds 0 (upd V i v) a:=by
 have e:((ms ds 0 V a).put (some t) v).tmps=(ms ds 0 (upd V i v) a).tmps:=by
  apply Array.ext_getElem?
  intro j;simp only [Act.put];have ht:=hb t (In h);by_cases hjt:t=j
  ·subst hjt
   rw [Array.getElem?_setIfInBounds_self_of_lt (by rw [zV];exact ht),uS ds 0 _ a i t hn h ht];simp [upd]
  ·rw [Array.getElem?_setIfInBounds_ne hjt]
   by_cases hj:j∈ds
   ·obtain⟨m,hm⟩:=List.getElem?_of_mem hj
    rw [uS ds 0 _ a m j hn hm (hb j hj),uS ds 0 _ a m j hn hm (hb j hj)];have:m≠i:=fun e=>by subst e;rw [hm] at h;injection h with h;exact hjt h.symm
    simp [upd,this]
   ·rw [sa ds 0 _ a j hj,sa ds 0 _ a j hj]
 have key:∀x y:Act,x.tmps=y.tmps→x.defers=y.defers→x=y:=fun x y h h'=>by cases x;cases y;simp only at h h';subst h;subst h';rfl
 refine key _ _ e ?_;show (ms ds 0 V a).defers=_
 rw [rW,rW]
structure Fm2 (ds:List Nat) (V:Nat→Value) (A0 a:Act):Prop where
 eq:a=ms ds 0 V A0
theorem Fm2.ins {ds:List Nat} {V:Nat→Value} {A0 a:Act} (h:Fm2 ds V A0 a) (hn:ds.Nodup) (hb:∀d∈ds,d<A0.tmps.size) (i:Nat) {t:Nat} (hi:ds[i]?=some t):a.tmps[t]?=some (V i):=by
 rw [h.eq,uS ds 0 V A0 i t hn hi (hb t (In hi))];simp
theorem Fm2.out {ds:List Nat} {V:Nat→Value} {A0 a:Act} (h:Fm2 ds V A0 a) {t:Nat} (ht:t ∉ ds):a.tmps[t]?=A0.tmps[t]?:=by
 rw [h.eq,sa ds 0 V A0 t ht]
theorem Fm2.put {ds:List Nat} {V:Nat→Value} {A0 a:Act} (h:Fm2 ds V A0 a) (hn:ds.Nodup) (hb:∀d∈ds,d<A0.tmps.size) (i:Nat) {t:Nat} (hi:ds[i]?=some t) (v:Value):Fm2 ds (upd V i v) A0 (a.put (some t) v):=⟨by rw [h.eq,puts_put ds V A0 i t v hn hi hb]⟩
theorem Fm2.skip {ds:List Nat} {V:Nat→Value} {A0 a:Act} (h:Fm2 ds V A0 a) (v:Value):Fm2 ds V A0 (a.put none v):=h
theorem lx {a:Act} {t:Nat} {v:Value} (h:a.tmps[t]?=some v):a.eval (.tmp t)=v:=by
 simp [Act.eval,Array.getD_eq_getD_getElem?,h]
theorem kH {o:Oper} {y:Nat→Option Bool} (h:o.guard=none):Region.wanted o y=true:=by simp [Region.wanted,h]
theorem na {ops:Array Oper} {a:Act} {g d:Nat} {b:Bool} (h1:(ops[g]?).bind (·.dst)=some d) (h2:a.tmps[d]?=some (.bool b)):yielded ops a.tmps g=some b:=by
 unfold yielded;rw [h1];simp [h2]
theorem lN {ops:Array Oper} {a:Act} {o:Oper} {g:Nat} {b:Bool} (h:o.guard=some (g,b)) (h2:yielded ops a.tmps g=some b):Region.wanted o (yielded ops a.tmps)=true:=by simp [Region.wanted,h,h2]
theorem lM {ops:Array Oper} {a:Act} {o:Oper} {g:Nat} {b c:Bool} (h:o.guard=some (g,b)) (h2:yielded ops a.tmps g=some c) (hbc:c≠b):Region.wanted o (yielded ops a.tmps)=false:=by simp [Region.wanted,h,h2,hbc]
section
variable {P:Program} {ops:Array Oper} {Q:Exit→Act→World→Prop} {K:Act→World→Prop} {o:Oper} {a:Act} {w:World}
theorem oi (hw:Region.wanted o (yielded ops a.tmps)=false) (h:K (a.put o.dst undef) w):wpList P ops (Exit.then K Q) [o] a w:=by
 unfold wpList;rw [hw];exact h
theorem lr {v:Value} {w':World} (hw:Region.wanted o (yielded ops a.tmps)=true) (hr:(execOp a.eval o).run P w=.ok (.value v) w') (h:K (a.put o.dst v) w'):wpList P ops (Exit.then K Q) [o] a w:=by
 unfold wpList;rw [Hu hw];refine .inl ?_;unfold Oper.wp;rw [hr];exact h
theorem pP {f:FuncId} {args:Array Value} (hw:Region.wanted o (yielded ops a.tmps)=true) (hr:(execOp a.eval o).run P w=.ok (.enter f args) w) (hc:Calls P f args w fun e w'=>∃v,e=.returned v∧K (a.put o.dst v) w'):wpList P ops (Exit.then K Q) [o] a w:=by
 unfold wpList;rw [Hu hw];refine .inl ?_;unfold Oper.wp;rw [hr];exact hc.mono fun e w' ⟨v,he,hk⟩=>by subst he;exact hk
theorem nn {x:Operand} (ho:o.op=.move x∨o.op=.assign x):(execOp a.eval o).run P w=.ok (.value (a.eval x)) w:=by
 unfold execOp;rcases ho with h|h<;>rw [h]<;>rfl
theorem EN {x:Operand} {ad:Addr} (ho:o.op=.nilCheck x) (hx:a.eval x=.pointer (some ad)):(execOp a.eval o).run P w=.ok (.value (.pointer (some ad))) w:=by
 unfold execOp;rw [ho];simp only [hx];rfl
theorem pS {f:FuncId} {args:Array Operand} {tys:Array TypeId} {fn:Func} {vs:Array Value} (ho:o.op=.call { callee:=.value (.func f),args:=args,argTypes:=tys })
  (hf : P.funcs[f]? = some fn) (hn : (fn.name == "runtime.NumGoroutine" || fn.body.isNone) = false) (hvs : args.map a.eval = vs) : (execOp a.eval o).run P w = .ok (.enter f vs) w := by
 subst hvs;simp only [Bool.or_eq_false_iff] at hn;have h1 : fn.name ≠ "runtime.NumGoroutine" := by simpa using hn.1
 have h2:fn.body≠none:=by cases hb:fn.body with
  | none=>rw [hb] at hn;simp at hn
  | some _=>simp
 unfold execOp;simp only [ho,resolve,invoke,Sem.run_bind,Act.eval];simp [Deferred.ofValue,callFunc,hf,h1,h2]
theorem yN {c x y:Operand} {b:Bool} (ho:o.op=.pick c x y) (hc:a.eval c=.bool b):(execOp a.eval o).run P w=.ok (.value (if b then a.eval x else a.eval y)) w:=by
 unfold execOp;rw [ho];simp only [hc];cases b<;>rfl
end
theorem Df:∀(cc:List Value) (arr:Array Value) (k:Nat),(List.foldl (fun(cs:Array Value) (x:Value × Nat)=>cs.setIfInBounds x.2 x.1) arr (cc.zipIdx k)).size=arr.size ∧
  ∀j,(List.foldl (fun(cs:Array Value) (x:Value × Nat)=>cs.setIfInBounds x.2 x.1) arr (cc.zipIdx k))[j]?=if k≤j∧j<k+cc.length∧j<arr.size then cc[j-k]? else arr[j]?
 | [],arr,k=>⟨rfl,fun j=>by rw [Hx gD];rfl⟩
 | c::cc,arr,k=>by
  obtain⟨h1,h2⟩:=Df cc (arr.setIfInBounds k c) (k+1);simp only [List.zipIdx_cons,Iv];refine⟨by rw [h1];simp,fun j=>?_⟩;rw [h2 j];simp only [Array.size_setIfInBounds,H7];by_cases hj:k=j
  ·subst hj
   rw [Hx gj];by_cases hs:k<arr.size
   ·rw [Hu ⟨Ia _,by omega,hs⟩];simp [hs]
   ·rw [Hx gj]
    rw [Array.getElem?_eq_none (by simpa using hs),Array.getElem?_eq_none (by simpa using hs)]
  ·by_cases hr:k+1≤j∧j<k+1+cc.length∧j<arr.size
   ·rw [Hu hr,Hu gj,show j-k=(j-(k+1))+1 by omega];simp
   ·rw [Hx hr,Hx gj,Array.getElem?_setIfInBounds_ne hj]
theorem fold_all {cc:List Value} {arr:Array Value} (h:cc.length=arr.size):List.foldl (fun(cs:Array Value) (x:Value × Nat)=>cs.setIfInBounds x.2 x.1) arr cc.zipIdx=cc.toArray:=by
 obtain⟨h1,h2⟩:=Df cc arr 0;apply Array.ext_getElem?
 intro j;rw [h2 j];by_cases hj:j<arr.size
 ·rw [Hu gj];simp
 ·rw [Hx gj,Array.getElem?_eq_none gj,Array.getElem?_eq_none gD]
theorem upd_c {VC:Nat→Value→Prop} {V:Nat→Value} {L:Nat→Bool} (H:∀j,L j=true→VC j (V j)) (k:Nat) {v:Value} (hv:VC k v):∀j,(L j||j==k)=true→VC j (upd V k v j):=by
 intro j hj;unfold upd;by_cases e:j=k
 ·subst e;rw [Hu rfl];exact hv
 ·rw [Hx e]
  have e1:(j==k)=false:=Iu.2 e;rw [e1,Bool.or_false] at hj;exact H j hj
theorem upd_ne {V:Nat→Value} {k j:Nat} {v:Value} (h:j≠k):upd V k v j=V j:=by unfold upd;rw [Hx h]
theorem upd_at {V:Nat→Value} {k:Nat} {v:Value}:upd V k v k=v:=by unfold upd;rw [Hu rfl]
theorem lor_ne {L:Nat→Bool} {k j:Nat} (h:j≠k):(L j||j==k)=L j:=by rw [Iu.2 h,Bool.or_false]
structure OneE (M:Nat) (W0:World) (PM:Value→World→Prop) (VC:Nat→Value→Prop) (V:Nat→Value) (L:Nat→Bool) (w':World):Prop where
 h0:L M=false→w'=W0
 h1:L M=true→PM (V M) w'
 vs:∀j,L j=true→VC j (V j)
theorem OneE.start (M:Nat) (W0:World) (PM:Value→World→Prop) (VC:Nat→Value→Prop) (V:Nat→Value):OneE M W0 PM VC V (fun _=>false) W0:=⟨fun _=>rfl,(fun h=>by cases h),(fun _ h=>by cases h)⟩
theorem OneE.pure {M:Nat} {W0:World} {PM:Value→World→Prop} {VC:Nat→Value→Prop} {V:Nat→Value} {L:Nat→Bool} {w':World} (h:OneE M W0 PM VC V L w') (k:Nat) {v:Value} (hk:M≠k) (hv:VC k v):OneE M W0 PM VC (upd V k v) (fun j=>L j||j==k) w' :=
 ⟨fun e=>h.h0 ((lor_ne (L:=L) hk).symm.trans e),fun e=>by rw [upd_ne hk];exact h.h1 ((lor_ne (L:=L) hk).symm.trans e),upd_c h.vs k hv⟩
theorem OneE.event {M:Nat} {W0:World} {PM:Value→World→Prop} {VC:Nat→Value→Prop} {V:Nat→Value} {L:Nat→Bool} {w' w2:World} (h:OneE M W0 PM VC V L w') {v:Value} (hM:PM v w2) (hv:VC M v):OneE M W0 PM VC (upd V M v) (fun j=>L j||j==M) w2 :=
 ⟨fun e=>by simp at e,fun _=>by rw [upd_at];exact hM,upd_c h.vs M hv⟩
theorem ex_len {o:Oper} {a:Act} {w:World} {t:Nat} {s:Str} (ho:o.op=.call { callee:=.builtin .len,args:=#[.tmp t],argTypes:=#[9] }) (e:a.tmps[t]?=some (.string ⟨s.toArray⟩)) (_h:s.length≤1000000):(execOp a.eval o).run Tryz.prog w=.ok (.value (.int .i64 (s.length:Int))) w:=by
 simp only [execOp,ho];go_simp
theorem ex_lss {o:Oper} {a:Act} {w:World} {x y:Nat} {j n:Nat} {ty:TypeId} (ho:o.op=.binOp .lss 3 (.tmp x) (.tmp y) ty) (e1:a.tmps[x]?=some (.int .i64 (j:Int))) (e2:a.tmps[y]?=some (.int .i64 (n:Int))):(execOp a.eval o).run Tryz.prog w=.ok (.value (.bool (decide (j<n)))) w:=by
 simp only [execOp,ho];go_simp
theorem pU {o:Oper} {a:Act} {w:World} {t:Nat} {ad:Addr} {u:Value} {ty:TypeId} (ho:o.op=.load ty (.tmp t)) (e:a.tmps[t]?=some (.pointer (some ad))) (hr:(Instr.loadAt ty (.pointer (some ad))).run Tryz.prog w=.ok u w):(execOp a.eval o).run Tryz.prog w=.ok (.value u) w:=by
 have e2:=lx e;simp only [execOp,ho,e2];simp [hr,Result.andThen]
theorem ex_bs {o:Oper} {a:Act} {w w':World} {t:TypeId} {n:Nat} {parts:Array (Nat × Operand)} {vs:Array (Nat × Value)} {v:Value} (ho:o.op=.buildSlice t n parts) (hvs:parts.map (fun(i,x)=>(i,a.eval x))=vs) (hr:(Instr.buildSlice t n vs).run Tryz.prog w=.ok v w'):(execOp a.eval o).run Tryz.prog w=.ok (.value v) w':=by
 subst hvs;simp only [execOp,ho];simp [hr,Result.andThen]
theorem ld_int {w:World} {ad:Addr} {n:Int} (h:w.cell? ad=some (.int .i64 n)):(Instr.loadAt 3 (.pointer (some ad))).run Tryz.prog w=.ok (.int .i64 n) w:=by go_simp
theorem ld_str {w:World} {ad:Addr} {s:Str} (h:w.cell? ad=some (.string ⟨s.toArray⟩)):(Instr.loadAt 9 (.pointer (some ad))).run Tryz.prog w=.ok (.string ⟨s.toArray⟩) w:=by go_simp
theorem lT {P:Program} {id:Nat} {ops:List Oper} {Q:Exit→Act→World→Prop} {a:Act} {w:World} (n:Nat) (hm:P.follows .mixedOrders=true) (hB:E8 ops.toArray n=true) (I:Act→World→(Nat→Bool)→Act→World→Prop)
  (h:∀A0,Hid (A0=a)→I A0 w (fun _=>false) A0 w.drew∧RelyStepsT P ops.toArray Q (I A0 w) (ops.take n) 0∧∀L a' w',(∀j,j<n→L j=true)→I A0 w L a' w'→wpList P ops.toArray Q (ops.drop n) a' w'):(Code.region id ops.toArray true).wp P Q a w:=by
 obtain⟨h0,h1,h2⟩:=h a (ab rfl);exact vh n hm hB I h0 h1 h2
theorem FG:(Tryz.prog.info? 9).map (fun i=>(i.zero,i.size,i.bytes))=some (some (.string ⟨#[]⟩),1,16):=by kernel_rfl
theorem Ee (l:List Str):∀u∈l8 l,u.oneCell'=true:=fun u hu=>by
 simp only [l8,List.mem_map] at hu;obtain⟨_,_,rfl⟩:=hu;rfl
theorem Ah (a:Option Addr) (n c:Nat) (l:List Str) (w:World) (hl:n=l.length) (h:Sl w w.heap.size a 1 n (l8 l)) (hn:n≤1000000) :
  Calls Tryz.prog 44 #[.slice a n c] w fun e w'=>∃a' c',e=.returned (.slice a' n c')∧SlS w' (fun b=>w.heap.size≤b) a' 1 n (l8 l)∧Below w.heap.size w w':=by
 subst hl;obtain⟨ir,hir⟩:=info_parts FG;cases a with
 | none =>
  have h0:l=[]:=by
   exact dC
  subst h0;have hq:(binOp .eql 42 (.slice none 0 c) (.slice none 0 0)).run Tryz.prog w=.ok (.bool true) w:=Go.run_eql_slice_nil w _ _ none 0 c Tryz.underlying42;go_enter Tryz.func44,Tryz.ntmps44
  exact dz
 | some ad =>
  have HS:=ab (h.alloc_self (.cells #[] 9));have hq:(binOp .eql 42 (.slice (some ad) l.length c) (.slice none 0 0)).run Tryz.prog w=.ok (.bool false) w:=Go.run_eql_slice_nil w _ _ (some ad) _ c Tryz.underlying42;clear h;go_enter Tryz.func44,Tryz.ntmps44
  go_wp2_with (at_builtin;refine lg w.heap.size 9 rfl _ _ 42 rfl Tryz.underlying42 hir rfl gv rfl (World.ownsRow_made w #[] 0 (Ia _) (by simp [maxLen]) rfl) rfl HS.out (Ee l) gj gj gv gz ?_)
  exact bW
theorem Bk (a:Option Addr) (n c:Nat) (l:List Fm) (w:World) (hl:n=l.length) (h:Sl w w.heap.size a 5 n (l5 l)) (hn:n≤1000000) :
  Calls Tryz.prog 61 #[.slice a n c] w fun e w'=>∃a' c',e=.returned (.slice a' n c')∧SlS w' (fun b=>w.heap.size≤b) a' 5 n (l5 l)∧Below w.heap.size w w':=by
 subst hl;obtain⟨ir,hir⟩:=info_parts BW;cases a with
 | none =>
  have h0:l=[]:=by
   exact dC
  subst h0;have hq:(binOp .eql 39 (.slice none 0 c) (.slice none 0 0)).run Tryz.prog w=.ok (.bool true) w:=Go.run_eql_slice_nil w _ _ none 0 c Tryz.underlying39;go_enter Tryz.func61,Tryz.ntmps61
  exact dz
 | some ad =>
  have HS:=ab (h.alloc_self (.cells #[] 95));have hq:(binOp .eql 39 (.slice (some ad) l.length c) (.slice none 0 0)).run Tryz.prog w=.ok (.bool false) w:=Go.run_eql_slice_nil w _ _ (some ad) _ c Tryz.underlying39;clear h;go_enter Tryz.func61,Tryz.ntmps61
  go_wp2_with (at_builtin;refine lg w.heap.size 95 rfl _ _ 39 rfl Tryz.underlying39 hir rfl gv rfl (World.ownsRow_made w #[] 0 (Ia _) (by simp [maxLen]) rfl) rfl HS.out (By l) gj gj gv gz ?_)
  exact bW
theorem nY:(Tryz.prog.info? 41).map (·.size)=some 11:=by kernel_rfl
theorem EP:(Tryz.prog.info? 38).map (·.size)=some 8:=by kernel_rfl
theorem ma:Tryz.prog.underlying 41=some (.struct (Tryz.prog.fieldsOf 41)):=by kernel_rfl
theorem lK:Tryz.prog.underlying 38=some (.struct (Tryz.prog.fieldsOf 38)):=by kernel_rfl
def RxP (B:Nat) (X:Rx):Value→World→Prop:=fun v W=>∃rc',v=.agg rc'.toArray∧RxV W (fun b=>B≤b) rc' X
def SlP (B sz n:Nat) (cs:List Value):Value→World→Prop:=fun v W=>∃a c,v=.slice a n c∧SlS W (fun b=>B≤b) a sz n cs
def XFs (B b1:Nat) (rc:List Value) (X:Rx) (fa:Option Addr) (fcp:Nat) (fs:List Fm):List (Value→World→Prop) :=
 [eqP (.pointer (some ⟨b1,0,none⟩)),eqP (.agg rc.toArray),RxP B X,eqP (.pointer (some ⟨b1,8,none⟩)),eqP (.slice fa fs.length fcp),SlP B 5 fs.length (l5 fs),eqP (.pointer (some ⟨b1,0,none⟩))]
theorem RxP.mono {B:Nat} {X:Rx} (v:Value) (w w':World) (hb:Below w.heap.size w w') (h:RxP B X v w):RxP B X v w':=by
 obtain⟨rc',h1,h2⟩:=h;exact⟨rc',h1,h2.later hb⟩
theorem SlP.mono {B sz n:Nat} {cs:List Value} (v:Value) (w w':World) (hb:Below w.heap.size w w') (h:SlP B sz n cs v w):SlP B sz n cs v w':=by
 obtain⟨a,c,h1,h2⟩:=h;exact⟨a,c,h1,h2.keep (Kept.all hb)⟩
theorem XFs_mono (B b1:Nat) (rc:List Value) (X:Rx) (fa:Option Addr) (fcp:Nat) (fs:List Fm):MonoF (XFs B b1 rc X fa fcp fs) :=
 .eq (.eq (.cons RxP.mono (.eq (.eq (.cons SlP.mono (.eq .nil))))))
def XRI (B b1:Nat) (rc:List Value) (X:Rx) (fa:Option Addr) (fcp:Nat) (fs:List Fm) (A0:Act) (W0:World) (L:Nat→Bool) (a:Act) (w':World):Prop :=
 ∃V:Nat→Value,Fm2 [3,4,5,6,7,8,9] V A0 a∧BelI W0 (XFs B b1 rc X fa fcp fs) V L w'
theorem vE {w0 w:World} {b:Nat} (h:Below w0.heap.size w0 w) (hb:w0.heap.size≤b):∀(vs:List Value) (o:Nat),Below w0.heap.size w0 (setsL b o vs w):=by
 intro vs;induction vs generalizing w with
 | nil=>intro o;exact h
 | cons v r ih=>intro o;exact ih (h.setCell hb _) (o+1)
theorem tJ {w0 w:World} {b:Nat} (h:Below w0.heap.size w0 w) (hb:w0.heap.size≤b) (cs:Array Value):Below w0.heap.size w0 (w.setRow b cs) :=
 ⟨h.os,h.tape,h.output,by rw [vu];exact h.size,fun k hk=>(mE cs gj).trans (h.block k hk)⟩
theorem res_box1 {fn:Func} {p:Tmp} {ty t:TypeId} {tmps:Array Value} {w:World} {b:Nat} {cs:Array Value} {f:Nat × Nat} {fs:Array Field} {n:Nat} (hr:fn.results=#[.cell p ty]) (hu:Tryz.prog.underlying ty=some (.struct fs)) (hi:(Tryz.prog.info? ty).map (·.size)=some n)
  (h:w.heap[b]?=some (.cells cs t f)) (hn:cs.size=n) (hp:tmps.getD p undef=.pointer (some ⟨b,0,none⟩)):(results fn tmps).run Tryz.prog w=.ok (.agg cs) w:=by
 subst hn;exact results_cell_row hr tmps w b t cs f _ hp h hu rfl hi
theorem D3 (S:Nat→Prop) (f:Tf) (hsm:f.small) (fc:List Value) (w:World) (hv:TfV w S fc f) :
  Calls Tryz.prog 43 #[.agg fc.toArray] w fun e w'=>∃fc',e=.returned (.agg fc'.toArray)∧TfV w' (fun b=>w.heap.size≤b) fc' f∧Below w.heap.size w w':=by
 obtain⟨rk,rch,rng,rrs,rlo,rhi,rlz,rks,ra,rcp,rka,rkc,fa,fcp,hc⟩:=hv.open_;obtain⟨X,fs,fd,al⟩:=f;obtain⟨hx,hp,hfs⟩:=hsm;have hxe:X=.mk rk rch rng rrs rlo rhi rlz rks:=hc.rx;obtain⟨W0,hW0⟩:∃W0,W0=(w.alloc (.cells fc.toArray 41)).alloc (.cells #[.int .i64 0,.string ⟨#[]⟩,.bool false,.slice none 0 0,.int .i64 0,.int .i64 0,.bool false,.slice none 0 0,.slice none 0 0,.bool false,.bool false] 41):=⟨_,rfl⟩;have hb0:Below w.heap.size w W0:=by rw [hW0];exact((Below.refl _ _).alloc (Ia _) _).alloc gz _
 have hz0:W0.heap.size=w.heap.size+2:=by rw [hW0];simp
 have HB1:Hid (W0.heap[w.heap.size]?=some (.cells fc.toArray 41 (0,0))):=ab gL;have HB2:Hid (W0.heap[w.heap.size+1]?=some (.cells #[.int .i64 0,.string ⟨#[]⟩,.bool false,.slice none 0 0,.int .i64 0,.int .i64 0,.bool false,.slice none 0 0,.slice none 0 0,.bool false,.bool false] 41 (0,0))):=ab (by
  have:=heap_alloc_new (w.alloc (.cells fc.toArray 41)) (.cells #[.int .i64 0,.string ⟨#[]⟩,.bool false,.slice none 0 0,.int .i64 0,.int .i64 0,.bool false,.slice none 0 0,.slice none 0 0,.bool false,.bool false] 41)
  rw [hW0];simpa using this)
 have HXV:Hid (RxV W0 S (rxc rk rch rng ra rrs.length rcp rlo rhi rlz rka rks.length rkc) X):=ab (hxe▸hc.rv.later hb0);have HFS:Hid (SlS W0 S fa 5 fs.length (l5 fs)):=ab (hc.fv.keep (Kept.all hb0));have HXS:=ab hx;obtain⟨rc,hrc⟩:∃rc,rc=rxc rk rch rng ra rrs.length rcp rlo rhi rlz rka rks.length rkc:=⟨_,rfl⟩;have hl8:rc.length=8:=by rw [hrc];rfl
 have hfce:fc=[.int .i64 rk,.string ⟨rch.toArray⟩,.bool rng,.slice ra rrs.length rcp,.int .i64 rlo,.int .i64 rhi,.bool rlz,.slice rka rks.length rkc,.slice fa fs.length fcp,.bool fd,.bool al]:=hc.eq;subst hfce;have HW0:=ab hW0;have HRC:=ab hrc;clear hv hc hx hxe hW0;go_enter Tryz.func43,Tryz.ntmps43
 go_upto_region 1 with fail
 rw [←HW0.out];refine lT 7 gC gC (fun A0 W0 L a w'=>XRI (w.heap.size+2) w.heap.size rc X fa fcp fs A0 W0 L a w') ?_;intro A0 HA;have hsz:A0.tmps.size=12:=by rw [HA.out];rfl
 have hnd:[3,4,5,6,7,8,9].Nodup:=gv;have hbd:∀d∈[3,4,5,6,7,8,9],d<A0.tmps.size:=by rw [hsz];decide
 have e1:A0.tmps[1]?=some (.pointer (some ⟨w.heap.size,0,none⟩)):=by rw [HA.out];rfl
 have hM:=XFs_mono (w.heap.size+2) w.heap.size rc X fa fcp fs;have hbx:∀w',Below W0.heap.size W0 w'→w'.heap[w.heap.size]?=some (.cells (rc++[Value.slice fa fs.length fcp,Value.bool fd,Value.bool al]).toArray 41 (0,0)):=fun w' h=>by rw [HRC.out];exact(h.block _ (ky HB1.out)).trans HB1.out
 refine⟨?_,?_,?_⟩
 ·obtain⟨V,hV⟩:=nd A0 [3,4,5,6,7,8,9]
  exact⟨V,⟨hV⟩,BelI.start _ _ _⟩
 ·refine⟨?_,?_,?_,?_,?_,?_,?_,trivial⟩
  ·intro L a w' hL hd hI
   obtain⟨V,hf,hB⟩:=hI;simp [kL,Region.binds] at hd
   have e:=lx ((hf.out (t:=1) gv).trans e1);refine lr (kH rfl) (v:=.pointer (some ⟨w.heap.size,0,none⟩)) (w':=w') gO ?_;exact ei
  ·intro L a w' hL hd hI
   obtain⟨V,hf,hB⟩:=hI;simp [kL,Region.binds] at hd
   refine kA rfl 38 (.tmp 3) rfl w.heap.size 0 (lx ((hf.ins hnd hbd 0 rfl).trans (Hy some (show V 0=.pointer (some ⟨w.heap.size,0,none⟩) from hB.at_ 0 gE)))) rc _ (kG (hbx w' hB.ext)) lK rfl (by rw [EP,hl8]) ?_;exact dn
  ·intro L a w' hL hd hI
   obtain⟨V,hf,hB⟩:=hI;simp [kL,Region.binds] at hd
   have e:=(lx ((hf.ins hnd hbd 1 rfl).trans (Hy some (show V 1=.agg rc.toArray from hB.at_ 1 gE))));have hxv:=HXV.out.later hB.ext;rw [←HRC.out] at hxv;refine pP (kH rfl) (pS (vs:=#[.agg rc.toArray]) rfl Tryz.func60 gC gT) ((vr S X.parts X (Ia _) HXS.out rc w' hxv).mono ?_);rintro e9 w9 ⟨rc',rfl,hv9,hb9⟩;refine⟨_,rfl,?_⟩;exact⟨_,hf.put hnd hbd 2 rfl _,hB.step hM 2 hb9 ⟨rc',rfl,hv9.mono fun b hb _=>by have:=hB.ext.size;have:w'.heap.size≤b:=hb;show w.heap.size+2≤b;omega⟩⟩
  ·intro L a w' hL hd hI
   obtain⟨V,hf,hB⟩:=hI;simp [kL,Region.binds] at hd
   have e:=lx ((hf.out (t:=1) gv).trans e1);refine lr (kH rfl) (v:=.pointer (some ⟨w.heap.size,8,none⟩)) (w':=w') gO ?_;exact el
  ·intro L a w' hL hd hI
   obtain⟨V,hf,hB⟩:=hI;simp [kL,Region.binds] at hd
   have e:=(hf.ins hnd hbd 3 rfl).trans (Hy some (show V 3=.pointer (some ⟨w.heap.size,8,none⟩) from hB.at_ 3 gE));have hcell:w'.cell? ⟨w.heap.size,8,none⟩=some (.slice fa fs.length fcp):=by rw [Ic (hbx w' hB.ext)];simp [hl8]
   refine lr (kH rfl) (pU rfl e (u:=.slice fa fs.length fcp) kq) ?_;exact⟨_,hf.put hnd hbd 4 rfl _,hB.same hM 4 rfl⟩
  ·intro L a w' hL hd hI
   obtain⟨V,hf,hB⟩:=hI;simp [kL,Region.binds] at hd
   have e:=(lx ((hf.ins hnd hbd 4 rfl).trans (Hy some (show V 4=.slice fa fs.length fcp from hB.at_ 4 gE))));refine pP (kH rfl) (pS (vs:=#[.slice fa fs.length fcp]) rfl Tryz.func61 gC gT) ((Bk fa fs.length fcp fs w' rfl (HFS.out.keep (Kept.all hB.ext)).sl hfs).mono ?_);rintro e9 w9 ⟨a9,c9,rfl,hv9,hb9⟩;refine⟨_,rfl,?_⟩;exact⟨_,hf.put hnd hbd 5 rfl _,hB.step hM 5 hb9 ⟨a9,c9,rfl,hv9.mono fun b hb _=>by have:=hB.ext.size;have:w'.heap.size≤b:=hb;show w.heap.size+2≤b;omega⟩⟩
  ·intro L a w' hL hd hI
   obtain⟨V,hf,hB⟩:=hI;simp [kL,Region.binds] at hd
   have e:=lx ((hf.out (t:=1) gv).trans e1);refine lr (kH rfl) (v:=.pointer (some ⟨w.heap.size,0,none⟩)) (w':=w') gO ?_;exact⟨_,hf.put hnd hbd 6 rfl _,hB.same hM 6 rfl⟩
 ·intro L a w' hL hI
  obtain⟨V,hf,hB⟩:=hI;obtain⟨rc',hv2,hxv⟩:=(show RxP (w.heap.size+2) X (V 2) w' from hB.at_ 2 (hL 2 gv));obtain⟨a9,c9,hv5,hsv⟩:=(show SlP (w.heap.size+2) 5 fs.length (l5 fs) (V 5) w' from hB.at_ 5 (hL 5 gv));have hv6:V 6=.pointer (some ⟨w.heap.size,0,none⟩):=hB.at_ 6 (hL 6 gv);have hbx':=hbx w' hB.ext;have hby:=(hB.ext.block _ (ky HB2.out)).trans HB2.out;have hbw:=bel2 hb0 hB.ext;have ha:=hf.eq;have hA:=HA.out;obtain⟨qk,qch,qng,qrs,qlo,qhi,qlz,qks⟩:=X;obtain⟨qa,qc,qb,qd,rfl,hq1,hq2⟩:=hxv.open_;unfold rxc at hv2;have HXV':=ab (RxV.close (k:=qk) (c:=qch) (ng:=qng) (lo:=qlo) (hi:=qhi) (lz:=qlz) (rc:=qc) (kc:=qd) hq1 hq2);have HSV:=ab hsv;have HBW:=ab hbw;have HBX:=ab hbx';have HBY:=ab hby;have hzw:=hB.ext.size;subst ha;subst hA;simp only [ms,hv2,hv5,hv6,List.drop_succ_cons,ID];rw [HRC.out] at HBX;have hbx:=HBX.out;unfold rxc at hbx;clear hf hB hM hbd hsz e1 HA hv2 hv5 hv6 hxv hsv hq1 hq2 hbx' hby hL HB1 HB2 HXV HFS HXS HW0;have z0:=kz hbx 0 rfl;have z1:=kz hbx 1 rfl;have z2:=kz hbx 2 rfl;have z3:=kz hbx 3 rfl;have z4:=kz hbx 4 rfl;have z5:=kz hbx 5 rfl;have z6:=kz hbx 6 rfl;have z7:=kz hbx 7 rfl;have z8:=kz hbx 8 rfl;have zf:=lP hbx;obtain⟨W7,hW7⟩:∃W7,W7=(((((((((w'.setCell ⟨w.heap.size,0,none⟩ (.int .i64 qk)).setCell ⟨w.heap.size,1,none⟩ (.string ⟨qch.toArray⟩)).setCell ⟨w.heap.size,2,none⟩ (.bool qng)).setCell ⟨w.heap.size,3,none⟩ (.slice qa qrs.length qc)).setCell ⟨w.heap.size,4,none⟩ (.int .i64 qlo)).setCell ⟨w.heap.size,5,none⟩ (.int .i64 qhi)).setCell ⟨w.heap.size,6,none⟩ (.bool qlz)).setCell ⟨w.heap.size,7,none⟩ (.slice qb qks.length qd)).setCell ⟨w.heap.size,8,none⟩ (.slice a9 fs.length c9)):=⟨_,rfl⟩;have hW7':W7=setsL w.heap.size 0 [.int .i64 qk,.string ⟨qch.toArray⟩,.bool qng,.slice qa qrs.length qc,.int .i64 qlo,.int .i64 qhi,.bool qlz,.slice qb qks.length qd,.slice a9 fs.length c9] w':=hW7;have HX7:Hid (W7.heap[w.heap.size]?=some (.cells #[.int .i64 qk,.string ⟨qch.toArray⟩,.bool qng,.slice qa qrs.length qc,.int .i64 qlo,.int .i64 qhi,.bool qlz,.slice qb qks.length qd,.slice a9 fs.length c9,.bool fd,.bool al] 41 (0,0))):=ab (by
   rw [hW7'];exact qU (post:=[.bool fd,.bool al]) [.int .i64 qk,.string ⟨qch.toArray⟩,.bool qng,.slice qa qrs.length qc,.int .i64 qlo,.int .i64 qhi,.bool qlz,.slice qb qks.length qd,.slice a9 fs.length c9] [.int .i64 rk,.string ⟨rch.toArray⟩,.bool rng,.slice ra rrs.length rcp,.int .i64 rlo,.int .i64 rhi,.bool rlz,.slice rka rks.length rkc,.slice fa fs.length fcp] [] hbx rfl)
  have HY7:Hid (W7.heap[w.heap.size+1]?=some (.cells #[.int .i64 0,.string ⟨#[]⟩,.bool false,.slice none 0 0,.int .i64 0,.int .i64 0,.bool false,.slice none 0 0,.slice none 0 0,.bool false,.bool false] 41 (0,0))):=ab (by rw [hW7',mc gj];exact HBY.out);have HBW7:Hid (Below w.heap.size w W7):=ab (by rw [hW7'];exact vE HBW.out (Ia _) _ _);have hk7:Kept (fun b=>w.heap.size+2≤b) w' W7:=⟨by rw [hW7',mg];exact Ia _,fun b hb _=>by have:w.heap.size+2≤b:=hb;rw [hW7',mc gj]⟩;have HV7:Hid (TfV W7 (fun b=>w.heap.size+2≤b) [.int .i64 qk,.string ⟨qch.toArray⟩,.bool qng,.slice qa qrs.length qc,.int .i64 qlo,.int .i64 qhi,.bool qlz,.slice qb qks.length qd,.slice a9 fs.length c9,.bool fd,.bool al] ⟨.mk qk qch qng qrs qlo qhi qlz qks,fs,fd,al⟩):=ab ⟨_,a9,c9,HXV'.out.keep hk7,HSV.out.keep hk7,rfl⟩;have HON7:=ab HV7.out.one;clear hW7';go_upto_region 2 with fail
  rw [←hW7];clear hW7 z0 z1 z2 z3 z4 z5 z6 z7 z8 zf hbx hk7;have HB9:=ab (l9 (w:=W7) (cs:=#[.int .i64 qk,.string ⟨qch.toArray⟩,.bool qng,.slice qa qrs.length qc,.int .i64 qlo,.int .i64 qhi,.bool qlz,.slice qb qks.length qd,.slice a9 fs.length c9,.bool fd,.bool al]) HY7.out);go_wp2_with (first|(refine kA rfl 41 (.tmp 1) rfl (w.heap.size) 0 rfl ([.int .i64 qk,.string ⟨qch.toArray⟩,.bool qng,.slice qa qrs.length qc,.int .i64 qlo,.int .i64 qhi,.bool qlz,.slice qb qks.length qd,.slice a9 fs.length c9,.bool fd,.bool al]) _ (kG (ds:=[]) (HX7.out)) ma rfl (by rw [nY];rfl) ?_)|(refine kK rfl 41 (.tmp 2) (.tmp 11) rfl ((w.heap.size+1)) (#[.int .i64 qk,.string ⟨qch.toArray⟩,.bool qng,.slice qa qrs.length qc,.int .i64 qlo,.int .i64 qhi,.bool qlz,.slice qb qks.length qd,.slice a9 fs.length c9,.bool fd,.bool al]) rfl rfl 41 (#[.int .i64 0,.string ⟨#[]⟩,.bool false,.slice none 0 0,.int .i64 0,.int .i64 0,.bool false,.slice none 0 0,.slice none 0 0,.bool false,.bool false]) (HY7.out) (nY) rfl rfl (HON7.out) (W:=(W7.setRow (w.heap.size+1) #[.int .i64 qk,.string ⟨qch.toArray⟩,.bool qng,.slice qa qrs.length qc,.int .i64 qlo,.int .i64 qhi,.bool qlz,.slice qb qks.length qd,.slice a9 fs.length c9,.bool fd,.bool al])) (rfl) ?_))
  refine Ir (res_box1 Tryz.results43 ma nY HB9.out rfl rfl) rfl ?_;refine⟨_,rfl,(HV7.out.keep ⟨by rw [vu];exact Ia _,fun b hb _=>mE _ (by have:w.heap.size+2≤b:=hb;omega)⟩).mono fun b hb _=>by have:w.heap.size+2≤b:=hb;show w.heap.size≤b;omega,tJ HBW7.out gj _⟩
def E2 (n:Nat) (w:World) (q:Value) (wr:World):Prop:=∃i:Nat,i≤n∧q=.int .i64 i∧Below w.heap.size w wr
theorem wy (a a':Option Addr) (c c':Nat) (rs:List (Str × Str)) (w:World) (h:Sl w w.heap.size a 2 rs.length (kR rs)) (h':Sl w w.heap.size a' 2 rs.length (kR rs)) (hl:rs.length≤1000000) :
  Calls Tryz.prog 78 #[.slice a rs.length c,.slice a' rs.length c'] w fun e w'=>e=.returned (.bool true)∧Below w.heap.size w w':=by
 have H1:=ab h;have H2:=ab h';clear h h';go_enter Tryz.func78,Tryz.ntmps78
 go_wp2
 go_loopw [13] (fun q wr=>E2 rs.length w q wr) (fun q _=>rs.length-(intOf q).toNat)
 case atStart=>exact du
 case round =>
  obtain⟨i,hi,rfl,hb⟩:=hrel;cases hd:rs[i]? with
  | none =>
   have h2:rs.length≤i:=gX;exact dv
  | some r =>
   have h2:=(Id.1 hd).1;obtain⟨b,o,rfl,hb1,c0,c1⟩:=(H1.out.keep hb).row hd;obtain⟨b',o',rfl,hb1',c0',c1'⟩:=(H2.out.keep hb).row hd;obtain⟨x,y⟩:=r;simp only at c0 c1 c0' c1'
   clear hd;exact cG
def SameC (y:Rx):Prop:=∀(S S':Nat→Prop) (cc cc':List Value) (w:World),RxV w S cc y→RxV w S' cc' y →
 Calls Tryz.prog 62 #[.agg cc.toArray,.agg cc'.toArray] w fun e w'=>e=.returned (.bool true)∧Below w.heap.size w w'
theorem RxV.box' {w:World} {S:Nat→Prop} {cc:List Value} {k:Int} {c:Str} {ng:Bool} {rs:List (Str × Str)} {lo hi:Int} {lz:Bool} {ks:List Rx} (h:RxV w S cc (.mk k c ng rs lo hi lz ks)) :
  ∃ra rc ka kc,cc=rxc k c ng ra rs.length rc lo hi lz ka ks.length kc∧Sl w w.heap.size ra 2 rs.length (kR rs)∧RxSl w S ka ks.length ks:=by
 obtain⟨ra,rc,ka,kc,h1,h2,h3⟩:=h.open_;exact⟨ra,rc,ka,kc,h1,h2.sl,h3⟩
theorem Bv (S S':Nat→Prop) (a a':Option Addr) (c c':Nat) (ks:List Rx) (w:World) (IH:∀y∈ks,SameC y) (h:RxSl w S a ks.length ks) (h':RxSl w S' a' ks.length ks) (hl:ks.length≤1000000) :
  Calls Tryz.prog 79 #[.slice a ks.length c,.slice a' ks.length c',.func (.func 62) #[] #[]] w fun e w'=>e=.returned (.bool true)∧Below w.heap.size w w':=by
 have H1:=ab h;have H2:=ab h';have HIH:=ab IH;clear h h' IH;go_enter Tryz.func79,Tryz.ntmps79
 go_wp2
 go_loopw [17] (fun q wr=>E2 ks.length w q wr) (fun q _=>ks.length-(intOf q).toNat)
 case atStart=>exact du
 case round =>
  obtain⟨i,hi,rfl,hb⟩:=hrel;cases hd:ks[i]? with
  | none =>
   have h2:ks.length≤i:=gX;exact dv
  | some y =>
   have h2:=(Id.1 hd).1;have HY:=ab (HIH.out y (In hd));obtain⟨k,ch,ng,rs,lo,hi',lz,xs⟩:=y;obtain⟨b,o,ra,rc,ka,kc,rfl,_,hb1,_,_,hv1,c0,c1,c2,c3,c4,c5,c6,c7⟩:=(H1.out.later hb).cells hd;obtain⟨b',o',ra',rc',ka',kc',rfl,_,hb1',_,_,hv1',d0,d1,d2,d3,d4,d5,d6,d7⟩:=(H2.out.later hb).cells hd;have hbn:Below wr.heap.size wr ((wr.alloc (.cells (rxc k ch ng ra rs.length rc lo hi' lz ka xs.length kc).toArray 38)).alloc (.cells (rxc k ch ng ra' rs.length rc' lo hi' lz ka' xs.length kc').toArray 38)):=((Below.refl _ _).alloc (Ia _) _).alloc gz _;have HC:=ab (HY.out S S' _ _ _ (hv1.later hbn) (hv1'.later hbn));unfold rxc at HC hbn;have hB:=hb.size;clear hd hv1 hv1' HY;go_wp2_with (go_at_call 62;refine HC.out.mono ?_)
   rintro e w2 ⟨rfl,hb2⟩;have hb3:Below w.heap.size w w2:=(hb.trans (hbn.mono hB)).trans (hb2.mono (Ib hB hbn.size));clear hbn hb2 HC;go_wp2
   exact⟨⟨i+1,by omega,by go_num,hb3⟩,by simp [intOf];omega⟩
theorem Ct:∀(N:Nat) (x:Rx),x.parts≤N→x.small→SameC x
 | 0,x,h,_=>by have:=Rx.parts_pos x;omega
 | N+1,.mk k c ng rs lo hi lz ks,h,hsm=>by
  intro S S' cc cc' w hv hv';obtain⟨ra,rc,ka,kc,rfl,hrs,hks⟩:=hv.box';obtain⟨ra',rc',ka',kc',rfl,hrs',hks'⟩:=hv'.box';obtain⟨⟨s1,s2,s3,s4⟩,hsmL⟩:=hsm;simp only [Rx.parts] at h;have ih:∀y∈ks,SameC y:=fun y hy=>Ct N y jc (nJ hsmL hy)
  have HIH:=ab ih;have hbn:Below w.heap.size w ((w.alloc (.cells (rxc k c ng ra rs.length rc lo hi lz ka ks.length kc).toArray 38)).alloc (.cells (rxc k c ng ra' rs.length rc' lo hi lz ka' ks.length kc').toArray 38)):=((Below.refl _ _).alloc (Ia _) _).alloc gz _;obtain⟨w0,hw0⟩:∃w0,w0=(w.alloc (.cells (rxc k c ng ra rs.length rc lo hi lz ka ks.length kc).toArray 38)).alloc (.cells (rxc k c ng ra' rs.length rc' lo hi lz ka' ks.length kc').toArray 38):=⟨_,rfl⟩;rw [←hw0] at hbn;have hz0:=hbn.size;have hx1:w0.heap[w.heap.size]?=some (.cells (rxc k c ng ra rs.length rc lo hi lz ka ks.length kc).toArray 38 (0,0)):=by rw [hw0,Below.heap_alloc _ _ _ gz];exact heap_alloc_new w _
  have hx2:w0.heap[w.heap.size+1]?=some (.cells (rxc k c ng ra' rs.length rc' lo hi lz ka' ks.length kc').toArray 38 (0,0)):=by
   rw [hw0];have:=heap_alloc_new (w.alloc (.cells (rxc k c ng ra rs.length rc lo hi lz ka ks.length kc).toArray 38)) (.cells (rxc k c ng ra' rs.length rc' lo hi lz ka' ks.length kc').toArray 38);simpa using this
  have HX1:=ab hx1;have HX2:=ab hx2;have HEQ:=ab (wy ra ra' rc rc' rs w0 ((hrs.keep hbn).mono hz0) ((hrs'.keep hbn).mono hz0) s2);have HK:=ab (hks.later hbn);have HK':=ab (hks'.later hbn);clear hks hks' hrs hrs' hv hv' ih hx1 hx2;unfold rxc at hw0 HX1 HX2 ⊢;go_enter Tryz.func62,Tryz.ntmps62
  go_upto_region 1 with fail
  rw [←hw0];clear hw0;obtain⟨e0,e1,e2,e3,e4,e5,e6,e7,e8⟩:=kD HX1.out;obtain⟨d0,d1,d2,d3,d4,d5,d6,d7,d8⟩:=kD HX2.out;go_wp2_with (go_at_call 78;refine HEQ.out.mono ?_)
  rintro e w1 ⟨rfl,hb1⟩;have hx1:=(hb1.block _ (ky HX1.out)).trans HX1.out;have hx2:=(hb1.block _ (ky HX2.out)).trans HX2.out;have hbw1:=bel2 hbn hb1;have HEF:=ab (Bv S S' ka ka' kc kc' ks w1 HIH.out (HK.out.later hb1) (HK'.out.later hb1) s4);clear e0 e1 e2 e3 e4 e5 e6 e7 e8 d0 d1 d2 d3 d4 d5 d6 d7 d8 HEQ;obtain⟨e0,e1,e2,e3,e4,e5,e6,e7,e8⟩:=kD hx1;obtain⟨d0,d1,d2,d3,d4,d5,d6,d7,d8⟩:=kD hx2;clear hx1 hx2 hb1;go_wp2_with (go_at_call 79;refine HEF.out.mono ?_)
  rintro e w2 ⟨rfl,hb2⟩;have hbw2:=bel2 hbw1 hb2;go_wp2
  go_ret
  exact⟨rfl,hbw2⟩
theorem Gt {x:Rx} {S S':Nat→Prop} {cc cc':List Value} (w:World) (hs:x.small) (h:RxV w S cc x) (h':RxV w S' cc' x) :
  Calls Tryz.prog 62 #[.agg cc.toArray,.agg cc'.toArray] w fun e w'=>e=.returned (.bool true)∧Below w.heap.size w w':=Ct _ x (Ia _) hs S S' cc cc' w h h'
theorem EqualStr (a a':Option Addr) (c c':Nat) (l:List Str) (w:World) (h:Sl w w.heap.size a 1 l.length (l8 l)) (h':Sl w w.heap.size a' 1 l.length (l8 l)) (hl:l.length≤1000000) :
  Calls Tryz.prog 46 #[.slice a l.length c,.slice a' l.length c'] w fun e w'=>e=.returned (.bool true)∧Below w.heap.size w w':=by
 have H1:=ab h;have H2:=ab h';clear h h';go_enter Tryz.func46,Tryz.ntmps46
 go_wp2
 go_loopw [13] (fun q wr=>E2 l.length w q wr) (fun q _=>l.length-(intOf q).toNat)
 case atStart=>exact du
 case round =>
  obtain⟨i,hi,rfl,hb⟩:=hrel;cases hd:l[i]? with
  | none =>
   have h2:l.length≤i:=gX;exact dv
  | some x =>
   have h2:=(Id.1 hd).1;obtain⟨b,o,rfl,hb1,hc⟩:=(H1.out.keep hb).2 gj;obtain⟨b',o',rfl,hb1',hc'⟩:=(H2.out.keep hb).2 gj;have c0:=hc i (.string ⟨x.toArray⟩) (by simp [l8,hd]);have c0':=hc' i (.string ⟨x.toArray⟩) (by simp [l8,hd]);clear hd hc hc';exact cG
theorem E6 (a a':Option Addr) (c c':Nat) (l:List Fm) (w:World) (h:Sl w w.heap.size a 5 l.length (l5 l)) (h':Sl w w.heap.size a' 5 l.length (l5 l)) (hl:l.length≤1000000) :
  Calls Tryz.prog 63 #[.slice a l.length c,.slice a' l.length c'] w fun e w'=>e=.returned (.bool true)∧Below w.heap.size w w':=by
 have H1:=ab h;have H2:=ab h';clear h h';go_enter Tryz.func63,Tryz.ntmps63
 go_wp2
 go_loopw [13] (fun q wr=>E2 l.length w q wr) (fun q _=>l.length-(intOf q).toNat)
 case atStart=>exact du
 case round =>
  obtain⟨i,hi,rfl,hb⟩:=hrel;cases hd:l[i]? with
  | none =>
   have h2:l.length≤i:=gX;exact dv
  | some x =>
   have h2:=(Id.1 hd).1;obtain⟨b,o,rfl,hb1,c0,c1,c2,c3,c4⟩:=(H1.out.keep hb).fm hd;obtain⟨b',o',rfl,hb1',d0,d1,d2,d3,d4⟩:=(H2.out.keep hb).fm hd;obtain⟨x0,x1,x2,x3,x4⟩:=x;simp only at c0 c1 c2 c3 c4 d0 d1 d2 d3 d4
   clear hd;exact cG
theorem E3 (S S':Nat→Prop) (f:Tf) (hsm:f.small) (fc fc':List Value) (w:World) (hv:TfV w S fc f) (hv':TfV w S' fc' f) :
  Calls Tryz.prog 45 #[.agg fc.toArray,.agg fc'.toArray] w fun e w'=>e=.returned (.bool true)∧Below w.heap.size w w':=by
 obtain⟨rk,rch,rng,rrs,rlo,rhi,rlz,rks,ra,rcp,rka,rkc,fa,fcp,hc⟩:=hv.open_;obtain⟨qk,qch,qng,qrs,qlo,qhi,qlz,qks,qa,qcp,qka,qkc,ga,gcp,hd⟩:=hv'.open_;obtain⟨X,fs,fd,al⟩:=f;obtain⟨hx,hp,hfs⟩:=hsm;have hx1:X=.mk rk rch rng rrs rlo rhi rlz rks:=hc.rx;have hx2:X=.mk qk qch qng qrs qlo qhi qlz qks:=hd.rx;have hfce:fc=[.int .i64 rk,.string ⟨rch.toArray⟩,.bool rng,.slice ra rrs.length rcp,.int .i64 rlo,.int .i64 rhi,.bool rlz,.slice rka rks.length rkc,.slice fa fs.length fcp,.bool fd,.bool al]:=hc.eq;have hfde:fc'=[.int .i64 qk,.string ⟨qch.toArray⟩,.bool qng,.slice qa qrs.length qcp,.int .i64 qlo,.int .i64 qhi,.bool qlz,.slice qka qks.length qkc,.slice ga fs.length gcp,.bool fd,.bool al]:=hd.eq;obtain⟨W0,hW0⟩:∃W0,W0=(w.alloc (.cells fc.toArray 41)).alloc (.cells fc'.toArray 41):=⟨_,rfl⟩;have hb0:Below w.heap.size w W0:=by rw [hW0];exact((Below.refl _ _).alloc (Ia _) _).alloc gz _
 have HB1:Hid (W0.heap[w.heap.size]?=some (.cells fc.toArray 41 (0,0))):=ab gL;have HB2:Hid (W0.heap[w.heap.size+1]?=some (.cells fc'.toArray 41 (0,0))):=ab (by
  have:=heap_alloc_new (w.alloc (.cells fc.toArray 41)) (.cells fc'.toArray 41)
  rw [hW0];simpa using this)
 have HXV:Hid (RxV W0 S [.int .i64 rk,.string ⟨rch.toArray⟩,.bool rng,.slice ra rrs.length rcp,.int .i64 rlo,.int .i64 rhi,.bool rlz,.slice rka rks.length rkc] X):=ab (hx1▸hc.rv.later hb0);have HXV':Hid (RxV W0 S' [.int .i64 qk,.string ⟨qch.toArray⟩,.bool qng,.slice qa qrs.length qcp,.int .i64 qlo,.int .i64 qhi,.bool qlz,.slice qka qks.length qkc] X):=ab (hx2▸hd.rv.later hb0);have HFS:Hid (SlS W0 S fa 5 fs.length (l5 fs)):=ab (hc.fv.keep (Kept.all hb0));have HFS':Hid (SlS W0 S' ga 5 fs.length (l5 fs)):=ab (hd.fv.keep (Kept.all hb0));have HXS:=ab hx;have HFL:=ab hfs;subst hfce;subst hfde;have HW0:=ab hW0;clear hv hv' hc hd hx hx1 hx2 hW0 hfs;go_enter Tryz.func45,Tryz.ntmps45
 go_upto_region 1 with fail
 rw [←HW0.out];clear HW0;go_wp2_with (first
  | (refine kA rfl 38 (.tmp 5) rfl w.heap.size 0 rfl [.int .i64 rk,.string ⟨rch.toArray⟩,.bool rng,.slice ra rrs.length rcp,.int .i64 rlo,.int .i64 rhi,.bool rlz,.slice rka rks.length rkc] _ (kG (ds:=[.slice fa fs.length fcp,.bool fd,.bool al]) HB1.out) lK rfl g8 ?_)
  | (refine kA rfl 38 (.tmp 7) rfl (w.heap.size+1) 0 rfl [.int .i64 qk,.string ⟨qch.toArray⟩,.bool qng,.slice qa qrs.length qcp,.int .i64 qlo,.int .i64 qhi,.bool qlz,.slice qka qks.length qkc] _ (kG (ds:=[.slice ga fs.length gcp,.bool fd,.bool al]) HB2.out) lK rfl g8 ?_)
  | (go_at_call 62;refine(Gt W0 HXS.out HXV.out HXV'.out).mono ?_))
 first|rintro e w1 rfl hb1|rintro e w1 ⟨rfl,hb1⟩
 have hx1:=(hb1.block _ (ky HB1.out)).trans HB1.out;have hx2:=(hb1.block _ (ky HB2.out)).trans HB2.out;have z8:=kz hx1 8 rfl;have y8:=kz hx2 8 rfl;have HE:=ab (E6 fa ga fcp gcp fs w1 (HFS.out.keep (Kept.all hb1)).sl (HFS'.out.keep (Kept.all hb1)).sl HFL.out);go_wp2_with (go_at_call 63;refine HE.out.mono ?_)
 first|rintro e w2 rfl hb2|rintro e w2 ⟨rfl,hb2⟩
 have hx1':=(hb2.block _ (ky hx1)).trans hx1;have hx2':=(hb2.block _ (ky hx2)).trans hx2;have z9:=kz hx1' 9 rfl;have y9:=kz hx2' 9 rfl;have z10:=kz hx1' 10 rfl;have y10:=kz hx2' 10 rfl;have hbw:=bel2 (bel2 hb0 hb1) hb2;clear hx1 hx2 hx1' hx2' z8 y8;go_wp2
 go_ret
 exact⟨rfl,hbw⟩
theorem nK {w:World} {g:Nat} {cc:List Value} {t:TypeId} {f:Nat × Nat} (h:w.heap[g]?=some (.cells cc.toArray t f)) (j:Nat) (hj:j<cc.length):∃v,w.cell? ⟨g,j,none⟩=some v :=
 ⟨cc[j],by rw [Ic h];simp [hj]⟩
def TfP (B:Nat) (f:Tf):Value→World→Prop:=fun v W=>∃fc',v=.agg fc'.toArray∧TfV W (fun b=>B≤b) fc' f
def SnP (B:Nat) (ks:List Sn):Value→World→Prop:=fun v W=>∃a c,v=.slice a ks.length c∧SnSl W (fun b=>B≤b) a ks.length ks
theorem TfP.mono {B:Nat} {f:Tf} (v:Value) (w w':World) (hb:Below w.heap.size w w') (h:TfP B f v w):TfP B f v w':=by
 obtain⟨rc',h1,h2⟩:=h;exact⟨rc',h1,h2.keep (Kept.all hb)⟩
theorem SnP.mono {B:Nat} {ks:List Sn} (v:Value) (w w':World) (hb:Below w.heap.size w w') (h:SnP B ks v w):SnP B ks v w':=by
 obtain⟨a,c,h1,h2⟩:=h;exact⟨a,c,h1,h2.later hb⟩
def KFs (B b1:Nat) (fc:List Value) (f:Tf) (oa:Option Addr) (oc:Nat) (os:List Str) (ka:Option Addr) (kc:Nat) (ks:List Sn):List (Value→World→Prop) :=
 [eqP (.pointer (some ⟨b1,5,none⟩)),eqP (.agg fc.toArray),TfP B f,eqP (.pointer (some ⟨b1,16,none⟩)),eqP (.slice oa os.length oc),SlP B 1 os.length (l8 os),eqP (.pointer (some ⟨b1,17,none⟩)),eqP (.slice ka ks.length kc),SnP B ks,eqP (.pointer (some ⟨b1,5,none⟩))]
theorem KFs_mono (B b1:Nat) (fc:List Value) (f:Tf) (oa:Option Addr) (oc:Nat) (os:List Str) (ka:Option Addr) (kc:Nat) (ks:List Sn):MonoF (KFs B b1 fc f oa oc os ka kc ks) :=
 .eq (.eq (.cons TfP.mono (.eq (.eq (.cons SlP.mono (.eq (.eq (.cons SnP.mono (.eq .nil)))))))))
def KRI (B b1:Nat) (fc:List Value) (f:Tf) (oa:Option Addr) (oc:Nat) (os:List Str) (ka:Option Addr) (kc:Nat) (ks:List Sn) (A0:Act) (W0:World) (L:Nat→Bool) (a:Act) (w':World):Prop :=
 ∃V:Nat→Value,Fm2 [12,13,14,15,16,17,18,19,20,21] V A0 a∧BelI W0 (KFs B b1 fc f oa oc os ka kc ks) V L w'
def SCloneC (y:Sn):Prop:=∀(S:Nat→Prop) (ka:Option Addr) (kc:Nat) (w:World),SnSl w S ka y.kids.length y.kids →
 Calls Tryz.prog 25 #[.slice ka y.kids.length kc] w fun e w'=>∃a' c',e=.returned (.slice a' y.kids.length c')∧SnSl w' (fun b=>w.heap.size≤b) a' y.kids.length y.kids∧Below w.heap.size w w'
def CkRel (ks:List Sn) (w:World) (v q:Value) (wr:World):Prop :=
 ∃i:Nat,q=.int .i64 i∧i≤ks.length∧Below w.heap.size w wr∧OwnN wr w.heap.size (fun b=>w.heap.size≤b) v (ks.take i)
theorem Bi (S:Nat→Prop) (ks:List Sn) (hsm:Sn.smallL ks) (hkl:ks.length≤1000000) (IH0:∀y∈ks,SCloneC y) (a:Option Addr) (c:Nat) (w:World) (hx:SnSl w S a ks.length ks) :
  Calls Tryz.prog 25 #[.slice a ks.length c] w fun e w'=>∃a' c',e=.returned (.slice a' ks.length c')∧SnSl w' (fun b=>w.heap.size≤b) a' ks.length ks∧Below w.heap.size w w':=by
 have IH:=ab IH0;have HX:=ab hx;have HSM:=ab (fun y hy=>Sn.small_mem hsm y hy);obtain⟨iN,hiN⟩:=info_parts oV;clear hx hsm IH0;go_enter Tryz.func25,Tryz.ntmps25
 go_wp2
 go_loopw [3,8] (fun v q wr=>CkRel ks w v q wr) (fun _ q _=>ks.length-(intOf q).toNat)
 case atStart=>exact⟨0,rfl,by omega,Below.refl _ _,by rw [List.take_zero];exact OwnN.nil _ _ _⟩
 case round =>
  obtain⟨i,rfl,hi,hb,ho⟩:=hrel;have hB0:=hb.size;cases hd:ks.drop i with
  | nil =>
   have h2:ks.length≤i:=gX;rw [List.take_of_length_le h2] at ho;obtain⟨va,vc,rfl⟩:=ho.form;have HO:=ab ho.sl.2;clear hd ho;go_wp2
   go_ret
   exact⟨va,vc,rfl,HO.out.mono fun b hb _=>by rcases hb with hb|hb<;>exact hb,hb⟩
  | cons y r =>
   obtain⟨h2,h3,hr⟩:=kV hd;have hym:=In h3;have HTK:Hid (ks.take (i+1)=ks.take i++[y]):=ab (by rw [List.take_add_one,h3];rfl);have hys:=HSM.out y hym;have hyc:=IH.out y hym;obtain⟨yk,yt,yn,yh,yu,yf,yo,ys⟩:=y;obtain⟨hyf,hyo,hysl,hyt,_⟩:=hys;have HYF:=ab hyf;have HYC:Hid (∀(S:Nat→Prop) (ka:Option Addr) (kc:Nat) (w:World),SnSl w S ka ys.length ys →
    Calls Tryz.prog 25 #[.slice ka ys.length kc] w fun e w'=>∃a' c',e=.returned (.slice a' ys.length c')∧SnSl w' (fun b=>w.heap.size≤b) a' ys.length ys∧Below w.heap.size w w'):=ab hyc
   obtain⟨b,o,cc,hae,hS,hbB,hyv,hcc⟩:=(HX.out.later hb).at_ h3;have hrg:wr.rangeAt b (o+i*18) cc:=fun j v hj=>by rw [IJ];exact hcc j v hj
   have hcl:=hyv.len;obtain⟨fc,oa,oc,ka,kc,hA⟩:=hyv.at_;obtain⟨W5,hW5⟩:∃W5,W5=wr.alloc (.cells cc.toArray 44):=⟨_,rfl⟩;have HW5:Hid ((wr.alloc (.cells #[.int .i64 0,.string ⟨#[]⟩,.int .i64 0,.bool false,.bool false,.int .i64 0,.string ⟨#[]⟩,.bool false,.slice none 0 0,.int .i64 0,.int .i64 0,.bool false,.slice none 0 0,.slice none 0 0,.bool false,.bool false,.slice none 0 0,.slice none 0 0] 44)).setRow wr.heap.size cc.toArray=W5):=ab gS;have hb5:Below wr.heap.size wr W5:=by rw [hW5];exact(Below.refl _ _).alloc (Ia _) _
   have hz5:W5.heap.size=wr.heap.size+1:=by rw [hW5];simp
   have HBX:Hid (W5.heap[wr.heap.size]?=some (.cells cc.toArray 44 (0,0))):=ab iK;have HONE:Hid (∀u∈cc.toArray.toList,u.oneCell'=true):=ab (fun u hu=>hyv.one u iD);have HFV:=ab (hA.fv.keep (Kept.all hb5));have HOV:=ab (hA.ov.keep (Kept.all hb5));have HKV:=ab (hA.kv.later hb5);have hfl:=hA.fl;have HA:=ab hA;have hbw5:=hb.trans (hb5.mono hB0);have HO5:=ab ho;have HB5:=ab hb5;have hli:(ks.take i).length=i:=by rw [Is];omega
   subst hae;clear hd hr h3 hyv hcc hW5 hA hyc hym ho hyf;go_upto_region 5 with(first
     | (refine kA rfl 44 (.tmp 10) rfl b (o+i*18) rfl cc _ hrg kC rfl gG ?_)
     | (refine kK rfl 44 (.tmp 5) (.tmp 11) rfl (wr.heap.size) (cc.toArray) rfl rfl 44 (#[.int .i64 0,.string ⟨#[]⟩,.int .i64 0,.bool false,.bool false,.int .i64 0,.string ⟨#[]⟩,.bool false,.slice none 0 0,.int .i64 0,.int .i64 0,.bool false,.slice none 0 0,.slice none 0 0,.bool false,.bool false,.slice none 0 0,.slice none 0 0]) (heap_alloc_new wr _) (kF) ii rfl (HONE.out) (W:=W5) (HW5.out) ?_))
   clear HW5 hrg;refine lT 10 gC gC (fun A0 W0 L a w'=>KRI W5.heap.size wr.heap.size fc yf oa oc yo ka kc ys A0 W0 L a w') ?_;intro A0 HAA;have hsz:A0.tmps.size=30:=by rw [HAA.out];rfl
   have hnd:[12,13,14,15,16,17,18,19,20,21].Nodup:=gv;have hbd:∀d∈[12,13,14,15,16,17,18,19,20,21],d<A0.tmps.size:=by rw [hsz];decide
   have e5:A0.tmps[5]?=some (.pointer (some ⟨wr.heap.size,0,none⟩)):=by rw [HAA.out];rfl
   have hM:=KFs_mono W5.heap.size wr.heap.size fc yf oa oc yo ka kc ys;have hbx:∀w',Below W5.heap.size W5 w'→w'.heap[wr.heap.size]?=some (.cells cc.toArray 44 (0,0)):=fun w' h=>(h.block _ (ky HBX.out)).trans HBX.out
   refine⟨?_,?_,?_⟩
   ·obtain⟨V,hV⟩:=nd A0 [12,13,14,15,16,17,18,19,20,21]
    exact⟨V,⟨hV⟩,BelI.start _ _ _⟩
   ·refine⟨?_,?_,?_,?_,?_,?_,?_,?_,?_,?_,trivial⟩
    ·intro L a w' hL hd hI
     obtain⟨V,hf,hB⟩:=hI;simp [kL,Region.binds] at hd
     have e:=lx ((hf.out (t:=5) gv).trans e5);refine lr (kH rfl) (v:=.pointer (some ⟨wr.heap.size,5,none⟩)) (w':=w') gO ?_;exact ei
    ·intro L a w' hL hd hI
     obtain⟨V,hf,hB⟩:=hI;simp [kL,Region.binds] at hd
     obtain⟨_,_,_,_,_,_,_,q8⟩:=HA.out.box (hbx w' hB.ext);refine kA rfl 41 (.tmp 12) rfl wr.heap.size 5 (lx ((hf.ins hnd hbd 0 rfl).trans (Hy some (show V 0=.pointer (some ⟨wr.heap.size,5,none⟩) from hB.at_ 0 gE)))) fc _ q8 ma rfl (by rw [nY,hfl]) ?_;exact dn
    ·intro L a w' hL hd hI
     obtain⟨V,hf,hB⟩:=hI;simp [kL,Region.binds] at hd
     have e:=(lx ((hf.ins hnd hbd 1 rfl).trans (Hy some (show V 1=.agg fc.toArray from hB.at_ 1 gE))));refine pP (kH rfl) (pS (vs:=#[.agg fc.toArray]) rfl Tryz.func43 gC gT) ((D3 S yf HYF.out fc w' (HFV.out.keep (Kept.all hB.ext))).mono ?_);rintro e9 w9 ⟨fc',rfl,hv9,hb9⟩;refine⟨_,rfl,?_⟩;exact⟨_,hf.put hnd hbd 2 rfl _,hB.step hM 2 hb9 ⟨fc',rfl,hv9.mono fun b hb _=>Ib hB.ext.size hb⟩⟩
    ·intro L a w' hL hd hI
     obtain⟨V,hf,hB⟩:=hI;simp [kL,Region.binds] at hd
     have e:=lx ((hf.out (t:=5) gv).trans e5);refine lr (kH rfl) (v:=.pointer (some ⟨wr.heap.size,16,none⟩)) (w':=w') gO ?_;exact el
    ·intro L a w' hL hd hI
     obtain⟨V,hf,hB⟩:=hI;simp [kL,Region.binds] at hd
     obtain⟨_,_,_,_,_,q6,_,_⟩:=HA.out.box (hbx w' hB.ext);refine lr (kH rfl) (pU rfl ((hf.ins hnd hbd 3 rfl).trans (Hy some (show V 3=.pointer (some ⟨wr.heap.size,16,none⟩) from hB.at_ 3 gE))) (u:=.slice oa yo.length oc) kq) ?_;exact⟨_,hf.put hnd hbd 4 rfl _,hB.same hM 4 rfl⟩
    ·intro L a w' hL hd hI
     obtain⟨V,hf,hB⟩:=hI;simp [kL,Region.binds] at hd
     have e:=(lx ((hf.ins hnd hbd 4 rfl).trans (Hy some (show V 4=.slice oa yo.length oc from hB.at_ 4 gE))));refine pP (kH rfl) (pS (vs:=#[.slice oa yo.length oc]) rfl Tryz.func44 gC gT) ((Ah oa yo.length oc yo w' rfl (HOV.out.keep (Kept.all hB.ext)).sl hyo).mono ?_);rintro e9 w9 ⟨a9,c9,rfl,hv9,hb9⟩;refine⟨_,rfl,?_⟩;exact⟨_,hf.put hnd hbd 5 rfl _,hB.step hM 5 hb9 ⟨a9,c9,rfl,hv9.mono fun b hb _=>Ib hB.ext.size hb⟩⟩
    ·intro L a w' hL hd hI
     obtain⟨V,hf,hB⟩:=hI;simp [kL,Region.binds] at hd
     have e:=lx ((hf.out (t:=5) gv).trans e5);refine lr (kH rfl) (v:=.pointer (some ⟨wr.heap.size,17,none⟩)) (w':=w') gO ?_;exact⟨_,hf.put hnd hbd 6 rfl _,hB.same hM 6 rfl⟩
    ·intro L a w' hL hd hI
     obtain⟨V,hf,hB⟩:=hI;simp [kL,Region.binds] at hd
     obtain⟨_,_,_,_,_,_,q7,_⟩:=HA.out.box (hbx w' hB.ext);refine lr (kH rfl) (pU rfl ((hf.ins hnd hbd 6 rfl).trans (Hy some (show V 6=.pointer (some ⟨wr.heap.size,17,none⟩) from hB.at_ 6 gE))) (u:=.slice ka ys.length kc) kq) ?_;exact⟨_,hf.put hnd hbd 7 rfl _,hB.same hM 7 rfl⟩
    ·intro L a w' hL hd hI
     obtain⟨V,hf,hB⟩:=hI;simp [kL,Region.binds] at hd
     have e:=(lx ((hf.ins hnd hbd 7 rfl).trans (Hy some (show V 7=.slice ka ys.length kc from hB.at_ 7 gE))));refine pP (kH rfl) (pS (vs:=#[.slice ka ys.length kc]) rfl Tryz.func25 gC gT) ((HYC.out S ka kc w' (HKV.out.later hB.ext)).mono ?_);rintro e9 w9 ⟨a9,c9,rfl,hv9,hb9⟩;refine⟨_,rfl,?_⟩;exact⟨_,hf.put hnd hbd 8 rfl _,hB.step hM 8 hb9 ⟨a9,c9,rfl,hv9.mono fun b hb _=>Ib hB.ext.size hb⟩⟩
    ·intro L a w' hL hd hI
     obtain⟨V,hf,hB⟩:=hI;simp [kL,Region.binds] at hd
     have e:=lx ((hf.out (t:=5) gv).trans e5);refine lr (kH rfl) (v:=.pointer (some ⟨wr.heap.size,5,none⟩)) (w':=w') gO ?_;exact⟨_,hf.put hnd hbd 9 rfl _,hB.same hM 9 rfl⟩
   ·intro L a w' hL hI
    obtain⟨V,hf,hB⟩:=hI;obtain⟨fc',hv2,hfv⟩:=(show TfP W5.heap.size yf (V 2) w' from hB.at_ 2 (hL 2 gv));obtain⟨a5,c5,hv5,hov⟩:=(show SlP W5.heap.size 1 yo.length (l8 yo) (V 5) w' from hB.at_ 5 (hL 5 gv));obtain⟨a8,c8,hv8,hkv⟩:=(show SnP W5.heap.size ys (V 8) w' from hB.at_ 8 (hL 8 gv));have hv9:V 9=.pointer (some ⟨wr.heap.size,5,none⟩):=hB.at_ 9 (hL 9 gv);have hbx':=hbx w' hB.ext;have ha:=hf.eq;have hA:=HAA.out;obtain⟨rk,rch,rng,rrs,rlo,rhi,rlz,rks,ra,rcp,rka,rkc,fa,fcp,hc⟩:=hfv.open_;have hfe:=hc.eq;rw [hfe] at hv2 hfv;have HFV':=ab hfv;have HOV':=ab hov;have HKV':=ab hkv;have HEX:=ab hB.ext;have hcq:=HA.out.eq;have hzw:=hB.ext.size;subst ha;subst hA;simp only [ms,hv2,hv5,hv8,hv9,List.drop_succ_cons,ID];have HBXX:=ab hbx';clear hf hB hM hbd hsz e5 HAA hv2 hv5 hv8 hv9 hfv hov hkv hL hc hfe hbx HFV HOV HKV HYC HYF hnd;obtain⟨z5,hz5'⟩:=nK hbx' 5 gj;obtain⟨z6,hz6'⟩:=nK hbx' 6 gj;obtain⟨z7,hz7'⟩:=nK hbx' 7 gj;obtain⟨z8,hz8'⟩:=nK hbx' 8 gj;obtain⟨z9,hz9'⟩:=nK hbx' 9 gj;obtain⟨z10,hz10'⟩:=nK hbx' 10 gj;obtain⟨z11,hz11'⟩:=nK hbx' 11 gj;obtain⟨z12,hz12'⟩:=nK hbx' 12 gj;obtain⟨z13,hz13'⟩:=nK hbx' 13 gj;obtain⟨z14,hz14'⟩:=nK hbx' 14 gj;obtain⟨z15,hz15'⟩:=nK hbx' 15 gj;obtain⟨z16,hz16'⟩:=nK hbx' 16 gj;obtain⟨z17,hz17'⟩:=nK hbx' 17 gj;have zf:=lP hbx';obtain⟨W7,hW7⟩:∃W7,W7=(((((((((((((w'.setCell ⟨wr.heap.size,5,none⟩ (.int .i64 rk)).setCell ⟨wr.heap.size,6,none⟩ (.string ⟨rch.toArray⟩)).setCell ⟨wr.heap.size,7,none⟩ (.bool rng)).setCell ⟨wr.heap.size,8,none⟩ (.slice ra rrs.length rcp)).setCell ⟨wr.heap.size,9,none⟩ (.int .i64 rlo)).setCell ⟨wr.heap.size,10,none⟩ (.int .i64 rhi)).setCell ⟨wr.heap.size,11,none⟩ (.bool rlz)).setCell ⟨wr.heap.size,12,none⟩ (.slice rka rks.length rkc)).setCell ⟨wr.heap.size,13,none⟩ (.slice fa yf.fs.length fcp)).setCell ⟨wr.heap.size,14,none⟩ (.bool yf.fold)).setCell ⟨wr.heap.size,15,none⟩ (.bool yf.all)).setCell ⟨wr.heap.size,16,none⟩ (.slice a5 yo.length c5)).setCell ⟨wr.heap.size,17,none⟩ (.slice a8 ys.length c8)):=⟨_,rfl⟩;have hW7':W7=setsL wr.heap.size 5 [.int .i64 rk,.string ⟨rch.toArray⟩,.bool rng,.slice ra rrs.length rcp,.int .i64 rlo,.int .i64 rhi,.bool rlz,.slice rka rks.length rkc,.slice fa yf.fs.length fcp,.bool yf.fold,.bool yf.all,.slice a5 yo.length c5,.slice a8 ys.length c8] w':=hW7;have HX7:Hid (W7.heap[wr.heap.size]?=some (.cells #[.int .i64 yk,.string ⟨yt.toArray⟩,.int .i64 yn,.bool yh,.bool yu,.int .i64 rk,.string ⟨rch.toArray⟩,.bool rng,.slice ra rrs.length rcp,.int .i64 rlo,.int .i64 rhi,.bool rlz,.slice rka rks.length rkc,.slice fa yf.fs.length fcp,.bool yf.fold,.bool yf.all,.slice a5 yo.length c5,.slice a8 ys.length c8] 44 (0,0))):=ab (by
     have h0:=HBXX.out;rw [hcq] at h0;rw [hW7'];exact qU (post:=[]) [.int .i64 rk,.string ⟨rch.toArray⟩,.bool rng,.slice ra rrs.length rcp,.int .i64 rlo,.int .i64 rhi,.bool rlz,.slice rka rks.length rkc,.slice fa yf.fs.length fcp,.bool yf.fold,.bool yf.all,.slice a5 yo.length c5,.slice a8 ys.length c8] (fc++[.slice oa yo.length oc,.slice ka ys.length kc]) [.int .i64 yk,.string ⟨yt.toArray⟩,.int .i64 yn,.bool yh,.bool yu] (by rw [h0];unfold snc;simp) (by simp [hfl]))
    have hk7:Kept (fun b=>W5.heap.size≤b) w' W7:=⟨by rw [hW7',mg];exact Ia _,fun b hb _=>by have:W5.heap.size≤b:=hb;rw [hW7',mc gj]⟩;have HBW:Hid (Below wr.heap.size wr W7):=ab (by rw [hW7'];exact vE (HB5.out.trans (HEX.out.mono gj)) (Ia _) _ _);have HV7:Hid (SnV W7 (fun b=>W5.heap.size≤b) [.int .i64 yk,.string ⟨yt.toArray⟩,.int .i64 yn,.bool yh,.bool yu,.int .i64 rk,.string ⟨rch.toArray⟩,.bool rng,.slice ra rrs.length rcp,.int .i64 rlo,.int .i64 rhi,.bool rlz,.slice rka rks.length rkc,.slice fa yf.fs.length fcp,.bool yf.fold,.bool yf.all,.slice a5 yo.length c5,.slice a8 ys.length c8] (.mk yk yt yn yh yu yf yo ys)):=ab (SnV.close (fc:=[.int .i64 rk,.string ⟨rch.toArray⟩,.bool rng,.slice ra rrs.length rcp,.int .i64 rlo,.int .i64 rhi,.bool rlz,.slice rka rks.length rkc,.slice fa yf.fs.length fcp,.bool yf.fold,.bool yf.all]) (HFV'.out.keep hk7) (HOV'.out.keep hk7) (HKV'.out.keep hk7));have hz7:W7.heap.size=w'.heap.size:=by rw [hW7',mg]
    have HON7:=ab HV7.out.one;clear hW7' hbx' hk7;go_upto_region 6 with fail
    rw [←hW7];clear hW7 hz5' hz6' hz7' hz8' hz9' hz10' hz11' hz12' hz13' hz14' hz15' hz16' hz17' zf;have hb8:Below W7.heap.size W7 (W7.alloc (.cells #[.int .i64 yk,.string ⟨yt.toArray⟩,.int .i64 yn,.bool yh,.bool yu,.int .i64 rk,.string ⟨rch.toArray⟩,.bool rng,.slice ra rrs.length rcp,.int .i64 rlo,.int .i64 rhi,.bool rlz,.slice rka rks.length rkc,.slice fa yf.fs.length fcp,.bool yf.fold,.bool yf.all,.slice a5 yo.length c5,.slice a8 ys.length c8] 44)):=(Below.refl _ _).alloc (Ia _) _;have ho7:=(HO5.out.later HBW.out).later hb8;obtain⟨va,vc,rfl⟩:=HO5.out.form;obtain⟨css,hown,hrv⟩:=ho7;rw [hli] at hown hrv;have HOW:=ab hown;have HRV:=ab hrv;have HSL:=ab (Sl.lit (n:=1) (sz:=18) (heap_alloc_new W7 (.cells #[.int .i64 yk,.string ⟨yt.toArray⟩,.int .i64 yn,.bool yh,.bool yu,.int .i64 rk,.string ⟨rch.toArray⟩,.bool rng,.slice ra rrs.length rcp,.int .i64 rlo,.int .i64 rhi,.bool rlz,.slice rka rks.length rkc,.slice fa yf.fs.length fcp,.bool yf.fold,.bool yf.all,.slice a5 yo.length c5,.slice a8 ys.length c8] 44)) rfl);have HV8:=ab (HV7.out.later hb8);have hlt:=HO5.out.lt;rw [hli];clear hown hrv;have hsz9:w.heap.size≤W7.heap.size+1:=gj;have hi9:i≤10000000:=gj;have HZ7:=ab hz7;clear hz7;have HON8:Hid (∀u∈(#[.int .i64 yk,.string ⟨yt.toArray⟩,.int .i64 yn,.bool yh,.bool yu,.int .i64 rk,.string ⟨rch.toArray⟩,.bool rng,.slice ra rrs.length rcp,.int .i64 rlo,.int .i64 rhi,.bool rlz,.slice rka rks.length rkc,.slice fa yf.fs.length fcp,.bool yf.fold,.bool yf.all,.slice a5 yo.length c5,.slice a8 ys.length c8]:Array Value).toList,u.oneCell'=true):=HON7;go_wp2_with (first|(refine kA rfl 44 (.tmp 5) rfl (wr.heap.size) 0 rfl ([.int .i64 yk,.string ⟨yt.toArray⟩,.int .i64 yn,.bool yh,.bool yu,.int .i64 rk,.string ⟨rch.toArray⟩,.bool rng,.slice ra rrs.length rcp,.int .i64 rlo,.int .i64 rhi,.bool rlz,.slice rka rks.length rkc,.slice fa yf.fs.length fcp,.bool yf.fold,.bool yf.all,.slice a5 yo.length c5,.slice a8 ys.length c8]) _ (kG (ds:=[]) (HX7.out)) kC rfl ib ?_)|(at_builtin;refine lg w.heap.size 44 rfl _ _ 22 rfl Tryz.underlying22 hiN rfl gv rfl HOW.out rfl HSL.out HON8.out hi9 gv gv (by simp only [It];exact hsz9) ?_))
    intro v1 w4 ho1 hg1 hb4 hmv;have hox4:OwnN w4 w.heap.size (fun b=>w.heap.size≤b) v1 (ks.take (i+1)):=by
     rw [HTK.out];refine OwnN.app (ds:=[_]) (m:=1) HRV.out (.cons (HV8.out.mono fun b hb _=>?_) .nil) rfl ?_ hg1 hmv
     ·have hb':W5.heap.size≤b:=hb
      exact⟨by show w.heap.size≤b;omega,fun e=>by have:=(hlt b (show (Value.slice va (ks.take i).length vc).ownBlock=some b from(show (Value.slice va (ks.take i).length vc).ownBlock=(Value.slice va i vc).ownBlock by rw [hli]).trans e)).2;omega⟩
     ·rw [hli];simpa using ho1
    have hb4':Below w.heap.size w w4:=(hb.trans ((HBW.out.trans (hb8.mono HBW.out.size)).mono hB0)).trans hb4;clear ho1 hg1 hmv;go_wp2
    go_roundw
    case rel=>exact⟨i+1,by go_num,by omega,hb4',hox4⟩
    case measure=>simp [intOf];omega
theorem td (S:Nat→Prop):∀(N:Nat) (ks:List Sn),Sn.partsL ks<N→Sn.smallL ks→ks.length≤1000000→∀(a:Option Addr) (c:Nat) (w:World),SnSl w S a ks.length ks →
  Calls Tryz.prog 25 #[.slice a ks.length c] w fun e w'=>∃a' c',e=.returned (.slice a' ks.length c')∧SnSl w' (fun b=>w.heap.size≤b) a' ks.length ks∧Below w.heap.size w w'
 | 0,ks,h,_,_,_,_,_,_=>by omega
 | N+1,ks,h,hsm,hkl,a,c,w,hx=>Bi S ks hsm hkl (fun y hy S' ka kc w' hv=>by
   have h1:=Sn.parts_mem hy;have h2:=Sn.small_mem hsm y hy;obtain⟨yk,yt,yn,yh,yu,yf,yo,ys⟩:=y;obtain⟨_,_,h3,_,h4⟩:=h2;simp only [Sn.parts] at h1;exact td S' N ys gj h4 h3 ka kc w' hv) a c w hx
end Go.Proofs.YtdcnncgpomcaaaaGreatDoor
