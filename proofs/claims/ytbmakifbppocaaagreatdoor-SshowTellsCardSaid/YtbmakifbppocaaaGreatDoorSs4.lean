/- Steps of a region that draws its order, on a frame that is not laid open. -/
import Derived.Test.YtbmakifbppocaaaGreatDoorSs1
import Derived.Test.YtbmakifbppocaaaGreatDoorSs3
import Derived.Test.YtbmakifbppocaaaGreatDoorSs2
import Derived.Deep.LoopGhost
import Derived.IntWalk
import Derived.Maps.OwnSet
import Derived.Maps.Keyed
set_option maxRecDepth 100000
namespace Go.Proofs.YtbmakifbppocaaaGreatDoor
open Go.RowKit
theorem puts_cons (d:Nat) (ds:List Nat) (k:Nat) (V:Nat→Value) (a:Act):putsL (d :: ds) k V a=putsL ds (k+1) V (a.put (some d) (V k)):=rfl
theorem puts_size:∀ (ds:List Nat) (k:Nat) (V:Nat→Value) (a:Act),(putsL ds k V a).tmps.size=a.tmps.size
 | [],_,_,_=>rfl
 | d :: ds,k,V,a=>(puts_size ds (k+1) V _).trans (by simp [Act.put])
theorem puts_out:∀ (ds:List Nat) (k:Nat) (V:Nat→Value) (a:Act) (t:Nat),t ∉ ds→(putsL ds k V a).tmps[t]?=a.tmps[t]?
 | [],_,_,_,_,_=>rfl
 | d :: ds,k,V,a,t,h=>by
  rw [puts_cons,puts_out ds (k+1) V _ t (fun e=>h (List.mem_cons_of_mem _ e))]
  simp only [Act.put]
  rw [Array.getElem?_setIfInBounds_ne (fun e=>h (by simp [e]))]
theorem puts_in:∀ (ds:List Nat) (k:Nat) (V:Nat→Value) (a:Act) (i t:Nat),ds.Nodup→ds[i]?=some t→t < a.tmps.size→(putsL ds k V a).tmps[t]?=some (V (k+i))
 | [],_,_,_,i,t,_,h,_=>by simp at h
 | d :: ds,k,V,a,0,t,hn,h,hs=>by
  simp at h;subst h
  rw [puts_cons,puts_out ds (k+1) V _ _ (List.nodup_cons.1 hn).1]
  simp [Act.put,hs]
 | d :: ds,k,V,a,i+1,t,hn,h,hs=>by
  rw [puts_cons,puts_in ds (k+1) V _ i t (List.nodup_cons.1 hn).2 (by simpa using h) (by simpa [Act.put] using hs)]
  rw [show k+1+i=k+(i+1) by omega]
theorem puts_defers:∀ (ds:List Nat) (k:Nat) (V:Nat→Value) (a:Act),(putsL ds k V a).defers=a.defers
 | [],_,_,_=>rfl
 | _ :: ds,k,V,_=>(puts_defers ds (k+1) V _).trans rfl
theorem puts_put (ds:List Nat) (V:Nat→Value) (a:Act) (i t:Nat) (v:Value) (hn:ds.Nodup) (h:ds[i]?=some t) (hb:∀ d ∈ ds,d < a.tmps.size):(putsL ds 0 V a).put (some t) v=putsL ds 0 (upd V i v) a:=by
 have e:((putsL ds 0 V a).put (some t) v).tmps=(putsL ds 0 (upd V i v) a).tmps:=by
  apply Array.ext_getElem?
  intro j
  simp only [Act.put]
  have ht:=hb t (List.mem_of_getElem? h)
  by_cases hjt:t=j
  ·subst hjt
   rw [Array.getElem?_setIfInBounds_self_of_lt (by rw [puts_size];exact ht),puts_in ds 0 _ a i t hn h ht]
   simp [upd]
  ·rw [Array.getElem?_setIfInBounds_ne hjt]
   by_cases hj:j ∈ ds
   ·obtain ⟨m,hm⟩:=List.getElem?_of_mem hj
    rw [puts_in ds 0 _ a m j hn hm (hb j hj),puts_in ds 0 _ a m j hn hm (hb j hj)]
    have:m≠i:=fun e=>by subst e;rw [hm] at h;injection h with h;exact hjt h.symm
    simp [upd,this]
   ·rw [puts_out ds 0 _ a j hj,puts_out ds 0 _ a j hj]
 have key:∀ x y:Act,x.tmps=y.tmps→x.defers=y.defers→x=y:=fun x y h h'=>by cases x;cases y;simp only at h h';subst h;subst h';rfl
 refine key _ _ e ?_
 show (putsL ds 0 V a).defers=_
 rw [puts_defers,puts_defers]
/-- The frame, the slots that the region writes aside. -/
structure Fm2 (ds:List Nat) (V:Nat→Value) (A0 a:Act):Prop where
 eq:a=putsL ds 0 V A0
theorem Fm2.ins {ds:List Nat} {V:Nat→Value} {A0 a:Act} (h:Fm2 ds V A0 a) (hn:ds.Nodup) (hb:∀ d ∈ ds,d < A0.tmps.size) (i:Nat) {t:Nat} (hi:ds[i]?=some t):a.tmps[t]?=some (V i):=by
 rw [h.eq,puts_in ds 0 V A0 i t hn hi (hb t (List.mem_of_getElem? hi))];simp
theorem Fm2.out {ds:List Nat} {V:Nat→Value} {A0 a:Act} (h:Fm2 ds V A0 a) {t:Nat} (ht:t ∉ ds):a.tmps[t]?=A0.tmps[t]?:=by
 rw [h.eq,puts_out ds 0 V A0 t ht]
theorem Fm2.put {ds:List Nat} {V:Nat→Value} {A0 a:Act} (h:Fm2 ds V A0 a) (hn:ds.Nodup) (hb:∀ d ∈ ds,d < A0.tmps.size) (i:Nat) {t:Nat} (hi:ds[i]?=some t) (v:Value):Fm2 ds (upd V i v) A0 (a.put (some t) v):=⟨by rw [h.eq,puts_put ds V A0 i t v hn hi hb]⟩
theorem ev_of {a:Act} {t:Nat} {v:Value} (h:a.tmps[t]?=some v):a.eval (.tmp t)=v:=by
 simp [Act.eval,Array.getD_eq_getD_getElem?,h]
theorem wanted_none {o:Oper} {y:Nat→Option Bool} (h:o.guard=none):Region.wanted o y=true:=by simp [Region.wanted,h]
section
variable {P:Program} {ops:Array Oper} {Q:Exit→Act→World→Prop} {K:Act→World→Prop} {o:Oper} {a:Act} {w:World}
/-- It yields. -/
theorem rs_val {v:Value} {w':World} (hw:Region.wanted o (yielded ops a.tmps)=true) (hr:(execOp a.eval o).run P w=.ok (.value v) w') (h:K (a.put o.dst v) w'):wpList P ops (Exit.then K Q) [o] a w:=by
 unfold wpList;rw [if_pos hw]
 refine .inl ?_
 unfold Oper.wp
 rw [hr]
 exact h
/-- It calls. -/
theorem rs_call {f:FuncId} {args:Array Value} (hw:Region.wanted o (yielded ops a.tmps)=true) (hr:(execOp a.eval o).run P w=.ok (.enter f args) w) (hc:Calls P f args w fun e w'=>∃ v,e=.returned v∧K (a.put o.dst v) w'):wpList P ops (Exit.then K Q) [o] a w:=by
 unfold wpList;rw [if_pos hw]
 refine .inl ?_
 unfold Oper.wp
 rw [hr]
 exact hc.mono fun e w' ⟨v,he,hk⟩=>by subst he;exact hk
theorem ex_move {x:Operand} (ho:o.op=.move x∨o.op=.assign x):(execOp a.eval o).run P w=.ok (.value (a.eval x)) w:=by
 unfold execOp;rcases ho with h | h <;> rw [h] <;> rfl
theorem ex_call {f:FuncId} {args:Array Operand} {tys:Array TypeId} {fn:Func} {vs:Array Value} (ho:o.op=.call { callee:=.value (.func f),args:=args,argTypes:=tys })
  (hf : P.funcs[f]? = some fn) (hn : (fn.name == "runtime.NumGoroutine" || fn.body.isNone) = false) (hvs : args.map a.eval = vs) : (execOp a.eval o).run P w = .ok (.enter f vs) w := by
 subst hvs
 simp only [Bool.or_eq_false_iff] at hn
 have h1 : fn.name ≠ "runtime.NumGoroutine" := by simpa using hn.1
 have h2:fn.body≠none:=by cases hb:fn.body with
  | none=>rw [hb] at hn;simp at hn
  | some _=>simp
 unfold execOp
 simp only [ho,resolve,invoke,Sem.run_bind,Act.eval]
 simp [Deferred.ofValue,callFunc,hf,h1,h2]
end
theorem ex_load {o:Oper} {a:Act} {w:World} {t:Nat} {ad:Addr} {u:Value} {ty:TypeId} (ho:o.op=.load ty (.tmp t)) (e:a.tmps[t]?=some (.pointer (some ad))) (hr:(Instr.loadAt ty (.pointer (some ad))).run Tryz.prog w=.ok u w):(execOp a.eval o).run Tryz.prog w=.ok (.value u) w:=by
 have e2:=ev_of e
 simp only [execOp,ho,e2]
 simp [hr,Result.andThen]
/-- The rule, on a frame that is not laid open. -/
theorem wp_region_relyE {P:Program} {id:Nat} {ops:List Oper} {Q:Exit→Act→World→Prop} {a:Act} {w:World} (n:Nat) (hm:P.follows .mixedOrders=true) (hB:relyTB ops.toArray n=true) (I:Act→World→(Nat→Bool)→Act→World→Prop)
  (h:∀ A0,Hid (A0=a)→I A0 w (fun _=>false) A0 w.drew∧RelyStepsT P ops.toArray Q (I A0 w) (ops.take n) 0∧∀ L a' w',(∀ j,j < n→L j=true)→I A0 w L a' w'→wpList P ops.toArray Q (ops.drop n) a' w'):(Code.region id ops.toArray true).wp P Q a w:=by
 obtain ⟨h0,h1,h2⟩:=h a (Lib.hid rfl)
 exact wp_region_relyT n hm hB I h0 h1 h2
end Go.Proofs.YtbmakifbppocaaaGreatDoor
set_option maxRecDepth 100000
namespace Go.Proofs.YtbmakifbppocaaaGreatDoor
open Go.RowKit
theorem form_size:(Tryz.prog.info? 35).map (·.size)=some 11:=by kernel_rfl
theorem rx_size:(Tryz.prog.info? 32).map (·.size)=some 8:=by kernel_rfl
theorem form_under:Tryz.prog.underlying 35=some (.struct (Tryz.prog.fieldsOf 35)):=by kernel_rfl
theorem rx_under:Tryz.prog.underlying 32=some (.struct (Tryz.prog.fieldsOf 32)):=by kernel_rfl
end Go.Proofs.YtbmakifbppocaaaGreatDoor
set_option maxRecDepth 100000
namespace Go.Proofs.YtbmakifbppocaaaGreatDoor
open Go.RowKit
def EqRel (n:Nat) (w:World) (q:Value) (wr:World):Prop:=∃ i:Nat,i≤n∧q=.int .i64 i∧Below w.heap.size w wr
set_option maxHeartbeats 1000000 in
theorem Equal_same (a a':Option Addr) (c c':Nat) (rs:List (Str × Str)) (w:World) (h:Sl w w.heap.size a 2 rs.length (rcells rs)) (h':Sl w w.heap.size a' 2 rs.length (rcells rs)) (hl:rs.length≤1000000) :
  Calls Tryz.prog 89 #[.slice a rs.length c,.slice a' rs.length c'] w fun e w'=>e=.returned (.bool true)∧Below w.heap.size w w':=by
 have H1:=Lib.hid h
 have H2:=Lib.hid h'
 clear h h'
 go_enter Tryz.func89,Tryz.ntmps89
 go_wp2
 go_loopw [13] (fun q wr=>EqRel rs.length w q wr) (fun q _=>rs.length - (intOf q).toNat)
 case atStart=>exact ⟨0,by omega,rfl,Below.refl _ _⟩
 case round =>
  obtain ⟨i,hi,rfl,hb⟩:=hrel
  cases hd:rs[i]? with
  | none =>
   have h2:rs.length≤i:=by simpa using hd
   clear hd
   go_wp2
   go_ret
   exact ⟨rfl,hb⟩
  | some r =>
   have h2:=(List.getElem?_eq_some_iff.1 hd).1
   obtain ⟨b,o,rfl,hb1,c0,c1⟩:=(H1.out.keep hb).row hd
   obtain ⟨b',o',rfl,hb1',c0',c1'⟩:=(H2.out.keep hb).row hd
   obtain ⟨x,y⟩:=r
   simp only at c0 c1 c0' c1'
   clear hd
   go_wp2
   go_quiet (fail)
   go_wp2
   exact ⟨⟨i+1,by omega,by go_num,below_drewN hb _⟩,by simp [intOf];omega⟩
def SameC (y:Rx):Prop:=∀ (S S':Nat→Prop) (cc cc':List Value) (w:World),RxV w S cc y→RxV w S' cc' y →
 Calls Tryz.prog 72 #[.agg cc.toArray,.agg cc'.toArray] w fun e w'=>e=.returned (.bool true)∧Below w.heap.size w w'
theorem RxV.box' {w:World} {S:Nat→Prop} {cc:List Value} {k:Int} {c:Str} {ng:Bool} {rs:List (Str × Str)} {lo hi:Int} {lz:Bool} {ks:List Rx} (h:RxV w S cc (.mk k c ng rs lo hi lz ks)) :
  ∃ ra rc ka kc,cc=rxc k c ng ra rs.length rc lo hi lz ka ks.length kc∧Sl w w.heap.size ra 2 rs.length (rcells rs)∧RxSl w S ka ks.length ks:=by
 obtain ⟨ra,rc,ka,kc,h1,h2,h3⟩:=h.open_
 exact ⟨ra,rc,ka,kc,h1,h2.sl,h3⟩
set_option maxHeartbeats 2000000 in
theorem EqualF_same (S S':Nat→Prop) (a a':Option Addr) (c c':Nat) (ks:List Rx) (w:World) (IH:∀ y ∈ ks,SameC y) (h:RxSl w S a ks.length ks) (h':RxSl w S' a' ks.length ks) (hl:ks.length≤1000000) :
  Calls Tryz.prog 90 #[.slice a ks.length c,.slice a' ks.length c',.func (.func 72) #[] #[]] w fun e w'=>e=.returned (.bool true)∧Below w.heap.size w w':=by
 have H1:=Lib.hid h
 have H2:=Lib.hid h'
 have HIH:=Lib.hid IH
 clear h h' IH
 go_enter Tryz.func90,Tryz.ntmps90
 go_wp2
 go_loopw [17] (fun q wr=>EqRel ks.length w q wr) (fun q _=>ks.length - (intOf q).toNat)
 case atStart=>exact ⟨0,by omega,rfl,Below.refl _ _⟩
 case round =>
  obtain ⟨i,hi,rfl,hb⟩:=hrel
  cases hd:ks[i]? with
  | none =>
   have h2:ks.length≤i:=by simpa using hd
   clear hd
   go_wp2
   go_ret
   exact ⟨rfl,hb⟩
  | some y =>
   have h2:=(List.getElem?_eq_some_iff.1 hd).1
   have HY:=Lib.hid (HIH.out y (List.mem_of_getElem? hd))
   obtain ⟨k,ch,ng,rs,lo,hi',lz,xs⟩:=y
   obtain ⟨b,o,ra,rc,ka,kc,rfl,_,hb1,_,_,hv1,c0,c1,c2,c3,c4,c5,c6,c7⟩:=(H1.out.later hb).cells hd
   obtain ⟨b',o',ra',rc',ka',kc',rfl,_,hb1',_,_,hv1',d0,d1,d2,d3,d4,d5,d6,d7⟩:=(H2.out.later hb).cells hd
   have hbn:Below wr.heap.size wr ((wr.alloc (.cells (rxc k ch ng ra rs.length rc lo hi' lz ka xs.length kc).toArray 32)).alloc (.cells (rxc k ch ng ra' rs.length rc' lo hi' lz ka' xs.length kc').toArray 32)):=((Below.refl _ _).alloc (Nat.le_refl _) _).alloc (by simp) _
   have HC:=Lib.hid (HY.out S S' _ _ _ (hv1.later hbn) (hv1'.later hbn))
   unfold rxc at HC hbn
   have hB:=hb.size
   clear hd hv1 hv1' HY
   go_wp2_with (go_at_call 72;refine HC.out.mono ?_)
   rintro e w2 ⟨rfl,hb2⟩
   have hb3:Below w.heap.size w w2:=(hb.trans (hbn.mono hB)).trans (hb2.mono (Nat.le_trans hB hbn.size))
   clear hbn hb2 HC
   go_wp2
   exact ⟨⟨i+1,by omega,by go_num,hb3⟩,by simp [intOf];omega⟩
end Go.Proofs.YtbmakifbppocaaaGreatDoor
namespace Go.Proofs.YtbmakifbppocaaaGreatDoor
open Go.RowKit
set_option maxHeartbeats 2000000 in
theorem Same_any:∀ (N:Nat) (x:Rx),x.parts≤N→x.small→SameC x
 | 0,x,h,_=>by have:=Rx.parts_pos x;omega
 | N+1,.mk k c ng rs lo hi lz ks,h,hsm=>by
  intro S S' cc cc' w hv hv'
  obtain ⟨ra,rc,ka,kc,rfl,hrs,hks⟩:=hv.box'
  obtain ⟨ra',rc',ka',kc',rfl,hrs',hks'⟩:=hv'.box'
  obtain ⟨⟨s1,s2,s3,s4⟩,hsmL⟩:=hsm
  simp only [Rx.parts] at h
  have ih:∀ y ∈ ks,SameC y:=fun y hy=>Same_any N y (by have:=Rx.parts_mem hy;omega) (smallL_mem hsmL hy)
  have HIH:=Lib.hid ih
  have hbn:Below w.heap.size w ((w.alloc (.cells (rxc k c ng ra rs.length rc lo hi lz ka ks.length kc).toArray 32)).alloc (.cells (rxc k c ng ra' rs.length rc' lo hi lz ka' ks.length kc').toArray 32)):=((Below.refl _ _).alloc (Nat.le_refl _) _).alloc (by simp) _
  obtain ⟨w0,hw0⟩:∃ w0,w0=(w.alloc (.cells (rxc k c ng ra rs.length rc lo hi lz ka ks.length kc).toArray 32)).alloc (.cells (rxc k c ng ra' rs.length rc' lo hi lz ka' ks.length kc').toArray 32):=⟨_,rfl⟩
  rw [← hw0] at hbn
  have hz0:=hbn.size
  have hx1:w0.heap[w.heap.size]?=some (.cells (rxc k c ng ra rs.length rc lo hi lz ka ks.length kc).toArray 32 (0,0)):=by rw [hw0,Below.heap_alloc _ _ _ (by simp)];exact heap_alloc_new w _
  have hx2:w0.heap[w.heap.size+1]?=some (.cells (rxc k c ng ra' rs.length rc' lo hi lz ka' ks.length kc').toArray 32 (0,0)):=by
   rw [hw0];have:=heap_alloc_new (w.alloc (.cells (rxc k c ng ra rs.length rc lo hi lz ka ks.length kc).toArray 32)) (.cells (rxc k c ng ra' rs.length rc' lo hi lz ka' ks.length kc').toArray 32);simpa using this
  have HX1:=Lib.hid hx1
  have HX2:=Lib.hid hx2
  have HEQ:=Lib.hid (Equal_same ra ra' rc rc' rs w0 ((hrs.keep hbn).mono hz0) ((hrs'.keep hbn).mono hz0) s2)
  have HK:=Lib.hid (hks.later hbn)
  have HK':=Lib.hid (hks'.later hbn)
  clear hks hks' hrs hrs' hv hv' ih hx1 hx2
  unfold rxc at hw0 HX1 HX2 ⊢
  go_enter Tryz.func72,Tryz.ntmps72
  go_upto_region 1 with fail
  rw [← hw0]
  clear hw0
  obtain ⟨e0,e1,e2,e3,e4,e5,e6,e7,e8⟩:=bx_cells HX1.out
  obtain ⟨d0,d1,d2,d3,d4,d5,d6,d7,d8⟩:=bx_cells HX2.out
  go_wp2_with (go_at_call 89;refine HEQ.out.mono ?_)
  rintro e w1 ⟨rfl,hb1⟩
  have hx1:=(hb1.block _ (heap_lt HX1.out)).trans HX1.out
  have hx2:=(hb1.block _ (heap_lt HX2.out)).trans HX2.out
  have hbw1:=bel2 hbn hb1
  have HEF:=Lib.hid (EqualF_same S S' ka ka' kc kc' ks w1 HIH.out (HK.out.later hb1) (HK'.out.later hb1) s4)
  clear e0 e1 e2 e3 e4 e5 e6 e7 e8 d0 d1 d2 d3 d4 d5 d6 d7 d8 HEQ
  obtain ⟨e0,e1,e2,e3,e4,e5,e6,e7,e8⟩:=bx_cells hx1
  obtain ⟨d0,d1,d2,d3,d4,d5,d6,d7,d8⟩:=bx_cells hx2
  clear hx1 hx2 hb1
  go_wp2_with (go_at_call 90;refine HEF.out.mono ?_)
  rintro e w2 ⟨rfl,hb2⟩
  have hbw2:=bel2 hbw1 hb2
  go_wp2
  go_ret
  exact ⟨rfl,hbw2⟩
theorem Same_eq {x:Rx} {S S':Nat→Prop} {cc cc':List Value} (w:World) (hs:x.small) (h:RxV w S cc x) (h':RxV w S' cc' x) :
  Calls Tryz.prog 72 #[.agg cc.toArray,.agg cc'.toArray] w fun e w'=>e=.returned (.bool true)∧Below w.heap.size w w':=Same_any _ x (Nat.le_refl _) hs S S' cc cc' w h h'
end Go.Proofs.YtbmakifbppocaaaGreatDoor
set_option maxRecDepth 100000
namespace Go.Proofs.YtbmakifbppocaaaGreatDoor
open Go.RowKit
set_option maxHeartbeats 1000000 in
theorem EqualFm (a a':Option Addr) (c c':Nat) (l:List Fm) (w:World) (h:Sl w w.heap.size a 5 l.length (fcells l)) (h':Sl w w.heap.size a' 5 l.length (fcells l)) (hl:l.length≤1000000) :
  Calls Tryz.prog 73 #[.slice a l.length c,.slice a' l.length c'] w fun e w'=>e=.returned (.bool true)∧Below w.heap.size w w':=by
 have H1:=Lib.hid h
 have H2:=Lib.hid h'
 clear h h'
 go_enter Tryz.func73,Tryz.ntmps73
 go_wp2
 go_loopw [13] (fun q wr=>EqRel l.length w q wr) (fun q _=>l.length - (intOf q).toNat)
 case atStart=>exact ⟨0,by omega,rfl,Below.refl _ _⟩
 case round =>
  obtain ⟨i,hi,rfl,hb⟩:=hrel
  cases hd:l[i]? with
  | none =>
   have h2:l.length≤i:=by simpa using hd
   clear hd
   go_wp2
   go_ret
   exact ⟨rfl,hb⟩
  | some x =>
   have h2:=(List.getElem?_eq_some_iff.1 hd).1
   obtain ⟨b,o,rfl,hb1,c0,c1,c2,c3,c4⟩:=(H1.out.keep hb).fm hd
   obtain ⟨b',o',rfl,hb1',d0,d1,d2,d3,d4⟩:=(H2.out.keep hb).fm hd
   obtain ⟨x0,x1,x2,x3,x4⟩:=x
   simp only at c0 c1 c2 c3 c4 d0 d1 d2 d3 d4
   clear hd
   go_wp2
   go_quiet (fail)
   go_wp2
   exact ⟨⟨i+1,by omega,by go_num,below_drewN hb _⟩,by simp [intOf];omega⟩
end Go.Proofs.YtbmakifbppocaaaGreatDoor
set_option maxRecDepth 100000
namespace Go.Proofs.YtbmakifbppocaaaGreatDoor
open Go.RowKit
/-- A load of many cells under a guard that holds. -/
theorem wpList_ldG {P:Program} {ops:Array Oper} {rest:List Oper} {op:Oper} {a:Act} {w:World} {Q:Exit→Act→World→Prop} (hw:Region.wanted op (yielded ops a.tmps)=true) (ty:TypeId) (x:Operand) (ho:op.op=.load ty x)
  (b o:Nat) (hx:a.eval x=.pointer (some ⟨b,o,none⟩)) (cs:List Value) (d:TypeDesc) (hc:w.rangeAt b o cs)
  (hu:P.underlying ty=some d) (hd:d.isRow=true) (hi:(P.info? ty).map (·.size)=some cs.length)
  (h:wpList P ops Q rest (a.put op.dst (.agg cs.toArray)) w):wpList P ops Q (op :: rest) a w:=by
 unfold wpList
 rw [if_pos hw]
 refine .inl ?_
 unfold Oper.wp execOp
 simp only [ho,hx,Instr.loadAt,Instr.sureAddr,Sem.run_bind,Sem.run_pure,Result.andThen_ok,run_loadVar_mid w b o ty cs d hc hu hd hi]
 exact h
end Go.Proofs.YtbmakifbppocaaaGreatDoor
set_option maxRecDepth 100000
namespace Go.Proofs.YtbmakifbppocaaaGreatDoor
open Go.RowKit
theorem EqRow_no (a a':Option Addr) (n m c c':Nat) (w:World) (h:n≠m):Calls Tryz.prog 89 #[.slice a n c,.slice a' m c'] w fun e w'=>e=.returned (.bool false)∧Below w.heap.size w w':=by
 have g:((n:Int) != (m:Int))=true:=by rw [bne_iff_ne];omega
 have g2:((n:Int) == (m:Int))=false:=by rw [beq_eq_false_iff_ne];omega
 go_enter Tryz.func89,Tryz.ntmps89
 go_wp2
 go_ret
 exact ⟨rfl,Below.refl _ _⟩
theorem EqFm_no (a a':Option Addr) (n m c c':Nat) (w:World) (h:n≠m):Calls Tryz.prog 73 #[.slice a n c,.slice a' m c'] w fun e w'=>e=.returned (.bool false)∧Below w.heap.size w w':=by
  have g:((n:Int) != (m:Int))=true:=by rw [bne_iff_ne];omega
  have g2:((n:Int) == (m:Int))=false:=by rw [beq_eq_false_iff_ne];omega
  go_enter Tryz.func73,Tryz.ntmps73
  go_wp2
  go_ret
  exact ⟨rfl,Below.refl _ _⟩
theorem EqFRx_no (a a':Option Addr) (n m c c':Nat) (v:Value) (w:World) (h:n≠m):Calls Tryz.prog 90 #[.slice a n c,.slice a' m c',v] w fun e w'=>e=.returned (.bool false)∧Below w.heap.size w w':=by
 have g:((n:Int) != (m:Int))=true:=by rw [bne_iff_ne];omega
 have g2:((n:Int) == (m:Int))=false:=by rw [beq_eq_false_iff_ne];omega
 go_enter Tryz.func90,Tryz.ntmps90
 go_wp2
 go_ret
 exact ⟨rfl,Below.refl _ _⟩
def zr8:List Value:=rxc 0 [] false none ([]:List Row).length 0 0 0 false none ([]:List Rx).length 0
theorem zr8_v (w:World) (S:Nat→Prop):RxV w S zr8 rx0:=RxV.close (SlS.none_ _ _ _ _) ⟨[],SlS.none_ _ _ _ _,.nil⟩
set_option maxHeartbeats 4000000 in
theorem SameZ_any (S:Nat→Prop) (x:Rx) (hsm:x.small) (cc:List Value) (w:World) (hv:RxV w S cc x) :
  Calls Tryz.prog 72 #[.agg cc.toArray,.agg zr8.toArray] w fun e w'=>e=.returned (.bool (rxZ x))∧Below w.heap.size w w':=by
 by_cases hz:rxZ x=true
 ·rw [hz]
  obtain rfl:x=rx0:=by
   obtain ⟨k,c,ng,rs,lo,hi,lz,ks⟩:=x
   simp only [rxZ,Bool.and_eq_true,decide_eq_true_eq,List.isEmpty_iff,Bool.not_eq_true'] at hz
   obtain ⟨rfl,rfl,rfl,rfl,rfl,rfl,rfl,rfl⟩:=hz
   rfl
  exact Same_eq w hsm hv (zr8_v w S)
 ·have hzf:rxZ x=false:=by simpa using hz
  rw [hzf]
  obtain ⟨k,c,ng,rs,lo,hi,lz,ks⟩:=x
  obtain ⟨ra,rc,ka,kc,rfl,hrs,hks⟩:=hv.box'
  clear hsm
  have hbn:Below w.heap.size w ((w.alloc (.cells (rxc k c ng ra rs.length rc lo hi lz ka ks.length kc).toArray 32)).alloc (.cells zr8.toArray 32)):=((Below.refl _ _).alloc (Nat.le_refl _) _).alloc (by simp) _
  obtain ⟨w0,hw0⟩:∃ w0,w0=(w.alloc (.cells (rxc k c ng ra rs.length rc lo hi lz ka ks.length kc).toArray 32)).alloc (.cells zr8.toArray 32):=⟨_,rfl⟩
  rw [← hw0] at hbn
  have hx1:w0.heap[w.heap.size]?=some (.cells (rxc k c ng ra rs.length rc lo hi lz ka ks.length kc).toArray 32 (0,0)):=by rw [hw0,Below.heap_alloc _ _ _ (by simp)];exact heap_alloc_new w _
  have hx2:w0.heap[w.heap.size+1]?=some (.cells zr8.toArray 32 (0,0)):=by
   rw [hw0];have:=heap_alloc_new (w.alloc (.cells (rxc k c ng ra rs.length rc lo hi lz ka ks.length kc).toArray 32)) (.cells zr8.toArray 32);simpa using this
  have HX1:=Lib.hid hx1
  have HX2:=Lib.hid hx2
  have HRS:Hid (Sl w0 w0.heap.size ra 2 rs.length (rcells rs)):=Lib.hid ((hrs.keep hbn).mono hbn.size)
  have hl:([]:List Row).length=0:=rfl
  have hl2:([]:List Rx).length=0:=rfl
  unfold zr8 rxc at hw0 HX2 ⊢
  rw [hl,hl2] at hw0 HX2 ⊢
  unfold rxc at HX1
  obtain ⟨rn,hrn⟩:∃ rn,rs.length=rn:=⟨_,rfl⟩
  rw [hrn] at hw0 HX1 HRS ⊢
  obtain ⟨e0,e1,e2,e3,e4,e5,e6,e7,e8⟩:=bx_cells HX1.out
  obtain ⟨d0,d1,d2,d3,d4,d5,d6,d7,d8⟩:=bx_cells HX2.out
  clear hks hrs hv hx1 hx2 hl hl2 hz
  by_cases c0:k=0
  ·subst c0
   by_cases c1:c=[]
   ·subst c1
    cases ng with
    | true =>
     clear hzf
     go_enter Tryz.func72,Tryz.ntmps72
     go_upto_region 1 with fail
     rw [← hw0]
     clear hw0
     go_wp2
     go_ret
     exact ⟨rfl,hbn⟩
    | false =>
     by_cases c3:rn=0
     ·subst c3
      obtain rfl:rs=[]:=List.eq_nil_of_length_eq_zero hrn
      clear hrn
      have HEQ:=Lib.hid (Equal_same ra none rc 0 [] w0 HRS.out (Sl.none_ _ _ _ _) (by simp))
      have HEQ':Hid (Calls Tryz.prog 89 #[.slice ra 0 rc,.slice none 0 0] w0 fun e w'=>e=.returned (.bool true)∧Below w0.heap.size w0 w'):=HEQ
      clear HEQ HRS
      by_cases c4:lo=0
      ·subst c4
       by_cases c5:hi=0
       ·subst c5
        cases lz with
        | true =>
         clear hzf
         go_enter Tryz.func72,Tryz.ntmps72
         go_upto_region 1 with fail
         rw [← hw0]
         clear hw0
         go_wp2_with (go_at_call 89;refine HEQ'.out.mono ?_)
         first | rintro e w1 rfl hb1 | rintro e w1 ⟨rfl,hb1⟩
         obtain ⟨e0,e1,e2,e3,e4,e5,e6,e7,e8⟩:=bx_cells ((hb1.block _ (heap_lt HX1.out)).trans HX1.out)
         obtain ⟨d0,d1,d2,d3,d4,d5,d6,d7,d8⟩:=bx_cells ((hb1.block _ (heap_lt HX2.out)).trans HX2.out)
         replace hbn:=bel2 hbn hb1
         go_wp2
         go_ret
         exact ⟨rfl,hbn⟩
        | false =>
         have hkl:ks.length≠0:=fun e=>by
          obtain rfl:ks=[]:=List.eq_nil_of_length_eq_zero e
          simp [rxZ] at hzf
         have HEF:=Lib.hid (fun w=>EqFRx_no ka none ks.length 0 kc 0 (.func (.func 72) #[] #[]) w hkl)
         clear hzf
         go_enter Tryz.func72,Tryz.ntmps72
         go_upto_region 1 with fail
         rw [← hw0]
         clear hw0
         go_wp2_with (go_at_call 89;refine HEQ'.out.mono ?_)
         first | rintro e w1 rfl hb1 | rintro e w1 ⟨rfl,hb1⟩
         obtain ⟨e0,e1,e2,e3,e4,e5,e6,e7,e8⟩:=bx_cells ((hb1.block _ (heap_lt HX1.out)).trans HX1.out)
         obtain ⟨d0,d1,d2,d3,d4,d5,d6,d7,d8⟩:=bx_cells ((hb1.block _ (heap_lt HX2.out)).trans HX2.out)
         replace hbn:=bel2 hbn hb1
         go_wp2_with (go_at_call 90;refine (HEF.out _).mono ?_)
         first | rintro e w2 rfl hb2 | rintro e w2 ⟨rfl,hb2⟩
         replace hbn:=bel2 hbn hb2
         go_wp2
         go_ret
         exact ⟨rfl,hbn⟩
       ·have g5:(hi == 0)=false:=by rw [beq_eq_false_iff_ne];exact c5
        clear hzf c5
        go_enter Tryz.func72,Tryz.ntmps72
        go_upto_region 1 with fail
        rw [← hw0]
        clear hw0
        go_wp2_with (go_at_call 89;refine HEQ'.out.mono ?_)
        first | rintro e w1 rfl hb1 | rintro e w1 ⟨rfl,hb1⟩
        obtain ⟨e0,e1,e2,e3,e4,e5,e6,e7,e8⟩:=bx_cells ((hb1.block _ (heap_lt HX1.out)).trans HX1.out)
        obtain ⟨d0,d1,d2,d3,d4,d5,d6,d7,d8⟩:=bx_cells ((hb1.block _ (heap_lt HX2.out)).trans HX2.out)
        replace hbn:=bel2 hbn hb1
        go_wp2
        go_ret
        exact ⟨rfl,hbn⟩
      ·have g4:(lo == 0)=false:=by rw [beq_eq_false_iff_ne];exact c4
       clear hzf c4
       go_enter Tryz.func72,Tryz.ntmps72
       go_upto_region 1 with fail
       rw [← hw0]
       clear hw0
       go_wp2_with (go_at_call 89;refine HEQ'.out.mono ?_)
       first | rintro e w1 rfl hb1 | rintro e w1 ⟨rfl,hb1⟩
       obtain ⟨e0,e1,e2,e3,e4,e5,e6,e7,e8⟩:=bx_cells ((hb1.block _ (heap_lt HX1.out)).trans HX1.out)
       obtain ⟨d0,d1,d2,d3,d4,d5,d6,d7,d8⟩:=bx_cells ((hb1.block _ (heap_lt HX2.out)).trans HX2.out)
       replace hbn:=bel2 hbn hb1
       go_wp2
       go_ret
       exact ⟨rfl,hbn⟩
     ·have HEQ:=Lib.hid (fun w=>EqRow_no ra none rn 0 rc 0 w c3)
      clear hzf c3 HRS hrn
      go_enter Tryz.func72,Tryz.ntmps72
      go_upto_region 1 with fail
      rw [← hw0]
      clear hw0
      go_wp2_with (go_at_call 89;refine (HEQ.out _).mono ?_)
      first | rintro e w1 rfl hb1 | rintro e w1 ⟨rfl,hb1⟩
      replace hbn:=bel2 hbn hb1
      go_wp2
      go_ret
      exact ⟨rfl,hbn⟩
   ·have hne:(⟨c.toArray⟩:ByteArray)≠⟨#[]⟩:=fun e=>c1 (by simpa using e)
    have hq1:(c == ([]:Str))=false:=by simpa using c1
    have hq3:decide (c=([]:Str))=false:=decide_eq_false c1
    clear hzf c1
    go_enter Tryz.func72,Tryz.ntmps72
    go_upto_region 1 with fail
    rw [← hw0]
    clear hw0
    go_wp2
    go_ret
    exact ⟨rfl,hbn⟩
  ·have g0:(k == 0)=false:=by rw [beq_eq_false_iff_ne];exact c0
   clear hzf c0
   go_enter Tryz.func72,Tryz.ntmps72
   go_upto_region 1 with fail
   rw [← hw0]
   clear hw0
   go_wp2
   go_ret
   exact ⟨rfl,hbn⟩
def zr11:List Value:=zr8++[.slice none 0 0,.bool false,.bool false]
set_option maxHeartbeats 4000000 in
theorem XSameZ_any (S:Nat→Prop) (f:Tf) (hsm:f.small) (fc:List Value) (w:World) (hv:TfV w S fc f) :
  Calls Tryz.prog 54 #[.agg fc.toArray,.agg zr11.toArray] w fun e w'=>e=.returned (.bool (tfZ f))∧Below w.heap.size w w':=by
 obtain ⟨rk,rch,rng,rrs,rlo,rhi,rlz,rks,ra,rcp,rka,rkc,fa,fcp,hc⟩:=hv.open_
 obtain ⟨X,fs,fd,al⟩:=f
 obtain ⟨hx,hp,hfs⟩:=hsm
 have hx1:X=.mk rk rch rng rrs rlo rhi rlz rks:=hc.rx
 have hfce:fc=[.int .i64 rk,.string ⟨(rch).toArray⟩,.bool rng,.slice ra rrs.length rcp,.int .i64 rlo,.int .i64 rhi,.bool rlz,.slice rka rks.length rkc,.slice fa fs.length fcp,.bool fd,.bool al]:=hc.eq
 obtain ⟨W0,hW0⟩:∃ W0,W0=(w.alloc (.cells fc.toArray 35)).alloc (.cells zr11.toArray 35):=⟨_,rfl⟩
 have hb0:Below w.heap.size w W0:=by rw [hW0];exact ((Below.refl _ _).alloc (Nat.le_refl _) _).alloc (by simp) _
 have HB1:Hid (W0.heap[w.heap.size]?=some (.cells fc.toArray 35 (0,0))):=Lib.hid (by rw [hW0,Below.heap_alloc _ _ _ (by simp)];exact heap_alloc_new w _)
 have HB2:Hid (W0.heap[w.heap.size+1]?=some (.cells zr11.toArray 35 (0,0))):=Lib.hid (by
  have:=heap_alloc_new (w.alloc (.cells fc.toArray 35)) (.cells zr11.toArray 35)
  rw [hW0];simpa using this)
 have hXV:RxV W0 S [.int .i64 rk,.string ⟨(rch).toArray⟩,.bool rng,.slice ra rrs.length rcp,.int .i64 rlo,.int .i64 rhi,.bool rlz,.slice rka rks.length rkc] X:=hx1 ▸ hc.rv.later hb0
 have HXS:=Lib.hid (SameZ_any S X hx _ W0 hXV)
 have HFS:Hid (SlS W0 S fa 5 fs.length (fcells fs)):=Lib.hid (hc.fv.keep (Kept.all hb0))
 subst hfce
 have HTZ:Hid (tfZ ⟨X,fs,fd,al⟩=(rxZ X && (fs.isEmpty && (!fd && !al)))):=Lib.hid rfl
 rw [HTZ.out]
 have HW0:=Lib.hid hW0
 clear hv hc hx hx1 hW0 hp hXV HTZ
 unfold zr11 at HW0 HB2 ⊢
 cases hrz:rxZ X with
 | false =>
  rw [hrz] at HXS
  clear hrz
  go_enter Tryz.func54,Tryz.ntmps54
  go_upto_region 1 with fail
  rw [← HW0.out]
  clear HW0
  go_wp2_with (first
   | (refine wpList_ldW rfl 32 (.tmp 5) rfl w.heap.size 0 rfl [.int .i64 rk,.string ⟨(rch).toArray⟩,.bool rng,.slice ra rrs.length rcp,.int .i64 rlo,.int .i64 rhi,.bool rlz,.slice rka rks.length rkc] _ (range_blk (ds:=[.slice fa fs.length fcp,.bool fd,.bool al]) HB1.out) rx_under rfl (by rw [rx_size];rfl) ?_)
   | (refine wpList_ldW rfl 32 (.tmp 7) rfl (w.heap.size+1) 0 rfl zr8 _ (range_blk (ds:=[.slice none 0 0,.bool false,.bool false]) HB2.out) rx_under rfl (by rw [rx_size];rfl) ?_)
   | (go_at_call 72;refine HXS.out.mono ?_))
  first | rintro e w1 rfl hb1 | rintro e w1 ⟨rfl,hb1⟩
  have hx1:=(hb1.block _ (heap_lt HB1.out)).trans HB1.out
  have hx2:=(hb1.block _ (heap_lt HB2.out)).trans HB2.out
  clear hx1 hx2
  go_wp2
  go_ret
  exact ⟨rfl,(bel2 hb0 hb1)⟩
 | true =>
  rw [hrz] at HXS
  clear hrz
  cases fs with
  | cons g gs =>
   have HE:=Lib.hid (fun w=>EqFm_no fa none (g :: gs).length 0 fcp 0 w (by simp))
   obtain ⟨gn,hgn⟩:∃ gn,(g :: gs).length=gn:=⟨_,rfl⟩
   rw [hgn] at HE HB1 HW0 ⊢
   have HR:Hid ((true && ((g :: gs).isEmpty && (!fd && !al)))=false):=Lib.hid rfl
   rw [HR.out]
   clear HR HFS hfs
   go_enter Tryz.func54,Tryz.ntmps54
   go_upto_region 1 with fail
   rw [← HW0.out]
   clear HW0 hgn
   go_wp2_with (first
    | (refine wpList_ldW rfl 32 (.tmp 5) rfl w.heap.size 0 rfl [.int .i64 rk,.string ⟨(rch).toArray⟩,.bool rng,.slice ra rrs.length rcp,.int .i64 rlo,.int .i64 rhi,.bool rlz,.slice rka rks.length rkc] _ (range_blk (ds:=[.slice fa gn fcp,.bool fd,.bool al]) HB1.out) rx_under rfl (by rw [rx_size];rfl) ?_)
    | (refine wpList_ldW rfl 32 (.tmp 7) rfl (w.heap.size+1) 0 rfl zr8 _ (range_blk (ds:=[.slice none 0 0,.bool false,.bool false]) HB2.out) rx_under rfl (by rw [rx_size];rfl) ?_)
    | (go_at_call 72;refine HXS.out.mono ?_))
   first | rintro e w1 rfl hb1 | rintro e w1 ⟨rfl,hb1⟩
   have hx1:=(hb1.block _ (heap_lt HB1.out)).trans HB1.out
   have hx2:=(hb1.block _ (heap_lt HB2.out)).trans HB2.out
   have z8:=blk_cell hx1 8 rfl
   have y8:w1.cell? ⟨w.heap.size+1,8,none⟩=some (.slice none 0 0):=blk_cell hx2 8 rfl
   clear hx1 hx2
   go_wp2_with (go_at_call 73;refine (HE.out _).mono ?_)
   first | rintro e w2 rfl hb2 | rintro e w2 ⟨rfl,hb2⟩
   go_wp2
   go_ret
   exact ⟨rfl,(bel2 (bel2 hb0 hb1) hb2)⟩
  | nil =>
   have HR:Hid ((true && (([]:List Fm).isEmpty && (!fd && !al)))=(!fd && !al)):=Lib.hid rfl
   rw [HR.out]
   clear HR
   have hl0:([]:List Fm).length=0:=rfl
   rw [hl0] at HB1 HW0 HFS ⊢
   clear hl0
   cases fd with
   | true =>
    go_enter Tryz.func54,Tryz.ntmps54
    go_upto_region 1 with fail
    rw [← HW0.out]
    clear HW0
    go_wp2_with (first
     | (refine wpList_ldW rfl 32 (.tmp 5) rfl w.heap.size 0 rfl [.int .i64 rk,.string ⟨(rch).toArray⟩,.bool rng,.slice ra rrs.length rcp,.int .i64 rlo,.int .i64 rhi,.bool rlz,.slice rka rks.length rkc] _ (range_blk (ds:=[.slice fa 0 fcp,.bool true,.bool al]) HB1.out) rx_under rfl (by rw [rx_size];rfl) ?_)
     | (refine wpList_ldW rfl 32 (.tmp 7) rfl (w.heap.size+1) 0 rfl zr8 _ (range_blk (ds:=[.slice none 0 0,.bool false,.bool false]) HB2.out) rx_under rfl (by rw [rx_size];rfl) ?_)
     | (go_at_call 72;refine HXS.out.mono ?_))
    first | rintro e w1 rfl hb1 | rintro e w1 ⟨rfl,hb1⟩
    have hx1:=(hb1.block _ (heap_lt HB1.out)).trans HB1.out
    have hx2:=(hb1.block _ (heap_lt HB2.out)).trans HB2.out
    have z8:=blk_cell hx1 8 rfl
    have y8:w1.cell? ⟨w.heap.size+1,8,none⟩=some (.slice none 0 0):=blk_cell hx2 8 rfl
    have HE:Hid (Calls Tryz.prog 73 #[.slice fa 0 fcp,.slice none 0 0] w1 fun e w'=>e=.returned (.bool true)∧Below w1.heap.size w1 w'):=Lib.hid (EqualFm fa none fcp 0 [] w1 (HFS.out.keep (Kept.all hb1)).sl (Sl.none_ _ _ _ _) (by simp))
    have HX1:=Lib.hid hx1
    have HX2:=Lib.hid hx2
    clear hx1 hx2
    go_wp2_with (go_at_call 73;refine HE.out.mono ?_)
    first | rintro e w2 rfl hb2 | rintro e w2 ⟨rfl,hb2⟩
    have hx1':=(hb2.block _ (heap_lt HX1.out)).trans HX1.out
    have hx2':=(hb2.block _ (heap_lt HX2.out)).trans HX2.out
    have z9:=blk_cell hx1' 9 rfl
    have y9:w2.cell? ⟨w.heap.size+1,9,none⟩=some (.bool false):=blk_cell hx2' 9 rfl
    have z10:=blk_cell hx1' 10 rfl
    have y10:w2.cell? ⟨w.heap.size+1,10,none⟩=some (.bool false):=blk_cell hx2' 10 rfl
    have hbw:=bel2 (bel2 hb0 hb1) hb2
    clear hx1' hx2' z8 y8 HE
    go_wp2
    go_ret
    exact ⟨rfl,hbw⟩
   | false =>
    cases al with
    | true =>
     go_enter Tryz.func54,Tryz.ntmps54
     go_upto_region 1 with fail
     rw [← HW0.out]
     clear HW0
     go_wp2_with (first
      | (refine wpList_ldW rfl 32 (.tmp 5) rfl w.heap.size 0 rfl [.int .i64 rk,.string ⟨(rch).toArray⟩,.bool rng,.slice ra rrs.length rcp,.int .i64 rlo,.int .i64 rhi,.bool rlz,.slice rka rks.length rkc] _ (range_blk (ds:=[.slice fa 0 fcp,.bool false,.bool true]) HB1.out) rx_under rfl (by rw [rx_size];rfl) ?_)
      | (refine wpList_ldW rfl 32 (.tmp 7) rfl (w.heap.size+1) 0 rfl zr8 _ (range_blk (ds:=[.slice none 0 0,.bool false,.bool false]) HB2.out) rx_under rfl (by rw [rx_size];rfl) ?_)
      | (go_at_call 72;refine HXS.out.mono ?_))
     first | rintro e w1 rfl hb1 | rintro e w1 ⟨rfl,hb1⟩
     have hx1:=(hb1.block _ (heap_lt HB1.out)).trans HB1.out
     have hx2:=(hb1.block _ (heap_lt HB2.out)).trans HB2.out
     have z8:=blk_cell hx1 8 rfl
     have y8:w1.cell? ⟨w.heap.size+1,8,none⟩=some (.slice none 0 0):=blk_cell hx2 8 rfl
     have HE:Hid (Calls Tryz.prog 73 #[.slice fa 0 fcp,.slice none 0 0] w1 fun e w'=>e=.returned (.bool true)∧Below w1.heap.size w1 w'):=Lib.hid (EqualFm fa none fcp 0 [] w1 (HFS.out.keep (Kept.all hb1)).sl (Sl.none_ _ _ _ _) (by simp))
     have HX1:=Lib.hid hx1
     have HX2:=Lib.hid hx2
     clear hx1 hx2
     go_wp2_with (go_at_call 73;refine HE.out.mono ?_)
     first | rintro e w2 rfl hb2 | rintro e w2 ⟨rfl,hb2⟩
     have hx1':=(hb2.block _ (heap_lt HX1.out)).trans HX1.out
     have hx2':=(hb2.block _ (heap_lt HX2.out)).trans HX2.out
     have z9:=blk_cell hx1' 9 rfl
     have y9:w2.cell? ⟨w.heap.size+1,9,none⟩=some (.bool false):=blk_cell hx2' 9 rfl
     have z10:=blk_cell hx1' 10 rfl
     have y10:w2.cell? ⟨w.heap.size+1,10,none⟩=some (.bool false):=blk_cell hx2' 10 rfl
     have hbw:=bel2 (bel2 hb0 hb1) hb2
     clear hx1' hx2' z8 y8 HE
     go_wp2
     go_ret
     exact ⟨rfl,hbw⟩
    | false =>
     go_enter Tryz.func54,Tryz.ntmps54
     go_upto_region 1 with fail
     rw [← HW0.out]
     clear HW0
     go_wp2_with (first
      | (refine wpList_ldW rfl 32 (.tmp 5) rfl w.heap.size 0 rfl [.int .i64 rk,.string ⟨(rch).toArray⟩,.bool rng,.slice ra rrs.length rcp,.int .i64 rlo,.int .i64 rhi,.bool rlz,.slice rka rks.length rkc] _ (range_blk (ds:=[.slice fa 0 fcp,.bool false,.bool false]) HB1.out) rx_under rfl (by rw [rx_size];rfl) ?_)
      | (refine wpList_ldW rfl 32 (.tmp 7) rfl (w.heap.size+1) 0 rfl zr8 _ (range_blk (ds:=[.slice none 0 0,.bool false,.bool false]) HB2.out) rx_under rfl (by rw [rx_size];rfl) ?_)
      | (go_at_call 72;refine HXS.out.mono ?_))
     first | rintro e w1 rfl hb1 | rintro e w1 ⟨rfl,hb1⟩
     have hx1:=(hb1.block _ (heap_lt HB1.out)).trans HB1.out
     have hx2:=(hb1.block _ (heap_lt HB2.out)).trans HB2.out
     have z8:=blk_cell hx1 8 rfl
     have y8:w1.cell? ⟨w.heap.size+1,8,none⟩=some (.slice none 0 0):=blk_cell hx2 8 rfl
     have HE:Hid (Calls Tryz.prog 73 #[.slice fa 0 fcp,.slice none 0 0] w1 fun e w'=>e=.returned (.bool true)∧Below w1.heap.size w1 w'):=Lib.hid (EqualFm fa none fcp 0 [] w1 (HFS.out.keep (Kept.all hb1)).sl (Sl.none_ _ _ _ _) (by simp))
     have HX1:=Lib.hid hx1
     have HX2:=Lib.hid hx2
     clear hx1 hx2
     go_wp2_with (go_at_call 73;refine HE.out.mono ?_)
     first | rintro e w2 rfl hb2 | rintro e w2 ⟨rfl,hb2⟩
     have hx1':=(hb2.block _ (heap_lt HX1.out)).trans HX1.out
     have hx2':=(hb2.block _ (heap_lt HX2.out)).trans HX2.out
     have z9:=blk_cell hx1' 9 rfl
     have y9:w2.cell? ⟨w.heap.size+1,9,none⟩=some (.bool false):=blk_cell hx2' 9 rfl
     have z10:=blk_cell hx1' 10 rfl
     have y10:w2.cell? ⟨w.heap.size+1,10,none⟩=some (.bool false):=blk_cell hx2' 10 rfl
     have hbw:=bel2 (bel2 hb0 hb1) hb2
     clear hx1' hx2' z8 y8 HE
     go_wp2
     go_ret
     exact ⟨rfl,hbw⟩
end Go.Proofs.YtbmakifbppocaaaGreatDoor
set_option maxRecDepth 100000
namespace Go.Proofs.YtbmakifbppocaaaGreatDoor
open Go.RowKit
theorem int_ne {k:Int} (h:k≠0):(k == 0)=false∧(k != 0)=true:=⟨by rw [beq_eq_false_iff_ne];exact h,by rw [bne_iff_ne];exact h⟩
theorem nat_ne {k:Nat} (h:k≠0):(k == 0)=false∧(k != 0)=true∧((k:Int) == 0)=false∧((k:Int) != 0)=true:=⟨by rw [beq_eq_false_iff_ne];exact h,by rw [bne_iff_ne];exact h,by rw [beq_eq_false_iff_ne];omega,by rw [bne_iff_ne];omega⟩
set_option maxHeartbeats 4000000 in
theorem R13SameZ_any (S:Nat→Prop) (x:Rx) (cc:List Value) (w:World) (hv:RxV w S cc x) :
  Calls Tryz.prog 47 #[.agg cc.toArray,.agg zr8.toArray] w fun e w'=>e=.returned (.bool (rxZ x))∧Below w.heap.size w w':=by
 obtain ⟨k,c,ng,rs,lo,hi,lz,ks⟩:=x
 obtain ⟨ra,rc,ka,kc,rfl,hrs,hks⟩:=hv.box'
 have hbn:Below w.heap.size w ((w.alloc (.cells (rxc k c ng ra rs.length rc lo hi lz ka ks.length kc).toArray 32)).alloc (.cells zr8.toArray 32)):=((Below.refl _ _).alloc (Nat.le_refl _) _).alloc (by simp) _
 obtain ⟨w0,hw0⟩:∃ w0,w0=(w.alloc (.cells (rxc k c ng ra rs.length rc lo hi lz ka ks.length kc).toArray 32)).alloc (.cells zr8.toArray 32):=⟨_,rfl⟩
 rw [← hw0] at hbn
 have hx1:w0.heap[w.heap.size]?=some (.cells (rxc k c ng ra rs.length rc lo hi lz ka ks.length kc).toArray 32 (0,0)):=by rw [hw0,Below.heap_alloc _ _ _ (by simp)];exact heap_alloc_new w _
 have hx2:w0.heap[w.heap.size+1]?=some (.cells zr8.toArray 32 (0,0)):=by
  rw [hw0];have:=heap_alloc_new (w.alloc (.cells (rxc k c ng ra rs.length rc lo hi lz ka ks.length kc).toArray 32)) (.cells zr8.toArray 32);simpa using this
 have hz:rxZ (.mk k c ng rs lo hi lz ks)=(decide (k=0) && (c.isEmpty && (!ng && (decide (rs.length=0) && (decide (lo=0) && (decide (hi=0) && (!lz && decide (ks.length=0)))))))):=by
  unfold rxZ
  congr 1;congr 1;congr 1
  cases rs <;> cases ks <;> rfl
 rw [hz]
 have HX1:=Lib.hid hx1
 have HX2:=Lib.hid hx2
 have hl:([]:List Row).length=0:=rfl
 have hl2:([]:List Rx).length=0:=rfl
 unfold zr8 rxc at hw0 HX2 ⊢
 rw [hl,hl2] at hw0 HX2 ⊢
 unfold rxc at HX1
 generalize rs.length=rn at hw0 HX1 ⊢
 generalize ks.length=kn at hw0 HX1 ⊢
 obtain ⟨e0,e1,e2,e3,e4,e5,e6,e7,e8⟩:=bx_cells HX1.out
 obtain ⟨d0,d1,d2,d3,d4,d5,d6,d7,d8⟩:=bx_cells HX2.out
 clear hks hrs hv hx1 hx2 hl hl2 hz
 by_cases c0:k=0
 ·subst c0
  by_cases c1:c=[]
  ·subst c1
   cases ng with
   | true =>
    go_enter Tryz.func47,Tryz.ntmps47
    go_upto_region 1 with fail
    rw [← hw0]
    clear hw0
    go_wp2
    go_ret
    exact ⟨rfl,hbn⟩
   | false =>
    by_cases c4:lo=0
    ·subst c4
     by_cases c5:hi=0
     ·subst c5
      cases lz with
      | true =>
       obtain ⟨b,hb⟩:∃ b,decide (rn=0)=b:=⟨_,rfl⟩
       rw [hb]
       have HR:Hid ((decide ((0:Int)=0) && (List.isEmpty ([]:Str) && (!false && (b && (decide ((0:Int)=0) && (decide ((0:Int)=0) && (!true && decide (kn=0))))))))=false):=Lib.hid (by cases b <;> rfl)
       rw [HR.out]
       clear HR hb
       go_enter Tryz.func47,Tryz.ntmps47
       go_upto_region 1 with fail
       rw [← hw0]
       clear hw0
       go_wp2
       go_ret
       exact ⟨rfl,hbn⟩
      | false =>
       by_cases c3:rn=0
       ·subst c3
        by_cases c7:kn=0
        ·subst c7
         go_enter Tryz.func47,Tryz.ntmps47
         go_upto_region 1 with fail
         rw [← hw0]
         clear hw0
         go_wp2
         go_loopw [5] (fun q wr=>q=.int .i64 0∧wr=w0) (fun _ _=>0)
         case atStart=>exact ⟨rfl,rfl⟩
         case round =>
          obtain ⟨rfl,rfl⟩:=hrel
          go_wp2
          go_loopw [6] (fun q wr2=>q=.int .i64 0∧wr2=wr) (fun _ _=>0)
          case atStart=>exact ⟨rfl,rfl⟩
          case round =>
           obtain ⟨rfl,rfl⟩:=hrel
           go_wp2
           go_ret
           exact ⟨rfl,hbn⟩
        ·obtain ⟨g1,g2,g3,g4⟩:=nat_ne c7
         have HR:Hid ((decide ((0:Int)=0) && (List.isEmpty ([]:Str) && (!false && (decide (0=0) && (decide ((0:Int)=0) && (decide ((0:Int)=0) && (!false && decide (kn=0))))))))=false):=Lib.hid (by rw [decide_eq_false c7];rfl)
         rw [HR.out]
         clear c7 HR
         go_enter Tryz.func47,Tryz.ntmps47
         go_upto_region 1 with fail
         rw [← hw0]
         clear hw0
         go_wp2
         go_ret
         exact ⟨rfl,hbn⟩
       ·obtain ⟨g1,g2,g3,g4⟩:=nat_ne c3
        have HR:Hid ((decide ((0:Int)=0) && (List.isEmpty ([]:Str) && (!false && (decide (rn=0) && (decide ((0:Int)=0) && (decide ((0:Int)=0) && (!false && decide (kn=0))))))))=false):=Lib.hid (by rw [decide_eq_false c3];rfl)
        rw [HR.out]
        clear c3 HR
        go_enter Tryz.func47,Tryz.ntmps47
        go_upto_region 1 with fail
        rw [← hw0]
        clear hw0
        go_wp2
        go_ret
        exact ⟨rfl,hbn⟩
     ·obtain ⟨g1,g2⟩:=int_ne c5
      obtain ⟨b,hb⟩:∃ b,decide (rn=0)=b:=⟨_,rfl⟩
      rw [hb]
      have HR:Hid ((decide ((0:Int)=0) && (List.isEmpty ([]:Str) && (!false && (b && (decide ((0:Int)=0) && (decide (hi=0) && (!lz && decide (kn=0))))))))=false):=Lib.hid (by rw [decide_eq_false c5];cases b <;> rfl)
      rw [HR.out]
      clear c5 HR hb
      go_enter Tryz.func47,Tryz.ntmps47
      go_upto_region 1 with fail
      rw [← hw0]
      clear hw0
      go_wp2
      go_ret
      exact ⟨rfl,hbn⟩
    ·obtain ⟨g1,g2⟩:=int_ne c4
     obtain ⟨b,hb⟩:∃ b,decide (rn=0)=b:=⟨_,rfl⟩
     rw [hb]
     have HR:Hid ((decide ((0:Int)=0) && (List.isEmpty ([]:Str) && (!false && (b && (decide (lo=0) && (decide (hi=0) && (!lz && decide (kn=0))))))))=false):=Lib.hid (by rw [decide_eq_false c4];cases b <;> rfl)
     rw [HR.out]
     clear c4 HR hb
     go_enter Tryz.func47,Tryz.ntmps47
     go_upto_region 1 with fail
     rw [← hw0]
     clear hw0
     go_wp2
     go_ret
     exact ⟨rfl,hbn⟩
  ·have hne:(⟨c.toArray⟩:ByteArray)≠⟨#[]⟩:=fun e=>c1 (by simpa using e)
   have hq1:(c == ([]:Str))=false:=by simpa using c1
   have hq3:decide (c=([]:Str))=false:=decide_eq_false c1
   have hq4:(c != ([]:Str))=true:=by rw [bne_iff_ne];exact c1
   have HR:Hid (∀ b,(decide ((0:Int)=0) && (c.isEmpty && b))=false):=Lib.hid (fun b=>by cases c with | nil=>exact absurd rfl c1 | cons _ _=>rfl)
   rw [HR.out]
   clear c1 HR
   go_enter Tryz.func47,Tryz.ntmps47
   go_upto_region 1 with fail
   rw [← hw0]
   clear hw0
   go_wp2
   go_ret
   exact ⟨rfl,hbn⟩
 ·obtain ⟨g1,g2⟩:=int_ne c0
  have HR:Hid (∀ b,(decide (k=0) && b)=false):=Lib.hid (fun b=>by rw [decide_eq_false c0];rfl)
  rw [HR.out]
  clear c0 HR
  go_enter Tryz.func47,Tryz.ntmps47
  go_upto_region 1 with fail
  rw [← hw0]
  clear hw0
  go_wp2
  go_ret
  exact ⟨rfl,hbn⟩
end Go.Proofs.YtbmakifbppocaaaGreatDoor
set_option maxRecDepth 100000
namespace Go.Proofs.YtbmakifbppocaaaGreatDoor
open Go.RowKit
set_option maxHeartbeats 4000000 in
theorem SameFormZ_any (S:Nat→Prop) (f:Tf) (fc:List Value) (w:World) (hv:TfV w S fc f) :
  Calls Tryz.prog 32 #[.agg fc.toArray,.agg zr11.toArray] w fun e w'=>e=.returned (.bool (tfZ f))∧Below w.heap.size w w':=by
 obtain ⟨rk,rch,rng,rrs,rlo,rhi,rlz,rks,ra,rcp,rka,rkc,fa,fcp,hc⟩:=hv.open_
 obtain ⟨X,fs,fd,al⟩:=f
 have hx1:X=.mk rk rch rng rrs rlo rhi rlz rks:=hc.rx
 have hfce:fc=[.int .i64 rk,.string ⟨(rch).toArray⟩,.bool rng,.slice ra rrs.length rcp,.int .i64 rlo,.int .i64 rhi,.bool rlz,.slice rka rks.length rkc,.slice fa fs.length fcp,.bool fd,.bool al]:=hc.eq
 obtain ⟨W0,hW0⟩:∃ W0,W0=(w.alloc (.cells fc.toArray 35)).alloc (.cells zr11.toArray 35):=⟨_,rfl⟩
 have hb0:Below w.heap.size w W0:=by rw [hW0];exact ((Below.refl _ _).alloc (Nat.le_refl _) _).alloc (by simp) _
 have HB1:Hid (W0.heap[w.heap.size]?=some (.cells fc.toArray 35 (0,0))):=Lib.hid (by rw [hW0,Below.heap_alloc _ _ _ (by simp)];exact heap_alloc_new w _)
 have HB2:Hid (W0.heap[w.heap.size+1]?=some (.cells zr11.toArray 35 (0,0))):=Lib.hid (by
  have:=heap_alloc_new (w.alloc (.cells fc.toArray 35)) (.cells zr11.toArray 35)
  rw [hW0];simpa using this)
 have hXV:RxV W0 S [.int .i64 rk,.string ⟨(rch).toArray⟩,.bool rng,.slice ra rrs.length rcp,.int .i64 rlo,.int .i64 rhi,.bool rlz,.slice rka rks.length rkc] X:=hx1 ▸ hc.rv.later hb0
 have HXS:=Lib.hid (R13SameZ_any S X _ W0 hXV)
 subst hfce
 have HTZ:Hid (tfZ ⟨X,fs,fd,al⟩=(rxZ X && (fs.isEmpty && (!fd && !al)))):=Lib.hid rfl
 rw [HTZ.out]
 have HW0:=Lib.hid hW0
 clear hv hc hx1 hW0 hXV HTZ
 unfold zr11 at HW0 HB2 ⊢
 have hfe:fs.isEmpty=decide (fs.length=0):=by cases fs <;> rfl
 rw [hfe]
 clear hfe
 generalize fs.length=fn at HB1 HW0 ⊢
 cases hrz:rxZ X with
 | false =>
  rw [hrz] at HXS
  have HR:Hid (∀ b,(false && b)=false):=Lib.hid (fun b=>rfl)
  rw [HR.out]
  clear hrz HR
  go_enter Tryz.func32,Tryz.ntmps32
  go_upto_region 1 with fail
  rw [← HW0.out]
  clear HW0
  go_wp2_with (first
   | (refine wpList_ldW rfl 32 (.tmp 6) rfl w.heap.size 0 rfl [.int .i64 rk,.string ⟨(rch).toArray⟩,.bool rng,.slice ra rrs.length rcp,.int .i64 rlo,.int .i64 rhi,.bool rlz,.slice rka rks.length rkc] _ (range_blk (ds:=[.slice fa fn fcp,.bool fd,.bool al]) HB1.out) rx_under rfl (by rw [rx_size];rfl) ?_)
   | (refine wpList_ldW rfl 32 (.tmp 8) rfl (w.heap.size+1) 0 rfl zr8 _ (range_blk (ds:=[.slice none 0 0,.bool false,.bool false]) HB2.out) rx_under rfl (by rw [rx_size];rfl) ?_)
   | (go_at_call 47;refine HXS.out.mono ?_))
  first | rintro e w1 rfl hb1 | rintro e w1 ⟨rfl,hb1⟩
  have hx1:=(hb1.block _ (heap_lt HB1.out)).trans HB1.out
  have hx2:=(hb1.block _ (heap_lt HB2.out)).trans HB2.out
  have z8:=blk_cell hx1 8 rfl
  have y8:w1.cell? ⟨w.heap.size+1,8,none⟩=some (.slice none 0 0):=blk_cell hx2 8 rfl
  have z9:=blk_cell hx1 9 rfl
  have y9:w1.cell? ⟨w.heap.size+1,9,none⟩=some (.bool false):=blk_cell hx2 9 rfl
  have z10:=blk_cell hx1 10 rfl
  have y10:w1.cell? ⟨w.heap.size+1,10,none⟩=some (.bool false):=blk_cell hx2 10 rfl
  clear hx1 hx2
  have hbw:=bel2 hb0 hb1
  go_wp2
  go_ret
  exact ⟨rfl,hbw⟩
 | true =>
  rw [hrz] at HXS
  clear hrz
  cases fd with
  | true =>
   obtain ⟨b,hb⟩:∃ b,decide (fn=0)=b:=⟨_,rfl⟩
   rw [hb]
   have HR:Hid ((true && (b && (!true && !al)))=false):=Lib.hid (by cases b <;> rfl)
   rw [HR.out]
   clear HR hb
   go_enter Tryz.func32,Tryz.ntmps32
   go_upto_region 1 with fail
   rw [← HW0.out]
   clear HW0
   go_wp2_with (first
    | (refine wpList_ldW rfl 32 (.tmp 6) rfl w.heap.size 0 rfl [.int .i64 rk,.string ⟨(rch).toArray⟩,.bool rng,.slice ra rrs.length rcp,.int .i64 rlo,.int .i64 rhi,.bool rlz,.slice rka rks.length rkc] _ (range_blk (ds:=[.slice fa fn fcp,.bool true,.bool al]) HB1.out) rx_under rfl (by rw [rx_size];rfl) ?_)
    | (refine wpList_ldW rfl 32 (.tmp 8) rfl (w.heap.size+1) 0 rfl zr8 _ (range_blk (ds:=[.slice none 0 0,.bool false,.bool false]) HB2.out) rx_under rfl (by rw [rx_size];rfl) ?_)
    | (go_at_call 47;refine HXS.out.mono ?_))
   first | rintro e w1 rfl hb1 | rintro e w1 ⟨rfl,hb1⟩
   have hx1:=(hb1.block _ (heap_lt HB1.out)).trans HB1.out
   have hx2:=(hb1.block _ (heap_lt HB2.out)).trans HB2.out
   have z8:=blk_cell hx1 8 rfl
   have y8:w1.cell? ⟨w.heap.size+1,8,none⟩=some (.slice none 0 0):=blk_cell hx2 8 rfl
   have z9:=blk_cell hx1 9 rfl
   have y9:w1.cell? ⟨w.heap.size+1,9,none⟩=some (.bool false):=blk_cell hx2 9 rfl
   have z10:=blk_cell hx1 10 rfl
   have y10:w1.cell? ⟨w.heap.size+1,10,none⟩=some (.bool false):=blk_cell hx2 10 rfl
   clear hx1 hx2
   have hbw:=bel2 hb0 hb1
   go_wp2
   go_ret
   exact ⟨rfl,hbw⟩
  | false =>
   cases al with
   | true =>
    obtain ⟨b,hb⟩:∃ b,decide (fn=0)=b:=⟨_,rfl⟩
    rw [hb]
    have HR:Hid ((true && (b && (!false && !true)))=false):=Lib.hid (by cases b <;> rfl)
    rw [HR.out]
    clear HR hb
    go_enter Tryz.func32,Tryz.ntmps32
    go_upto_region 1 with fail
    rw [← HW0.out]
    clear HW0
    go_wp2_with (first
     | (refine wpList_ldW rfl 32 (.tmp 6) rfl w.heap.size 0 rfl [.int .i64 rk,.string ⟨(rch).toArray⟩,.bool rng,.slice ra rrs.length rcp,.int .i64 rlo,.int .i64 rhi,.bool rlz,.slice rka rks.length rkc] _ (range_blk (ds:=[.slice fa fn fcp,.bool false,.bool true]) HB1.out) rx_under rfl (by rw [rx_size];rfl) ?_)
     | (refine wpList_ldW rfl 32 (.tmp 8) rfl (w.heap.size+1) 0 rfl zr8 _ (range_blk (ds:=[.slice none 0 0,.bool false,.bool false]) HB2.out) rx_under rfl (by rw [rx_size];rfl) ?_)
     | (go_at_call 47;refine HXS.out.mono ?_))
    first | rintro e w1 rfl hb1 | rintro e w1 ⟨rfl,hb1⟩
    have hx1:=(hb1.block _ (heap_lt HB1.out)).trans HB1.out
    have hx2:=(hb1.block _ (heap_lt HB2.out)).trans HB2.out
    have z8:=blk_cell hx1 8 rfl
    have y8:w1.cell? ⟨w.heap.size+1,8,none⟩=some (.slice none 0 0):=blk_cell hx2 8 rfl
    have z9:=blk_cell hx1 9 rfl
    have y9:w1.cell? ⟨w.heap.size+1,9,none⟩=some (.bool false):=blk_cell hx2 9 rfl
    have z10:=blk_cell hx1 10 rfl
    have y10:w1.cell? ⟨w.heap.size+1,10,none⟩=some (.bool false):=blk_cell hx2 10 rfl
    clear hx1 hx2
    have hbw:=bel2 hb0 hb1
    go_wp2
    go_ret
    exact ⟨rfl,hbw⟩
   | false =>
    by_cases c3:fn=0
    ·subst c3
     go_enter Tryz.func32,Tryz.ntmps32
     go_upto_region 1 with fail
     rw [← HW0.out]
     clear HW0
     go_wp2_with (first
      | (refine wpList_ldW rfl 32 (.tmp 6) rfl w.heap.size 0 rfl [.int .i64 rk,.string ⟨(rch).toArray⟩,.bool rng,.slice ra rrs.length rcp,.int .i64 rlo,.int .i64 rhi,.bool rlz,.slice rka rks.length rkc] _ (range_blk (ds:=[.slice fa 0 fcp,.bool false,.bool false]) HB1.out) rx_under rfl (by rw [rx_size];rfl) ?_)
      | (refine wpList_ldW rfl 32 (.tmp 8) rfl (w.heap.size+1) 0 rfl zr8 _ (range_blk (ds:=[.slice none 0 0,.bool false,.bool false]) HB2.out) rx_under rfl (by rw [rx_size];rfl) ?_)
      | (go_at_call 47;refine HXS.out.mono ?_))
     first | rintro e w1 rfl hb1 | rintro e w1 ⟨rfl,hb1⟩
     have hx1:=(hb1.block _ (heap_lt HB1.out)).trans HB1.out
     have hx2:=(hb1.block _ (heap_lt HB2.out)).trans HB2.out
     have z8:=blk_cell hx1 8 rfl
     have y8:w1.cell? ⟨w.heap.size+1,8,none⟩=some (.slice none 0 0):=blk_cell hx2 8 rfl
     have z9:=blk_cell hx1 9 rfl
     have y9:w1.cell? ⟨w.heap.size+1,9,none⟩=some (.bool false):=blk_cell hx2 9 rfl
     have z10:=blk_cell hx1 10 rfl
     have y10:w1.cell? ⟨w.heap.size+1,10,none⟩=some (.bool false):=blk_cell hx2 10 rfl
     clear hx1 hx2
     have hbw:=bel2 hb0 hb1
     go_wp2
     go_loopw [5] (fun q wr=>q=.int .i64 0∧wr=w1) (fun _ _=>0)
     case atStart=>exact ⟨rfl,rfl⟩
     case round =>
      obtain ⟨rfl,rfl⟩:=hrel
      go_wp2
      go_ret
      exact ⟨rfl,hbw⟩
    ·obtain ⟨g1,g2,g3,g4⟩:=nat_ne c3
     have HR:Hid ((true && (decide (fn=0) && (!false && !false)))=false):=Lib.hid (by rw [decide_eq_false c3];rfl)
     rw [HR.out]
     clear HR c3
     go_enter Tryz.func32,Tryz.ntmps32
     go_upto_region 1 with fail
     rw [← HW0.out]
     clear HW0
     go_wp2_with (first
      | (refine wpList_ldW rfl 32 (.tmp 6) rfl w.heap.size 0 rfl [.int .i64 rk,.string ⟨(rch).toArray⟩,.bool rng,.slice ra rrs.length rcp,.int .i64 rlo,.int .i64 rhi,.bool rlz,.slice rka rks.length rkc] _ (range_blk (ds:=[.slice fa fn fcp,.bool false,.bool false]) HB1.out) rx_under rfl (by rw [rx_size];rfl) ?_)
      | (refine wpList_ldW rfl 32 (.tmp 8) rfl (w.heap.size+1) 0 rfl zr8 _ (range_blk (ds:=[.slice none 0 0,.bool false,.bool false]) HB2.out) rx_under rfl (by rw [rx_size];rfl) ?_)
      | (go_at_call 47;refine HXS.out.mono ?_))
     first | rintro e w1 rfl hb1 | rintro e w1 ⟨rfl,hb1⟩
     have hx1:=(hb1.block _ (heap_lt HB1.out)).trans HB1.out
     have hx2:=(hb1.block _ (heap_lt HB2.out)).trans HB2.out
     have z8:=blk_cell hx1 8 rfl
     have y8:w1.cell? ⟨w.heap.size+1,8,none⟩=some (.slice none 0 0):=blk_cell hx2 8 rfl
     have z9:=blk_cell hx1 9 rfl
     have y9:w1.cell? ⟨w.heap.size+1,9,none⟩=some (.bool false):=blk_cell hx2 9 rfl
     have z10:=blk_cell hx1 10 rfl
     have y10:w1.cell? ⟨w.heap.size+1,10,none⟩=some (.bool false):=blk_cell hx2 10 rfl
     clear hx1 hx2
     have hbw:=bel2 hb0 hb1
     go_wp2
     go_ret
     exact ⟨rfl,hbw⟩
end Go.Proofs.YtbmakifbppocaaaGreatDoor
set_option maxRecDepth 100000
namespace Go.Proofs.YtbmakifbppocaaaGreatDoor
open Go.RowKit
def letN (c:UInt8):Bool:=decide (65≤c.toNat∧c.toNat≤90) || decide (97≤c.toNat∧c.toNat≤122)
def digN (c:UInt8):Bool:=decide (48≤c.toNat∧c.toNat≤57)
set_option maxHeartbeats 400000 in
theorem LetN_any (c:UInt8) (w:World):Calls Tryz.prog 48 #[.int .u8 c.toNat] w fun e w'=>e=.returned (.bool (letN c))∧w=w':=by
 go_enter Tryz.func48,Tryz.ntmps48
 go_wp2
 all_goals (go_ret;refine ⟨ret_bool ?_,rfl⟩;unfold letN;rw [Bool.eq_iff_iff];simp only [Bool.or_eq_true,decide_eq_true_eq];first | omega | (simp;omega) | skip)
set_option maxHeartbeats 400000 in
theorem DigN_any (c:UInt8) (w:World):Calls Tryz.prog 49 #[.int .u8 c.toNat] w fun e w'=>e=.returned (.bool (digN c))∧w=w':=by
 go_enter Tryz.func49,Tryz.ntmps49
 go_wp2
 all_goals (go_ret;refine ⟨ret_bool ?_,rfl⟩;unfold digN;rw [Bool.eq_iff_iff];simp only [decide_eq_true_eq];first | omega | (simp;omega) | skip)
theorem letN_facts {c:UInt8} (h:letN c=true):nameC c=true∧57 < c.toNat:=by
 unfold letN at h;unfold nameC
 simp only [Bool.or_eq_true,decide_eq_true_eq] at h ⊢
 omega
theorem nameN_eq (c:UInt8):nameC c=(letN c || (digN c || decide (c.toNat=95))):=by
 unfold letN nameC digN
 rw [Bool.eq_iff_iff]
 simp only [Bool.or_eq_true,decide_eq_true_eq]
 omega
theorem digN_le {c:UInt8} (h:digN c=true):c.toNat≤57:=by
 unfold digN at h;simp only [decide_eq_true_eq] at h;omega
set_option maxHeartbeats 1000000 in
theorem RName20_any (s:Str) (w:World) (hs:s.length≤1000000) :
  Calls Tryz.prog 34 #[.string ⟨(s).toArray⟩] w fun e w'=>e=.returned (.bool (nameB s))∧w=w':=by
 generalize hR:nameB s=R
 have HR:=Lib.hid hR
 clear hR
 by_cases h0:s=[]
 ·subst h0
  have HR2:Hid (R=false):=Lib.hid (by rw [← HR.out];rfl)
  clear HR
  go_enter Tryz.func34,Tryz.ntmps34
  go_wp2
  go_ret
  exact ⟨by rw [HR2.out];rfl,rfl⟩
 by_cases h64:64 < s.length
 ·have hz:((s.length:Int) == 0)=false:=by rw [beq_eq_false_iff_ne];omega
  have HR2:Hid (R=false):=Lib.hid (by
   rw [← HR.out]
   cases s with
   | nil=>rfl
   | cons c r=>simp only [nameB];rw [decide_eq_false (by omega)];rfl)
  clear HR h0
  go_enter Tryz.func34,Tryz.ntmps34
  go_wp2
  go_ret
  exact ⟨by rw [HR2.out];rfl,rfl⟩
 have hs1:1≤s.length:=by cases s with | nil=>exact absurd rfl h0 | cons _ _=>simp
 have hz0:((s.length:Int) == 0)=false:=by rw [beq_eq_false_iff_ne];omega
 have H0:=Lib.hid h0
 clear h0
 go_enter Tryz.func34,Tryz.ntmps34
 go_wp2
 go_loopw [3] (fun q wr=>NmRel s w q wr) (fun q _=>s.length - (intOf q).toNat)
 case atStart=>exact ⟨0,by omega,rfl,rfl,Lib.hid (by simp),Lib.hid (by omega)⟩
 case round =>
  obtain ⟨i,hi,rfl,rfl,HA,HH⟩:=hrel
  cases hd:s.drop i with
  | nil =>
   have h2:=drop_nil hd
   have hil:i=s.length:=by omega
   subst hil
   have gl:decide (s.length < s.length)=false:=decide_eq_false (by omega)
   have HR2:Hid (R=true):=Lib.hid (by
    rw [← HR.out]
    cases s with
    | nil=>exact absurd rfl H0.out
    | cons c r =>
     have h57:57 < c.toNat:=HH.out (by simp)
     rw [nameB_good (fun d hd=>HA.out d (by rw [List.take_length];exact hd)) h57]
     exact decide_eq_true (by omega))
   clear hd HA HH HR
   go_wp2
   go_ret
   exact ⟨by rw [HR2.out];rfl,rfl⟩
  | cons c r =>
   obtain ⟨h2,h3,hr⟩:=drop_cons hd
   have hmem:c ∈ s:=by rw [← h3 h2];exact List.getElem_mem h2
   have gl:decide (i < s.length)=true:=decide_eq_true h2
   have HTk:Hid (s.take (i+1)=s.take i++[c]):=Lib.hid (by rw [List.take_add_one,List.getElem?_eq_getElem h2,h3 h2];rfl)
   have HL:=Lib.hid (LetN_any c)
   have HD:=Lib.hid (DigN_any c)
   have hNE:=nameN_eq c
   have hA2:nameC c=true→Hid (∀ d ∈ s.take (i+1),nameC d=true):=fun hn=>Lib.hid (by
    rw [HTk.out]
    intro d hd'
    rcases List.mem_append.1 hd' with hd' | hd'
    ·exact HA.out d hd'
    ·rw [List.mem_singleton] at hd';rw [hd'];exact hn)
   have hH2:(i=0→57 < c.toNat)→Hid (0 < i+1→57 < (s.headD 0).toNat):=fun h57=>Lib.hid (fun _=>by
    by_cases hi0:i=0
    ·subst hi0;rw [List.drop_zero] at hd;rw [hd];exact h57 rfl
    ·exact HH.out (by omega))
   cases hdg:digN c with
   | false =>
    rw [hdg] at HD hNE
    cases hl:letN c with
    | true =>
     rw [hl] at HL hNE
     have HA2:=hA2 hNE
     have HH2:=hH2 (fun _=>(letN_facts hl).2)
     clear hA2 hH2
     clear hd hmem HA HH hr HTk hNE hl hdg
     go_wp2_with (first | (go_at_call 48;refine (HL.out _).mono ?_;rintro e w1 ⟨rfl,rfl⟩) | (go_at_call 49;refine (HD.out _).mono ?_;rintro e w1 ⟨rfl,rfl⟩))
     go_roundw
     case rel=>exact ⟨i+1,by omega,by go_num,rfl,HA2,HH2⟩
     case measure=>simp [intOf];omega
    | false =>
     rw [hl] at HL hNE
     by_cases h95:c.toNat=95
     ·have g1:((c.toNat:Int) != 95)=false:=by rw [bne_eq_false_iff_eq];omega
      have g2:((c.toNat:Int) == 95)=true:=by rw [beq_iff_eq];omega
      have HA2:=hA2 (by rw [hNE,decide_eq_true h95];rfl)
      have HH2:=hH2 (fun _=>by omega)
      clear hA2 hH2 h95
      clear hd hmem HA HH hr HTk hNE hl hdg
      go_wp2_with (first | (go_at_call 48;refine (HL.out _).mono ?_;rintro e w1 ⟨rfl,rfl⟩) | (go_at_call 49;refine (HD.out _).mono ?_;rintro e w1 ⟨rfl,rfl⟩))
      go_roundw
      case rel=>exact ⟨i+1,by omega,by go_num,rfl,HA2,HH2⟩
      case measure=>simp [intOf];omega
     ·have g1:((c.toNat:Int) != 95)=true:=by rw [bne_iff_ne];omega
      have g2:((c.toNat:Int) == 95)=false:=by rw [beq_eq_false_iff_ne];omega
      have HR2:Hid (R=false):=Lib.hid (by rw [← HR.out];exact nameB_bad hmem (by rw [hNE,decide_eq_false h95];rfl))
      clear hA2 hH2 h95 HR
      by_cases hi0:i=0
      ·subst hi0
       clear hd hmem HA HH hr HTk hNE hl hdg
       go_wp2_with (first | (go_at_call 48;refine (HL.out _).mono ?_;rintro e w1 ⟨rfl,rfl⟩) | (go_at_call 49;refine (HD.out _).mono ?_;rintro e w1 ⟨rfl,rfl⟩))
       go_ret
       exact ⟨by rw [HR2.out];rfl,rfl⟩
      ·have hzi:((i:Int) == 0)=false:=by rw [beq_eq_false_iff_ne];omega
       have hzn:(i == 0)=false:=by rw [beq_eq_false_iff_ne];exact hi0
       clear hd hmem HA HH hr HTk hNE hl hdg
       go_wp2_with (first | (go_at_call 48;refine (HL.out _).mono ?_;rintro e w1 ⟨rfl,rfl⟩) | (go_at_call 49;refine (HD.out _).mono ?_;rintro e w1 ⟨rfl,rfl⟩))
       go_ret
       exact ⟨by rw [HR2.out];rfl,rfl⟩
   | true =>
    have hle:=digN_le hdg
    rw [hdg] at HD
    cases hl:letN c with
    | true=>have:=(letN_facts hl).2;omega
    | false =>
     rw [hl] at HL
     rw [hl,hdg] at hNE
     have g1:((c.toNat:Int) != 95)=true:=by rw [bne_iff_ne];omega
     have g2:((c.toNat:Int) == 95)=false:=by rw [beq_eq_false_iff_ne];omega
     by_cases hi0:i=0
     ·subst hi0
      have HR2:Hid (R=false):=Lib.hid (by rw [← HR.out];rw [List.drop_zero] at hd;rw [hd];exact nameB_dig hle)
      clear hA2 hH2 HR hle
      clear hd hmem HA HH hr HTk hNE hl hdg
      go_wp2_with (first | (go_at_call 48;refine (HL.out _).mono ?_;rintro e w1 ⟨rfl,rfl⟩) | (go_at_call 49;refine (HD.out _).mono ?_;rintro e w1 ⟨rfl,rfl⟩))
      go_ret
      exact ⟨by rw [HR2.out];rfl,rfl⟩
     ·have hzi:((i:Int) == 0)=false:=by rw [beq_eq_false_iff_ne];omega
      have hzn:(i == 0)=false:=by rw [beq_eq_false_iff_ne];exact hi0
      have HA2:=hA2 hNE
      have HH2:=hH2 (fun h=>absurd h hi0)
      clear hA2 hH2 hle
      clear hd hmem HA HH hr HTk hNE hl hdg
      go_wp2_with (first | (go_at_call 48;refine (HL.out _).mono ?_;rintro e w1 ⟨rfl,rfl⟩) | (go_at_call 49;refine (HD.out _).mono ?_;rintro e w1 ⟨rfl,rfl⟩))
      go_roundw
      case rel=>exact ⟨i+1,by omega,by go_num,rfl,HA2,HH2⟩
      case measure=>simp [intOf];omega
end Go.Proofs.YtbmakifbppocaaaGreatDoor
