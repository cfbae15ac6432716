/- A region that draws its order, whose operations make memory: by what is true of it all the while, whatever order the tape picks. -/
import Derived.Test.YtbgcjpefocdkkaaGreatSm1
import Derived.Deep.Quiet
set_option maxRecDepth 100000
namespace Go.Proofs.YtbgcjpefocdkkaaGreat
open Go.RowKit
theorem oper_then {P:Program} {o:Oper} {a:Act} {w:World} {K:Act→World→Prop} {Q:Exit→Act→World→Prop} (h:o.wp P a w K (Exit.then K Q)):o.wp P a w K Q:=by
 unfold Oper.wp at *;generalize (execOp a.eval o).run P w=r at *
 cases r with
 | ok n w' =>
  cases n<;>simp only [Oper.upon] at h ⊢<;>first|exact h|exact h.mono (fun e w'' he=>by cases e<;>exact he)
 | halt x w'=>cases x<;>simp only [Oper.upon] at h ⊢<;>exact h
theorem oper_then' {P:Program} {o:Oper} {a:Act} {w:World} {K K1 K2:Act→World→Prop} {Q:Exit→Act→World→Prop} (h:o.wp P a w K (Exit.then K1 Q)):o.wp P a w K (Exit.then K2 Q):=by
 unfold Oper.wp at *;generalize (execOp a.eval o).run P w=r at *
 cases r with
 | ok n w' =>
  cases n<;>simp only [Oper.upon] at h ⊢<;>first|exact h|exact h.mono (fun e w'' he=>by cases e<;>exact he)
 | halt x w'=>cases x<;>simp only [Oper.upon] at h ⊢<;>exact h
def relyB (ops:Array Oper):Bool:=(List.range ops.size).all fun i=>((ops[i]?).map fun o=>o.guard.isNone&&o.after.all fun e=>!Region.binds .any e||decide (e.on<i)).getD true
theorem relyB_at {ops:Array Oper} (h:relyB ops=true) {i:Nat} {o:Oper} (ho:ops[i]?=some o):o.guard=none∧∀e∈o.after,Region.binds .any e=true→e.on<i:=by
 have hi:i<ops.size:=(Array.getElem?_eq_some_iff.1 ho).1;have h1:=List.all_eq_true.1 h i (List.mem_range.2 hi);rw [ho] at h1;simp only [Option.map_some,Option.getD_some,Bool.and_eq_true,Option.isNone_iff_eq_none,Array.all_eq_true_iff_forall_mem] at h1;refine⟨h1.1,fun e he hb=>?_⟩;have:=h1.2 e he
 rw [hb] at this;simpa using this
def open_ (ops:Array Oper) (listed:Array Bool):Nat:=((List.range ops.size).filter fun j=>!listed.getD j true).length
theorem open_dec {ops:Array Oper} {listed:Array Bool} {i:Nat} (hi:i<ops.size) (hs:listed.size=ops.size) (h:listed.getD i true=false):open_ ops (listed.setIfInBounds i true)<open_ ops listed:=by
 unfold open_;have e:((List.range ops.size).filter fun j=>!(listed.setIfInBounds i true).getD j true)=((List.range ops.size).filter fun j=>!listed.getD j true).filter fun j=>decide (j≠i):=by
  rw [List.filter_filter];apply List.filter_congr
  intro j hj;by_cases hji:j=i
  ·subst hji
   have:(listed.setIfInBounds j true).getD j true=true:=by simp [Array.getD_eq_getD_getElem?,hs]
   rw [this];simp
  ·have:(listed.setIfInBounds i true).getD j true=listed.getD j true:=by
    simp only [Array.getD_eq_getD_getElem?];rw [Array.getElem?_setIfInBounds_ne (Ne.symm hji)]
   rw [this];simp [hji]
 rw [e,List.length_filter_lt_length_iff_exists];exact⟨i,List.mem_filter.2 ⟨List.mem_range.2 hi,by rw [h];rfl⟩,by simp⟩
theorem none_ready {ops:Array Oper} (hB:relyB ops=true) {listed:Array Bool} (h:Region.ready .any ops listed=[]) (hs:listed.size=ops.size):∀i,i<ops.size→listed.getD i false=true:=by
 intro i;induction i using Nat.strongRecOn with
 | ind i ih =>
  intro hi;cases hl:listed.getD i false with
  | true=>rfl
  | false =>
   exfalso;obtain⟨o,ho⟩:∃o,ops[i]?=some o:=⟨_,Array.getElem?_eq_getElem hi⟩;have hm:i∈Region.ready .any ops listed:=by
    rw [mem_ready];refine⟨?_,o,ho,fun e he hb=>?_⟩
    ·have hls:i<listed.size:=by omega
     simp only [Array.getD_eq_getD_getElem?,Array.getElem?_eq_getElem hls,Option.getD_some] at hl ⊢;exact hl
    ·have hlt:=(relyB_at hB ho).2 e he hb
     exact ih e.on hlt (by omega)
   rw [h] at hm;cases hm
theorem wpAny_rely {P:Program} {ops:Array Oper} {Q:Exit→Act→World→Prop} (hB:relyB ops=true) (I:(Nat→Bool)→Act→World→Prop)
  (hstep:∀(L:Nat→Bool) (i:Nat) (o:Oper) (a:Act) (w:World),ops[i]?=some o→L i=false→(∀e∈o.after,Region.binds .any e=true→L e.on=true)→I L a w →
   wpList P #[o] (Exit.then (fun a' w'=>I (fun j=>L j||j==i) a' w') Q) [o] a w)
  (hend:∀(L:Nat→Bool) (a:Act) (w:World),(∀i,i<ops.size→L i=true)→I L a w→Q .normal a w) :
  ∀(fuel:Nat) (listed:Array Bool) (L:Nat→Bool) (a:Act) (w:World),listed.size=ops.size→open_ ops listed≤fuel→(∀j,L j=listed.getD j false)→I L a w→wpAny P .any ops Q fuel listed a w:=by
 have fin:∀(listed:Array Bool) (L:Nat→Bool) (a:Act) (w:World),listed.size=ops.size→(∀j,L j=listed.getD j false)→I L a w→Region.ready .any ops listed=[]→Q .normal a w :=
  fun listed L a w hs hL h hr=>hend _ a w (fun i hi=>by rw [hL];exact none_ready hB hr hs i hi) h
 intro fuel;induction fuel with
 | zero =>
  intro listed L a w hs hf hL h;have hr:Region.ready .any ops listed=[]:=by
   apply List.eq_nil_iff_forall_not_mem.2
   intro i hi;obtain⟨h1,o,ho,_⟩:=mem_ready.1 hi;have hlt:=(Array.getElem?_eq_some_iff.1 ho).1;have:=open_dec hlt hs h1
   omega
  exact⟨hr,fin listed L a w hs hL h hr⟩
 | succ fuel ih =>
  intro listed L a w hs hf hL h;refine⟨fin listed L a w hs hL h,fun i hi=>?_⟩;obtain⟨h1,o,ho,hall⟩:=mem_ready.1 hi;have hlt:=(Array.getElem?_eq_some_iff.1 ho).1;have hd:=open_dec hlt hs h1;have hg:=(relyB_at hB ho).1;have hls:i<listed.size:=by omega
  have hLi:L i=false:=by
   rw [hL];simp only [Array.getD_eq_getD_getElem?,Array.getElem?_eq_getElem hls,Option.getD_some] at h1 ⊢;exact h1
  have hst:=hstep L i o a w ho hLi (fun e he hb=>by rw [hL];exact hall e he hb) h;have hw:∀t,Region.wanted o (yielded ops t)=true:=fun t=>by simp [Region.wanted,hg]
  have hw1:∀t,Region.wanted o (yielded #[o] t)=true:=fun t=>by simp [Region.wanted,hg]
  unfold wpOp;rw [ho];simp only [hw,if_true];unfold wpList at hst;rw [if_pos (hw1 _)] at hst;have key:∀a' w',I (fun j=>L j||j==i) a' w'→wpAny P .any ops Q fuel (listed.setIfInBounds i true) a' w':=fun a' w' h' =>
   ih _ (fun j=>L j||j==i) a' w' (by simpa using hs) (by omega) (fun j=>by
    by_cases hji:j=i
    ·subst hji
     simp [Array.getD_eq_getD_getElem?,hls]
    ·have e1:(j==i)=false:=beq_eq_false_iff_ne.2 hji
     rw [e1,Bool.or_false,hL];simp only [Array.getD_eq_getD_getElem?];rw [Array.getElem?_setIfInBounds_ne (Ne.symm hji)]) h'
  rcases hst with h2|⟨h2,h3⟩
  ·exact .inl (Oper.wp_mono key (oper_then h2))
  ·exact .inr ⟨h2,h3⟩
theorem wp_region_rely {P:Program} {id:Nat} {ops:Array Oper} {Q:Exit→Act→World→Prop} {a:Act} {w:World} (hm:P.follows .mixedOrders=true) (hB:relyB ops=true) (I:(Nat→Bool)→Act→World→Prop)
  (h0:I (fun _=>false) a w.drew)
  (hstep:∀(L:Nat→Bool) (i:Nat) (o:Oper) (a:Act) (w:World),ops[i]?=some o→L i=false→(∀e∈o.after,Region.binds .any e=true→L e.on=true)→I L a w →
   wpList P #[o] (Exit.then (fun a' w'=>I (fun j=>L j||j==i) a' w') Q) [o] a w)
  (hend:∀(L:Nat→Bool) (a:Act) (w:World),(∀i,i<ops.size→L i=true)→I L a w→Q .normal a w):(Code.region id ops true).wp P Q a w :=
 wp_region_any hm (wpAny_rely hB I hstep hend ops.size (Array.replicate ops.size false) (fun _=>false) a w.drew (by simp) (by
  have:=List.length_filter_le (fun j=>!(Array.replicate ops.size false).getD j true) (List.range ops.size)
  simpa [open_] using this) (fun j=>by simp [Array.getD_eq_getD_getElem?,Array.getElem?_replicate];split<;>rfl) h0)
def DepsOk (o:Oper) (L:Nat→Bool):Prop:=∀e∈o.after,Region.binds .any e=true→L e.on=true
def RelySteps (P:Program) (Q:Exit→Act→World→Prop) (I:(Nat→Bool)→Act→World→Prop):List Oper→Nat→Prop
 | [],_=>True
 | [o],_=>∀(L:Nat→Bool) (a:Act) (w:World),DepsOk o L→I L a w→wpList P #[o] (Exit.then (fun a' w'=>Q .normal a' w') Q) [o] a w
 | o::rest,i=>(∀(L:Nat→Bool) (a:Act) (w:World),L i=false→DepsOk o L→I L a w→wpList P #[o] (Exit.then (fun a' w'=>I (fun j=>L j||j==i) a' w') Q) [o] a w)∧RelySteps P Q I rest (i+1)
theorem RelySteps.last {P:Program} {Q:Exit→Act→World→Prop} {I:(Nat→Bool)→Act→World→Prop}:∀{l:List Oper} {k i:Nat} {o:Oper},RelySteps P Q I l k→l[i]?=some o→i+1=l.length →
  ∀(L:Nat→Bool) (a:Act) (w:World),DepsOk o L→I L a w→wpList P #[o] (Exit.then (fun a' w'=>Q .normal a' w') Q) [o] a w
 | [],_,_,_,_,h,_=>by simp at h
 | [x],_,0,o,hs,h,_=>by simp at h;subst h;exact hs
 | [x],_,i+1,o,_,h,_=>by simp at h
 | x::y::l,k,0,o,_,_,hl=>by simp at hl
 | x::y::l,k,i+1,o,hs,h,hl=>RelySteps.last (l:=y::l) (k:=k+1) (i:=i) hs.2 (by simpa using h) (by simpa using hl)
theorem RelySteps.at_ {P:Program} {Q:Exit→Act→World→Prop} {I:(Nat→Bool)→Act→World→Prop}:∀{l:List Oper} {k i:Nat} {o:Oper},RelySteps P Q I l k→l[i]?=some o→i+1<l.length →
  ∀(L:Nat→Bool) (a:Act) (w:World),L (k+i)=false→DepsOk o L→I L a w→wpList P #[o] (Exit.then (fun a' w'=>I (fun j=>L j||j==k+i) a' w') Q) [o] a w
 | [],_,_,_,_,h,_=>by simp at h
 | [x],_,i,o,_,_,hl=>by simp at hl
 | x::y::l,k,0,o,hs,h,_=>by simp at h;subst h;exact hs.1
 | x::y::l,k,i+1,o,hs,h,hl=>by
  have:=RelySteps.at_ (l:=y::l) (k:=k+1) (i:=i) hs.2 (by simpa using h) (by simpa using hl)
  rw [show k+(i+1)=k+1+i by omega];exact this
def relyL (ops:Array Oper):Bool:=relyB ops&&decide (0<ops.size)&&((ops[ops.size-1]?).map fun o=>(List.range (ops.size-1)).all fun i=>o.after.any fun e=>Region.binds .any e&&e.on==i).getD false
theorem wp_region_relyL {P:Program} {id:Nat} {ops:List Oper} {Q:Exit→Act→World→Prop} {a:Act} {w:World} (hm:P.follows .mixedOrders=true) (hB:relyL ops.toArray=true) (I:(Nat→Bool)→Act→World→Prop)
  (h0:I (fun _=>false) a w.drew) (hs:RelySteps P Q I ops 0):(Code.region id ops.toArray true).wp P Q a w:=by
 unfold relyL at hB;simp only [Bool.and_eq_true,decide_eq_true_eq] at hB;obtain⟨⟨hB1,hsz⟩,hB3⟩:=hB;obtain⟨n,hn⟩:∃n,ops.length=n+1:=⟨ops.length-1,by simp at hsz;omega⟩;have hsz2:ops.toArray.size=n+1:=by simpa using hn
 obtain⟨ol,hol⟩:∃ol,ops[n]?=some ol:=⟨_,List.getElem?_eq_getElem (by omega)⟩;have hall:∀j,j<n→∃e∈ol.after,Region.binds .any e=true∧e.on=j:=by
  intro j hj;rw [hsz2] at hB3;simp only [Nat.add_sub_cancel,List.getElem?_toArray,hol,Option.map_some,Option.getD_some] at hB3;have h1:=List.all_eq_true.1 hB3 j (List.mem_range.2 hj);obtain⟨i,hi,h2,h3⟩:∃(i:Nat) (h:i<ol.after.size),Region.binds .any ol.after[i]=true∧ol.after[i].on=j:=by simpa using h1
  exact⟨ol.after[i],Array.getElem_mem hi,h2,h3⟩
 refine wp_region_rely hm hB1 (fun L a w=>(L n=false→I L a w)∧(L n=true→(∀j,j<n→L j=true)∧Q .normal a w)) ⟨fun _=>h0,fun h=>by cases h⟩ ?_ ?_
 ·intro L i o a w ho hLi hde hI
  have ho':ops[i]?=some o:=by simpa using ho
  have hlt:i<n+1:=by have:=(List.getElem?_eq_some_iff.1 ho').1;omega
  by_cases hin:i=n
  ·subst hin
   have hst:=hs.last ho' hn.symm L a w hde (hI.1 hLi);have hLall:∀j,j<i→L j=true:=fun j hj=>by
    obtain rfl:o=ol:=by rw [ho'] at hol;injection hol
    obtain⟨e,he,hb,hon⟩:=hall j hj;rw [←hon];exact hde e he hb
   unfold wpList at hst ⊢;split
   ·rename_i hw
    rw [if_pos hw] at hst;refine hst.imp (fun h=>?_) (fun h=>h);refine oper_then' (Oper.wp_mono (K':=wpList P #[o] _ []) ?_ h);intro a' w' h';refine⟨fun h=>by simp at h,fun _=>⟨fun j hj=>by simp [hLall j hj],h'⟩⟩
   ·rename_i hw
    rw [if_neg hw] at hst;exact⟨fun h=>by simp at h,fun _=>⟨fun j hj=>by simp [hLall j hj],hst⟩⟩
  ·have hLn:L n=false:=by
    cases h:L n with
    | false=>rfl
    | true=>have:=(hI.2 h).1 i (by omega);rw [hLi] at this;cases this
   have hst:=hs.at_ ho' (by omega) L a w (by simpa using hLi) hde (hI.1 hLn);have hni:(n==i)=false:=beq_eq_false_iff_ne.2 (Ne.symm hin);simp only [Nat.zero_add] at hst;unfold wpList at hst ⊢;split
   ·rename_i hw
    rw [if_pos hw] at hst;refine hst.imp (fun h=>?_) (fun h=>h);refine oper_then' (Oper.wp_mono (K':=wpList P #[o] _ []) ?_ h);intro a' w' h';exact⟨fun _=>h',fun h=>by simp [hLn,hni] at h⟩
   ·rename_i hw
    rw [if_neg hw] at hst;exact⟨fun _=>hst,fun h=>by simp [hLn,hni] at h⟩
 ·intro L a w hL hI
  exact(hI.2 (hL n (by omega))).2
theorem put_self (a:Act) (d:Nat):a.put (some d) (a.tmps.getD d undef)=a:=by
 have e:a.tmps.setIfInBounds d (a.tmps.getD d undef)=a.tmps:=by
  apply Array.ext_getElem?
  intro i;by_cases h:d=i
  ·subst h
   by_cases hd:d<a.tmps.size
   ·rw [Array.getElem?_setIfInBounds_self_of_lt hd,Array.getElem?_eq_getElem hd,Array.getD_eq_getD_getElem?,Array.getElem?_eq_getElem hd];rfl
   ·rw [Array.getElem?_eq_none (by simpa using hd),Array.getElem?_eq_none (by simpa using hd)]
  ·rw [Array.getElem?_setIfInBounds_ne h]
 show ({ a with tmps:=a.tmps.setIfInBounds d (a.tmps.getD d undef) }:Act)=a
 rw [e]
def putsL:List Nat→Nat→(Nat→Value)→Act→Act
 | [],_,_,a=>a
 | d::ds,k,V,a=>putsL ds (k+1) V (a.put (some d) (V k))
theorem putsL_self (a:Act):∀(ds:List Nat) (k:Nat) (V:Nat→Value),(∀i d,ds[i]?=some d→V (k+i)=a.tmps.getD d undef)→putsL ds k V a=a
 | [],_,_,_=>rfl
 | d::ds,k,V,h=>by
  have h0:=h 0 d rfl;simp only [putsL];rw [show V k=a.tmps.getD d undef from h0,put_self];exact putsL_self a ds (k+1) V fun i d' hi=>by have:=h (i+1) d' (by simpa using hi);rw [show k+(i+1)=k+1+i by omega] at this;exact this
theorem putsL_own (a:Act) (ds:List Nat):∃V:Nat→Value,a=putsL ds 0 V a:=by
 refine⟨fun i=>a.tmps.getD (ds.getD i 0) undef,(putsL_self a ds 0 _ fun i d hi=>?_).symm⟩;have e:ds.getD i 0=d:=by rw [List.getD_eq_getElem?_getD,hi];rfl
 simp only [Nat.zero_add,e]
def upd (V:Nat→Value) (i:Nat) (v:Value):Nat→Value:=fun j=>if j=i then v else V j
theorem wp_region_relyA {P:Program} {id:Nat} {ops:List Oper} {Q:Exit→Act→World→Prop} {a:Act} {w:World} (hm:P.follows .mixedOrders=true) (hB:relyL ops.toArray=true) (I:Act→World→(Nat→Bool)→Act→World→Prop)
  (h0:I a w (fun _=>false) a w.drew) (hs:RelySteps P Q (I a w) ops 0):(Code.region id ops.toArray true).wp P Q a w :=
 wp_region_relyL hm hB (I a w) h0 hs
end Go.Proofs.YtbgcjpefocdkkaaGreat
