/- A region that draws its order, with guards: by what is true of it all the while, whatever order the tape picks. -/
import Derived.Test.YtbnkaecmgfolpaaGreatHb15
import Derived.Shelf.Abstract
set_option maxRecDepth 100000
namespace Go.Proofs.YtbnkaecmgfolpaaGreat
open Go.RowKit
def tE (ops:Array Oper):Bool:=(List.range ops.size).all fun i=>((ops[i]?).map fun o=>o.after.all fun e=>!Region.binds .any e||decide (e.on<i)).getD true
theorem zG {ops:Array Oper} (h:tE ops=true) {i:Nat} {o:Oper} (ho:ops[i]?=some o):∀e∈o.after,Region.binds .any e=true→e.on<i:=by
 have hi:i<ops.size:=(Array.getElem?_eq_some_iff.1 ho).1;have h1:=List.all_eq_true.1 h i (List.mem_range.2 hi);rw [ho] at h1;simp only [Option.map_some,Option.getD_some,Array.all_eq_true_iff_forall_mem] at h1;intro e he hb;have:=h1 e he
 rw [hb] at this;simpa using this
theorem t7 {ops:Array Oper} (hB:tE ops=true) {listed:Array Bool} (h:Region.ready .any ops listed=[]) (hs:listed.size=ops.size):∀i,i<ops.size→listed.getD i false=true:=by
 intro i;induction i using Nat.strongRecOn with
 | ind i ih =>
  intro hi;cases hl:listed.getD i false with
  | true=>rfl
  | false =>
   exfalso;obtain⟨o,ho⟩:∃o,ops[i]?=some o:=⟨_,Array.getElem?_eq_getElem hi⟩;have hm:i∈Region.ready .any ops listed:=by
    rw [mem_ready];refine⟨?_,o,ho,fun e he hb=>?_⟩
    ·have hls:i<listed.size:=fg
     simp only [Array.getD_eq_getD_getElem?,Array.getElem?_eq_getElem hls,Option.getD_some] at hl ⊢;exact hl
    ·have hlt:=zG hB ho e he hb
     exact ih e.on hlt fg
   rw [h] at hm;cases hm
theorem oper_to {P:Program} {o:Oper} {a:Act} {w:World} {K K2:Act→World→Prop} {Q:Exit→Act→World→Prop} (h:o.wp P a w K Q):o.wp P a w K (Exit.then K2 Q):=by
 exact bC
theorem uC {P:Program} {ops:Array Oper} {Q:Exit→Act→World→Prop} (hB:tE ops=true) (I:(Nat→Bool)→Act→World→Prop)
  (hstep:∀(L:Nat→Bool) (i:Nat) (o:Oper) (a:Act) (w:World),ops[i]?=some o→L i=false→(∀e∈o.after,Region.binds .any e=true→L e.on=true)→I L a w →
   wpList P ops (Exit.then (fun a' w'=>I (fun j=>L j||j==i) a' w') Q) [o] a w)
  (hend:∀(L:Nat→Bool) (a:Act) (w:World),(∀i,i<ops.size→L i=true)→I L a w→Q .normal a w) :
  ∀(fuel:Nat) (listed:Array Bool) (L:Nat→Bool) (a:Act) (w:World),listed.size=ops.size→open_ ops listed≤fuel→(∀j,L j=listed.getD j false)→I L a w→wpAny P .any ops Q fuel listed a w:=by
 have fin:∀(listed:Array Bool) (L:Nat→Bool) (a:Act) (w:World),listed.size=ops.size→(∀j,L j=listed.getD j false)→I L a w→Region.ready .any ops listed=[]→Q .normal a w :=
  fun listed L a w hs hL h hr=>hend _ a w (fun i hi=>by rw [hL];exact t7 hB hr hs i hi) h
 intro fuel;induction fuel with
 | zero =>
  intro listed L a w hs hf hL h;have hr:Region.ready .any ops listed=[]:=by
   apply List.eq_nil_iff_forall_not_mem.2
   intro i hi;obtain⟨h1,o,ho,_⟩:=mem_ready.1 hi;have hlt:=(Array.getElem?_eq_some_iff.1 ho).1;have:=vL hlt hs h1
   omega
  exact⟨hr,fin listed L a w hs hL h hr⟩
 | succ fuel ih =>
  intro listed L a w hs hf hL h;refine⟨fin listed L a w hs hL h,fun i hi=>?_⟩;obtain⟨h1,o,ho,hall⟩:=mem_ready.1 hi;have hlt:=(Array.getElem?_eq_some_iff.1 ho).1;have hd:=vL hlt hs h1;have hls:i<listed.size:=fg;have hLi:L i=false:=by
   rw [hL];simp only [Array.getD_eq_getD_getElem?,Array.getElem?_eq_getElem hls,Option.getD_some] at h1 ⊢;exact h1
  have hst:=hstep L i o a w ho hLi (fun e he hb=>by rw [hL];exact hall e he hb) h;have key:∀a' w',I (fun j=>L j||j==i) a' w'→wpAny P .any ops Q fuel (listed.setIfInBounds i true) a' w':=fun a' w' h' =>
   ih _ (fun j=>L j||j==i) a' w' (by simpa using hs) fg (fun j=>by
    by_cases hji:j=i
    ·subst hji
     simp [Array.getD_eq_getD_getElem?,hls]
    ·have e1:(j==i)=false:=Aj.2 hji
     rw [e1,Bool.or_false,hL];simp only [Array.getD_eq_getD_getElem?];rw [Array.getElem?_setIfInBounds_ne (Ne.symm hji)]) h'
  unfold wpOp;rw [ho];show if Region.wanted o (yielded ops a.tmps)=true then _ else _
  unfold wpList at hst;by_cases hw:Region.wanted o (yielded ops a.tmps)=true
  ·rw [zL hw] at hst ⊢
   rcases hst with h2|⟨h2,h3⟩
   ·exact .inl (Oper.wp_mono key (xg h2))
   ·exact .inr ⟨h2,h3⟩
  ·rw [zO hw] at hst ⊢
   exact key _ _ hst
theorem pD {P:Program} {id:Nat} {ops:Array Oper} {Q:Exit→Act→World→Prop} {a:Act} {w:World} (hm:P.follows .mixedOrders=true) (hB:tE ops=true) (I:(Nat→Bool)→Act→World→Prop)
  (h0:I (fun _=>false) a w.drew)
  (hstep:∀(L:Nat→Bool) (i:Nat) (o:Oper) (a:Act) (w:World),ops[i]?=some o→L i=false→(∀e∈o.after,Region.binds .any e=true→L e.on=true)→I L a w →
   wpList P ops (Exit.then (fun a' w'=>I (fun j=>L j||j==i) a' w') Q) [o] a w)
  (hend:∀(L:Nat→Bool) (a:Act) (w:World),(∀i,i<ops.size→L i=true)→I L a w→Q .normal a w):(Code.region id ops true).wp P Q a w :=
 wp_region_any hm (uC hB I hstep hend ops.size (Array.replicate ops.size false) (fun _=>false) a w.drew fq (by
  have:=List.length_filter_le (fun j=>!(Array.replicate ops.size false).getD j true) (List.range ops.size)
  simpa [open_] using this) (fun j=>by simp [Array.getD_eq_getD_getElem?,Array.getElem?_replicate];split<;>rfl) h0)
def xT (ops:Array Oper) (n:Nat):Bool:=tE ops&&decide (n<ops.size)&&Region.sinkB .any ops n&&Region.chainB .any ops n
def RelyStepsT (P:Program) (ops:Array Oper) (Q:Exit→Act→World→Prop) (I:(Nat→Bool)→Act→World→Prop):List Oper→Nat→Prop
 | [],_=>True
 | o::rest,i=>(∀(L:Nat→Bool) (a:Act) (w:World),L i=false→jX o L→I L a w→wpList P ops (Exit.then (fun a' w'=>I (fun j=>L j||j==i) a' w') Q) [o] a w)∧RelyStepsT P ops Q I rest (i+1)
theorem RelyStepsT.at_ {P:Program} {ops:Array Oper} {Q:Exit→Act→World→Prop} {I:(Nat→Bool)→Act→World→Prop}:∀{l:List Oper} {k i:Nat} {o:Oper},RelyStepsT P ops Q I l k→l[i]?=some o →
  ∀(L:Nat→Bool) (a:Act) (w:World),L (k+i)=false→jX o L→I L a w→wpList P ops (Exit.then (fun a' w'=>I (fun j=>L j||j==k+i) a' w') Q) [o] a w
 | [],_,_,_,_,h=>by simp at h
 | x::l,k,0,o,hs,h=>by simp at h;subst h;exact hs.1
 | x::l,k,i+1,o,hs,h=>by
  have:=RelyStepsT.at_ (k:=k+1) (i:=i) hs.2 fS
  rw [show k+(i+1)=k+1+i by omega];exact this
def Clo (ops:Array Oper) (L:Nat→Bool):Prop:=∀j o,ops[j]?=some o→L j=true→jX o L
theorem Clo.add {ops:Array Oper} {L:Nat→Bool} (h:Clo ops L) {i:Nat} {o:Oper} (ho:ops[i]?=some o) (hd:jX o L):Clo ops (fun j=>L j||j==i):=by
 intro j oj hj hL e he hb;have key:jX oj L:=by
  by_cases hji:j=i
  ·subst hji
   obtain rfl:oj=o:=by rw [hj] at ho;injection ho
   exact hd
  ·have e1:(j==i)=false:=Aj.2 hji
   simp only [e1,Bool.or_false] at hL;exact h j oj hj hL
 simp [key e he hb]
theorem Clo.sink {ops:Array Oper} {L:Nat→Bool} (h:Clo ops L) {n:Nat} {o:Oper} (hs:Region.sinkB .any ops n=true) (ho:ops[n]?=some o) (hd:jX o L):∀(d i:Nat),n-i=d→i<n→L i=true:=by
 intro d;induction d using Nat.strongRecOn with
 | _ d ih =>
  intro i hdi hi;have h1:=List.all_eq_true.1 hs i (List.mem_range.2 hi);obtain⟨j,hj,hj2⟩:=List.any_eq_true.1 h1;simp only [Am,zJ] at hj2;obtain⟨oj,hoj,e,he,hb,hon⟩:=Region.waitsFor_spec hj2.2;have hjle:j≤n:=by have:=List.mem_range.1 hj;omega
  rw [←hon];by_cases hjn:j=n
  ·subst hjn
   obtain rfl:oj=o:=by rw [hoj] at ho;injection ho
   exact hd e he hb
  ·exact h j oj hoj (ih (n-j) fg j rfl fg) e he hb
theorem sL {ops:Array Oper} {n t:Nat} {o:Oper} (hc:Region.chainB .any ops n=true) (ht:n<t) (ho:ops[t]?=some o) {L:Nat→Bool} (hd:jX o L):L (t-1)=true:=by
 have htl:=(Array.getElem?_eq_some_iff.1 ho).1;have h1:=List.all_eq_true.1 hc t (List.mem_range.2 htl);simp only [Ai,zJ] at h1;rcases h1 with h1|h1
 ·omega
 ·obtain⟨o',ho',e,he,hb,hon⟩:=Region.waitsFor_spec h1
  obtain rfl:o'=o:=by rw [ho'] at ho;injection ho
  rw [←hon];exact hd e he hb
theorem uF {P:Program} {ops:Array Oper} {Q:Exit→Act→World→Prop} {o:Oper} {rest:List Oper} {a:Act} {w:World} {K:Act→World→Prop} (h:wpList P ops Q (o::rest) a w) (hK:∀a' w',wpList P ops Q rest a' w'→K a' w') :
  wpList P ops (Exit.then K Q) [o] a w:=by
 unfold wpList at h ⊢;split
 ·rename_i hw
  rw [zL hw] at h;rcases h with h|⟨h1,h2⟩
  ·exact .inl (oper_to (Oper.wp_mono (K':=wpList P ops (Exit.then K Q) []) (fun a' w' h'=>hK a' w' h') h))
  ·exact .inr ⟨h1,h2⟩
 ·rename_i hw
  rw [zO hw] at h;exact hK _ _ h
def TailI (P:Program) (ops:List Oper) (Q:Exit→Act→World→Prop) (n:Nat) (I:(Nat→Bool)→Act→World→Prop) (L:Nat→Bool) (a:Act) (w:World):Prop :=
 Clo ops.toArray L∧((∀t,n≤t→t<ops.length→L t=false)∧I L a w∨∃t,n≤t∧t<ops.length∧L t=true∧(∀j,t<j→j<ops.length→L j=false)∧wpList P ops.toArray Q (ops.drop (t+1)) a w)
theorem qi {P:Program} {id:Nat} {ops:List Oper} {Q:Exit→Act→World→Prop} {a:Act} {w:World} (n:Nat) (hm:P.follows .mixedOrders=true) (hB:xT ops.toArray n=true) (I:Act→World→(Nat→Bool)→Act→World→Prop)
  (h0:I a w (fun _=>false) a w.drew) (hs:RelyStepsT P ops.toArray Q (I a w) (ops.take n) 0)
  (hend:∀L a' w',(∀j,j<n→L j=true)→I a w L a' w'→wpList P ops.toArray Q (ops.drop n) a' w'):(Code.region id ops.toArray true).wp P Q a w:=by
 simp only [xT,Am,zJ] at hB;obtain⟨⟨⟨hB1,hn⟩,hsk⟩,hch⟩:=hB;have hn':n<ops.length:=by simpa using hn
 obtain⟨on,hon⟩:∃on,ops[n]?=some on:=⟨_,zN hn'⟩;refine pD hm hB1 (TailI P ops Q n (I a w)) ⟨fun j o hj h=>(by cases h),.inl ⟨fun _ _ _=>rfl,h0⟩⟩ ?_ ?_
 ·intro L i o a' w' ho hLi hde hI
  have ho':ops[i]?=some o:=by simpa using ho
  have hil:=(zQ.1 ho').1;obtain⟨hclo,hI⟩:=hI;have hclo':=hclo.add ho hde;by_cases hin:i<n
  ·have hno:∀t,n≤t→t<ops.length→L t=false:=by
    rcases hI with⟨h,_⟩|⟨t,ht,htl,hLt,_,_⟩
    ·exact h
    ·exfalso
     obtain⟨ot,hot⟩:∃ot,ops[t]?=some ot:=⟨_,zN htl⟩;have hdown:∀k,n+k≤t→L (t-k)=true:=by
      intro k;induction k with
      | zero=>intro _;exact hLt
      | succ k ih =>
       exact bD
     have hLn:L n=true:=by have:=hdown (t-n) fg;rwa [show t-(t-n)=n by omega] at this
     have:=hclo.sink hsk (by simpa using hon) (hclo n on (by simpa using hon) hLn) (n-i) i rfl hin
     rw [this] at hLi;cases hLi
   have hIo:I a w L a' w':=by
    rcases hI with⟨_,h⟩|⟨t,ht,htl,hLt,_,_⟩
    ·exact h
    ·rw [hno t ht htl] at hLt;cases hLt
   have hst:=hs.at_ (i:=i) (o:=o) (by rw [List.getElem?_take_of_lt hin];exact ho') L a' w' (by simpa using hLi) hde hIo;simp only [Nat.zero_add] at hst;have key:∀a2 w2,I a w (fun j=>L j||j==i) a2 w2→TailI P ops Q n (I a w) (fun j=>L j||j==i) a2 w2:=fun a2 w2 h=>⟨hclo',.inl ⟨fun t ht htl=>by
    have e1:(t==i)=false:=Aj.2 fg;simp [hno t ht htl,e1],h⟩⟩
   unfold wpList at hst ⊢;split
   ·rename_i hw
    rw [zL hw] at hst;refine hst.imp (fun h=>?_) (fun h=>h);exact vV (Oper.wp_mono (K':=wpList P ops.toArray _ []) (fun a2 w2 h2=>key a2 w2 h2) h)
   ·rename_i hw
    rw [zO hw] at hst;exact key _ _ hst
  ·have hni:n≤i:=Nat.le_of_not_lt hin
   have hrest:wpList P ops.toArray Q (ops.drop i) a' w':=by
    by_cases he:i=n
    ·subst he
     rcases hI with⟨hno,hI⟩|⟨t,ht,htl,hLt,hgt,_⟩
     ·exact hend L a' w' (fun j hj=>hclo.sink hsk ho hde (i-j) j rfl hj) hI
     ·exfalso
      by_cases hte:t=i
      ·subst hte;rw [hLt] at hLi;cases hLi
      ·obtain⟨ot,hot⟩:∃ot,ops[t]?=some ot:=⟨_,zN htl⟩
       have hdown:∀k,i+k≤t→L (t-k)=true:=by
        intro k;induction k with
        | zero=>intro _;exact hLt
        | succ k ih =>
         exact bD
       have:=hdown (t-i) fg
       rw [show t-(t-i)=i by omega,hLi] at this;cases this
    ·have hp:=sL hch (t:=i) fg ho hde
     rcases hI with⟨hno,_⟩|⟨t,ht,htl,hLt,hgt,hw⟩
     ·rw [hno (i-1) fg fg] at hp;cases hp
     ·have hti:t=i-1:=by
       rcases Nat.lt_trichotomy t (i-1) with h|h|h
       ·rw [hgt (i-1) h fg] at hp;cases hp
       ·exact h
       ·exfalso
        by_cases hte:t=i
        ·subst hte;rw [hLt] at hLi;cases hLi
        ·have hdown:∀k,i+k≤t→L (t-k)=true:=by
          intro k;induction k with
          | zero=>intro _;exact hLt
          | succ k ih =>
           exact bD
         have:=hdown (t-i) fg
         rw [show t-(t-i)=i by omega,hLi] at this;cases this
      subst hti;rwa [show i-1+1=i by omega] at hw
   have hcons:ops.drop i=o::ops.drop (i+1):=by
    rw [List.drop_eq_getElem_cons hil];have:=(zQ.1 ho').2
    rw [this]
   rw [hcons] at hrest;refine uF hrest fun a2 w2 h2=>⟨hclo',.inr ⟨i,hni,hil,by simp,fun j hj hjl=>?_,h2⟩⟩
   have e1:(j==i)=false:=Aj.2 fg;cases hLj:L j with
   | false=>simp [hLj,e1]
   | true =>
    exfalso;have hdown:∀k,i+k≤j→L (j-k)=true:=by
     intro k;induction k with
     | zero=>intro _;exact hLj
     | succ k ih =>
      intro hk;have h1:=ih fg;obtain⟨ok,hok⟩:∃ok,ops[j-k]?=some ok:=⟨_,zN fg⟩;have h2:=sL hch (t:=j-k) fg (by simpa using hok) (hclo _ ok (by simpa using hok) h1);rw [show j-(k+1)=j-k-1 by omega];exact h2
    have:=hdown (j-i) fg
    rw [show j-(j-i)=i by omega,hLi] at this;cases this
 ·intro L a' w' hL hI
  obtain⟨_,hI⟩:=hI;rcases hI with⟨hno,_⟩|⟨t,ht,htl,hLt,hgt,hw⟩
  ·have h1:=hno n (zP _) hn'
   rw [hL n hn] at h1;cases h1
  ·have hte:t+1=ops.length:=by
    rcases Nat.lt_or_ge (t+1) ops.length with h|h
    ·have h1:=hgt (t+1) fg h
     rw [hL (t+1) fS] at h1;cases h1
    ·omega
   rw [List.drop_eq_nil_of_le fg] at hw;exact hw
theorem pH (d:Nat) (ds:List Nat) (k:Nat) (V:Nat→Value) (a:Act):nG (d::ds) k V a=nG ds (k+1) V (a.put (some d) (V k)):=rfl
theorem qJ:∀(ds:List Nat) (k:Nat) (V:Nat→Value) (a:Act),(nG ds k V a).tmps.size=a.tmps.size
 | [],_,_,_=>rfl
 | d::ds,k,V,a=>(qJ ds (k+1) V _).trans (by simp [Act.put])
theorem oA:∀(ds:List Nat) (k:Nat) (V:Nat→Value) (a:Act) (t:Nat),t ∉ ds→(nG ds k V a).tmps[t]?=a.tmps[t]?
 | [],_,_,_,_,_=>rfl
 | d::ds,k,V,a,t,h=>by
  rw [pH,oA ds (k+1) V _ t (fun e=>h (Ap _ e))];simp only [Act.put];rw [Array.getElem?_setIfInBounds_ne (fun e=>h (by simp [e]))]
theorem qD:∀(ds:List Nat) (k:Nat) (V:Nat→Value) (a:Act) (i t:Nat),ds.Nodup→ds[i]?=some t→t<a.tmps.size→(nG ds k V a).tmps[t]?=some (V (k+i))
 | [],_,_,_,i,t,_,h,_=>by simp at h
 | d::ds,k,V,a,0,t,hn,h,hs=>by
  simp at h;subst h
  rw [pH,oA ds (k+1) V _ _ (List.nodup_cons.1 hn).1];simp [Act.put,hs]
 | d::ds,k,V,a,i+1,t,hn,h,hs=>by
  rw [pH,qD ds (k+1) V _ i t (List.nodup_cons.1 hn).2 fS (by simpa [Act.put] using hs)];rw [show k+1+i=k+(i+1) by omega]
theorem mv:∀(ds:List Nat) (k:Nat) (V:Nat→Value) (a:Act),(nG ds k V a).defers=a.defers
 | [],_,_,_=>rfl
 | _::ds,k,V,_=>(mv ds (k+1) V _).trans rfl
theorem puts_put (ds:List Nat) (V:Nat→Value) (a:Act) (i t:Nat) (v:Value) (hn:ds.Nodup) (h:ds[i]?=some t) (hb:∀d∈ds,d<a.tmps.size):(nG ds 0 V a).put (some t) v=nG ds 0 (upd V i v) a:=by
 have e:((nG ds 0 V a).put (some t) v).tmps=(nG ds 0 (upd V i v) a).tmps:=by
  apply Array.ext_getElem?
  intro j;simp only [Act.put];have ht:=hb t (Ar h);by_cases hjt:t=j
  ·subst hjt
   rw [Array.getElem?_setIfInBounds_self_of_lt (by rw [qJ];exact ht),qD ds 0 _ a i t hn h ht];simp [upd]
  ·rw [Array.getElem?_setIfInBounds_ne hjt]
   by_cases hj:j∈ds
   ·obtain⟨m,hm⟩:=List.getElem?_of_mem hj
    rw [qD ds 0 _ a m j hn hm (hb j hj),qD ds 0 _ a m j hn hm (hb j hj)];have:m≠i:=fun e=>by subst e;rw [hm] at h;injection h with h;exact hjt h.symm
    simp [upd,this]
   ·rw [oA ds 0 _ a j hj,oA ds 0 _ a j hj]
 have key:∀x y:Act,x.tmps=y.tmps→x.defers=y.defers→x=y:=fun x y h h'=>by cases x;cases y;simp only at h h';subst h;subst h';rfl
 refine key _ _ e ?_;show (nG ds 0 V a).defers=_
 rw [mv,mv]
structure Fm2 (ds:List Nat) (V:Nat→Value) (A0 a:Act):Prop where
 eq:a=nG ds 0 V A0
theorem Fm2.size {ds:List Nat} {V:Nat→Value} {A0 a:Act} (h:Fm2 ds V A0 a):a.tmps.size=A0.tmps.size:=by rw [h.eq,qJ]
theorem Fm2.ins {ds:List Nat} {V:Nat→Value} {A0 a:Act} (h:Fm2 ds V A0 a) (hn:ds.Nodup) (hb:∀d∈ds,d<A0.tmps.size) (i:Nat) {t:Nat} (hi:ds[i]?=some t):a.tmps[t]?=some (V i):=by
 rw [h.eq,qD ds 0 V A0 i t hn hi (hb t (Ar hi))];simp
theorem Fm2.out {ds:List Nat} {V:Nat→Value} {A0 a:Act} (h:Fm2 ds V A0 a) {t:Nat} (ht:t ∉ ds):a.tmps[t]?=A0.tmps[t]?:=by
 rw [h.eq,oA ds 0 V A0 t ht]
theorem Fm2.put {ds:List Nat} {V:Nat→Value} {A0 a:Act} (h:Fm2 ds V A0 a) (hn:ds.Nodup) (hb:∀d∈ds,d<A0.tmps.size) (i:Nat) {t:Nat} (hi:ds[i]?=some t) (v:Value):Fm2 ds (upd V i v) A0 (a.put (some t) v):=⟨by rw [h.eq,puts_put ds V A0 i t v hn hi hb]⟩
theorem nR {a:Act} {t:Nat} {v:Value} (h:a.tmps[t]?=some v):a.eval (.tmp t)=v:=by
 simp [Act.eval,Array.getD_eq_getD_getElem?,h]
theorem jf {o:Oper} {y:Nat→Option Bool} (h:o.guard=none):Region.wanted o y=true:=by simp [Region.wanted,h]
section
variable {P:Program} {ops:Array Oper} {Q:Exit→Act→World→Prop} {K:Act→World→Prop} {o:Oper} {a:Act} {w:World}
theorem kJ {v:Value} {w':World} (hw:Region.wanted o (yielded ops a.tmps)=true) (hr:(execOp a.eval o).run P w=.ok (.value v) w') (h:K (a.put o.dst v) w'):wpList P ops (Exit.then K Q) [o] a w:=by
 unfold wpList;rw [zL hw];refine .inl ?_;unfold Oper.wp;rw [hr];exact h
theorem rs_call {f:FuncId} {args:Array Value} (hw:Region.wanted o (yielded ops a.tmps)=true) (hr:(execOp a.eval o).run P w=.ok (.enter f args) w) (hc:Calls P f args w fun e w'=>∃v,e=.returned v∧K (a.put o.dst v) w'):wpList P ops (Exit.then K Q) [o] a w:=by
 unfold wpList;rw [zL hw];refine .inl ?_;unfold Oper.wp;rw [hr];exact hc.mono fun e w' ⟨v,he,hk⟩=>by subst he;exact hk
theorem rU {x:Operand} (ho:o.op=.move x∨o.op=.assign x):(execOp a.eval o).run P w=.ok (.value (a.eval x)) w:=by
 unfold execOp;rcases ho with h|h<;>rw [h]<;>rfl
theorem xN {x:Operand} {ad:Addr} (ho:o.op=.nilCheck x) (hx:a.eval x=.pointer (some ad)):(execOp a.eval o).run P w=.ok (.value (.pointer (some ad))) w:=by
 unfold execOp;rw [ho];simp only [hx];rfl
theorem ex_call {f:FuncId} {args:Array Operand} {tys:Array TypeId} {fn:Func} {vs:Array Value} (ho:o.op=.call { callee:=.value (.func f),args:=args,argTypes:=tys })
  (hf : P.funcs[f]? = some fn) (hn : (fn.name == "runtime.NumGoroutine" || fn.body.isNone) = false) (hvs : args.map a.eval = vs) : (execOp a.eval o).run P w = .ok (.enter f vs) w := by
 subst hvs;simp only [Bool.or_eq_false_iff] at hn;have h1 : fn.name ≠ "runtime.NumGoroutine" := by simpa using hn.1
 have h2:fn.body≠none:=by cases hb:fn.body with
  | none=>rw [hb] at hn;simp at hn
  | some _=>simp
 unfold execOp;simp only [ho,resolve,invoke,Sem.run_bind,Act.eval];simp [Deferred.ofValue,callFunc,hf,h1,h2]
end
theorem upd_c {VC:Nat→Value→Prop} {V:Nat→Value} {L:Nat→Bool} (H:∀j,L j=true→VC j (V j)) (k:Nat) {v:Value} (hv:VC k v):∀j,(L j||j==k)=true→VC j (upd V k v j):=by
 intro j hj;unfold upd;by_cases e:j=k
 ·subst e;rw [zL rfl];exact hv
 ·rw [zO e]
  have e1:(j==k)=false:=Aj.2 e;rw [e1,Bool.or_false] at hj;exact H j hj
theorem upd_ne {V:Nat→Value} {k j:Nat} {v:Value} (h:j≠k):upd V k v j=V j:=by unfold upd;rw [zO h]
theorem upd_at {V:Nat→Value} {k:Nat} {v:Value}:upd V k v k=v:=by unfold upd;rw [zL rfl]
theorem lor_ne {L:Nat→Bool} {k j:Nat} (h:j≠k):(L j||j==k)=L j:=by rw [Aj.2 h,Bool.or_false]
structure OneE (M:Nat) (W0:World) (PM:Value→World→Prop) (VC:Nat→Value→Prop) (V:Nat→Value) (L:Nat→Bool) (w':World):Prop where
 h0:L M=false→w'=W0
 h1:L M=true→PM (V M) w'
 vs:∀j,L j=true→VC j (V j)
theorem OneE.start (M:Nat) (W0:World) (PM:Value→World→Prop) (VC:Nat→Value→Prop) (V:Nat→Value):OneE M W0 PM VC V (fun _=>false) W0:=⟨fun _=>rfl,(fun h=>by cases h),(fun _ h=>by cases h)⟩
theorem OneE.pure {M:Nat} {W0:World} {PM:Value→World→Prop} {VC:Nat→Value→Prop} {V:Nat→Value} {L:Nat→Bool} {w':World} (h:OneE M W0 PM VC V L w') (k:Nat) {v:Value} (hk:M≠k) (hv:VC k v):OneE M W0 PM VC (upd V k v) (fun j=>L j||j==k) w' :=
 ⟨fun e=>h.h0 ((lor_ne (L:=L) hk).symm.trans e),fun e=>by rw [upd_ne hk];exact h.h1 ((lor_ne (L:=L) hk).symm.trans e),upd_c h.vs k hv⟩
theorem OneE.event {M:Nat} {W0:World} {PM:Value→World→Prop} {VC:Nat→Value→Prop} {V:Nat→Value} {L:Nat→Bool} {w' w2:World} (h:OneE M W0 PM VC V L w') {v:Value} (hM:PM v w2) (hv:VC M v):OneE M W0 PM VC (upd V M v) (fun j=>L j||j==M) w2 :=
 ⟨fun e=>by simp at e,fun _=>by rw [upd_at];exact hM,upd_c h.vs M hv⟩
theorem oT {o:Oper} {a:Act} {w:World} {t:Nat} {ad:Addr} {u:Value} {ty:TypeId} (ho:o.op=.load ty (.tmp t)) (e:a.tmps[t]?=some (.pointer (some ad))) (hr:(Instr.loadAt ty (.pointer (some ad))).run Tryz.prog w=.ok u w):(execOp a.eval o).run Tryz.prog w=.ok (.value u) w:=by
 have e2:=nR e;simp only [execOp,ho,e2];simp [hr,Result.andThen]
theorem yx {w:World} {ad:Addr} {n:Int} (h:w.cell? ad=some (.int .i64 n)):(Instr.loadAt 3 (.pointer (some ad))).run Tryz.prog w=.ok (.int .i64 n) w:=by go_simp
theorem qq {P:Program} {id:Nat} {ops:List Oper} {Q:Exit→Act→World→Prop} {a:Act} {w:World} (n:Nat) (hm:P.follows .mixedOrders=true) (hB:xT ops.toArray n=true) (I:Act→World→(Nat→Bool)→Act→World→Prop)
  (h:∀A0,Hid (A0=a)→I A0 w (fun _=>false) A0 w.drew∧RelyStepsT P ops.toArray Q (I A0 w) (ops.take n) 0∧∀L a' w',(∀j,j<n→L j=true)→I A0 w L a' w'→wpList P ops.toArray Q (ops.drop n) a' w'):(Code.region id ops.toArray true).wp P Q a w:=by
 obtain⟨h0,h1,h2⟩:=h a (ab rfl);exact qi n hm hB I h0 h1 h2
theorem zi:(Tryz.prog.info? 28).map (·.size)=some 11:=by kernel_rfl
theorem rx_size:(Tryz.prog.info? 25).map (·.size)=some 8:=by kernel_rfl
theorem jJ:Tryz.prog.underlying 28=some (.struct (Tryz.prog.fieldsOf 28)):=by kernel_rfl
theorem me:Tryz.prog.underlying 25=some (.struct (Tryz.prog.fieldsOf 25)):=by kernel_rfl
def SlP (B sz n:Nat) (cs:List Value):Value→World→Prop:=fun v W=>∃a c,v=.slice a n c∧SlS W (fun b=>B≤b) a sz n cs
theorem na {w0 w:World} {b:Nat} (h:Below w0.heap.size w0 w) (hb:w0.heap.size≤b) (cs:Array Value):Below w0.heap.size w0 (w.setRow b cs) :=
 ⟨h.os,h.tape,h.output,by rw [rV];exact h.size,fun k hk=>(oF cs fg).trans (h.block k hk)⟩
structure Rc where
 cs:List Str
 fold:Bool
 offs:List Nat
structure Rst where
 ps:List (Int × Int)
 fuel:Nat
 out:Bool
 en:Int
abbrev Rk:=Nat→Rst→Bool × Rst
def qQ (s:Str):Str:=s.map fun c=>if 65≤c.toNat∧c.toNat≤90 then c+32 else c
def vj (s:Str):Str:=s.map fun c=>if 97≤c.toNat∧c.toNat≤122 then c-32 else c
def inS' (rs:List (Str × Str)) (c:Str):Bool:=rs.any fun r=>leS r.1 c&&leS c r.2
def hasS (rs:List (Str × Str)) (ng fold:Bool) (c:Str):Bool:=(inS' rs c||fold&&(inS' rs (qQ c)||inS' rs (vj c))) != ng
def kI (C:Rc) (k:Int) (c:Str) (ng:Bool) (rs:List (Str × Str)) (d:Str):Bool :=
 if k=2 then d==c||C.fold&&qQ d==qQ c else if k=3 then d != [10] else hasS rs ng C.fold d
def jZ (C:Rc) (kind:Int) (k:Nat):Bool :=
 if kind=8 then decide (k=0) else if kind=9 then decide (k=C.cs.length)
 else((decide (0<k)&&nF (C.cs.getD (k-1) [])) != (decide (k<C.cs.length)&&nF (C.cs.getD k [])))==decide (kind=10)
def qA (ps:List (Int × Int)) (i:Nat) (v:Int × Int):List (Int × Int):=ps.set i v
def jP (ps:List (Int × Int)) (lo hi:Nat):List (Int × Int):=ps.take lo++List.replicate (hi-lo) (-1,-1)++ps.drop hi
def nI (ps was:List (Int × Int)) (lo hi:Nat):List (Int × Int):=ps.take lo++(was.take hi).drop lo++ps.drop hi
def orE (a:Bool × Rst) (h:Rst→Bool × Rst):Bool × Rst:=if a.1=true then a else h a.2
def uS (was:List (Int × Int)) (lo hi:Nat) (t:Bool × Rst):Bool × Rst:=if t.1=true then t else(false,{ t.2 with ps:=nI t.2.ps was lo hi })
def undoR (was:Int × Int) (g:Nat) (t:Bool × Rst):Bool × Rst:=if t.1=true then t else(false,{ t.2 with ps:=qA t.2.ps g was })
def kM (tk:Nat→Rk→Rst→Bool × Rst) (mn:Int) (mx:Int) (lz:Bool) (lo hi:Nat) (f:Rk):Nat→Nat→Nat→Rst→Bool × Rst
 | 0,_,_,st=>(false,st)
 | N+1,k,times,st =>
  orE (if mn≤(times:Int)∧lz=true then f k st else(false,st)) fun s1 =>
  orE (if mx<0∨(times:Int)<mx then uS s1.ps lo hi (tk k (fun e s2=>if k<e∨(times:Int)<mn then kM tk mn mx lz lo hi f N e (times+1) s2 else(false,s2)) { s1 with ps:=jP s1.ps lo hi }) else(false,s1)) fun s2 =>
  if mn≤(times:Int)∧lz=false∧s2.out=false then f k s2 else(false,s2)
def grpK (C:Rc) (g k:Nat) (f:Rk):Rk:=fun e s2=>undoR (s2.ps.getD g (-1,-1)) g (f e { s2 with ps:=qA s2.ps g ((C.offs.getD k 0:Int),(C.offs.getD e 0:Int)) })
def jC (st:Rst):Rst:={ st with fuel:=st.fuel-1 }
mutual
def tryM (C:Rc):Rx→Nat→Nat→Rk→Rst→Bool × Rst
 | .mk kd c ng rs lo hi lz ks,g,k,f,st =>
  if st.out=true then(false,st)
  else if kd=0 then seqM C ks g k f st
  else if kd=1 then altM C ks g k f st
  else if kd=7 then kM (fun k f st=>kp C ks g k f st) lo hi lz g (g+Rx.groupsL ks) f (C.cs.length-k+lo.toNat+1) k 0 st
  else if st.fuel=0 then(false,{ st with out:=true })
  else if kd=5 then kp C ks (g+1) k (grpK C g k f) (jC st)
  else if kd=6 then kp C ks g k f (jC st)
  else if kd=2∨kd=3∨kd=4 then(if k<C.cs.length∧kI C kd c ng rs (C.cs.getD k [])=true then f (k+1) (jC st) else(false,jC st))
  else if jZ C kd k=true then f k (jC st) else(false,jC st)
def kp (C:Rc):List Rx→Nat→Nat→Rk→Rst→Bool × Rst
 | [],_,_,_,st=>(false,st)
 | x::_,g,k,f,st=>tryM C x g k f st
def seqM (C:Rc):List Rx→Nat→Nat→Rk→Rst→Bool × Rst
 | [],_,k,f,st=>f k st
 | x::r,g,k,f,st=>tryM C x g k (fun e s2=>seqM C r (g+x.groups) e f s2) st
def altM (C:Rc):List Rx→Nat→Nat→Rk→Rst→Bool × Rst
 | [],_,_,_,st=>(false,st)
 | x::r,g,k,f,st=>orE (tryM C x g k f st) fun s=>altM C r (g+x.groups) k f s
end
def oneM (C:Rc) (x:Rx) (k:Nat) (st:Rst):Option (Nat × List (Int × Int)) × Rst :=
 let r:=tryM C x 0 k (fun e s=>(true,{ s with en:=e })) { st with ps:=List.replicate x.groups (-1,-1),en:=-1 }
 if r.2.en<0∨r.2.out=true then(none,r.2) else(some (r.2.en.toNat,r.2.ps),r.2)
def lD (C:Rc) (x:Rx):Nat→Nat→Rst→Option (Nat × Nat × List (Int × Int)) × Rst
 | 0,_,st=>(none,st)
 | N+1,k,st =>
  if k<C.offs.length∧st.out=false then
   (let r:=oneM C x k st
    match r.1 with
    | some (e,ps)=>(some (k,e,ps),r.2)
    | none=>lD C x N (k+1) r.2)
  else(none,st)
def allM (C:Rc) (x:Rx):Nat→Nat→Rst→List (Nat × Nat × List (Int × Int)) × Rst
 | 0,_,st=>([],st)
 | N+1,k,st =>
  if k<C.offs.length then
   (let r:=lD C x (C.offs.length+1) k st
    match r.1 with
    | some (a,b,ps)=>if r.2.out=true then([],r.2) else
     (let q:=allM C x N (if a=b then b+1 else b) r.2
     ((a,b,ps)::q.1,q.2))
    | none=>([],r.2))
  else([],st)
def jl:List Str→Nat→List Nat
 | [],at_=>[at_]
 | c::r,at_=>at_::jl r (at_+c.length)
def rcM (fold:Bool) (s:Str):Rc:=⟨iP s,fold,jl (iP s) 0⟩
def sE (z:Int):Nat:=(min (max z 0) 20000).toNat
def kH (n:Nat) (z:Int):Rst:=⟨List.replicate n (-1,-1),sE z,false,-1⟩
structure Gx (X:Nat→Prop) (w w':World):Prop where
 os:w'.os=w.os
 tape:w'.tape=w.tape
 output:w'.output=w.output
 size:w.heap.size≤w'.heap.size
 block:∀k,k<w.heap.size→¬X k→w'.heap[k]?=w.heap[k]?
theorem Gx.refl (X:Nat→Prop) (w:World):Gx X w w:=⟨rfl,rfl,rfl,zP _,fun _ _ _=>rfl⟩
theorem Gx.of_below {X:Nat→Prop} {w w':World} (h:Below w.heap.size w w'):Gx X w w':=⟨h.os,h.tape,h.output,h.size,fun k hk _=>h.block k hk⟩
theorem Gx.to {X Y:Nat→Prop} {a b c:World} (h:Gx X a b) (hk:Gx Y b c) (hY:∀k,k<a.heap.size→Y k→X k):Gx X a c :=
 ⟨hk.os.trans h.os,hk.tape.trans h.tape,hk.output.trans h.output,zR h.size hk.size,fun k hlt hx=>(hk.block k (zS hlt h.size) (fun hy=>hx (hY k hlt hy))).trans (h.block k hlt hx)⟩
theorem Gx.of_grown {X:Nat→Prop} {w w':World} {row:Option Nat} (h:w.grownBy w' row) (hr:∀k,row=some k→X k):Gx X w w':=⟨h.os,h.tape,h.output,h.size,fun k hk hx=>h.block k hk (fun e=>hx (hr k e.symm))⟩
theorem Gx.set {X:Nat→Prop} (w:World) {a:Addr} (u:Value) (ha:X a.block):Gx X w (w.setCell a u):=⟨rfl,rfl,rfl,by simp [World.setCell],fun k _ hx=>heap_setCell_other w a k u (fun e=>hx (e▸ha))⟩
theorem Gx.sets {X:Nat→Prop} {b:Nat} (hb:X b):∀(vs:List Value) (o:Nat) (w:World),Gx X w (w.setCells b o vs)
 | [],_,w=>Gx.refl X w
 | v::r,o,w=>(Gx.set w (a:=⟨b,o,none⟩) v hb).to (Gx.sets hb r (o+1) _) (fun _ _ h=>h)
theorem Gx.kept {X S:Nat→Prop} {w w':World} (h:Gx X w w') (hS:∀b,S b→¬X b):Kept S w w':=⟨h.size,fun b hb hlt=>h.block b hlt (hS b hb)⟩
theorem Gx.below {X:Nat→Prop} {w w':World} {B:Nat} (h:Gx X w w') (hB:B≤w.heap.size) (hX:∀k,X k→B≤k):Below B w w':=⟨h.os,h.tape,h.output,h.size,fun k hk=>h.block k fg (fun hx=>by have:=hX k hx;omega)⟩
theorem Gx.heap {X:Nat→Prop} {w w':World} (h:Gx X w w') {b:Nat} {o:Obj} (hb:w.heap[b]?=some o) (hx:¬X b):w'.heap[b]?=some o:=(h.block b (iN hb) hx).trans hb
theorem nW {X:Nat→Prop} {w w':World} {B:Nat} {e:TypeId} {sz n:Nat} {v:Value} {xs:List Value} (h:w.ownsRow B e sz v n xs) (hg:Gx X w w') (hv:∀k,v.ownBlock=some k→¬X k):w'.ownsRow B e sz v n xs:=by
 refine⟨h.1,?_⟩;rcases h.2 with h5|⟨g',cap,cur,hv',hB,hg',r⟩
 ·exact .inl h5
 ·exact .inr ⟨g',cap,cur,hv',hB,(hg.block g' (iN hg') (hv g' (by rw [hv'];rfl))).trans hg',r⟩
theorem sI {B:Nat} {e:TypeId} {sz n g cap:Nat}:∀(vs old pre post:List Value) {w:World},w.ownsRow B e sz (.slice (some ⟨g,0,none⟩) n cap) n (pre++(old++post))→old.length=vs.length→(w.setCells g pre.length vs).ownsRow B e sz (.slice (some ⟨g,0,none⟩) n cap) n (pre++(vs++post))
 | [],old,pre,post,w,h,hl=>by
  have h0:old=[]:=zM hl;subst h0;exact h
 | v::vs,[],pre,post,w,h,hl=>by simp at hl
 | v::vs,u::old,pre,post,w,h,hl=>by
  have h1:=(h.stored pre.length v).1;have e1:(pre++(u::old++post)).set pre.length v=(pre++[v])++(old++post):=by
   rw [List.set_append_right _ _ (zP _)];simp
  rw [e1] at h1;have h2:=sI vs old (pre++[v]) post h1 (by simpa using hl);exact cW
theorem iW {w:World} {b:Nat} {v:Value} {t:TypeId} (h:w.heap[b]?=some (.cells #[v] t (0,0))):w.cell? ⟨b,0,none⟩=some v:=by
 exact cP
theorem jG {w:World} {b:Nat} {cs:List Value} {t:TypeId} {m:Nat × Nat} (h:w.heap[b]?=some (.cells cs.toArray t m)) (j:Nat) (u:Value) (hj:cs[j]?=some u):w.cell? ⟨b,0+j,none⟩=some u:=by
 rw [Nat.zero_add,zT h];simpa using hj
def ptc (k:Int) (c:Str) (ng:Bool) (ra:Option Addr) (rn rc:Nat) (lo hi:Int) (lz:Bool) (ka:Option Addr) (kn kc:Nat) (pa:Option Addr) (pn pc:Nat) (g h:Nat):List Value :=
 [.int .i64 k,.string ⟨c.toArray⟩,.bool ng,.slice ra rn rc,.int .i64 lo,.int .i64 hi,.bool lz,.slice ka kn kc,.slice pa pn pc,.int .i64 (g:Int),.int .i64 (h:Int)]
def own5 (k:Int):Nat:=if k=5 then 1 else 0
mutual
inductive PtV (w:World) (S:Nat→Prop):List Value→Rx→Nat→Prop
 | mk {k:Int} {c:Str} {ng:Bool} {rs:List (Str × Str)} {lo hi:Int} {lz:Bool} {ks:List Rx} {ra ka pa:Option Addr} {rc kn kc pc g:Nat} {css:List (List Value)} :
   SlS w S ra 2 rs.length (iY rs)→SlS w S pa 11 ks.length css.flatten→ks.length≤pc→PtVs w S css ks (g+own5 k) →
   PtV w S (ptc k c ng ra rs.length rc lo hi lz ka kn kc pa ks.length pc g (g+own5 k+Rx.groupsL ks)) (.mk k c ng rs lo hi lz ks) g
inductive PtVs (w:World) (S:Nat→Prop):List (List Value)→List Rx→Nat→Prop
 | nil {g:Nat}:PtVs w S [] [] g
 | cons {c:List Value} {x:Rx} {cs:List (List Value)} {xs:List Rx} {g:Nat}:PtV w S c x g→PtVs w S cs xs (g+x.groups)→PtVs w S (c::cs) (x::xs) g
end
mutual
theorem PtV.keep {w w':World} {S:Nat→Prop} (hk:Kept S w w'):∀{c:List Value} {x:Rx} {g:Nat},PtV w S c x g→PtV w' S c x g
 | _,_,_,.mk h1 h2 hc h3=>.mk (h1.keep hk) (h2.keep hk) hc (PtVs.keep hk h3)
theorem PtVs.keep {w w':World} {S:Nat→Prop} (hk:Kept S w w'):∀{cs:List (List Value)} {xs:List Rx} {g:Nat},PtVs w S cs xs g→PtVs w' S cs xs g
 | _,_,_,.nil=>.nil
 | _,_,_,.cons h1 h2=>.cons (PtV.keep hk h1) (PtVs.keep hk h2)
end
mutual
theorem PtV.mono {w:World} {S S':Nat→Prop} (hS:∀b,S b→b<w.heap.size→S' b):∀{c:List Value} {x:Rx} {g:Nat},PtV w S c x g→PtV w S' c x g
 | _,_,_,.mk h1 h2 hc h3=>.mk (h1.mono hS) (h2.mono hS) hc (PtVs.mono hS h3)
theorem PtVs.mono {w:World} {S S':Nat→Prop} (hS:∀b,S b→b<w.heap.size→S' b):∀{cs:List (List Value)} {xs:List Rx} {g:Nat},PtVs w S cs xs g→PtVs w S' cs xs g
 | _,_,_,.nil=>.nil
 | _,_,_,.cons h1 h2=>.cons (PtV.mono hS h1) (PtVs.mono hS h2)
end
theorem PtV.later {w w':World} {S:Nat→Prop} {c:List Value} {x:Rx} {g:Nat} (h:PtV w S c x g) (hb:Below w.heap.size w w'):PtV w' S c x g:=h.keep (Kept.all hb)
theorem PtV.len {w:World} {S:Nat→Prop} {c:List Value} {x:Rx} {g:Nat} (h:PtV w S c x g):c.length=11:=by cases h;rfl
theorem PtV.one {w:World} {S:Nat→Prop} {c:List Value} {x:Rx} {g:Nat} (h:PtV w S c x g):∀u∈c,u.oneCell'=true:=by
 cases h;intro u hu;simp only [ptc,An,As,or_false] at hu
 rcases hu with rfl|rfl|rfl|rfl|rfl|rfl|rfl|rfl|rfl|rfl|rfl<;>rfl
theorem PtVs.length {w:World} {S:Nat→Prop}:∀{cs:List (List Value)} {xs:List Rx} {g:Nat},PtVs w S cs xs g→cs.length=xs.length
 | _,_,_,.nil=>rfl
 | _,_,_,.cons _ h=>by simp [h.length]
theorem PtVs.elevens {w:World} {S:Nat→Prop}:∀{cs:List (List Value)} {xs:List Rx} {g:Nat},PtVs w S cs xs g→∀c∈cs,c.length=11
 | _,_,_,.nil,c,hc=>by simp at hc
 | _,_,_,.cons h1 h2,c,hc=>by
  rcases An.1 hc with rfl|hc
  ·exact h1.len
  ·exact h2.elevens c hc
theorem PtVs.snoc {w:World} {S:Nat→Prop} {c:List Value} {x:Rx}:∀{cs:List (List Value)} {xs:List Rx} {g:Nat},PtVs w S cs xs g→PtV w S c x (g+Rx.groupsL xs)→PtVs w S (cs++[c]) (xs++[x]) g
 | _,_,_,.nil,h=>.cons (by simpa [Rx.groupsL] using h) .nil
 | _,_,_,.cons h1 h2,h=>.cons h1 (h2.snoc (by simpa [Rx.groupsL,AE] using h))
def PtSl (w:World) (S:Nat→Prop) (a:Option Addr) (n:Nat) (xs:List Rx) (g:Nat):Prop:=∃css,SlS w S a 11 n css.flatten∧PtVs w S css xs g
theorem PtSl.keep {w w':World} {S:Nat→Prop} {a:Option Addr} {n:Nat} {xs:List Rx} {g:Nat} (h:PtSl w S a n xs g) (hk:Kept S w w'):PtSl w' S a n xs g:=by
 obtain⟨css,h1,h2⟩:=h;exact⟨css,h1.keep hk,h2.keep hk⟩
theorem PtSl.later {w w':World} {S:Nat→Prop} {a:Option Addr} {n:Nat} {xs:List Rx} {g:Nat} (h:PtSl w S a n xs g) (hb:Below w.heap.size w w'):PtSl w' S a n xs g:=h.keep (Kept.all hb)
theorem PtSl.head {w:World} {S:Nat→Prop} {a:Option Addr} {n:Nat} {x:Rx} {xs:List Rx} {g:Nat} (h:PtSl w S a (n+1) (x::xs) g) :
  ∃b o c,a=some ⟨b,o,none⟩∧S b∧b<w.heap.size∧PtV w S c x g∧(∀(j:Nat) (u:Value),c[j]?=some u→w.cell? ⟨b,o+j,none⟩=some u)∧PtSl w S (some ⟨b,o+11,none⟩) n xs (g+x.groups):=by
 obtain⟨css,h1,h2⟩:=h;cases h2 with
 | @cons c _ cs _ _ hv hvs =>
  obtain⟨b,o,e1,e2,e3,e4⟩:=h1.2 fg;have hl:=hv.len;have hlen:=h1.1;rw [List.flatten_cons,zX,hl] at hlen;refine⟨b,o,c,e1,e2,e3,hv,fun j u hj=>e4 j u ?_,cs,⟨by omega,fun _=>⟨b,o+11,rfl,e2,e3,fun j u hj=>?_⟩⟩,hvs⟩
  ·rw [List.flatten_cons,zZ (zQ.1 hj).1];exact hj
  ·have:=e4 (11+j) u (by rw [List.flatten_cons,Aa fg,hl];simpa using hj)
   rw [show o+11+j=o+(11+j) by omega];exact this
theorem PtSl.len {w:World} {S:Nat→Prop} {a:Option Addr} {n:Nat} {xs:List Rx} {g:Nat} (h:PtSl w S a n xs g):n=xs.length:=by
 obtain⟨css,h1,h2⟩:=h;have h4:∀{cs:List (List Value)},(∀c∈cs,c.length=11)→cs.flatten.length=cs.length*11:=by
  intro cs;induction cs with
  | nil=>intro _;rfl
  | cons c cs ih=>exact cY
 have h3:=h1.1;rw [h4 h2.elevens,h2.length] at h3;omega
theorem PtSl.nil (w:World) (S:Nat→Prop) (a:Option Addr) (g:Nat):PtSl w S a 0 [] g:=⟨[],SlS.none_ _ _ _ _,.nil⟩
theorem PtSl.at_ {w:World} {S:Nat→Prop} {a:Option Addr} {n:Nat}:∀{xs:List Rx} {g k:Nat} {x:Rx},PtSl w S a n xs g→xs[k]?=some x →
  ∃b o c,a=some ⟨b,o,none⟩∧S b∧b<w.heap.size∧PtV w S c x (g+Rx.groupsL (xs.take k))∧∀(j:Nat) (u:Value),c[j]?=some u→w.cell? ⟨b,o+(k*11+j),none⟩=some u:=by
 intro xs g k x hps hk;have hn:=hps.len;obtain⟨css,h1,h2⟩:=hps;have hat:∀{cs:List (List Value)} {xs:List Rx} {g k:Nat} {x:Rx},PtVs w S cs xs g→xs[k]?=some x→∃c,cs[k]?=some c∧PtV w S c x (g+Rx.groupsL (xs.take k)):=by
  intro cs xs;induction xs generalizing cs with
  | nil=>intro g k x _ h;simp at h
  | cons y r ih =>
   intro g k x hv h;cases hv with
   | @cons c _ cs _ _ hv hvs =>
    cases k with
    | zero=>simp at h;subst h;exact⟨c,rfl,by simpa [Rx.groupsL] using hv⟩
    | succ k =>
     obtain⟨c',e1,e2⟩:=ih hvs fS;exact⟨c',by simpa using e1,by simpa [Rx.groupsL,AE] using e2⟩
 obtain⟨c,hc,hv⟩:=hat h2 hk;have hlt:=(zQ.1 hk).1;obtain⟨b,o,e1,e2,e3,e4⟩:=h1.2 fg;exact⟨b,o,c,e1,e2,e3,hv,fun j u hj=>e4 _ u (oZ h2.elevens hc hj)⟩
theorem PtV.open_ {w:World} {S:Nat→Prop} {cc:List Value} {k:Int} {c:Str} {ng:Bool} {rs:List (Str × Str)} {lo hi:Int} {lz:Bool} {ks:List Rx} {g:Nat} (h:PtV w S cc (.mk k c ng rs lo hi lz ks) g) :
  ∃ra rc ka kn kc pa pc,cc=ptc k c ng ra rs.length rc lo hi lz ka kn kc pa ks.length pc g (g+own5 k+Rx.groupsL ks)∧SlS w S ra 2 rs.length (iY rs)∧PtSl w S pa ks.length ks (g+own5 k)∧ks.length≤pc:=by
 cases h with
 | mk h1 h2 hc h3=>exact⟨_,_,_,_,_,_,_,rfl,h1,⟨_,h2,h3⟩,hc⟩
def i7 (ps:List (Int × Int)):List Value:=ps.flatMap fun p=>[.int .i64 p.1,.int .i64 p.2]
theorem jq (ps:List (Int × Int)):(i7 ps).length=ps.length*2:=by
 induction ps with
 | nil=>rfl
 | cons r rs ih=>simp only [i7,Af,zX] at *;rw [ih];simp;omega
theorem jY (a b:List (Int × Int)):i7 (a++b)=i7 a++i7 b:=by simp [i7]
theorem ol {ps:List (Int × Int)} {k:Nat} {p:Int × Int} (h:ps[k]?=some p):(i7 ps)[k*2]?=some (.int .i64 p.1)∧(i7 ps)[k*2+1]?=some (.int .i64 p.2):=by
 induction ps generalizing k with
 | nil=>simp at h
 | cons g rs ih =>
  cases k with
  | zero=>simp at h;subst h;simp [i7]
  | succ k =>
   simp only [List.getElem?_cons_succ] at h;obtain⟨h1,h2⟩:=ih h;simp only [i7,Af] at h1 h2 ⊢;exact cw
theorem oV:∀(ps:List (Int × Int)) (k:Nat) (v:Int × Int),k<ps.length→((i7 ps).set (k*2) (.int .i64 v.1)).set (k*2+1) (.int .i64 v.2)=i7 (ps.set k v)
 | [],_,_,h=>by simp at h
 | p::ps,0,v,_=>by simp [i7]
 | p::ps,k+1,v,h=>by
  have ih:=oV ps k v fS;simp only [i7,Af,List.set_cons_succ] at ih ⊢;rw [show (k+1)*2=k*2+2 by omega,show k*2+2+1=k*2+1+2 by omega];simp only [Ay,Ax,List.set_cons_succ];rw [ih]
def mH (l:List Nat):List Value:=l.map fun(n:Nat)=>.int .i64 (n:Int)
theorem tK {l:List Nat} {k:Nat} (h:k<l.length):(mH l)[k]?=some (.int .i64 ((l.getD k 0:Nat):Int)):=by
 rw [List.getD_eq_getElem?_getD];simp [mH,h]
theorem jb {w:World} {b o:Nat} {k:Int} {c:Str} {ng:Bool} {ra:Option Addr} {rn rc:Nat} {lo hi:Int} {lz:Bool} {ka:Option Addr} {kn kc:Nat} {pa:Option Addr} {pn pc g h:Nat}
  (hc:∀(j:Nat) (u:Value),(ptc k c ng ra rn rc lo hi lz ka kn kc pa pn pc g h)[j]?=some u→w.cell? ⟨b,o+j,none⟩=some u) :
  w.cell? ⟨b,o,none⟩=some (.int .i64 k)∧w.cell? ⟨b,o+1,none⟩=some (.string ⟨c.toArray⟩)∧w.cell? ⟨b,o+2,none⟩=some (.bool ng)∧w.cell? ⟨b,o+3,none⟩=some (.slice ra rn rc)∧w.cell? ⟨b,o+4,none⟩=some (.int .i64 lo) ∧
  w.cell? ⟨b,o+5,none⟩=some (.int .i64 hi)∧w.cell? ⟨b,o+6,none⟩=some (.bool lz)∧w.cell? ⟨b,o+7,none⟩=some (.slice ka kn kc)∧w.cell? ⟨b,o+8,none⟩=some (.slice pa pn pc)∧w.cell? ⟨b,o+9,none⟩=some (.int .i64 (g:Int))∧w.cell? ⟨b,o+10,none⟩=some (.int .i64 (h:Int)) :=
 ⟨hc 0 _ rfl,hc 1 _ rfl,hc 2 _ rfl,hc 3 _ rfl,hc 4 _ rfl,hc 5 _ rfl,hc 6 _ rfl,hc 7 _ rfl,hc 8 _ rfl,hc 9 _ rfl,hc 10 _ rfl⟩
theorem mX:∀(ks:List Rx) (i:Nat) (x:Rx),ks[i]?=some x→Rx.groupsL (ks.take (i+1))=Rx.groupsL (ks.take i)+x.groups∧Rx.groupsL (ks.take i)+x.groups≤Rx.groupsL ks
 | [],i,x,h=>by simp at h
 | y::r,0,x,h=>by simp at h;subst h;simp [Rx.groupsL]
 | y::r,i+1,x,h=>by
  obtain⟨h1,h2⟩:=mX r i x fS;simp only [List.take_succ_cons,Rx.groupsL] at *;rw [h1];exact⟨by omega,by omega⟩
structure Inv (C:Rc) (n:Nat) (F:Nat) (E:Int→Prop) (st:Rst):Prop where
 len:st.ps.length=n
 sp:∀v∈st.ps,v=(-1,-1)∨∃a b:Nat,a≤b∧b≤C.cs.length∧v=((C.offs.getD a 0:Int),(C.offs.getD b 0:Int))
 en:E st.en
 fu:st.fuel≤F
section
variable {C:Rc} {n F:Nat} {E:Int→Prop}
def KOk (C:Rc) (n F:Nat) (E:Int→Prop) (k:Nat) (f:Rk):Prop:=∀e st,k≤e→e≤C.cs.length→Inv C n F E st→Inv C n F E (f e st).2
theorem KOk.le {k k':Nat} {f:Rk} (h:KOk C n F E k f) (hk:k≤k'):KOk C n F E k' f:=fun e st h1 h2 h3=>h e st fg h2 h3
theorem tX {P:Rst→Prop} {a:Bool × Rst} {h:Rst→Bool × Rst} (ha:P a.2) (hh:∀s,P s→P (h s).2):P (orE a h).2:=by
 unfold orE;split
 ·exact ha
 ·exact hh _ ha
theorem Inv.burn {st:Rst} (h:Inv C n F E st):Inv C n F E (jC st):=⟨h.len,h.sp,h.en,by have:=h.fu;simp only [jC];omega⟩
theorem Inv.none {st:Rst} (h:Inv C n F E st) {lo hi:Nat} (h1:lo≤hi) (h2:hi≤n):Inv C n F E { st with ps:=jP st.ps lo hi }:=by
 refine⟨?_,fun v hv=>?_,h.en,h.fu⟩
 ·have:=h.len;simp only [jP,zX,Ac,List.length_replicate,Aw];omega
 ·simp only [jP,Aq,List.mem_replicate] at hv
  rcases hv with(hv|hv)|hv
  ·exact h.sp v (List.mem_of_mem_take hv)
  ·exact .inl hv.2
  ·exact h.sp v (List.mem_of_mem_drop hv)
theorem Inv.back {st s0:Rst} (h:Inv C n F E st) (h0:Inv C n F E s0) {lo hi:Nat} (h1:lo≤hi) (h2:hi≤n):Inv C n F E { st with ps:=nI st.ps s0.ps lo hi }:=by
 refine⟨?_,fun v hv=>?_,h.en,h.fu⟩
 ·have:=h.len;have:=h0.len;simp only [nI,zX,Ac,Aw];omega
 ·simp only [nI,Aq] at hv
  rcases hv with(hv|hv)|hv
  ·exact h.sp v (List.mem_of_mem_take hv)
  ·exact h0.sp v (List.mem_of_mem_take (List.mem_of_mem_drop hv))
  ·exact h.sp v (List.mem_of_mem_drop hv)
theorem Inv.set {st:Rst} (h:Inv C n F E st) (g:Nat) {v:Int × Int} (hv:v=(-1,-1)∨∃a b:Nat,a≤b∧b≤C.cs.length∧v=((C.offs.getD a 0:Int),(C.offs.getD b 0:Int))):Inv C n F E { st with ps:=qA st.ps g v }:=by
 refine⟨by simpa [qA] using h.len,fun u hu=>?_,h.en,h.fu⟩;rcases List.mem_or_eq_of_mem_set hu with hu|rfl
 ·exact h.sp u hu
 ·exact hv
theorem Inv.was {st:Rst} (h:Inv C n F E st) (g:Nat):st.ps.getD g (-1,-1)=(-1,-1)∨∃a b:Nat,a≤b∧b≤C.cs.length∧st.ps.getD g (-1,-1)=((C.offs.getD a 0:Int),(C.offs.getD b 0:Int)):=by
 rw [List.getD_eq_getElem?_getD];cases hg:st.ps[g]? with
 | none=>exact .inl rfl
 | some v=>exact h.sp v (Ar hg)
theorem grpK_ok {g k:Nat} {f:Rk} (h:KOk C n F E k f):KOk C n F E k (grpK C g k f):=fun e st h1 h2 h3=>by
 have hs:=h3.set g (v:=((C.offs.getD k 0:Int),(C.offs.getD e 0:Int))) (.inr ⟨k,e,h1,h2,rfl⟩);have hr:=h e _ h1 h2 hs;unfold grpK undoR;split
 ·exact hr
 ·exact hr.set g (h3.was g)
theorem sY {tk:Nat→Rk→Rst→Bool × Rst} {mn mx:Int} {lz:Bool} {lo hi:Nat} {f:Rk} (h1:lo≤hi) (h2:hi≤n)
  (htk:∀k f st,k≤C.cs.length→KOk C n F E k f→Inv C n F E st→Inv C n F E (tk k f st).2) :
  ∀(N k times:Nat) (st:Rst),k≤C.cs.length→KOk C n F E k f→Inv C n F E st→Inv C n F E (kM tk mn mx lz lo hi f N k times st).2
 | 0,_,_,_,_,_,h=>h
 | N+1,k,times,st,hk,hf,h=>by
  unfold kM;refine tX (P:=Inv C n F E) ?_ fun s1 i1=>?_
  ·split
   ·exact hf _ _ (zP _) hk h
   ·exact h
  ·refine tX (P:=Inv C n F E) ?_ fun s2 i2=>?_
   ·split
    ·have ht:=htk k (fun e s2=>if k<e∨(times:Int)<mn then kM tk mn mx lz lo hi f N e (times+1) s2 else(false,s2)) { s1 with ps:=jP s1.ps lo hi } hk (fun e st h3 h4 h5=>by
      dsimp only
      split
      ·exact sY h1 h2 htk N e (times+1) st h4 (hf.le h3) h5
      ·exact h5) (i1.none h1 h2)
     unfold uS;split
     ·exact ht
     ·exact ht.back i1 h1 h2
    ·exact i1
   ·split
    ·exact hf _ _ (zP _) hk i2
    ·exact i2
mutual
theorem pM:∀(x:Rx) (g k:Nat) (f:Rk) (st:Rst),g+x.groups≤n→k≤C.cs.length→KOk C n F E k f→Inv C n F E st→Inv C n F E (tryM C x g k f st).2
 | .mk kd c ng rs lo hi lz ks,g,k,f,st,hg,hk,hf,h=>by
  have hgl:g+Rx.groupsL ks≤n∧(kd=5→g+1+Rx.groupsL ks≤n):=by
   simp only [Rx.groups] at hg;by_cases h5:kd=5
   ·rw [zL h5] at hg;exact⟨by omega,fun _=>by omega⟩
   ·rw [zO h5] at hg;exact⟨by omega,fun e=>absurd e h5⟩
  unfold tryM;split
  ·exact h
  split
  ·exact yA ks g k f st hgl.1 hk hf h
  split
  ·exact ym ks g k f st hgl.1 hk hf h
  split
  ·exact sY fg hgl.1 (fun k f st a b c=>rR ks g k f st hgl.1 a b c) _ _ _ _ hk hf h
  split
  ·exact⟨h.len,h.sp,h.en,h.fu⟩
  split
  ·rename_i h5;exact rR ks (g+1) k _ _ (hgl.2 h5) hk (grpK_ok hf) h.burn
  split
  ·exact rR ks g k f _ hgl.1 hk hf h.burn
  split
  ·split
   ·rename_i hh;exact hf _ _ fg fg h.burn
   ·exact h.burn
  split
  ·exact hf _ _ fg hk h.burn
  ·exact h.burn
theorem rR:∀(ks:List Rx) (g k:Nat) (f:Rk) (st:Rst),g+Rx.groupsL ks≤n→k≤C.cs.length→KOk C n F E k f→Inv C n F E st→Inv C n F E (kp C ks g k f st).2
 | [],_,_,_,_,_,_,_,h=>h
 | x::r,g,k,f,st,hg,hk,hf,h=>by
  simp only [Rx.groupsL] at hg;unfold kp;exact pM x g k f st fg hk hf h
theorem yA:∀(ks:List Rx) (g k:Nat) (f:Rk) (st:Rst),g+Rx.groupsL ks≤n→k≤C.cs.length→KOk C n F E k f→Inv C n F E st→Inv C n F E (seqM C ks g k f st).2
 | [],_,k,f,st,_,hk,hf,h=>hf k st (zP _) hk h
 | x::r,g,k,f,st,hg,hk,hf,h=>by
  simp only [Rx.groupsL] at hg;unfold seqM;exact pM x g k _ st fg hk (fun e s h1 h2 h3=>yA r (g+x.groups) e f s fg h2 (hf.le h1) h3) h
theorem ym:∀(ks:List Rx) (g k:Nat) (f:Rk) (st:Rst),g+Rx.groupsL ks≤n→k≤C.cs.length→KOk C n F E k f→Inv C n F E st→Inv C n F E (altM C ks g k f st).2
 | [],_,_,_,_,_,_,_,h=>h
 | x::r,g,k,f,st,hg,hk,hf,h=>by
  simp only [Rx.groupsL] at hg;unfold altM;exact tX (P:=Inv C n F E) (pM x g k f st fg hk hf h) fun s hs=>ym r (g+x.groups) k f s fg hk hf hs
end
end
structure Rn where
 r:Nat
 t:Nat
 B:Nat
 tp:List Value
 ca:Option Addr
 cc:Nat
 oa:Option Addr
 oc:Nat
 pa:Option Addr
 pc:Nat
 C:Rc
 n:Nat
 S:Nat→Prop
def Rn.pv (R:Rn):Value:=.slice R.pa R.n R.pc
def Rn.X (R:Rn) (k:Nat):Prop:=k=R.r∨k=R.t∨R.pv.ownBlock=some k
def Rn.cells (R:Rn) (st:Rst):List Value :=
 R.tp++[.bool R.C.fold,.slice R.ca R.C.cs.length R.cc,.slice R.oa (R.C.cs.length+1) R.oc,.slice R.pa R.n R.pc,.int .i64 (st.fuel:Int),.bool st.out]
structure RnOk (R:Rn):Prop where
 tp:R.tp.length=11
 one:∀u∈R.tp,u.oneCell'=true
 cs:R.C.cs.length≤1000000
 ch:∀c∈R.C.cs,c.length≤1000000
 of:R.C.offs.length=R.C.cs.length+1
 ov:∀o∈R.C.offs,o≤1000000
 rt:R.r≠R.t
 pr:R.pv.ownBlock≠some R.r
 pt:R.pv.ownBlock≠some R.t
 sr:∀b,R.S b→¬R.X b
 n:R.n≤1000
structure RunI (R:Rn) (w:World) (st:Rst):Prop where
 box:w.heap[R.r]?=some (.cells (R.cells st).toArray 146 (0,0))
 tb:w.heap[R.t]?=some (.cells #[.int .i64 st.en] 3 (0,0))
 ps:w.ownsRow R.B 69 2 R.pv R.n (i7 st.ps)
 ch:SlS w R.S R.ca 1 R.C.cs.length (j7 R.C.cs)
 of:SlS w R.S R.oa 1 (R.C.cs.length+1) (mH R.C.offs)
 fu:st.fuel≤20000
abbrev Fx (R:Rn) (w w':World):Prop:=Gx R.X w w'
theorem Fx.kept {R:Rn} (ok:RnOk R) {w w':World} (h:Fx R w w'):Kept R.S w w':=Gx.kept h ok.sr
theorem Fx.trans {R:Rn} {a b c:World} (h:Fx R a b) (k:Fx R b c):Fx R a c:=Gx.to h k (fun _ _ e=>e)
theorem RunI.len {R:Rn} {w:World} {st:Rst} (h:RunI R w st):st.ps.length=R.n:=by have:=h.ps.1;rw [jq] at this;omega
theorem kE {w w':World} {B:Nat} {e:TypeId} {sz n:Nat} {v:Value} {xs:List Value} (h:w.ownsRow B e sz v n xs) (hb:Below w.heap.size w w'):w'.ownsRow B e sz v n xs :=
 nW (X:=fun _=>False) h (Gx.of_below hb) (fun _ _ h=>h)
theorem RunI.later {R:Rn} {w w':World} {st:Rst} (h:RunI R w st) (hb:Below w.heap.size w w'):RunI R w' st :=
 ⟨(hb.block _ (iN h.box)).trans h.box,(hb.block _ (iN h.tb)).trans h.tb,kE h.ps hb,h.ch.keep (Kept.all hb),h.of.keep (Kept.all hb),h.fu⟩
theorem RunI.lt {R:Rn} {w:World} {st:Rst} (h:RunI R w st):∀k,R.X k→k<w.heap.size:=by
 rintro k (rfl|rfl|e)
 ·exact iN h.box
 ·exact iN h.tb
 ·exact(h.ps.lt k e).2
theorem wj {R:Rn} (ok:RnOk R) (st:Rst) (j:Nat):(R.cells st)[11+j]?=[Value.bool R.C.fold,.slice R.ca R.C.cs.length R.cc,.slice R.oa (R.C.cs.length+1) R.oc,.slice R.pa R.n R.pc,.int .i64 (st.fuel:Int),.bool st.out][j]?:=by
 have:=ok.tp
 unfold Rn.cells;rw [Aa fg];congr 1;omega
section
variable {R:Rn} {w:World} {st:Rst}
theorem RunI.cell (ok:RnOk R) (h:RunI R w st) (j:Nat) {u:Value} (hj:[Value.bool R.C.fold,.slice R.ca R.C.cs.length R.cc,.slice R.oa (R.C.cs.length+1) R.oc,.slice R.pa R.n R.pc,.int .i64 (st.fuel:Int),.bool st.out][j]?=some u):w.cell? ⟨R.r,11+j,none⟩=some u:=by
 rw [zT h.box];simpa using (wj ok st j).trans hj
theorem RunI.c11 (ok:RnOk R) (h:RunI R w st):w.cell? ⟨R.r,11,none⟩=some (.bool R.C.fold):=h.cell ok 0 rfl
theorem RunI.c12 (ok:RnOk R) (h:RunI R w st):w.cell? ⟨R.r,12,none⟩=some (.slice R.ca R.C.cs.length R.cc):=h.cell ok 1 rfl
theorem RunI.c13 (ok:RnOk R) (h:RunI R w st):w.cell? ⟨R.r,13,none⟩=some (.slice R.oa (R.C.cs.length+1) R.oc):=h.cell ok 2 rfl
theorem RunI.c14 (ok:RnOk R) (h:RunI R w st):w.cell? ⟨R.r,14,none⟩=some (.slice R.pa R.n R.pc):=h.cell ok 3 rfl
theorem RunI.c15 (ok:RnOk R) (h:RunI R w st):w.cell? ⟨R.r,15,none⟩=some (.int .i64 (st.fuel:Int)):=h.cell ok 4 rfl
theorem RunI.c16 (ok:RnOk R) (h:RunI R w st):w.cell? ⟨R.r,16,none⟩=some (.bool st.out):=h.cell ok 5 rfl
theorem RunI.free (h:RunI R w st) (j:Nat):w.frozen? ⟨R.r,j,none⟩=false:=by
 simp only [World.frozen?,h.box];simp
theorem RunI.setR (ok:RnOk R) (h:RunI R w st) {st':Rst} {j:Nat} {u:Value} (hc:(R.cells st).set j u=R.cells st') (e1:st'.ps=st.ps) (e2:st'.en=st.en) (e3:st'.fuel≤st.fuel):RunI R (w.setCell ⟨R.r,j,none⟩ u) st':=by
 have hk:Kept R.S w (w.setCell ⟨R.r,j,none⟩ u):=⟨by simp [World.setCell],fun b hb _=>heap_setCell_other w _ b u (fun e=>ok.sr b hb (.inl e))⟩;refine⟨?_,?_,?_,h.ch.keep hk,h.of.keep hk,by have:=h.fu;omega⟩
 ·rw [heap_setCell_same _ _ _ _ _ _ h.box,←hc];simp
 ·rw [e2];exact(heap_setCell_other w _ R.t u (fun e=>ok.rt e.symm)).trans h.tb
 ·rw [e1];exact nW (X:=fun k=>k=R.r) h.ps (Gx.set w u rfl) (fun k hk e=>ok.pr (by rw [hk,e]))
theorem RunI.burnW (ok:RnOk R) (h:RunI R w st) (hf:st.fuel≠0):RunI R (w.setCell ⟨R.r,15,none⟩ (.int .i64 ((st.fuel:Int)-1))) (jC st):=by
 refine h.setR ok ?_ rfl rfl (by simp only [jC];omega);have h11:=ok.tp;unfold Rn.cells jC;rw [List.set_append_right _ _ fg,h11];simp only [show 15-11=4 from rfl,List.set_cons_succ,List.set_cons_zero];rw [show ((st.fuel-1:Nat):Int)=(st.fuel:Int)-1 by omega]
theorem RunI.outW (ok:RnOk R) (h:RunI R w st):RunI R (w.setCell ⟨R.r,16,none⟩ (.bool true)) { st with out:=true }:=by
 refine h.setR ok ?_ rfl rfl (zP _);have h11:=ok.tp;unfold Rn.cells;rw [List.set_append_right _ _ fg,h11];rfl
theorem Fx.setR (w:World) (a:Addr) (ha:a.block=R.r) (u:Value):Fx R w (w.setCell a u):=Gx.set w u (.inl ha)
theorem RunI.char (h:RunI R w st) {k:Nat} (hk:k<R.C.cs.length):∃b o,R.ca=some ⟨b,o,none⟩∧w.cell? ⟨b,o+k,none⟩=some (.string ⟨(R.C.cs.getD k []).toArray⟩):=by
 obtain⟨b,o,e1,_,_,e4⟩:=h.ch.2 fg;exact⟨b,o,e1,e4 k _ (by rw [List.getD_eq_getElem?_getD];simp [j7,hk])⟩
theorem RunI.off (ok:RnOk R) (h:RunI R w st) {k:Nat} (hk:k≤R.C.cs.length):∃b o,R.oa=some ⟨b,o,none⟩∧w.cell? ⟨b,o+k,none⟩=some (.int .i64 ((R.C.offs.getD k 0:Nat):Int)):=by
 obtain⟨b,o,e1,_,_,e4⟩:=h.of.2 fg;exact⟨b,o,e1,e4 k _ (tK (by rw [ok.of];omega))⟩
theorem RunI.row (h:RunI R w st) (hn:0<R.n):∃g,R.pa=some ⟨g,0,none⟩:=by
 rcases h.ps.2 with⟨_,h0⟩|⟨g,cap,cur,hv,_⟩
 ·omega
 ·injection hv with hv _ _;exact⟨g,hv⟩
theorem RunI.part (h:RunI R w st) {g b:Nat} (hg:g<R.n) (hp:R.pa=some ⟨b,0,none⟩) :
  w.cell? ⟨b,g*2,none⟩=some (.int .i64 (st.ps.getD g (-1,-1)).1)∧w.cell? ⟨b,g*2+1,none⟩=some (.int .i64 (st.ps.getD g (-1,-1)).2)∧w.frozen? ⟨b,g*2,none⟩=false∧w.frozen? ⟨b,g*2+1,none⟩=false:=by
 have hps:=h.ps;unfold Rn.pv at hps;rw [hp] at hps;have hl:=h.len;obtain⟨c1,c2⟩:=ol (zN (show g<st.ps.length by omega));have e:st.ps.getD g (-1,-1)=st.ps[g]' fg:=by rw [List.getD_eq_getElem?_getD,zN fg];rfl
 rw [e];exact⟨(hps.cellAt _ fg).trans c1,(hps.cellAt _ fg).trans c2,hps.frozenAt _,hps.frozenAt _⟩
theorem RunI.setP (ok:RnOk R) (h:RunI R w st) {g b:Nat} (hg:g<R.n) (hp:R.pa=some ⟨b,0,none⟩) (v:Int × Int) :
  RunI R ((w.setCell ⟨b,g*2,none⟩ (.int .i64 v.1)).setCell ⟨b,g*2+1,none⟩ (.int .i64 v.2)) { st with ps:=qA st.ps g v }∧Fx R w ((w.setCell ⟨b,g*2,none⟩ (.int .i64 v.1)).setCell ⟨b,g*2+1,none⟩ (.int .i64 v.2)):=by
 have hps:=h.ps;have hl:=h.len;have hb:R.pv.ownBlock=some b:=by unfold Rn.pv;rw [hp];rfl
 have hfx:Fx R w ((w.setCell ⟨b,g*2,none⟩ (.int .i64 v.1)).setCell ⟨b,g*2+1,none⟩ (.int .i64 v.2)) :=
  Fx.trans (R:=R) (Gx.set w (a:=⟨b,g*2,none⟩) _ (.inr (.inr hb))) (Gx.set _ (a:=⟨b,g*2+1,none⟩) _ (.inr (.inr hb)))
 have hk:=Fx.kept ok hfx;refine⟨⟨?_,?_,?_,h.ch.keep hk,h.of.keep hk,h.fu⟩,hfx⟩
 ·rw [heap_setCell_other _ _ _ _ (fun e=>ok.pr (by rw [hb,e])),heap_setCell_other _ _ _ _ (fun e=>ok.pr (by rw [hb,e]))];exact h.box
 ·rw [heap_setCell_other _ _ _ _ (fun e=>ok.pt (by rw [hb,e])),heap_setCell_other _ _ _ _ (fun e=>ok.pt (by rw [hb,e]))];exact h.tb
 ·unfold Rn.pv at hps ⊢
  rw [hp] at hps ⊢;have:=((hps.stored (g*2) (.int .i64 v.1)).1.stored (g*2+1) (.int .i64 v.2)).1
  rwa [oV _ _ _ fg] at this
end
def KW (R:Rn) (w0:World) (k0:Nat) (fv:Value) (f:Rk):Prop :=
 ∃(j:FuncId) (caps:Array Value),fv=.func (.func j) #[] caps∧Enters Tryz.prog j∧∀(w:World) (st:Rst) (e:Nat),Fx R w0 w→RunI R w st→k0≤e→e≤R.C.cs.length →
  Calls Tryz.prog j (#[.int .i64 (e:Int)]++caps) w fun x w'=>x=.returned (.bool (f e st).1)∧RunI R w' (f e st).2∧Fx R w w'
theorem KW.later {R:Rn} {w0 w1:World} {k0 k1:Nat} {fv:Value} {f:Rk} (h:KW R w0 k0 fv f) (hx:Fx R w0 w1) (hk:k0≤k1):KW R w1 k1 fv f:=by
 obtain⟨j,caps,e,he,hc⟩:=h;exact⟨j,caps,e,he,fun w st e h1 h2 h3 h4=>hc w st e (hx.trans h1) h2 fg h4⟩
def jL (R:Rn) (q:Bool × Rst) (w:World) (x:Ending) (w':World):Prop:=x=.returned (.bool q.1)∧RunI R w' q.2∧Fx R w w'
theorem qE:∀(k:Nat) (l:Str),l.length≤k→(jH k l).flatten=l
 | 0,l,h=>by have:l=[]:=zM fg;subst this;rfl
 | k+1,[],_=>rfl
 | k+1,c::r,h=>by
  have hr:r.takeWhile iU++r.dropWhile iU=r:=Ae;have hl:(r.dropWhile iU).length≤k:=by
   have:=Ad List.length hr
   rw [zX] at this;simp only [zW] at h;omega
  simp only [jH,List.flatten_cons];rw [qE k _ hl,Ay,hr]
theorem ke (s:Str):(iP s).flatten=s:=qE _ _ (zP _)
theorem rz:∀(k:Nat) (l:Str),∀c∈jH k l,0<c.length
 | 0,_,c,h=>by simp [jH] at h
 | k+1,[],c,h=>by simp [jH] at h
 | k+1,d::r,c,h=>by
  simp only [jH,An] at h;rcases h with rfl|h
  ·simp
  ·exact rz k _ c h
theorem rj (s:Str):∀c∈iP s,0<c.length:=rz _ _
theorem kS:∀(cs:List Str) (a:Nat),(jl cs a).length=cs.length+1
 | [],_=>rfl
 | c::r,a=>by simp [jl,kS r]
theorem tP:∀(cs:List Str) (a k:Nat),k≤cs.length→(jl cs a)[k]?=some (a+(cs.take k).flatten.length)
 | [],a,k,h=>by
  have:k=0:=fS
  subst this;simp [jl]
 | c::r,a,0,_=>by simp [jl]
 | c::r,a,k+1,h=>by
  simp only [jl,List.getElem?_cons_succ,List.take_succ_cons,List.flatten_cons,zX];rw [tP r (a+c.length) k fS];congr 1;omega
theorem jI (cs:List Str) (k:Nat) (h:k≤cs.length):(jl cs 0).getD k 0=(cs.take k).flatten.length:=by
 rw [List.getD_eq_getElem?_getD,tP cs 0 k h];simp
theorem mM (cs:List Str) {i j:Nat} (h:i≤j):(cs.take i).flatten.length≤(cs.take j).flatten.length:=by
 have e:cs.take j=cs.take i++(cs.take j).drop i:=by
  conv=>lhs;rw [←List.take_append_drop i (cs.take j)]
  rw [List.take_take,Nat.min_eq_left h]
 rw [e];simp
theorem s6 (cs:List Str) (hp:∀c∈cs,0<c.length) {i j:Nat} (h:i<j) (hj:j≤cs.length):(cs.take i).flatten.length<(cs.take j).flatten.length:=by
 have h1:(cs.take (i+1)).flatten.length=(cs.take i).flatten.length+(cs[i]' fg).length:=by
  rw [List.take_succ_eq_append_getElem fg,List.flatten_append,zX];simp
 have h2:=mM cs (show i+1≤j by omega);have h3:=hp _ (List.getElem_mem (show i<cs.length by omega));omega
theorem sf (s:Str) {k:Nat} (h:k≤(iP s).length):(jl (iP s) 0).getD k 0≤s.length:=by
 rw [jI _ _ h];have:=mM (iP s) h
 rw [List.take_length,ke] at this;exact this
theorem kV (s:Str):(iP s).length≤s.length:=by
 have h:∀cs:List Str,(∀c∈cs,0<c.length)→cs.length≤cs.flatten.length:=by
  intro cs;induction cs with
  | nil=>intro _;simp
  | cons c r ih=>intro h;have h1:=ih (fun x hx=>h x (Ap _ hx));have h2:=h c (Ao ..);rw [List.flatten_cons,zX,zW];omega
 have:=h _ (rj s);rw [ke] at this;exact this
theorem yy (s:Str):∀c∈iP s,c.length≤s.length:=fun c hc=>by
 have h:∀cs:List Str,c∈cs→c.length≤cs.flatten.length:=by
  intro cs;induction cs with
  | nil=>intro h;simp at h
  | cons d r ih =>
   intro h;rcases An.1 h with rfl|h
   ·simp
   ·have:=ih h;rw [List.flatten_cons,zX];omega
 have:=h _ hc;rw [ke] at this;exact this
end Go.Proofs.YtbnkaecmgfolpaaGreat
