/- A region that draws its order, with guards: by what is true of it all the while, whatever order the tape picks. -/
import Derived.Test.YtjggmmaojklmpaaGreatDoorKb16
import Derived.Deep.Slices
set_option maxRecDepth 100000
set_option maxHeartbeats 4000000
namespace Go.Proofs.YtjggmmaojklmpaaGreatDoor
open Go.RowKit
def wu (ops:Array Oper):Bool:=(List.range ops.size).all fun i=>((ops[i]?).map fun o=>o.after.all fun e=>!Region.binds .any e||decide (e.on<i)).getD true
theorem Bm {ops:Array Oper} (h:wu ops=true) {i:Nat} {o:Oper} (ho:ops[i]?=some o):∀e∈o.after,Region.binds .any e=true→e.on<i:=by
 have hi:i<ops.size:=(Array.getElem?_eq_some_iff.1 ho).1;have h1:=List.all_eq_true.1 h i (List.mem_range.2 hi);rw [ho] at h1;simp only [Option.map_some,Option.getD_some,Array.all_eq_true_iff_forall_mem] at h1;intro e he hb;have:=h1 e he
 rw [hb] at this;simpa using this
theorem xC {ops:Array Oper} (hB:wu ops=true) {listed:Array Bool} (h:Region.ready .any ops listed=[]) (hs:listed.size=ops.size):∀i,i<ops.size→listed.getD i false=true:=by
 intro i;induction i using Nat.strongRecOn with
 | ind i ih =>
  intro hi;cases hl:listed.getD i false with
  | true=>rfl
  | false =>
   exfalso;obtain⟨o,ho⟩:∃o,ops[i]?=some o:=⟨_,Array.getElem?_eq_getElem hi⟩;have hm:i∈Region.ready .any ops listed:=by
    rw [mem_ready];refine⟨?_,o,ho,fun e he hb=>?_⟩
    ·have hls:i<listed.size:=fR
     simp only [Array.getD_eq_getD_getElem?,Array.getElem?_eq_getElem hls,Option.getD_some] at hl ⊢;exact hl
    ·have hlt:=Bm hB ho e he hb
     exact ih e.on hlt fR
   rw [h] at hm;cases hm
theorem oper_to {P:Program} {o:Oper} {a:Act} {w:World} {K K2:Act→World→Prop} {Q:Exit→Act→World→Prop} (h:o.wp P a w K Q):o.wp P a w K (Exit.then K2 Q):=by
 exact bL
theorem xd {P:Program} {ops:Array Oper} {Q:Exit→Act→World→Prop} (hB:wu ops=true) (I:(Nat→Bool)→Act→World→Prop)
  (hstep:∀(L:Nat→Bool) (i:Nat) (o:Oper) (a:Act) (w:World),ops[i]?=some o→L i=false→(∀e∈o.after,Region.binds .any e=true→L e.on=true)→I L a w →
   wpList P ops (Exit.then (fun a' w'=>I (fun j=>L j||j==i) a' w') Q) [o] a w)
  (hend:∀(L:Nat→Bool) (a:Act) (w:World),(∀i,i<ops.size→L i=true)→I L a w→Q .normal a w) :
  ∀(fuel:Nat) (listed:Array Bool) (L:Nat→Bool) (a:Act) (w:World),listed.size=ops.size→open_ ops listed≤fuel→(∀j,L j=listed.getD j false)→I L a w→wpAny P .any ops Q fuel listed a w:=by
 have fin:∀(listed:Array Bool) (L:Nat→Bool) (a:Act) (w:World),listed.size=ops.size→(∀j,L j=listed.getD j false)→I L a w→Region.ready .any ops listed=[]→Q .normal a w :=
  fun listed L a w hs hL h hr=>hend _ a w (fun i hi=>by rw [hL];exact xC hB hr hs i hi) h
 intro fuel;induction fuel with
 | zero =>
  intro listed L a w hs hf hL h;have hr:Region.ready .any ops listed=[]:=by
   apply List.eq_nil_iff_forall_not_mem.2
   intro i hi;obtain⟨h1,o,ho,_⟩:=mem_ready.1 hi;have hlt:=(Array.getElem?_eq_some_iff.1 ho).1;have:=yW hlt hs h1
   omega
  exact⟨hr,fin listed L a w hs hL h hr⟩
 | succ fuel ih =>
  intro listed L a w hs hf hL h;refine⟨fin listed L a w hs hL h,fun i hi=>?_⟩;obtain⟨h1,o,ho,hall⟩:=mem_ready.1 hi;have hlt:=(Array.getElem?_eq_some_iff.1 ho).1;have hd:=yW hlt hs h1;have hls:i<listed.size:=fR;have hLi:L i=false:=by
   rw [hL];simp only [Array.getD_eq_getD_getElem?,Array.getElem?_eq_getElem hls,Option.getD_some] at h1 ⊢;exact h1
  have hst:=hstep L i o a w ho hLi (fun e he hb=>by rw [hL];exact hall e he hb) h;have key:∀a' w',I (fun j=>L j||j==i) a' w'→wpAny P .any ops Q fuel (listed.setIfInBounds i true) a' w':=fun a' w' h' =>
   ih _ (fun j=>L j||j==i) a' w' (by simpa using hs) fR (fun j=>by
    by_cases hji:j=i
    ·subst hji
     simp [Array.getD_eq_getD_getElem?,hls]
    ·have e1:(j==i)=false:=DV.2 hji
     rw [e1,Bool.or_false,hL];simp only [Array.getD_eq_getD_getElem?];rw [Array.getElem?_setIfInBounds_ne (Ne.symm hji)]) h'
  unfold wpOp;rw [ho];show if Region.wanted o (yielded ops a.tmps)=true then _ else _
  unfold wpList at hst;by_cases hw:Region.wanted o (yielded ops a.tmps)=true
  ·rw [Dr hw] at hst ⊢
   rcases hst with h2|⟨h2,h3⟩
   ·exact .inl (Oper.wp_mono key (Bs h2))
   ·exact .inr ⟨h2,h3⟩
  ·rw [Du hw] at hst ⊢
   exact key _ _ hst
theorem rJ {P:Program} {id:Nat} {ops:Array Oper} {Q:Exit→Act→World→Prop} {a:Act} {w:World} (hm:P.follows .mixedOrders=true) (hB:wu ops=true) (I:(Nat→Bool)→Act→World→Prop)
  (h0:I (fun _=>false) a w.drew)
  (hstep:∀(L:Nat→Bool) (i:Nat) (o:Oper) (a:Act) (w:World),ops[i]?=some o→L i=false→(∀e∈o.after,Region.binds .any e=true→L e.on=true)→I L a w →
   wpList P ops (Exit.then (fun a' w'=>I (fun j=>L j||j==i) a' w') Q) [o] a w)
  (hend:∀(L:Nat→Bool) (a:Act) (w:World),(∀i,i<ops.size→L i=true)→I L a w→Q .normal a w):(Code.region id ops true).wp P Q a w :=
 wp_region_any hm (xd hB I hstep hend ops.size (Array.replicate ops.size false) (fun _=>false) a w.drew fX (by
  have:=List.length_filter_le (fun j=>!(Array.replicate ops.size false).getD j true) (List.range ops.size)
  simpa [open_] using this) (fun j=>by simp [Array.getD_eq_getD_getElem?,Array.getElem?_replicate];split<;>rfl) h0)
def Dg (ops:Array Oper) (n:Nat):Bool:=wu ops&&decide (n<ops.size)&&Region.sinkB .any ops n&&Region.chainB .any ops n
def RelyStepsT (P:Program) (ops:Array Oper) (Q:Exit→Act→World→Prop) (I:(Nat→Bool)→Act→World→Prop):List Oper→Nat→Prop
 | [],_=>True
 | o::rest,i=>(∀(L:Nat→Bool) (a:Act) (w:World),L i=false→kX o L→I L a w→wpList P ops (Exit.then (fun a' w'=>I (fun j=>L j||j==i) a' w') Q) [o] a w)∧RelyStepsT P ops Q I rest (i+1)
theorem RelyStepsT.at_ {P:Program} {ops:Array Oper} {Q:Exit→Act→World→Prop} {I:(Nat→Bool)→Act→World→Prop}:∀{l:List Oper} {k i:Nat} {o:Oper},RelyStepsT P ops Q I l k→l[i]?=some o →
  ∀(L:Nat→Bool) (a:Act) (w:World),L (k+i)=false→kX o L→I L a w→wpList P ops (Exit.then (fun a' w'=>I (fun j=>L j||j==k+i) a' w') Q) [o] a w
 | [],_,_,_,_,h=>by simp at h
 | x::l,k,0,o,hs,h=>by simp at h;subst h;exact hs.1
 | x::l,k,i+1,o,hs,h=>by
  have:=RelyStepsT.at_ (k:=k+1) (i:=i) hs.2 gT
  rw [show k+(i+1)=k+1+i by omega];exact this
def Clo (ops:Array Oper) (L:Nat→Bool):Prop:=∀j o,ops[j]?=some o→L j=true→kX o L
theorem Clo.add {ops:Array Oper} {L:Nat→Bool} (h:Clo ops L) {i:Nat} {o:Oper} (ho:ops[i]?=some o) (hd:kX o L):Clo ops (fun j=>L j||j==i):=by
 intro j oj hj hL e he hb;have key:kX oj L:=by
  by_cases hji:j=i
  ·subst hji
   obtain rfl:oj=o:=by rw [hj] at ho;injection ho
   exact hd
  ·have e1:(j==i)=false:=DV.2 hji
   simp only [e1,Bool.or_false] at hL;exact h j oj hj hL
 simp [key e he hb]
theorem Clo.sink {ops:Array Oper} {L:Nat→Bool} (h:Clo ops L) {n:Nat} {o:Oper} (hs:Region.sinkB .any ops n=true) (ho:ops[n]?=some o) (hd:kX o L):∀(d i:Nat),n-i=d→i<n→L i=true:=by
 intro d;induction d using Nat.strongRecOn with
 | _ d ih =>
  intro i hdi hi;have h1:=List.all_eq_true.1 hs i (List.mem_range.2 hi);obtain⟨j,hj,hj2⟩:=List.any_eq_true.1 h1;simp only [Dy,Dp] at hj2;obtain⟨oj,hoj,e,he,hb,hon⟩:=Region.waitsFor_spec hj2.2;have hjle:j≤n:=by have:=List.mem_range.1 hj;omega
  rw [←hon];by_cases hjn:j=n
  ·subst hjn
   obtain rfl:oj=o:=by rw [hoj] at ho;injection ho
   exact hd e he hb
  ·exact h j oj hoj (ih (n-j) fR j rfl fR) e he hb
theorem ut {ops:Array Oper} {n t:Nat} {o:Oper} (hc:Region.chainB .any ops n=true) (ht:n<t) (ho:ops[t]?=some o) {L:Nat→Bool} (hd:kX o L):L (t-1)=true:=by
 have htl:=(Array.getElem?_eq_some_iff.1 ho).1;have h1:=List.all_eq_true.1 hc t (List.mem_range.2 htl);simp only [DC,Dp] at h1;rcases h1 with h1|h1
 ·omega
 ·obtain⟨o',ho',e,he,hb,hon⟩:=Region.waitsFor_spec h1
  obtain rfl:o'=o:=by rw [ho'] at ho;injection ho
  rw [←hon];exact hd e he hb
theorem xH {P:Program} {ops:Array Oper} {Q:Exit→Act→World→Prop} {o:Oper} {rest:List Oper} {a:Act} {w:World} {K:Act→World→Prop} (h:wpList P ops Q (o::rest) a w) (hK:∀a' w',wpList P ops Q rest a' w'→K a' w') :
  wpList P ops (Exit.then K Q) [o] a w:=by
 unfold wpList at h ⊢;split
 ·rename_i hw
  rw [Dr hw] at h;rcases h with h|⟨h1,h2⟩
  ·exact .inl (oper_to (Oper.wp_mono (K':=wpList P ops (Exit.then K Q) []) (fun a' w' h'=>hK a' w' h') h))
  ·exact .inr ⟨h1,h2⟩
 ·rename_i hw
  rw [Du hw] at h;exact hK _ _ h
def TailI (P:Program) (ops:List Oper) (Q:Exit→Act→World→Prop) (n:Nat) (I:(Nat→Bool)→Act→World→Prop) (L:Nat→Bool) (a:Act) (w:World):Prop :=
 Clo ops.toArray L∧((∀t,n≤t→t<ops.length→L t=false)∧I L a w∨∃t,n≤t∧t<ops.length∧L t=true∧(∀j,t<j→j<ops.length→L j=false)∧wpList P ops.toArray Q (ops.drop (t+1)) a w)
theorem rO {P:Program} {id:Nat} {ops:List Oper} {Q:Exit→Act→World→Prop} {a:Act} {w:World} (n:Nat) (hm:P.follows .mixedOrders=true) (hB:Dg ops.toArray n=true) (I:Act→World→(Nat→Bool)→Act→World→Prop)
  (h0:I a w (fun _=>false) a w.drew) (hs:RelyStepsT P ops.toArray Q (I a w) (ops.take n) 0)
  (hend:∀L a' w',(∀j,j<n→L j=true)→I a w L a' w'→wpList P ops.toArray Q (ops.drop n) a' w'):(Code.region id ops.toArray true).wp P Q a w:=by
 simp only [Dg,Dy,Dp] at hB;obtain⟨⟨⟨hB1,hn⟩,hsk⟩,hch⟩:=hB;have hn':n<ops.length:=by simpa using hn
 obtain⟨on,hon⟩:∃on,ops[n]?=some on:=⟨_,Dt hn'⟩;refine rJ hm hB1 (TailI P ops Q n (I a w)) ⟨fun j o hj h=>(by cases h),.inl ⟨fun _ _ _=>rfl,h0⟩⟩ ?_ ?_
 ·intro L i o a' w' ho hLi hde hI
  have ho':ops[i]?=some o:=by simpa using ho
  have hil:=(Dw.1 ho').1;obtain⟨hclo,hI⟩:=hI;have hclo':=hclo.add ho hde;by_cases hin:i<n
  ·have hno:∀t,n≤t→t<ops.length→L t=false:=by
    rcases hI with⟨h,_⟩|⟨t,ht,htl,hLt,_,_⟩
    ·exact h
    ·exfalso
     obtain⟨ot,hot⟩:∃ot,ops[t]?=some ot:=⟨_,Dt htl⟩;have hdown:∀k,n+k≤t→L (t-k)=true:=by
      intro k;induction k with
      | zero=>intro _;exact hLt
      | succ k ih =>
       exact bM
     have hLn:L n=true:=by have:=hdown (t-n) fR;rwa [show t-(t-n)=n by omega] at this
     have:=hclo.sink hsk (by simpa using hon) (hclo n on (by simpa using hon) hLn) (n-i) i rfl hin
     rw [this] at hLi;cases hLi
   have hIo:I a w L a' w':=by
    rcases hI with⟨_,h⟩|⟨t,ht,htl,hLt,_,_⟩
    ·exact h
    ·rw [hno t ht htl] at hLt;cases hLt
   have hst:=hs.at_ (i:=i) (o:=o) (by rw [List.getElem?_take_of_lt hin];exact ho') L a' w' (by simpa using hLi) hde hIo;simp only [Nat.zero_add] at hst;have key:∀a2 w2,I a w (fun j=>L j||j==i) a2 w2→TailI P ops Q n (I a w) (fun j=>L j||j==i) a2 w2:=fun a2 w2 h=>⟨hclo',.inl ⟨fun t ht htl=>by
    have e1:(t==i)=false:=DV.2 fR;simp [hno t ht htl,e1],h⟩⟩
   unfold wpList at hst ⊢;split
   ·rename_i hw
    rw [Dr hw] at hst;refine hst.imp (fun h=>?_) (fun h=>h);exact AU (Oper.wp_mono (K':=wpList P ops.toArray _ []) (fun a2 w2 h2=>key a2 w2 h2) h)
   ·rename_i hw
    rw [Du hw] at hst;exact key _ _ hst
  ·have hni:n≤i:=Nat.le_of_not_lt hin
   have hrest:wpList P ops.toArray Q (ops.drop i) a' w':=by
    by_cases he:i=n
    ·subst he
     rcases hI with⟨hno,hI⟩|⟨t,ht,htl,hLt,hgt,_⟩
     ·exact hend L a' w' (fun j hj=>hclo.sink hsk ho hde (i-j) j rfl hj) hI
     ·exfalso
      by_cases hte:t=i
      ·subst hte;rw [hLt] at hLi;cases hLi
      ·obtain⟨ot,hot⟩:∃ot,ops[t]?=some ot:=⟨_,Dt htl⟩
       have hdown:∀k,i+k≤t→L (t-k)=true:=by
        intro k;induction k with
        | zero=>intro _;exact hLt
        | succ k ih =>
         exact bM
       have:=hdown (t-i) fR
       rw [show t-(t-i)=i by omega,hLi] at this;cases this
    ·have hp:=ut hch (t:=i) fR ho hde
     rcases hI with⟨hno,_⟩|⟨t,ht,htl,hLt,hgt,hw⟩
     ·rw [hno (i-1) fR fR] at hp;cases hp
     ·have hti:t=i-1:=by
       rcases Nat.lt_trichotomy t (i-1) with h|h|h
       ·rw [hgt (i-1) h fR] at hp;cases hp
       ·exact h
       ·exfalso
        by_cases hte:t=i
        ·subst hte;rw [hLt] at hLi;cases hLi
        ·have hdown:∀k,i+k≤t→L (t-k)=true:=by
          intro k;induction k with
          | zero=>intro _;exact hLt
          | succ k ih =>
           exact bM
         have:=hdown (t-i) fR
         rw [show t-(t-i)=i by omega,hLi] at this;cases this
      subst hti;rwa [show i-1+1=i by omega] at hw
   have hcons:ops.drop i=o::ops.drop (i+1):=by
    rw [List.drop_eq_getElem_cons hil];have:=(Dw.1 ho').2
    rw [this]
   rw [hcons] at hrest;refine xH hrest fun a2 w2 h2=>⟨hclo',.inr ⟨i,hni,hil,by simp,fun j hj hjl=>?_,h2⟩⟩
   have e1:(j==i)=false:=DV.2 fR;cases hLj:L j with
   | false=>simp [hLj,e1]
   | true =>
    exfalso;have hdown:∀k,i+k≤j→L (j-k)=true:=by
     intro k;induction k with
     | zero=>intro _;exact hLj
     | succ k ih =>
      intro hk;have h1:=ih fR;obtain⟨ok,hok⟩:∃ok,ops[j-k]?=some ok:=⟨_,Dt fR⟩;have h2:=ut hch (t:=j-k) fR (by simpa using hok) (hclo _ ok (by simpa using hok) h1);rw [show j-(k+1)=j-k-1 by omega];exact h2
    have:=hdown (j-i) fR
    rw [show j-(j-i)=i by omega,hLi] at this;cases this
 ·intro L a' w' hL hI
  obtain⟨_,hI⟩:=hI;rcases hI with⟨hno,_⟩|⟨t,ht,htl,hLt,hgt,hw⟩
  ·have h1:=hno n (Dv _) hn'
   rw [hL n hn] at h1;cases h1
  ·have hte:t+1=ops.length:=by
    rcases Nat.lt_or_ge (t+1) ops.length with h|h
    ·have h1:=hgt (t+1) fR h
     rw [hL (t+1) gT] at h1;cases h1
    ·omega
   rw [List.drop_eq_nil_of_le fR] at hw;exact hw
open Go.RowKit
theorem sh (d:Nat) (ds:List Nat) (k:Nat) (V:Nat→Value) (a:Act):oX (d::ds) k V a=oX ds (k+1) V (a.put (some d) (V k)):=rfl
theorem rG:∀(ds:List Nat) (k:Nat) (V:Nat→Value) (a:Act),(oX ds k V a).tmps.size=a.tmps.size
 | [],_,_,_=>rfl
 | d::ds,k,V,a=>(rG ds (k+1) V _).trans (by simp [Act.put])
theorem pN:∀(ds:List Nat) (k:Nat) (V:Nat→Value) (a:Act) (t:Nat),t ∉ ds→(oX ds k V a).tmps[t]?=a.tmps[t]?
 | [],_,_,_,_,_=>rfl
 | d::ds,k,V,a,t,h=>by
  rw [sh,pN ds (k+1) V _ t (fun e=>h (DI _ e))];simp only [Act.put];rw [Array.getElem?_setIfInBounds_ne (fun e=>h (by simp [e]))]
theorem rY:∀(ds:List Nat) (k:Nat) (V:Nat→Value) (a:Act) (i t:Nat),ds.Nodup→ds[i]?=some t→t<a.tmps.size→(oX ds k V a).tmps[t]?=some (V (k+i))
 | [],_,_,_,i,t,_,h,_=>by simp at h
 | d::ds,k,V,a,0,t,hn,h,hs=>by
  simp at h;subst h
  rw [sh,pN ds (k+1) V _ _ (List.nodup_cons.1 hn).1];simp [Act.put,hs]
 | d::ds,k,V,a,i+1,t,hn,h,hs=>by
  rw [sh,rY ds (k+1) V _ i t (List.nodup_cons.1 hn).2 gT (by simpa [Act.put] using hs)];rw [show k+1+i=k+(i+1) by omega]
theorem nL:∀(ds:List Nat) (k:Nat) (V:Nat→Value) (a:Act),(oX ds k V a).defers=a.defers
 | [],_,_,_=>rfl
 | _::ds,k,V,_=>(nL ds (k+1) V _).trans rfl
theorem puts_put (ds:List Nat) (V:Nat→Value) (a:Act) (i t:Nat) (v:Value) (hn:ds.Nodup) (h:ds[i]?=some t) (hb:∀d∈ds,d<a.tmps.size):(oX ds 0 V a).put (some t) v=oX ds 0 (upd V i v) a:=by
 have e:((oX ds 0 V a).put (some t) v).tmps=(oX ds 0 (upd V i v) a).tmps:=by
  apply Array.ext_getElem?
  intro j;simp only [Act.put];have ht:=hb t (DL h);by_cases hjt:t=j
  ·subst hjt
   rw [Array.getElem?_setIfInBounds_self_of_lt (by rw [rG];exact ht),rY ds 0 _ a i t hn h ht];simp [upd]
  ·rw [Array.getElem?_setIfInBounds_ne hjt]
   by_cases hj:j∈ds
   ·obtain⟨m,hm⟩:=List.getElem?_of_mem hj
    rw [rY ds 0 _ a m j hn hm (hb j hj),rY ds 0 _ a m j hn hm (hb j hj)];have:m≠i:=fun e=>by subst e;rw [hm] at h;injection h with h;exact hjt h.symm
    simp [upd,this]
   ·rw [pN ds 0 _ a j hj,pN ds 0 _ a j hj]
 have key:∀x y:Act,x.tmps=y.tmps→x.defers=y.defers→x=y:=fun x y h h'=>by cases x;cases y;simp only at h h';subst h;subst h';rfl
 refine key _ _ e ?_;show (oX ds 0 V a).defers=_
 rw [nL,nL]
structure Fm2 (ds:List Nat) (V:Nat→Value) (A0 a:Act):Prop where
 eq:a=oX ds 0 V A0
theorem Fm2.size {ds:List Nat} {V:Nat→Value} {A0 a:Act} (h:Fm2 ds V A0 a):a.tmps.size=A0.tmps.size:=by rw [h.eq,rG]
theorem Fm2.ins {ds:List Nat} {V:Nat→Value} {A0 a:Act} (h:Fm2 ds V A0 a) (hn:ds.Nodup) (hb:∀d∈ds,d<A0.tmps.size) (i:Nat) {t:Nat} (hi:ds[i]?=some t):a.tmps[t]?=some (V i):=by
 rw [h.eq,rY ds 0 V A0 i t hn hi (hb t (DL hi))];simp
theorem Fm2.out {ds:List Nat} {V:Nat→Value} {A0 a:Act} (h:Fm2 ds V A0 a) {t:Nat} (ht:t ∉ ds):a.tmps[t]?=A0.tmps[t]?:=by
 rw [h.eq,pN ds 0 V A0 t ht]
theorem Fm2.put {ds:List Nat} {V:Nat→Value} {A0 a:Act} (h:Fm2 ds V A0 a) (hn:ds.Nodup) (hb:∀d∈ds,d<A0.tmps.size) (i:Nat) {t:Nat} (hi:ds[i]?=some t) (v:Value):Fm2 ds (upd V i v) A0 (a.put (some t) v):=⟨by rw [h.eq,puts_put ds V A0 i t v hn hi hb]⟩
theorem pg {a:Act} {t:Nat} {v:Value} (h:a.tmps[t]?=some v):a.eval (.tmp t)=v:=by
 simp [Act.eval,Array.getD_eq_getD_getElem?,h]
theorem j9 {o:Oper} {y:Nat→Option Bool} (h:o.guard=none):Region.wanted o y=true:=by simp [Region.wanted,h]
section
variable {P:Program} {ops:Array Oper} {Q:Exit→Act→World→Prop} {K:Act→World→Prop} {o:Oper} {a:Act} {w:World}
theorem lS {v:Value} {w':World} (hw:Region.wanted o (yielded ops a.tmps)=true) (hr:(execOp a.eval o).run P w=.ok (.value v) w') (h:K (a.put o.dst v) w'):wpList P ops (Exit.then K Q) [o] a w:=by
 unfold wpList;rw [Dr hw];refine .inl ?_;unfold Oper.wp;rw [hr];exact h
theorem rs_call {f:FuncId} {args:Array Value} (hw:Region.wanted o (yielded ops a.tmps)=true) (hr:(execOp a.eval o).run P w=.ok (.enter f args) w) (hc:Calls P f args w fun e w'=>∃v,e=.returned v∧K (a.put o.dst v) w'):wpList P ops (Exit.then K Q) [o] a w:=by
 unfold wpList;rw [Dr hw];refine .inl ?_;unfold Oper.wp;rw [hr];exact hc.mono fun e w' ⟨v,he,hk⟩=>by subst he;exact hk
theorem tU {x:Operand} (ho:o.op=.move x∨o.op=.assign x):(execOp a.eval o).run P w=.ok (.value (a.eval x)) w:=by
 unfold execOp;rcases ho with h|h<;>rw [h]<;>rfl
theorem BF {x:Operand} {ad:Addr} (ho:o.op=.nilCheck x) (hx:a.eval x=.pointer (some ad)):(execOp a.eval o).run P w=.ok (.value (.pointer (some ad))) w:=by
 unfold execOp;rw [ho];simp only [hx];rfl
theorem ex_call {f:FuncId} {args:Array Operand} {tys:Array TypeId} {fn:Func} {vs:Array Value} (ho:o.op=.call { callee:=.value (.func f),args:=args,argTypes:=tys })
  (hf : P.funcs[f]? = some fn) (hn : (fn.name == "runtime.NumGoroutine" || fn.body.isNone) = false) (hvs : args.map a.eval = vs) : (execOp a.eval o).run P w = .ok (.enter f vs) w := by
 subst hvs;simp only [Bool.or_eq_false_iff] at hn;have h1 : fn.name ≠ "runtime.NumGoroutine" := by simpa using hn.1
 have h2:fn.body≠none:=by cases hb:fn.body with
  | none=>rw [hb] at hn;simp at hn
  | some _=>simp
 unfold execOp;simp only [ho,resolve,invoke,Sem.run_bind,Act.eval];simp [Deferred.ofValue,callFunc,hf,h1,h2]
end
theorem upd_c {VC:Nat→Value→Prop} {V:Nat→Value} {L:Nat→Bool} (H:∀j,L j=true→VC j (V j)) (k:Nat) {v:Value} (hv:VC k v):∀j,(L j||j==k)=true→VC j (upd V k v j):=by
 intro j hj;unfold upd;by_cases e:j=k
 ·subst e;rw [Dr rfl];exact hv
 ·rw [Du e]
  have e1:(j==k)=false:=DV.2 e;rw [e1,Bool.or_false] at hj;exact H j hj
theorem upd_ne {V:Nat→Value} {k j:Nat} {v:Value} (h:j≠k):upd V k v j=V j:=by unfold upd;rw [Du h]
theorem upd_at {V:Nat→Value} {k:Nat} {v:Value}:upd V k v k=v:=by unfold upd;rw [Dr rfl]
theorem lor_ne {L:Nat→Bool} {k j:Nat} (h:j≠k):(L j||j==k)=L j:=by rw [DV.2 h,Bool.or_false]
structure OneE (M:Nat) (W0:World) (PM:Value→World→Prop) (VC:Nat→Value→Prop) (V:Nat→Value) (L:Nat→Bool) (w':World):Prop where
 h0:L M=false→w'=W0
 h1:L M=true→PM (V M) w'
 vs:∀j,L j=true→VC j (V j)
theorem OneE.start (M:Nat) (W0:World) (PM:Value→World→Prop) (VC:Nat→Value→Prop) (V:Nat→Value):OneE M W0 PM VC V (fun _=>false) W0:=⟨fun _=>rfl,(fun h=>by cases h),(fun _ h=>by cases h)⟩
theorem OneE.pure {M:Nat} {W0:World} {PM:Value→World→Prop} {VC:Nat→Value→Prop} {V:Nat→Value} {L:Nat→Bool} {w':World} (h:OneE M W0 PM VC V L w') (k:Nat) {v:Value} (hk:M≠k) (hv:VC k v):OneE M W0 PM VC (upd V k v) (fun j=>L j||j==k) w' :=
 ⟨fun e=>h.h0 ((lor_ne (L:=L) hk).symm.trans e),fun e=>by rw [upd_ne hk];exact h.h1 ((lor_ne (L:=L) hk).symm.trans e),upd_c h.vs k hv⟩
theorem OneE.event {M:Nat} {W0:World} {PM:Value→World→Prop} {VC:Nat→Value→Prop} {V:Nat→Value} {L:Nat→Bool} {w' w2:World} (h:OneE M W0 PM VC V L w') {v:Value} (hM:PM v w2) (hv:VC M v):OneE M W0 PM VC (upd V M v) (fun j=>L j||j==M) w2 :=
 ⟨fun e=>by simp at e,fun _=>by rw [upd_at];exact hM,upd_c h.vs M hv⟩
theorem qA {o:Oper} {a:Act} {w:World} {t:Nat} {ad:Addr} {u:Value} {ty:TypeId} (ho:o.op=.load ty (.tmp t)) (e:a.tmps[t]?=some (.pointer (some ad))) (hr:(Instr.loadAt ty (.pointer (some ad))).run Tryz.prog w=.ok u w):(execOp a.eval o).run Tryz.prog w=.ok (.value u) w:=by
 have e2:=pg e;simp only [execOp,ho,e2];simp [hr,Result.andThen]
theorem Ct {w:World} {ad:Addr} {n:Int} (h:w.cell? ad=some (.int .i64 n)):(Instr.loadAt 3 (.pointer (some ad))).run Tryz.prog w=.ok (.int .i64 n) w:=by go_simp
theorem rm {P:Program} {id:Nat} {ops:List Oper} {Q:Exit→Act→World→Prop} {a:Act} {w:World} (n:Nat) (hm:P.follows .mixedOrders=true) (hB:Dg ops.toArray n=true) (I:Act→World→(Nat→Bool)→Act→World→Prop)
  (h:∀A0,Hid (A0=a)→I A0 w (fun _=>false) A0 w.drew∧RelyStepsT P ops.toArray Q (I A0 w) (ops.take n) 0∧∀L a' w',(∀j,j<n→L j=true)→I A0 w L a' w'→wpList P ops.toArray Q (ops.drop n) a' w'):(Code.region id ops.toArray true).wp P Q a w:=by
 obtain⟨h0,h1,h2⟩:=h a (ab rfl);exact rO n hm hB I h0 h1 h2
open Go.RowKit
def p1 (x:Rx):Bool:=decide (x.kind≠1)
open Go.RowKit
def pe:List (Str × Str)→Int→Option Int
 | [],n=>some n
 | r::rs,n=>if n≤r.1.length∨n≤r.2.length then none else pe rs (n-1-r.1.length-r.2.length)
namespace Rx
mutual
def left:Rx→Int→Int
 | mk _ c _ rs _ _ _ ks,n=>if n≤c.length∨n≤rs.length∨n≤ks.length then -1 else
  (match pe rs (n-1-c.length) with
   | none=>-1
   | some m=>leftK ks m)
def leftK:List Rx→Int→Int
 | [],n=>n
 | x::r,n=>if n<0 then n else leftK r (left x n)
end
def finK (ks:List Rx):Option Int→Int
 | none=>-1
 | some m=>leftK ks m
def mem1:Rx→Prop
 | mk _ c _ rs _ _ _ ks=>c.length≤maxLen∧rs.length≤maxLen∧(∀r∈rs,r.1.length≤maxLen∧r.2.length≤maxLen)∧ks.length≤maxLen
mutual
def mem:Rx→Prop
 | mk k c ng rs lo hi lz ks=>mem1 (mk k c ng rs lo hi lz ks)∧memL ks
def memL:List Rx→Prop
 | []=>True
 | x::r=>mem x∧memL r
end
end Rx
theorem yA:∀{ks:List Rx} {x:Rx},Rx.memL ks→x∈ks→x.mem
 | [],_,_,h=>by simp at h
 | y::r,x,hs,h=>by
  simp only [Rx.memL] at hs;rcases DF.1 h with rfl|h
  ·exact hs.1
  ·exact yA hs.2 h
theorem tV:∀(rs:List (Str × Str)) (n m:Int),pe rs n=some m→m≤n∧(-1000≤n→n≤1000→-1000≤m)
 | [],n,m,h=>by simp only [pe] at h;injection h with h;subst h;omega
 | r::rs,n,m,h=>by
  simp only [pe] at h;split at h
  ·cases h
  ·rename_i hc
   have:=tV rs _ m h
   refine⟨by omega,fun a b=>?_⟩;by_cases hn:-1000≤n-1-r.1.length-r.2.length
   ·exact this.2 hn fR
   ·exfalso;omega
theorem xb:∀(N:Nat) (x:Rx) (n:Int),x.parts≤N→-1000≤n→n≤1000→-1000≤x.left n∧x.left n≤1000
 | 0,x,_,h,_,_=>by have:=Rx.parts_pos x;omega
 | N+1,.mk k c ng rs lo hi lz ks,n,h,h0,h1=>by
  simp only [Rx.parts] at h;have hk:∀(l:List Rx) (m:Int),Rx.partsL l≤N→-1000≤m→m≤1000→-1000≤Rx.leftK l m∧Rx.leftK l m≤1000:=by
   intro l;induction l with
   | nil=>intro m _ a b;simp only [Rx.leftK];exact⟨a,b⟩
   | cons x r ih =>
    intro m hm a b;simp only [Rx.partsL] at hm;simp only [Rx.leftK];split
    ·exact⟨a,b⟩
    ·have:=xb N x m fR a b
     exact ih _ fR this.1 this.2
  simp only [Rx.left];split
  ·omega
  ·rename_i hc
   split
   ·omega
   ·rename_i m hm
    have h2:=tV rs _ m hm;exact hk ks m fR (h2.2 fR fR) fR
def LrRel (rs:List (Str × Str)) (R:Option Int) (w:World) (s q:Value) (wr:World):Prop :=
 ∃(k:Nat) (m:Int),k≤rs.length∧q=.int .i64 k∧s=.int .i64 m∧-1000≤m∧m≤1000∧Below w.heap.size w wr∧Hid (pe (rs.drop k) m=R)
def LkRel (ks:List Rx) (R:Int) (w:World) (s q:Value) (wr:World):Prop :=
 ∃(k:Nat) (m:Int),k≤ks.length∧q=.int .i64 k∧s=.int .i64 m∧-1000≤m∧m≤1000∧Below w.heap.size w wr∧Hid (Rx.leftK (ks.drop k) m=R)
theorem vp (S:Nat→Prop):∀(N:Nat) (x:Rx),x.parts≤N→x.mem→∀(cc:List Value) (w:World) (n:Int),RxV w S cc x→-1000≤n→n≤1000 →
  Calls Tryz.prog 14 #[.agg cc.toArray,.int .i64 n] w fun e w'=>e=.returned (.int .i64 (x.left n))∧Below w.heap.size w w'
 | 0,x,h,_,_,_,_,_,_,_=>by have:=Rx.parts_pos x;omega
 | N+1,.mk k c ng rs lo hi lz ks,h,hmem,cc,w,n,hv,hn0,hn1=>by
  obtain⟨ra,rc,ka,kc,rfl,hrs,hx⟩:=hv.open_;simp only [Rx.parts] at h;obtain⟨⟨m1,m2,m3,m4⟩,hmemL⟩:=hmem;unfold maxLen at m1 m2 m3 m4;have ih:=fun(y:Rx) (hy:y∈ks)=>vp S N y gS (yA hmemL hy)
  have ihb:=fun(y:Rx) (hy:y∈ks) (m:Int)=>xb N y m gS
  have IH:=ab ih;have IHB:=ab ihb;have M3:=ab m3;obtain⟨w0,hw0⟩:∃w0,w0=w.alloc (.cells #[.int .i64 k,.string ⟨c.toArray⟩,.bool ng,.slice ra rs.length rc,.int .i64 lo,.int .i64 hi,.bool lz,.slice ka ks.length kc] 25):=⟨_,rfl⟩;have hb0:Below w.heap.size w w0:=by rw [hw0];exact(Below.refl _ _).alloc (Dv _) _
  have HX:=ab (hx.later hb0);have HRS:=ab (hrs.keep (Kept.all hb0)).sl;have z3:w0.cell? ⟨w.heap.size,3,none⟩=some (.slice ra rs.length rc):=by rw [hw0];simp
  have z7:w0.cell? ⟨w.heap.size,7,none⟩=some (.slice ka ks.length kc):=by rw [hw0];simp
  have Z3:=ab z3;have Z7:=ab z7;clear hx hv hrs ih ihb hmemL z3 z7 m3;unfold rxc;by_cases hout:n≤c.length∨n≤rs.length∨n≤ks.length
  ·have HR:Hid ((Rx.mk k c ng rs lo hi lz ks).left n=-1):=ab (by simp only [Rx.left];rw [Dr hout])
   rw [HR.out];clear hw0;go_enter Tryz.func14,Tryz.ntmps14
   go_wp2
   all_goals first
    | (go_ret;exact⟨rfl,(Below.refl _ _).alloc (Dv _) _⟩)
    | (exfalso;omega)
  ·have h1:(c.length:Int)<n:=fR
   have h2:(rs.length:Int)<n:=fR;have h3:(ks.length:Int)<n:=fR;obtain⟨R,hR⟩:∃R,pe rs (n-1-c.length)=R:=⟨_,rfl⟩;have HR0:Hid (pe (rs.drop 0) (n-1-c.length)=R):=ab hR;have HE:Hid ((Rx.mk k c ng rs lo hi lz ks).left n=Rx.finK ks R):=ab (by simp only [Rx.left];rw [Du hout,hR];cases R<;>rfl);rw [HE.out];have hR1:∀m,R=some m→-1000≤m∧m≤1000:=fun m hm=>by
    have:=tV rs _ m (hR.trans hm);omega
   have HR1:=ab hR1;clear hout hR hR1;go_enter Tryz.func14,Tryz.ntmps14
   go_wp2
   rw [←hw0];have HW0:=ab hw0;clear hw0;go_loopw [1,5] (fun s q wr=>LrRel rs R w0 s q wr) (fun _ q _=>rs.length-(intOf q).toNat)
   case atStart=>exact⟨0,n-1-c.length,by omega,rfl,rfl,by omega,by omega,Below.refl _ _,HR0⟩
   case round =>
    obtain⟨i,m,hi,rfl,rfl,hm0,hm1,hb,HF⟩:=hrel;clear HR0;have hB:=hb.size;have z3:wr.cell? ⟨w.heap.size,3,none⟩=some (.slice ra rs.length rc):=jH hb _ _ Z3.out;have hbb:=hb0.trans (hb.mono hb0.size);cases hd:rs.drop i with
    | nil =>
     have hge:rs.length≤i:=gm;have hie:i=rs.length:=fR;have HE2:Hid (R=some m):=ab gC;have HX1:=ab (HX.out.later hb);have HK0:Hid (Rx.leftK (ks.drop 0) m=Rx.leftK ks m):=ab rfl;obtain⟨T,hT⟩:∃T,Rx.leftK ks m=T:=⟨_,rfl⟩;rw [hT] at HK0;have HFK:Hid (Rx.finK ks R=T):=ab (by rw [HE2.out];exact hT);have Z7r:=ab (jH hb _ _ Z7.out);clear hd HF hT;subst hie;clear hge hi;obtain⟨wo,rfl⟩:∃wo:World,wo=wr:=⟨_,rfl⟩;go_wp2
     go_loopw [1,6] (fun s q wk=>LkRel ks T wo s q wk) (fun _ q _=>ks.length-(intOf q).toNat)
     case atStart=>exact⟨0,m,by omega,rfl,rfl,hm0,hm1,Below.refl _ _,HK0⟩
     case round =>
      obtain⟨j,m',hj,rfl,rfl,hk0,hk1,hbk,HG⟩:=hrel;clear HK0;have hBk:=hbk.size;have z7:wr.cell? ⟨w.heap.size,7,none⟩=some (.slice ka ks.length kc):=jH hbk _ _ Z7r.out;have hbbk:=hbb.trans (hbk.mono hbb.size);cases hd:ks.drop j with
      | nil =>
       have hge2:ks.length≤j:=gm;have HT:Hid (m'=T):=ab (by rw [←HG.out,hd];rfl);clear hd HG;go_wp2
       go_ret
       exact⟨lC (by rw [HFK.out];exact HT.out),hbbk⟩
      | cons y r =>
       obtain⟨g2,g3,hr⟩:=jO hd;have hym:=DL g3;obtain⟨yk,yc,yn,yr,yl,yh,yz,ys⟩:=y;obtain⟨b,o,ya,yrc,yka,ykc,rfl,hS,hbB,_,_,hyv,c0,c1,c2,c3,c4,c5,c6,c7⟩:=(HX1.out.later hbk).cells g3;have Hr:=ab hr;have HG2:Hid (Rx.leftK (.mk yk yc yn yr yl yh yz ys::r) m'=T):=ab (by rw [←HG.out,hd]);have HYV:=ab hyv;unfold rxc at HYV;clear hd HG hr g3 hyv;by_cases hneg:m'<0
       ·have HT:Hid (m'=T):=ab (by rw [←HG2.out];simp only [Rx.leftK];rw [Dr hneg])
        go_wp2
        go_ret
        exact⟨lC (by rw [HFK.out];exact HT.out),hbbk⟩
       ·have HT:Hid (Rx.leftK r ((Rx.mk yk yc yn yr yl yh yz ys).left m')=T):=ab (by rw [←HG2.out];simp only [Rx.leftK];rw [Du hneg])
        have hpos:0≤m':=by omega
        obtain⟨b1,b2⟩:=IHB.out _ hym m' hk0 hk1;clear hneg;go_wp2_with (go_at_call 14;refine(IH.out _ hym _ _ m' HYV.out hk0 hk1).mono ?_)
        first|rintro e w2 rfl hb2|rintro e w2 ⟨rfl,hb2⟩
        go_wp2
        go_roundw
        case rel=>exact⟨j+1,_,by omega,by go_num,rfl,b1,b2,hbk.trans (hb2.mono hBk),ab (by rw [Hr.out];exact HT.out)⟩
        case measure=>simp [intOf];omega
    | cons r0 r =>
     obtain⟨g2,g3,hr⟩:=jO hd;obtain⟨b,o,rfl,hbB,c0,c1⟩:=(HRS.out.keep (hb.mono (Dv _))).row g3;obtain⟨l1,l2⟩:=M3.out r0 (DL g3);obtain⟨f,t⟩:=r0;replace l1:f.length≤2 ^ 63-1:=l1;replace l2:t.length≤2 ^ 63-1:=l2;replace c0:wr.cell? ⟨b,o+i*2,none⟩=some (.string ⟨f.toArray⟩):=c0;replace c1:wr.cell? ⟨b,o+i*2+1,none⟩=some (.string ⟨t.toArray⟩):=c1;have Hr:=ab hr;have HF2:Hid (pe ((f,t)::r) m=R):=ab iZ;clear hd HF hr g3;by_cases hc:m≤f.length∨m≤t.length
     ·have HRN:Hid (R=none):=ab (by rw [←HF2.out];simp only [pe];rw [Dr hc])
      go_wp2
      all_goals first
       | (go_ret;exact⟨lC (by rw [HRN.out];rfl),hbb⟩)
       | (exfalso;omega)
     ·have HRN:Hid (pe r (m-1-f.length-t.length)=R):=ab (by rw [←HF2.out];simp only [pe];rw [Du hc])
      have hcf:(f.length:Int)<m:=fR;have hct:(t.length:Int)<m:=fR;have x3:∀x:ExtOf wr,x.val.cell? ⟨w.heap.size,3,none⟩=some (.slice (some ⟨b,o,none⟩) rs.length rc):=ExtOf.cell z3;have x0:∀x:ExtOf wr,x.val.cell? ⟨b,o+i*2,none⟩=some (.string ⟨f.toArray⟩):=ExtOf.cell c0;have x1:∀x:ExtOf wr,x.val.cell? ⟨b,o+i*2+1,none⟩=some (.string ⟨t.toArray⟩):=ExtOf.cell c1;clear hc;go_wp2
      refine jF fW fW ?_;repeat (go_big_quiet_step ((fail)))
      refine wpQuiet_nil ?_;rintro _ ⟨xq,rfl⟩;go_wp2
      go_roundw
      case rel=>exact⟨i+1,m-1-f.length-t.length,by omega,by go_num,by go_num,by omega,by omega,hb.trans (xq.ext.mono hB),ab (by rw [Hr.out];exact HRN.out)⟩
      case measure=>simp [intOf];omega
open Go.ChangeShapes Go.WideShapes Go.RowKit
section
variable {H:Type} {enc:TypeId × Value→H} {P:Program} {w:World} {spare:Nat→Bool} {held:Bool}
theorem su {C:Nat}:∀{css:List (List Value)},(∀c∈css,c.length=C)→∀{j:Nat} {u:Value},css.flatten[j]?=some u→∃i k c,css[i]?=some c∧k<C∧j=i*C+k∧c[k]?=some u
 | [],_,j,u,h=>by simp at h
 | c::css,hC,j,u,h=>by
  have hc:=hC c (DH ..);rw [List.flatten_cons] at h;by_cases hj:j<c.length
  ·rw [DG hj] at h
   exact⟨0,j,c,rfl,by omega,by omega,h⟩
  ·rw [DJ fR] at h
   obtain⟨i,k,c',h1,h2,h3,h4⟩:=su (fun x hx=>hC x (DI _ hx)) h;exact⟨i+1,k,c',by simpa using h1,h2,by rw [Nat.succ_mul];omega,h4⟩
theorem rT {C:Nat}:∀{css:List (List Value)},(∀c∈css,c.length=C)→css.flatten.length=css.length*C
 | [],_=>by simp
 | c::css,hC=>by
  rw [List.flatten_cons,DE,rT (fun x hx=>hC x (DI _ hx)),hC c (DH ..),Dx,Nat.succ_mul];omega
theorem rL {t e:TypeId} {C fuel:Nat} {cs:List Value} {x:DataW H × List MemPlace} (ht:P.underlying t=some (.slice e)) (hC:P.cellsOf e=C) (hC0:0<C)
  (h:DataW.trod enc P w 0 spare held fuel t cs=some x) (Q:List Value→Prop)
  (hQ:∀n c y,n<fuel→c.length=C→DataW.trod enc P w 0 spare held n e c=some y→Q c) :
  ∃(a:Option Addr) (len cap:Nat) (css:List (List Value)),cs=[.slice a len cap]∧len≤maxLen∧css.length=len∧(∀c∈css,Q c∧c.length=C)∧Sl w w.heap.size a C len css.flatten:=by
 rcases DataW.trod_slice ht h with⟨rfl,_⟩|⟨a,len,cap,elems,rest,n,hf,rfl,_,_,hl,hm,hlen,hel,_,_⟩
 ·exact⟨none,0,0,[],rfl,by simp [maxLen],rfl,by simp,Sl.none_ _ _ _ _⟩
 ·have each:∀i,i<len→∃c,c.length=C∧Q c∧∀j,j<C→w.cell? ((a.add (i*C)).add j)=c[j]?:=by
   intro i hi;have h1:=hel i hi;have hlt:i<elems.length:=fR;rw [Dt hlt,Option.bind_eq_some_iff] at h1;obtain⟨c,hc,hy⟩:=h1;obtain⟨_,h2,h3⟩:=World.cells?_some hc;rw [hC] at h2 h3;exact⟨c,h2,hQ n c _ fR h2 hy,h3⟩
  have all:∃css:List (List Value),css.length=len∧∀i c,css[i]?=some c→c.length=C∧Q c∧∀j,j<C→w.cell? ((a.add (i*C)).add j)=c[j]?:=by
   have:∀m,m≤len→∃css:List (List Value),css.length=m∧∀i c,css[i]?=some c→c.length=C∧Q c∧∀j,j<C→w.cell? ((a.add (i*C)).add j)=c[j]?:=by
    intro m;induction m with
    | zero=>intro _;exact⟨[],rfl,by simp⟩
    | succ m ih =>
     intro hm;obtain⟨css,h1,h2⟩:=ih fR;obtain⟨c,hc⟩:=each m fR;refine⟨css++[c],by simp [h1],fun i d hd=>?_⟩;by_cases hi:i<css.length
     ·rw [DG hi] at hd;exact h2 i d hd
     ·rw [DJ fR] at hd
      have hi0:i-css.length=0:=by
       rcases Nat.eq_zero_or_pos (i-css.length) with h0|h0
       ·exact h0
       ·rw [List.getElem?_eq_none fY] at hd;cases hd
      rw [hi0] at hd;simp at hd;subst hd
      rw [show i=m by omega];exact hc
   exact this len (Dv _)
  obtain⟨css,h1,h2⟩:=all;have h3:∀c∈css,Q c∧c.length=C:=fun c hc=>by
   obtain⟨i,hi⟩:=List.getElem?_of_mem hc;exact⟨(h2 i c hi).2.1,(h2 i c hi).1⟩
  refine⟨some a,len,cap,css,rfl,by omega,h1,h3,by rw [rT (fun c hc=>(h3 c hc).2),h1],fun hn=>?_⟩;have h0:w.cell? a≠none:=by
   obtain⟨c,hc⟩:∃c,css[0]?=some c:=⟨_,Dt fR⟩;obtain⟨hc1,_,hc2⟩:=h2 0 c hc;have:=hc2 0 hC0
   rw [show (a.add (0*C)).add 0=a by simp [Addr.add],Dt fR] at this;rw [this];simp
  obtain⟨b,off,spot⟩:=a;have hspot:spot=none:=by
   cases spot with
   | none=>rfl
   | some s=>exfalso;apply h0;unfold World.cell?;split<;>simp
  subst hspot;have hb:b<w.heap.size:=by
   rcases Nat.lt_or_ge b w.heap.size with h4|h4
   ·exact h4
   ·exfalso;apply h0;simp [World.cell?,Array.getElem?_eq_none h4]
  refine⟨b,off,rfl,hb,fun j u hu=>?_⟩;obtain⟨i,k,c,g1,g2,rfl,g4⟩:=su (fun c hc=>(h3 c hc).2) hu;have:=(h2 i c g1).2.2 k g2
  rw [g4] at this;rw [←this];congr 1;unfold Addr.add;(repeat' split)<;>simp_all<;>omega
theorem tg {X:Type} (f:X→List Value) (K:X→Prop):∀{css:List (List Value)},(∀c∈css,∃x,c=f x∧K x)→∃xs:List X,css=xs.map f∧∀x∈xs,K x
 | [],_=>⟨[],rfl,by simp⟩
 | c::css,h=>by
  obtain⟨x,rfl,hx⟩:=h c (DH ..);obtain⟨xs,rfl,hxs⟩:=tg f K (fun d hd=>h d (DI _ hd));exact⟨x::xs,rfl,fun y hy=>by
   rcases DF.1 hy with rfl|hy
   ·exact hx
   ·exact hxs y hy⟩
theorem vE {X:Type} (f:X→List Value) (K:X→Prop) {t e:TypeId} {C fuel:Nat} {cs:List Value} {x:DataW H × List MemPlace} (ht:P.underlying t=some (.slice e)) (hC:P.cellsOf e=C) (hC0:0<C)
  (h:DataW.trod enc P w 0 spare held fuel t cs=some x)
  (hQ:∀n c y,n<fuel→c.length=C→DataW.trod enc P w 0 spare held n e c=some y→∃x,c=f x∧K x) :
  ∃(a:Option Addr) (cap:Nat) (xs:List X),cs=[.slice a xs.length cap]∧xs.length≤maxLen∧(∀x∈xs,K x)∧Sl w w.heap.size a C xs.length (xs.flatMap f):=by
 obtain⟨a,len,cap,css,h1,h2,h3,h4,h5⟩:=rL ht hC hC0 h (fun c=>∃x,c=f x∧K x) hQ;obtain⟨xs,rfl,hx⟩:=tg f K (fun c hc=>(h4 c hc).1);rw [DS] at h3;subst h3;exact⟨a,cap,xs,h1,h2,hx,by rw [List.flatMap_def];exact h5⟩
end
section
variable {H:Type} {enc:TypeId × Value→H} {w:World} {base:Nat} {spare:Nat→Bool} {held:Bool}
end
open Go.ChangeShapes Go.WideShapes Go.RowKit
theorem Ca:Tryz.prog.underlying 25=some (.struct (Tryz.prog.fieldsOf 25)):=by kernel_rfl
theorem AM:Tryz.prog.underlying 62=some (.struct (Tryz.prog.fieldsOf 62)):=by kernel_rfl
theorem rx_fs : Tryz.prog.fieldsOf 25 = #[{ name := "Kind", type := 3, offset := 0, embedded := false, tag := "", pkgPath := "", byteOffset := 0 }, { name := "Char", type := 9, offset := 1, embedded := false, tag := "", pkgPath := "", byteOffset := 8 }, { name := "Not", type := 4, offset := 2, embedded := false, tag := "", pkgPath := "", byteOffset := 24 }, { name := "Rows", type := 22, offset := 3, embedded := false, tag := "", pkgPath := "", byteOffset := 32 }, { name := "Min", type := 3, offset := 4, embedded := false, tag := "", pkgPath := "", byteOffset := 56 }, { name := "Max", type := 3, offset := 5, embedded := false, tag := "", pkgPath := "", byteOffset := 64 }, { name := "Lazy", type := 4, offset := 6, embedded := false, tag := "", pkgPath := "", byteOffset := 72 }, { name := "Kids", type := 23, offset := 7, embedded := false, tag := "", pkgPath := "", byteOffset := 80 }] := by kernel_rfl
theorem row_fs : Tryz.prog.fieldsOf 62 = #[{ name := "From", type := 9, offset := 0, embedded := false, tag := "", pkgPath := "", byteOffset := 0 }, { name := "To", type := 9, offset := 1, embedded := false, tag := "", pkgPath := "", byteOffset := 16 }] := by kernel_rfl
theorem wI:Tryz.prog.cellsOf 3=1:=by kernel_rfl
theorem oz:Tryz.prog.cellsOf 9=1:=by kernel_rfl
theorem tD:Tryz.prog.cellsOf 4=1:=by kernel_rfl
theorem AF:Tryz.prog.cellsOf 22=1:=by kernel_rfl
theorem CJ:Tryz.prog.cellsOf 23=1:=by kernel_rfl
theorem CT:Tryz.prog.cellsOf 62=2:=by kernel_rfl
theorem yS:Tryz.prog.cellsOf 25=8:=by kernel_rfl
theorem vh {w:World}:∀{css:List (List Value)},(∀c∈css,∃x:Rx,RxV w Any c x∧x.mem)→∃xs:List Rx,RxVs w Any css xs∧Rx.memL xs
 | [],_=>⟨[],.nil,by simp [Rx.memL]⟩
 | c::css,h=>by
  obtain⟨x,hx,hm⟩:=h c (DH ..);obtain⟨xs,hxs,hms⟩:=vh (fun d hd=>h d (DI _ hd));exact⟨x::xs,.cons hx hxs,by simp only [Rx.memL];exact⟨hm,hms⟩⟩
theorem Sl.slAny {w:World} {a:Option Addr} {sz n:Nat} {cs:List Value} (h:Sl w w.heap.size a sz n cs):SlS w Any a sz n cs :=
 (h.slS (Dv _)).mono fun _ _ _=>trivial
section
variable {H:Type} {enc:TypeId × Value→H} {w:World} {spare:Nat→Bool} {held:Bool}
theorem open_row {n:Nat} {c:List Value} {y:DataW H × List MemPlace} (hc:c.length=2) (hy:DataW.trod enc Tryz.prog w 0 spare held n 62 c=some y) :
  ∃r:Str × Str,c=[.string ⟨(r.1).toArray⟩,.string ⟨(r.2).toArray⟩]∧r.1.length≤maxLen∧r.2.length≤maxLen:=by
 obtain⟨ys,m,_,_,_,hl,hfs⟩:=DataW.trod_struct AM hy;match c,hc with
 | [c0,c1],_ =>
  rw [row_fs] at hfs hl;have hys:ys.length=2:=hl;have f0 := hfs 0 ({ name := "From", type := 9, offset := 0, embedded := false, tag := "", pkgPath := "", byteOffset := 0 }) rfl
  have f1 := hfs 1 ({ name := "To", type := 9, offset := 1, embedded := false, tag := "", pkgPath := "", byteOffset := 16 }) rfl
  simp only [oz] at f0 f1;rw [Dt fR] at f0 f1;obtain⟨s0,e0,_,h0⟩:=DataW.trod_string Tryz.underlying9 f0;obtain⟨s1,e1,_,h1⟩:=DataW.trod_string Tryz.underlying9 f1;simp only [List.drop,List.take] at e0 e1;injection e0 with e0;injection e1 with e1
  subst e0 e1;exact⟨⟨s0.data.toList,s1.data.toList⟩,by simp,by simpa using h0,by simpa using h1⟩
theorem rx_cells:∀(fuel:Nat) (c:List Value) (y:DataW H × List MemPlace),c.length=8→DataW.trod enc Tryz.prog w 0 spare held fuel 25 c=some y→∃x:Rx,RxV w Any c x∧x.mem:=by
 intro fuel;induction fuel using Nat.strongRecOn with
 | ind fuel ih =>
  intro c y hc hy;obtain⟨ys,m,hm,_,_,hl,hfs⟩:=DataW.trod_struct Ca hy;match c,hc with
  | [c0,c1,c2,c3,c4,c5,c6,c7],_ =>
   rw [rx_fs] at hfs hl;have hys:ys.length=8:=hl;have f0 := hfs 0 ({ name := "Kind", type := 3, offset := 0, embedded := false, tag := "", pkgPath := "", byteOffset := 0 }) rfl
   have f1 := hfs 1 ({ name := "Char", type := 9, offset := 1, embedded := false, tag := "", pkgPath := "", byteOffset := 8 }) rfl
   have f2 := hfs 2 ({ name := "Not", type := 4, offset := 2, embedded := false, tag := "", pkgPath := "", byteOffset := 24 }) rfl
   have f3 := hfs 3 ({ name := "Rows", type := 22, offset := 3, embedded := false, tag := "", pkgPath := "", byteOffset := 32 }) rfl
   have f4 := hfs 4 ({ name := "Min", type := 3, offset := 4, embedded := false, tag := "", pkgPath := "", byteOffset := 56 }) rfl
   have f5 := hfs 5 ({ name := "Max", type := 3, offset := 5, embedded := false, tag := "", pkgPath := "", byteOffset := 64 }) rfl
   have f6 := hfs 6 ({ name := "Lazy", type := 4, offset := 6, embedded := false, tag := "", pkgPath := "", byteOffset := 72 }) rfl
   have f7 := hfs 7 ({ name := "Kids", type := 23, offset := 7, embedded := false, tag := "", pkgPath := "", byteOffset := 80 }) rfl
   simp only [oz,wI,tD,AF,CJ] at f0 f1 f2 f3 f4 f5 f6 f7;rw [Dt fR] at f0 f1 f2 f3 f4 f5 f6 f7;obtain⟨n0,e0,_⟩:=DataW.trod_int Tryz.underlying3 f0;obtain⟨s1,e1,_,h1⟩:=DataW.trod_string Tryz.underlying9 f1;obtain⟨b2,e2,_⟩:=DataW.trod_bool Tryz.underlying4 f2;obtain⟨a3,cap3,rs,e3,h3,hr3,sl3⟩:=vE (fun r:Str × Str=>[.string ⟨(r.1).toArray⟩,.string ⟨(r.2).toArray⟩]) (fun r=>r.1.length≤maxLen∧r.2.length≤maxLen) Tryz.underlying22 (C:=2) CT fU f3 (fun n c y _ hc hy=>open_row hc hy);obtain⟨n4,e4,_⟩:=DataW.trod_int Tryz.underlying3 f4;obtain⟨n5,e5,_⟩:=DataW.trod_int Tryz.underlying3 f5;obtain⟨b6,e6,_⟩:=DataW.trod_bool Tryz.underlying4 f6;obtain⟨a7,len7,cap7,css,e7,h7,hcl,hq,sl7⟩:=rL Tryz.underlying23 (C:=8) yS fU f7 (fun c=>∃x:Rx,RxV w Any c x∧x.mem) (fun n c y hn hc hy=>ih n fR c y hc hy);obtain⟨ks,hks,hmL⟩:=vh (fun c hc=>(hq c hc).1);have hlk:len7=ks.length:=by rw [←hks.length,hcl]
   subst hlk;simp only [List.drop,List.take] at e0 e1 e2 e3 e4 e5 e6 e7;injection e0 with e0;injection e1 with e1;injection e2 with e2;injection e3 with e3;injection e4 with e4;injection e5 with e5;injection e6 with e6;injection e7 with e7
   subst e0 e1 e2 e3 e4 e5 e6 e7;refine⟨.mk n0 s1.data.toList b2 rs n4 n5 b6 ks,?_,?_⟩
   ·have hv:=RxV.mk (k:=n0) (c:=s1.data.toList) (ng:=b2) (rs:=rs) (lo:=n4) (hi:=n5) (lz:=b6) (ks:=ks) (rc:=cap3) (kc:=cap7) (ra:=a3) (ka:=a7) sl3.slAny sl7.slAny hks
    unfold rxc at hv;rw [←ba_of] at hv;exact hv
   ·simp only [Rx.mem,Rx.mem1]
    exact⟨⟨by simpa using h1,h3,hr3,h7⟩,hmL⟩
end
open Go.ChangeShapes Go.WideShapes Go.RowKit
def Tf.mem (f:Tf):Prop:=f.rx.mem∧f.fs.length≤maxLen∧∀g∈f.fs,g.thn.length≤maxLen∧g.els.length≤maxLen
namespace Sn
mutual
def mem:Sn→Prop
 | mk _ t _ _ _ f o ks=>t.length≤maxLen∧f.mem∧o.length≤maxLen∧(∀s∈o,s.length≤maxLen)∧ks.length≤maxLen∧memL ks
def memL:List Sn→Prop
 | []=>True
 | x::r=>mem x∧memL r
end
end Sn
theorem qJ:Tryz.prog.underlying 28=some (.struct (Tryz.prog.fieldsOf 28)):=by kernel_rfl
theorem form_fs : Tryz.prog.fieldsOf 28 = #[{ name := "Rx", type := 25, offset := 0, embedded := false, tag := "", pkgPath := "", byteOffset := 0 }, { name := "Fmts", type := 26, offset := 8, embedded := false, tag := "", pkgPath := "", byteOffset := 104 }, { name := "Fold", type := 4, offset := 9, embedded := false, tag := "", pkgPath := "", byteOffset := 128 }, { name := "All", type := 4, offset := 10, embedded := false, tag := "", pkgPath := "", byteOffset := 129 }] := by kernel_rfl
theorem AN:Tryz.prog.cellsOf 28=11:=by kernel_rfl
theorem zU:Tryz.prog.cellsOf 26=1:=by kernel_rfl
theorem C2:Tryz.prog.cellsOf 60=5:=by kernel_rfl
section
variable {H:Type} {enc:TypeId × Value→H} {w:World} {spare:Nat→Bool} {held:Bool}
theorem CS {n:Nat} {c:List Value} {y:DataW H × List MemPlace} (hc:c.length=5) (hy:DataW.trod enc Tryz.prog w 0 spare held n 60 c=some y):∃f:Fm,c=f.cells∧f.thn.length≤maxLen∧f.els.length≤maxLen:=by
 obtain⟨ys,m,_,_,_,hl,hfs⟩:=DataW.trod_struct Di hy;match c,hc with
 | [c0,c1,c2,c3,c4],_ =>
  have hF : Tryz.prog.fieldsOf 60 = #[{ name := "Kind", type := 3, offset := 0, embedded := false, tag := "", pkgPath := "", byteOffset := 0 }, { name := "N", type := 3, offset := 1, embedded := false, tag := "", pkgPath := "", byteOffset := 8 }, { name := "Case", type := 3, offset := 2, embedded := false, tag := "", pkgPath := "", byteOffset := 16 }, { name := "Then", type := 9, offset := 3, embedded := false, tag := "", pkgPath := "", byteOffset := 24 }, { name := "Else", type := 9, offset := 4, embedded := false, tag := "", pkgPath := "", byteOffset := 40 }] := by kernel_rfl
  rw [hF] at hfs hl;have f0 := hfs 0 ({ name := "Kind", type := 3, offset := 0, embedded := false, tag := "", pkgPath := "", byteOffset := 0 }) rfl
  have f1 := hfs 1 ({ name := "N", type := 3, offset := 1, embedded := false, tag := "", pkgPath := "", byteOffset := 8 }) rfl
  have f2 := hfs 2 ({ name := "Case", type := 3, offset := 2, embedded := false, tag := "", pkgPath := "", byteOffset := 16 }) rfl
  have f3 := hfs 3 ({ name := "Then", type := 9, offset := 3, embedded := false, tag := "", pkgPath := "", byteOffset := 24 }) rfl
  have f4 := hfs 4 ({ name := "Else", type := 9, offset := 4, embedded := false, tag := "", pkgPath := "", byteOffset := 40 }) rfl
  simp only [wI,oz,List.drop,List.take] at f0 f1 f2 f3 f4;have hys:ys.length=5:=hl;rw [Dt fR] at f0 f1 f2 f3 f4;obtain⟨n0,e0,_⟩:=DataW.trod_int Tryz.underlying3 f0;obtain⟨n1,e1,_⟩:=DataW.trod_int Tryz.underlying3 f1;obtain⟨n2,e2,_⟩:=DataW.trod_int Tryz.underlying3 f2;obtain⟨s3,e3,_,h3⟩:=DataW.trod_string Tryz.underlying9 f3;obtain⟨s4,e4,_,h4⟩:=DataW.trod_string Tryz.underlying9 f4;injection e0 with e0;injection e1 with e1;injection e2 with e2;injection e3 with e3;injection e4 with e4
  subst e0 e1 e2 e3 e4;exact⟨⟨n0,n1,n2,s3.data.toList,s4.data.toList⟩,by simp [Fm.cells],by simpa using h3,by simpa using h4⟩
theorem xY {n:Nat} {c:List Value} {y:DataW H × List MemPlace} (hc:c.length=11) (hy:DataW.trod enc Tryz.prog w 0 spare held n 28 c=some y):∃f:Tf,TfV w Any c f∧f.mem:=by
 obtain⟨ys,m,_,_,_,hl,hfs⟩:=DataW.trod_struct qJ hy;match c,hc with
 | [c0,c1,c2,c3,c4,c5,c6,c7,c8,c9,c10],_ =>
  rw [form_fs] at hfs hl;have hys:ys.length=4:=hl;have f0 := hfs 0 ({ name := "Rx", type := 25, offset := 0, embedded := false, tag := "", pkgPath := "", byteOffset := 0 }) rfl
  have f1 := hfs 1 ({ name := "Fmts", type := 26, offset := 8, embedded := false, tag := "", pkgPath := "", byteOffset := 104 }) rfl
  have f2 := hfs 2 ({ name := "Fold", type := 4, offset := 9, embedded := false, tag := "", pkgPath := "", byteOffset := 128 }) rfl
  have f3 := hfs 3 ({ name := "All", type := 4, offset := 10, embedded := false, tag := "", pkgPath := "", byteOffset := 129 }) rfl
  simp only [yS,zU,tD,List.drop,List.take] at f0 f1 f2 f3;rw [Dt fR] at f0 f1 f2 f3;obtain⟨x,hx,hm⟩:=rx_cells _ [c0,c1,c2,c3,c4,c5,c6,c7] _ rfl f0;obtain⟨a1,cap1,fs,e1,h1,hr1,sl1⟩:=vE Fm.cells (fun f=>f.thn.length≤maxLen∧f.els.length≤maxLen) Tryz.underlying26 (C:=5) C2 fU f1 (fun n c y _ hc hy=>CS hc hy);obtain⟨b2,e2,_⟩:=DataW.trod_bool Tryz.underlying4 f2;obtain⟨b3,e3,_⟩:=DataW.trod_bool Tryz.underlying4 f3;injection e1 with e1;injection e2 with e2;injection e3 with e3
  subst e1 e2 e3;exact⟨⟨x,fs,b2,b3⟩,⟨[c0,c1,c2,c3,c4,c5,c6,c7],a1,cap1,hx,sl1.slAny,rfl⟩,hm,h1,hr1⟩
end
structure Rc where
 cs:List Str
 fold:Bool
 offs:List Nat
structure Rst where
 ps:List (Int × Int)
 fuel:Nat
 out:Bool
 en:Int
abbrev Rk:=Nat→Rst→Bool × Rst
def sU (s:Str):Str:=s.map fun c=>if 65≤c.toNat∧c.toNat≤90 then c+32 else c
def zN (s:Str):Str:=s.map fun c=>if 97≤c.toNat∧c.toNat≤122 then c-32 else c
def inS' (rs:List (Str × Str)) (c:Str):Bool:=rs.any fun r=>leS r.1 c&&leS c r.2
def hasS (rs:List (Str × Str)) (ng fold:Bool) (c:Str):Bool:=(inS' rs c||fold&&(inS' rs (sU c)||inS' rs (zN c))) != ng
def mT (C:Rc) (k:Int) (c:Str) (ng:Bool) (rs:List (Str × Str)) (d:Str):Bool :=
 if k=2 then d==c||C.fold&&sU d==sU c else if k=3 then d != [10] else hasS rs ng C.fold d
def kY (C:Rc) (kind:Int) (k:Nat):Bool :=
 if kind=8 then decide (k=0) else if kind=9 then decide (k=C.cs.length)
 else((decide (0<k)&&nj (C.cs.getD (k-1) [])) != (decide (k<C.cs.length)&&nj (C.cs.getD k [])))==decide (kind=10)
def sy (ps:List (Int × Int)) (i:Nat) (v:Int × Int):List (Int × Int):=ps.set i v
def kP (ps:List (Int × Int)) (lo hi:Nat):List (Int × Int):=ps.take lo++List.replicate (hi-lo) (-1,-1)++ps.drop hi
def o8 (ps was:List (Int × Int)) (lo hi:Nat):List (Int × Int):=ps.take lo++(was.take hi).drop lo++ps.drop hi
def orE (a:Bool × Rst) (h:Rst→Bool × Rst):Bool × Rst:=if a.1=true then a else h a.2
def xw (was:List (Int × Int)) (lo hi:Nat) (t:Bool × Rst):Bool × Rst:=if t.1=true then t else(false,{ t.2 with ps:=o8 t.2.ps was lo hi })
def undoR (was:Int × Int) (g:Nat) (t:Bool × Rst):Bool × Rst:=if t.1=true then t else(false,{ t.2 with ps:=sy t.2.ps g was })
def lV (tk:Nat→Rk→Rst→Bool × Rst) (mn:Int) (mx:Int) (lz:Bool) (lo hi:Nat) (f:Rk):Nat→Nat→Nat→Rst→Bool × Rst
 | 0,_,_,st=>(false,st)
 | N+1,k,times,st =>
  orE (if mn≤(times:Int)∧lz=true then f k st else(false,st)) fun s1 =>
  orE (if mx<0∨(times:Int)<mx then xw s1.ps lo hi (tk k (fun e s2=>if k<e∨(times:Int)<mn then lV tk mn mx lz lo hi f N e (times+1) s2 else(false,s2)) { s1 with ps:=kP s1.ps lo hi }) else(false,s1)) fun s2 =>
  if mn≤(times:Int)∧lz=false∧s2.out=false then f k s2 else(false,s2)
def grpK (C:Rc) (g k:Nat) (f:Rk):Rk:=fun e s2=>undoR (s2.ps.getD g (-1,-1)) g (f e { s2 with ps:=sy s2.ps g ((C.offs.getD k 0:Int),(C.offs.getD e 0:Int)) })
def kE (st:Rst):Rst:={ st with fuel:=st.fuel-1 }
mutual
def tryM (C:Rc):Rx→Nat→Nat→Rk→Rst→Bool × Rst
 | .mk kd c ng rs lo hi lz ks,g,k,f,st =>
  if st.out=true then(false,st)
  else if kd=0 then seqM C ks g k f st
  else if kd=1 then altM C ks g k f st
  else if kd=7 then lV (fun k f st=>lE C ks g k f st) lo hi lz g (g+Rx.groupsL ks) f (C.cs.length-k+lo.toNat+1) k 0 st
  else if st.fuel=0 then(false,{ st with out:=true })
  else if kd=5 then lE C ks (g+1) k (grpK C g k f) (kE st)
  else if kd=6 then lE C ks g k f (kE st)
  else if kd=2∨kd=3∨kd=4 then(if k<C.cs.length∧mT C kd c ng rs (C.cs.getD k [])=true then f (k+1) (kE st) else(false,kE st))
  else if kY C kd k=true then f k (kE st) else(false,kE st)
def lE (C:Rc):List Rx→Nat→Nat→Rk→Rst→Bool × Rst
 | [],_,_,_,st=>(false,st)
 | x::_,g,k,f,st=>tryM C x g k f st
def seqM (C:Rc):List Rx→Nat→Nat→Rk→Rst→Bool × Rst
 | [],_,k,f,st=>f k st
 | x::r,g,k,f,st=>tryM C x g k (fun e s2=>seqM C r (g+x.groups) e f s2) st
def altM (C:Rc):List Rx→Nat→Nat→Rk→Rst→Bool × Rst
 | [],_,_,_,st=>(false,st)
 | x::r,g,k,f,st=>orE (tryM C x g k f st) fun s=>altM C r (g+x.groups) k f s
end
def oneM (C:Rc) (x:Rx) (k:Nat) (st:Rst):Option (Nat × List (Int × Int)) × Rst :=
 let r:=tryM C x 0 k (fun e s=>(true,{ s with en:=e })) { st with ps:=List.replicate x.groups (-1,-1),en:=-1 }
 if r.2.en<0∨r.2.out=true then(none,r.2) else(some (r.2.en.toNat,r.2.ps),r.2)
def od (C:Rc) (x:Rx):Nat→Nat→Rst→Option (Nat × Nat × List (Int × Int)) × Rst
 | 0,_,st=>(none,st)
 | N+1,k,st =>
  if k<C.offs.length∧st.out=false then
   (let r:=oneM C x k st
    match r.1 with
    | some (e,ps)=>(some (k,e,ps),r.2)
    | none=>od C x N (k+1) r.2)
  else(none,st)
def allM (C:Rc) (x:Rx):Nat→Nat→Rst→List (Nat × Nat × List (Int × Int)) × Rst
 | 0,_,st=>([],st)
 | N+1,k,st =>
  if k<C.offs.length then
   (let r:=od C x (C.offs.length+1) k st
    match r.1 with
    | some (a,b,ps)=>if r.2.out=true then([],r.2) else
     (let q:=allM C x N (if a=b then b+1 else b) r.2
     ((a,b,ps)::q.1,q.2))
    | none=>([],r.2))
  else([],st)
def mQ:List Str→Nat→List Nat
 | [],at_=>[at_]
 | c::r,at_=>at_::mQ r (at_+c.length)
def rcM (fold:Bool) (s:Str):Rc:=⟨jL s,fold,mQ (jL s) 0⟩
def Ah (z:Int):Nat:=(min (max z 0) 20000).toNat
def o4 (n:Nat) (z:Int):Rst:=⟨List.replicate n (-1,-1),Ah z,false,-1⟩
open Go.RowKit
structure Gx (X:Nat→Prop) (w w':World):Prop where
 os:w'.os=w.os
 tape:w'.tape=w.tape
 output:w'.output=w.output
 size:w.heap.size≤w'.heap.size
 block:∀k,k<w.heap.size→¬X k→w'.heap[k]?=w.heap[k]?
theorem Gx.refl (X:Nat→Prop) (w:World):Gx X w w:=⟨rfl,rfl,rfl,Dv _,fun _ _ _=>rfl⟩
theorem Gx.of_below {X:Nat→Prop} {w w':World} (h:Below w.heap.size w w'):Gx X w w':=⟨h.os,h.tape,h.output,h.size,fun k hk _=>h.block k hk⟩
theorem Gx.to {X Y:Nat→Prop} {a b c:World} (h:Gx X a b) (hk:Gx Y b c) (hY:∀k,k<a.heap.size→Y k→X k):Gx X a c :=
 ⟨hk.os.trans h.os,hk.tape.trans h.tape,hk.output.trans h.output,Dz h.size hk.size,fun k hlt hx=>(hk.block k (DA hlt h.size) (fun hy=>hx (hY k hlt hy))).trans (h.block k hlt hx)⟩
theorem Gx.of_grown {X:Nat→Prop} {w w':World} {row:Option Nat} (h:w.grownBy w' row) (hr:∀k,row=some k→X k):Gx X w w':=⟨h.os,h.tape,h.output,h.size,fun k hk hx=>h.block k hk (fun e=>hx (hr k e.symm))⟩
theorem Gx.set {X:Nat→Prop} (w:World) {a:Addr} (u:Value) (ha:X a.block):Gx X w (w.setCell a u):=⟨rfl,rfl,rfl,by simp [World.setCell],fun k _ hx=>heap_setCell_other w a k u (fun e=>hx (e▸ha))⟩
theorem Gx.sets {X:Nat→Prop} {b:Nat} (hb:X b):∀(vs:List Value) (o:Nat) (w:World),Gx X w (w.setCells b o vs)
 | [],_,w=>Gx.refl X w
 | v::r,o,w=>(Gx.set w (a:=⟨b,o,none⟩) v hb).to (Gx.sets hb r (o+1) _) (fun _ _ h=>h)
theorem Gx.kept {X S:Nat→Prop} {w w':World} (h:Gx X w w') (hS:∀b,S b→¬X b):Kept S w w':=⟨h.size,fun b hb hlt=>h.block b hlt (hS b hb)⟩
theorem Gx.below {X:Nat→Prop} {w w':World} {B:Nat} (h:Gx X w w') (hB:B≤w.heap.size) (hX:∀k,X k→B≤k):Below B w w':=⟨h.os,h.tape,h.output,h.size,fun k hk=>h.block k fR (fun hx=>by have:=hX k hx;omega)⟩
theorem Gx.heap {X:Nat→Prop} {w w':World} (h:Gx X w w') {b:Nat} {o:Obj} (hb:w.heap[b]?=some o) (hx:¬X b):w'.heap[b]?=some o:=(h.block b (jA hb) hx).trans hb
theorem pT {X:Nat→Prop} {w w':World} {B:Nat} {e:TypeId} {sz n:Nat} {v:Value} {xs:List Value} (h:w.ownsRow B e sz v n xs) (hg:Gx X w w') (hv:∀k,v.ownBlock=some k→¬X k):w'.ownsRow B e sz v n xs:=by
 refine⟨h.1,?_⟩;rcases h.2 with h5|⟨g',cap,cur,hv',hB,hg',r⟩
 ·exact .inl h5
 ·exact .inr ⟨g',cap,cur,hv',hB,(hg.block g' (jA hg') (hv g' (by rw [hv'];rfl))).trans hg',r⟩
theorem uI {B:Nat} {e:TypeId} {sz n g cap:Nat}:∀(vs old pre post:List Value) {w:World},w.ownsRow B e sz (.slice (some ⟨g,0,none⟩) n cap) n (pre++(old++post))→old.length=vs.length→(w.setCells g pre.length vs).ownsRow B e sz (.slice (some ⟨g,0,none⟩) n cap) n (pre++(vs++post))
 | [],old,pre,post,w,h,hl=>by
  have h0:old=[]:=Ds hl;subst h0;exact h
 | v::vs,[],pre,post,w,h,hl=>by simp at hl
 | v::vs,u::old,pre,post,w,h,hl=>by
  have h1:=(h.stored pre.length v).1;have e1:(pre++(u::old++post)).set pre.length v=(pre++[v])++(old++post):=by
   rw [List.set_append_right _ _ (Dv _)];simp
  rw [e1] at h1;have h2:=uI vs old (pre++[v]) post h1 jv;exact dD
theorem jM {w:World} {b:Nat} {v:Value} {t:TypeId} (h:w.heap[b]?=some (.cells #[v] t (0,0))):w.cell? ⟨b,0,none⟩=some v:=by
 exact dr
theorem kH {w:World} {b:Nat} {cs:List Value} {t:TypeId} {m:Nat × Nat} (h:w.heap[b]?=some (.cells cs.toArray t m)) (j:Nat) (u:Value) (hj:cs[j]?=some u):w.cell? ⟨b,0+j,none⟩=some u:=by
 rw [Nat.zero_add,DB h];simpa using hj
end Go.Proofs.YtjggmmaojklmpaaGreatDoor
