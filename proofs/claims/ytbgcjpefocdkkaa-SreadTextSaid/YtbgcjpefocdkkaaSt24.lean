/- A region that draws its order, with guards: by what is true of it all the while, whatever order the tape picks. -/
import Derived.Test.YtbgcjpefocdkkaaSt21
import Derived.StillTail
import Derived.Test.YtbgcjpefocdkkaaSt23
import Derived.Test.YtbgcjpefocdkkaaSt1
set_option maxRecDepth 100000
namespace Go.Proofs.Ytbgcjpefocdkkaa
open Go.RowKit
/-- Each operation waits for earlier ones alone. -/
def relyGB (ops : Array Oper) : Bool:=(List.range ops.size).all fun i => ((ops[i]?).map fun o => o.after.all fun e => !Region.binds .any e || decide (e.on < i)).getD true
theorem relyGB_at {ops : Array Oper} (h : relyGB ops=true) {i : Nat} {o : Oper} (ho : ops[i]?=some o) : ∀ e ∈ o.after,Region.binds .any e=true→e.on < i:=by
 have hi : i < ops.size:=(Array.getElem?_eq_some_iff.1 ho).1
 have h1:=List.all_eq_true.1 h i (List.mem_range.2 hi)
 rw [ho] at h1
 simp only [Option.map_some,Option.getD_some,Array.all_eq_true_iff_forall_mem] at h1
 intro e he hb
 have:=h1 e he
 rw [hb] at this
 simpa using this
theorem none_readyG {ops : Array Oper} (hB : relyGB ops=true) {listed : Array Bool} (h : Region.ready .any ops listed=[]) (hs : listed.size=ops.size) : ∀ i,i < ops.size→listed.getD i false=true:=by
 intro i
 induction i using Nat.strongRecOn with
 | ind i ih =>
  intro hi
  cases hl : listed.getD i false with
  | true => rfl
  | false =>
   exfalso
   obtain ⟨o,ho⟩ : ∃ o,ops[i]?=some o:=⟨_,Array.getElem?_eq_getElem hi⟩
   have hm : i ∈ Region.ready .any ops listed:=by
    rw [mem_ready]
    refine ⟨?_,o,ho,fun e he hb => ?_⟩
    ·have hls : i < listed.size:=by omega
     simp only [Array.getD_eq_getD_getElem?,Array.getElem?_eq_getElem hls,Option.getD_some] at hl ⊢
     exact hl
    ·have hlt:=relyGB_at hB ho e he hb
     exact ih e.on hlt (by omega)
   rw [h] at hm
   cases hm
theorem oper_to {P : Program} {o : Oper} {a : Act} {w : World} {K K2 : Act→World→Prop} {Q : Exit→Act→World→Prop} (h : o.wp P a w K Q) : o.wp P a w K (Exit.then K2 Q):=by
 unfold Oper.wp at *
 generalize (execOp a.eval o).run P w=r at *
 cases r with
 | ok n w' =>
  cases n <;> simp only [Oper.upon] at h ⊢ <;> first | exact h | exact h.mono (fun e w'' he => by cases e <;> exact he)
 | halt x w' => cases x <;> simp only [Oper.upon] at h ⊢ <;> exact h
theorem wpAny_relyG {P : Program} {ops : Array Oper} {Q : Exit→Act→World→Prop} (hB : relyGB ops=true) (I : (Nat→Bool)→Act→World→Prop)
  (hstep : ∀ (L : Nat→Bool) (i : Nat) (o : Oper) (a : Act) (w : World),ops[i]?=some o→L i=false→(∀ e ∈ o.after,Region.binds .any e=true→L e.on=true)→I L a w →
   wpList P ops (Exit.then (fun a' w' => I (fun j => L j || j == i) a' w') Q) [o] a w)
  (hend : ∀ (L : Nat→Bool) (a : Act) (w : World),(∀ i,i < ops.size→L i=true)→I L a w→Q .normal a w) :
  ∀ (fuel : Nat) (listed : Array Bool) (L : Nat→Bool) (a : Act) (w : World),listed.size=ops.size→open_ ops listed≤fuel→(∀ j,L j=listed.getD j false)→I L a w→wpAny P .any ops Q fuel listed a w:=by
 have fin : ∀ (listed : Array Bool) (L : Nat→Bool) (a : Act) (w : World),listed.size=ops.size→(∀ j,L j=listed.getD j false)→I L a w→Region.ready .any ops listed=[]→Q .normal a w :=
  fun listed L a w hs hL h hr => hend _ a w (fun i hi => by rw [hL];exact none_readyG hB hr hs i hi) h
 intro fuel
 induction fuel with
 | zero =>
  intro listed L a w hs hf hL h
  have hr : Region.ready .any ops listed=[]:=by
   apply List.eq_nil_iff_forall_not_mem.2
   intro i hi
   obtain ⟨h1,o,ho,_⟩:=mem_ready.1 hi
   have hlt:=(Array.getElem?_eq_some_iff.1 ho).1
   have:=open_dec hlt hs h1
   omega
  exact ⟨hr,fin listed L a w hs hL h hr⟩
 | succ fuel ih =>
  intro listed L a w hs hf hL h
  refine ⟨fin listed L a w hs hL h,fun i hi => ?_⟩
  obtain ⟨h1,o,ho,hall⟩:=mem_ready.1 hi
  have hlt:=(Array.getElem?_eq_some_iff.1 ho).1
  have hd:=open_dec hlt hs h1
  have hls : i < listed.size:=by omega
  have hLi : L i=false:=by
   rw [hL];simp only [Array.getD_eq_getD_getElem?,Array.getElem?_eq_getElem hls,Option.getD_some] at h1 ⊢;exact h1
  have hst:=hstep L i o a w ho hLi (fun e he hb => by rw [hL];exact hall e he hb) h
  have key : ∀ a' w',I (fun j => L j || j == i) a' w'→wpAny P .any ops Q fuel (listed.setIfInBounds i true) a' w':=fun a' w' h' =>
   ih _ (fun j => L j || j == i) a' w' (by simpa using hs) (by omega) (fun j => by
    by_cases hji : j=i
    ·subst hji
     simp [Array.getD_eq_getD_getElem?,hls]
    ·have e1 : (j == i)=false:=beq_eq_false_iff_ne.2 hji
     rw [e1,Bool.or_false,hL]
     simp only [Array.getD_eq_getD_getElem?];rw [Array.getElem?_setIfInBounds_ne (Ne.symm hji)]) h'
  unfold wpOp
  rw [ho]
  show if Region.wanted o (yielded ops a.tmps)=true then _ else _
  unfold wpList at hst
  by_cases hw : Region.wanted o (yielded ops a.tmps)=true
  ·rw [if_pos hw] at hst ⊢
   rcases hst with h2 | ⟨h2,h3⟩
   ·exact .inl (Oper.wp_mono key (oper_then h2))
   ·exact .inr ⟨h2,h3⟩
  ·rw [if_neg hw] at hst ⊢
   exact key _ _ hst
theorem wp_region_relyG {P : Program} {id : Nat} {ops : Array Oper} {Q : Exit→Act→World→Prop} {a : Act} {w : World} (hm : P.follows .mixedOrders=true) (hB : relyGB ops=true) (I : (Nat→Bool)→Act→World→Prop)
  (h0 : I (fun _ => false) a w.drew)
  (hstep : ∀ (L : Nat→Bool) (i : Nat) (o : Oper) (a : Act) (w : World),ops[i]?=some o→L i=false→(∀ e ∈ o.after,Region.binds .any e=true→L e.on=true)→I L a w →
   wpList P ops (Exit.then (fun a' w' => I (fun j => L j || j == i) a' w') Q) [o] a w)
  (hend : ∀ (L : Nat→Bool) (a : Act) (w : World),(∀ i,i < ops.size→L i=true)→I L a w→Q .normal a w) : (Code.region id ops true).wp P Q a w :=
 wp_region_any hm (wpAny_relyG hB I hstep hend ops.size (Array.replicate ops.size false) (fun _ => false) a w.drew (by simp) (by
  have:=List.length_filter_le (fun j => !(Array.replicate ops.size false).getD j true) (List.range ops.size)
  simpa [open_] using this) (fun j => by simp [Array.getD_eq_getD_getElem?,Array.getElem?_replicate];split <;> rfl) h0)
/-- Each of the first n operations waits for earlier ones alone; the others stand in one order behind them. -/
def relyTB (ops : Array Oper) (n : Nat) : Bool:=relyGB ops && decide (n < ops.size) && Region.sinkB .any ops n && Region.chainB .any ops n
def RelyStepsT (P : Program) (ops : Array Oper) (Q : Exit→Act→World→Prop) (I : (Nat→Bool)→Act→World→Prop) : List Oper→Nat→Prop
 | [],_ => True
 | o :: rest,i => (∀ (L : Nat→Bool) (a : Act) (w : World),L i=false→DepsOk o L→I L a w→wpList P ops (Exit.then (fun a' w' => I (fun j => L j || j == i) a' w') Q) [o] a w)∧RelyStepsT P ops Q I rest (i + 1)
theorem RelyStepsT.at_ {P : Program} {ops : Array Oper} {Q : Exit→Act→World→Prop} {I : (Nat→Bool)→Act→World→Prop} : ∀ {l : List Oper} {k i : Nat} {o : Oper},RelyStepsT P ops Q I l k→l[i]?=some o →
  ∀ (L : Nat→Bool) (a : Act) (w : World),L (k + i)=false→DepsOk o L→I L a w→wpList P ops (Exit.then (fun a' w' => I (fun j => L j || j == k + i) a' w') Q) [o] a w
 | [],_,_,_,_,h => by simp at h
 | x :: l,k,0,o,hs,h => by simp at h;subst h;exact hs.1
 | x :: l,k,i + 1,o,hs,h => by
  have:=RelyStepsT.at_ (k:=k + 1) (i:=i) hs.2 (by simpa using h)
  rw [show k + (i + 1)=k + 1 + i by omega];exact this
/-- What has come up, what it waits for has come up. -/
def Clo (ops : Array Oper) (L : Nat→Bool) : Prop:=∀ j o,ops[j]?=some o→L j=true→DepsOk o L
theorem Clo.add {ops : Array Oper} {L : Nat→Bool} (h : Clo ops L) {i : Nat} {o : Oper} (ho : ops[i]?=some o) (hd : DepsOk o L) : Clo ops (fun j => L j || j == i):=by
 intro j oj hj hL e he hb
 have key : DepsOk oj L:=by
  by_cases hji : j=i
  ·subst hji
   obtain rfl : oj=o:=by rw [hj] at ho;injection ho
   exact hd
  ·have e1 : (j == i)=false:=beq_eq_false_iff_ne.2 hji
   simp only [e1,Bool.or_false] at hL
   exact h j oj hj hL
 simp [key e he hb]
theorem Clo.sink {ops : Array Oper} {L : Nat→Bool} (h : Clo ops L) {n : Nat} {o : Oper} (hs : Region.sinkB .any ops n=true) (ho : ops[n]?=some o) (hd : DepsOk o L) : ∀ (d i : Nat),n - i=d→i < n→L i=true:=by
 intro d
 induction d using Nat.strongRecOn with
 | _ d ih =>
  intro i hdi hi
  have h1:=List.all_eq_true.1 hs i (List.mem_range.2 hi)
  obtain ⟨j,hj,hj2⟩:=List.any_eq_true.1 h1
  simp only [Bool.and_eq_true,decide_eq_true_eq] at hj2
  obtain ⟨oj,hoj,e,he,hb,hon⟩:=Region.waitsFor_spec hj2.2
  have hjle : j≤n:=by have:=List.mem_range.1 hj;omega
  rw [← hon]
  by_cases hjn : j=n
  ·subst hjn
   obtain rfl : oj=o:=by rw [hoj] at ho;injection ho
   exact hd e he hb
  ·exact h j oj hoj (ih (n - j) (by omega) j rfl (by omega)) e he hb
theorem chain_at {ops : Array Oper} {n t : Nat} {o : Oper} (hc : Region.chainB .any ops n=true) (ht : n < t) (ho : ops[t]?=some o) {L : Nat→Bool} (hd : DepsOk o L) : L (t - 1)=true:=by
 have htl:=(Array.getElem?_eq_some_iff.1 ho).1
 have h1:=List.all_eq_true.1 hc t (List.mem_range.2 htl)
 simp only [Bool.or_eq_true,decide_eq_true_eq] at h1
 rcases h1 with h1 | h1
 ·omega
 ·obtain ⟨o',ho',e,he,hb,hon⟩:=Region.waitsFor_spec h1
  obtain rfl : o'=o:=by rw [ho'] at ho;injection ho
  rw [← hon];exact hd e he hb
theorem wpList_part {P : Program} {ops : Array Oper} {Q : Exit→Act→World→Prop} {o : Oper} {rest : List Oper} {a : Act} {w : World} {K : Act→World→Prop} (h : wpList P ops Q (o :: rest) a w) (hK : ∀ a' w',wpList P ops Q rest a' w'→K a' w') :
  wpList P ops (Exit.then K Q) [o] a w:=by
 unfold wpList at h ⊢
 split
 ·rename_i hw
  rw [if_pos hw] at h
  rcases h with h | ⟨h1,h2⟩
  ·exact .inl (oper_to (Oper.wp_mono (K':=wpList P ops (Exit.then K Q) []) (fun a' w' h' => hK a' w' h') h))
  ·exact .inr ⟨h1,h2⟩
 ·rename_i hw
  rw [if_neg hw] at h
  exact hK _ _ h
/-- What is owed of the tail: those that have come up are behind us. -/
def TailI (P : Program) (ops : List Oper) (Q : Exit→Act→World→Prop) (n : Nat) (I : (Nat→Bool)→Act→World→Prop) (L : Nat→Bool) (a : Act) (w : World) : Prop :=
 Clo ops.toArray L∧((∀ t,n≤t→t < ops.length→L t=false)∧I L a w∨∃ t,n≤t∧t < ops.length∧L t=true∧(∀ j,t < j→j < ops.length→L j=false)∧wpList P ops.toArray Q (ops.drop (t + 1)) a w)
/-- **A region that draws its order**: the first n operations by what is true all the while, the others as they stand. -/
theorem wp_region_relyT {P : Program} {id : Nat} {ops : List Oper} {Q : Exit→Act→World→Prop} {a : Act} {w : World} (n : Nat) (hm : P.follows .mixedOrders=true) (hB : relyTB ops.toArray n=true) (I : Act→World→(Nat→Bool)→Act→World→Prop)
  (h0 : I a w (fun _ => false) a w.drew) (hs : RelyStepsT P ops.toArray Q (I a w) (ops.take n) 0)
  (hend : ∀ L a' w',(∀ j,j < n→L j=true)→I a w L a' w'→wpList P ops.toArray Q (ops.drop n) a' w') : (Code.region id ops.toArray true).wp P Q a w:=by
 simp only [relyTB,Bool.and_eq_true,decide_eq_true_eq] at hB
 obtain ⟨⟨⟨hB1,hn⟩,hsk⟩,hch⟩:=hB
 have hn' : n < ops.length:=by simpa using hn
 obtain ⟨on,hon⟩ : ∃ on,ops[n]?=some on:=⟨_,List.getElem?_eq_getElem hn'⟩
 refine wp_region_relyG hm hB1 (TailI P ops Q n (I a w)) ⟨fun j o hj h => (by cases h),.inl ⟨fun _ _ _ => rfl,h0⟩⟩ ?_ ?_
 ·intro L i o a' w' ho hLi hde hI
  have ho' : ops[i]?=some o:=by simpa using ho
  have hil:=(List.getElem?_eq_some_iff.1 ho').1
  obtain ⟨hclo,hI⟩:=hI
  have hclo':=hclo.add ho hde
  by_cases hin : i < n
  ·have hno : ∀ t,n≤t→t < ops.length→L t=false:=by
    rcases hI with ⟨h,_⟩ | ⟨t,ht,htl,hLt,_,_⟩
    ·exact h
    ·exfalso
     obtain ⟨ot,hot⟩ : ∃ ot,ops[t]?=some ot:=⟨_,List.getElem?_eq_getElem htl⟩
     have hdown : ∀ k,n + k≤t→L (t - k)=true:=by
      intro k
      induction k with
      | zero => intro _;exact hLt
      | succ k ih =>
       intro hk
       have h1:=ih (by omega)
       obtain ⟨ok,hok⟩ : ∃ ok,ops[t - k]?=some ok:=⟨_,List.getElem?_eq_getElem (by omega)⟩
       have h2:=chain_at hch (t:=t - k) (by omega) (by simpa using hok) (hclo _ ok (by simpa using hok) h1)
       rw [show t - (k + 1)=t - k - 1 by omega];exact h2
     have hLn : L n=true:=by have:=hdown (t - n) (by omega);rwa [show t - (t - n)=n by omega] at this
     have:=hclo.sink hsk (by simpa using hon) (hclo n on (by simpa using hon) hLn) (n - i) i rfl hin
     rw [this] at hLi;cases hLi
   have hIo : I a w L a' w':=by
    rcases hI with ⟨_,h⟩ | ⟨t,ht,htl,hLt,_,_⟩
    ·exact h
    ·rw [hno t ht htl] at hLt;cases hLt
   have hst:=hs.at_ (i:=i) (o:=o) (by rw [List.getElem?_take_of_lt hin];exact ho') L a' w' (by simpa using hLi) hde hIo
   simp only [Nat.zero_add] at hst
   have key : ∀ a2 w2,I a w (fun j => L j || j == i) a2 w2→TailI P ops Q n (I a w) (fun j => L j || j == i) a2 w2:=fun a2 w2 h => ⟨hclo',.inl ⟨fun t ht htl => by
    have e1 : (t == i)=false:=beq_eq_false_iff_ne.2 (by omega)
    simp [hno t ht htl,e1],h⟩⟩
   unfold wpList at hst ⊢
   split
   ·rename_i hw
    rw [if_pos hw] at hst
    refine hst.imp (fun h => ?_) (fun h => h)
    exact oper_then' (Oper.wp_mono (K':=wpList P ops.toArray _ []) (fun a2 w2 h2 => key a2 w2 h2) h)
   ·rename_i hw
    rw [if_neg hw] at hst
    exact key _ _ hst
  ·have hni : n≤i:=Nat.le_of_not_lt hin
   have hrest : wpList P ops.toArray Q (ops.drop i) a' w':=by
    by_cases he : i=n
    ·subst he
     rcases hI with ⟨hno,hI⟩ | ⟨t,ht,htl,hLt,hgt,_⟩
     ·exact hend L a' w' (fun j hj => hclo.sink hsk ho hde (i - j) j rfl hj) hI
     ·exfalso
      by_cases hte : t=i
      ·subst hte;rw [hLt] at hLi;cases hLi
      ·obtain ⟨ot,hot⟩ : ∃ ot,ops[t]?=some ot:=⟨_,List.getElem?_eq_getElem htl⟩
       have hdown : ∀ k,i + k≤t→L (t - k)=true:=by
        intro k
        induction k with
        | zero => intro _;exact hLt
        | succ k ih =>
         intro hk
         have h1:=ih (by omega)
         obtain ⟨ok,hok⟩ : ∃ ok,ops[t - k]?=some ok:=⟨_,List.getElem?_eq_getElem (by omega)⟩
         have h2:=chain_at hch (t:=t - k) (by omega) (by simpa using hok) (hclo _ ok (by simpa using hok) h1)
         rw [show t - (k + 1)=t - k - 1 by omega];exact h2
       have:=hdown (t - i) (by omega)
       rw [show t - (t - i)=i by omega,hLi] at this;cases this
    ·have hp:=chain_at hch (t:=i) (by omega) ho hde
     rcases hI with ⟨hno,_⟩ | ⟨t,ht,htl,hLt,hgt,hw⟩
     ·rw [hno (i - 1) (by omega) (by omega)] at hp;cases hp
     ·have hti : t=i - 1:=by
       rcases Nat.lt_trichotomy t (i - 1) with h | h | h
       ·rw [hgt (i - 1) h (by omega)] at hp;cases hp
       ·exact h
       ·exfalso
        by_cases hte : t=i
        ·subst hte;rw [hLt] at hLi;cases hLi
        ·have hdown : ∀ k,i + k≤t→L (t - k)=true:=by
          intro k
          induction k with
          | zero => intro _;exact hLt
          | succ k ih =>
           intro hk
           have h1:=ih (by omega)
           obtain ⟨ok,hok⟩ : ∃ ok,ops[t - k]?=some ok:=⟨_,List.getElem?_eq_getElem (by omega)⟩
           have h2:=chain_at hch (t:=t - k) (by omega) (by simpa using hok) (hclo _ ok (by simpa using hok) h1)
           rw [show t - (k + 1)=t - k - 1 by omega];exact h2
         have:=hdown (t - i) (by omega)
         rw [show t - (t - i)=i by omega,hLi] at this;cases this
      subst hti
      rwa [show i - 1 + 1=i by omega] at hw
   have hcons : ops.drop i=o :: ops.drop (i + 1):=by
    rw [List.drop_eq_getElem_cons hil]
    have:=(List.getElem?_eq_some_iff.1 ho').2
    rw [this]
   rw [hcons] at hrest
   refine wpList_part hrest fun a2 w2 h2 => ⟨hclo',.inr ⟨i,hni,hil,by simp,fun j hj hjl => ?_,h2⟩⟩
   have e1 : (j == i)=false:=beq_eq_false_iff_ne.2 (by omega)
   cases hLj : L j with
   | false => simp [hLj,e1]
   | true =>
    exfalso
    have hdown : ∀ k,i + k≤j→L (j - k)=true:=by
     intro k
     induction k with
     | zero => intro _;exact hLj
     | succ k ih =>
      intro hk
      have h1:=ih (by omega)
      obtain ⟨ok,hok⟩ : ∃ ok,ops[j - k]?=some ok:=⟨_,List.getElem?_eq_getElem (by omega)⟩
      have h2:=chain_at hch (t:=j - k) (by omega) (by simpa using hok) (hclo _ ok (by simpa using hok) h1)
      rw [show j - (k + 1)=j - k - 1 by omega];exact h2
    have:=hdown (j - i) (by omega)
    rw [show j - (j - i)=i by omega,hLi] at this;cases this
 ·intro L a' w' hL hI
  obtain ⟨_,hI⟩:=hI
  rcases hI with ⟨hno,_⟩ | ⟨t,ht,htl,hLt,hgt,hw⟩
  ·have h1:=hno n (Nat.le_refl _) hn'
   rw [hL n hn] at h1;cases h1
  ·have hte : t + 1=ops.length:=by
    rcases Nat.lt_or_ge (t + 1) ops.length with h | h
    ·have h1:=hgt (t + 1) (by omega) h
     rw [hL (t + 1) (by simpa using h)] at h1;cases h1
    ·omega
   rw [List.drop_eq_nil_of_le (by omega)] at hw
   exact hw
end Go.Proofs.Ytbgcjpefocdkkaa
/- walk of sread: braced -/
set_option maxRecDepth 100000
namespace Go.Proofs.Ytbgcjpefocdkkaa
open Go.RowKit Go.Maps Go.MapKept
open Go.ChangeMaps (setBlock)
/-- What parts answers. -/
def PartsPost (S : Nat→Prop) (g m : Nat) (s : Str) (ins : Bool) (RX : List Sn × Str) (w : World) (e : Ending) (w' : World) : Prop:=Gr2 g m w w' ∧
 ∃ (S' : Nat→Prop) (j : Nat) (a : Option Addr) (c : Nat),e=.returned (.tuple #[.slice a RX.1.length c,.bool (!ins || !RX.2.isEmpty)])∧Rs S' w' g m s j∧(∀ b,S b→S' b)∧(∀ b,S' b→S b∨w.heap.size≤b) ∧
  SnSl w' S' a RX.1.length RX.1∧s.drop j=RX.2
def PartsC (g m : Nat) (s : Str) (N : Nat) : Prop:=∀ (S : Nat→Prop) (w : World) (ins : Bool) (i : Nat),Rs S w g m s i→s.length - i≤N →
 Calls Try.prog 19 #[.pointer (some ⟨g,0,none⟩),.bool ins] w fun e w' => PartsPost S g m s ins (partsS ins [] [] (s.drop i)) w e w'
theorem partsS_head : ∀ (n : Nat) (out : List Sn) (text r : Str),r.length≤n→∀ c t,(partsS true out text r).2=c :: t→c.toNat=125
 | n,out,text,[],_,c,t,h => by rw [partsS_nil] at h;cases h
 | 0,out,text,d :: r,hn,_,_,_ => by simp at hn
 | n + 1,out,text,d :: r,hn,c,t,h => by
  rw [partsS_cons] at h
  split at h
  ·rename_i hc
   simp only at h
   injection h with h _;rw [← h];exact hc.2
  ·cases he : dolM partS d r with
   | some y =>
    obtain ⟨x,r2⟩:=y
    rw [he] at h
    have hr : r2.length < r.length:=by
     unfold dolM at he
     split at he
     ·exact partS_len he
     ·cases he
    exact partsS_head n _ _ r2 (by simp at hn;omega) c t h
   | none =>
    rw [he] at h
    have hr:=nxtM_len three d r
    exact partsS_head n _ _ _ (by simp at hn;omega) c t h
theorem hx_v {w : World} {S : Nat→Prop} {k : Int} {t : Str} {n : Int} {h u : Bool} {os : List Str} {ks : List Sn} {oa ka : Option Addr} {oc kc : Nat} (h1 : SlS w S oa 1 os.length (scells os)) (h2 : SnSl w S ka ks.length ks) :
  SnV w S [.int .i64 k,.string ⟨(t).toArray⟩,.int .i64 n,.bool h,.bool u,.int .i64 0,.string ⟨#[]⟩,.bool false,.slice none 0 0,.int .i64 0,.int .i64 0,.bool false,.slice none 0 0,.slice none 0 0,.bool false,.bool false,.slice oa os.length oc,.slice ka ks.length kc] (.mk k t n h u tf0 os ks):=SnV.close (TfV.zero w S) h1 h2
theorem optsM_eq (x : Sn) (r : Str) : optsM x r=if List.isPrefixOf [124,125] (optL r [] []).2=true then some (x.choose (optL r [] []).1,(optL r [] []).2.drop 2) else none:=by
 unfold optsM
 generalize optL r [] []=q
 obtain ⟨o,t⟩:=q
 rcases t with _ | ⟨c,_ | ⟨d,r2⟩⟩
 ·rfl
 ·simp [List.isPrefixOf]
 ·simp only [List.isPrefixOf,Bool.and_true,Bool.and_eq_true,beq_iff_eq]
  by_cases h : c.toNat=124∧d.toNat=125
  ·rw [if_pos h,if_pos ⟨(UInt8.toNat_inj.1 h.1).symm,(UInt8.toNat_inj.1 h.2).symm⟩];rfl
  ·rw [if_neg h,if_neg (fun e => h ⟨by rw [← e.1];rfl,by rw [← e.2];rfl⟩)]
/-- Cells written one behind the other. -/
def setsL (b : Nat) : Nat→List Value→World→World
 | _,[],w => w
 | o,v :: r,w => setsL b (o + 1) r (w.setCell ⟨b,o,none⟩ v)
theorem setsL_mid {b : Nat} {t : TypeId} {post : List Value} : ∀ (vs old pre : List Value) {w : World},w.heap[b]?=some (.cells (pre ++ (old ++ post)).toArray t (0,0))→old.length=vs.length→(setsL b pre.length vs w).heap[b]?=some (.cells (pre ++ (vs ++ post)).toArray t (0,0))
 | [],[],_,_,h,_ => h
 | [],_ :: _,_,_,_,hl => by cases hl
 | _ :: _,[],_,_,_,hl => by cases hl
 | v :: r,u :: q,pre,w,h,hl => by
  have h1:=heap_setCell_same w b pre.length _ t v h
  have h2:=setsL_mid (t:=t) (post:=post) r q (pre ++ [v]) (w:=w.setCell ⟨b,pre.length,none⟩ v) (by rw [h1];simp) (by simpa using hl)
  simp only [List.length_append,List.length_cons,List.length_nil,Nat.zero_add] at h2
  simp only [setsL]
  rw [h2]
  simp
theorem setsL_other {b k : Nat} (h : k≠b) : ∀ (vs : List Value) (o : Nat) (w : World),(setsL b o vs w).heap[k]?=w.heap[k]?
 | [],_,_ => rfl
 | v :: r,o,w => (setsL_other h r (o + 1) (w.setCell ⟨b,o,none⟩ v)).trans (heap_setCell_other w ⟨b,o,none⟩ k v h)
theorem setsL_size {b : Nat} : ∀ (vs : List Value) (o : Nat) (w : World),(setsL b o vs w).heap.size=w.heap.size
 | [],_,_ => rfl
 | _ :: r,o,_ => (setsL_size r (o + 1) _).trans (by simp [World.setCell])
theorem setsL_rest {b : Nat} : ∀ (vs : List Value) (o : Nat) (w : World),(setsL b o vs w).os=w.os∧(setsL b o vs w).tape=w.tape∧(setsL b o vs w).output=w.output
 | [],_,_ => ⟨rfl,rfl,rfl⟩
 | _ :: r,o,_ => setsL_rest r (o + 1) _
theorem Rs.setsL {S : Nat→Prop} {w : World} {g m : Nat} {s : Str} {i : Nat} (h : Rs S w g m s i) {b : Nat} (hb : ¬ S b∧b≠g∧b≠m) (vs : List Value) (o : Nat) : Rs S (setsL b o vs w) g m s i :=
 h.moved ⟨(setsL_other (Ne.symm hb.2.1) vs o w).trans h.pl.1,h.pl.2⟩ (by rw [setsL_size];exact Nat.le_refl _) fun k hk _ => setsL_other (by
  rcases hk with hk | hk
  ·rintro rfl;exact hb.1 hk
  ·rintro rfl;exact hb.2.2 hk) vs o w
theorem Gr2.setsL {g m : Nat} {w0 w : World} (h : Gr2 g m w0 w) {b : Nat} (hb : w0.heap.size≤b) (vs : List Value) (o : Nat) : Gr2 g m w0 (setsL b o vs w) :=
 ⟨(setsL_rest vs o w).1.trans h.os,(setsL_rest vs o w).2.1.trans h.tape,(setsL_rest vs o w).2.2.trans h.output,by rw [setsL_size];exact h.size,fun k hk h1 h2 => (setsL_other (by omega) vs o w).trans (h.block k hk h1 h2)⟩
theorem Rs.twice {S : Nat→Prop} {w : World} {g m : Nat} {s : Str} {i e : Nat} (h : Rs S w g m s i) (he : e + 1≤s.length) : Rs S ((w.setCell ⟨g,1,none⟩ (.int .i64 (e : Int))).setCell ⟨g,1,none⟩ (.int .i64 ((e : Int) + 1))) g m s (e + 1):=by
 have h1:=h.place (h.pl.set (j:=e) (by omega)) (grown_set (grown_refl _ _) 1 _)
 have h2:=h1.place (h1.pl.set (j:=e + 1) he) (grown_set (grown_refl _ _) 1 _)
 push_cast at h2;exact h2
theorem Gr2.twice {g m : Nat} {w0 w : World} (h : Gr2 g m w0 w) (u v : Value) : Gr2 g m w0 ((w.setCell ⟨g,1,none⟩ u).setCell ⟨g,1,none⟩ v) :=
 h.trans ((Gr2.grown (grown_set (grown_refl _ _) 1 _)).trans (Gr2.grown (grown_set (grown_refl _ _) 1 _)))
theorem twice_other {w : World} {g k : Nat} (u v : Value) (h : k≠g) : ((w.setCell ⟨g,1,none⟩ u).setCell ⟨g,1,none⟩ v).heap[k]?=w.heap[k]? :=
 (heap_setCell_other _ ⟨g,1,none⟩ k v h).trans (heap_setCell_other _ ⟨g,1,none⟩ k u h)
def FormM5 (s : Str) (R : Option (Tf × Str)) (f : Tf) (ej : Nat) (ok : Bool) : Prop :=
 match R with
 | none => ok=false
 | some (f0,r) => ok=true∧f=f0∧s.drop (ej + 1)=r
theorem form_cells {s : Str} {i B : Nat} {w : World} {R : Option (Tf × Str)} {e : Ending} {w' : World} (hs1 : 1≤s.length) (h : FormPost s i B w R e w') :
  ∃ (rk : Int) (rch : Str) (rng : Bool) (ra : Option Addr) (rn rcp : Nat) (rlo rhi : Int) (rlz : Bool) (rka : Option Addr) (kn rkc : Nat) (fa : Option Addr) (fn fcp : Nat) (fd al : Bool) (f : Tf) (ej : Nat) (ok : Bool),
   e=.returned (.tuple #[.agg #[.int .i64 rk,.string ⟨(rch).toArray⟩,.bool rng,.slice ra rn rcp,.int .i64 rlo,.int .i64 rhi,.bool rlz,.slice rka kn rkc,.slice fa fn fcp,.bool fd,.bool al],.int .i64 ej,.bool ok])∧Below w.heap.size w w'∧TfV w' (fun b => B≤b) [.int .i64 rk,.string ⟨(rch).toArray⟩,.bool rng,.slice ra rn rcp,.int .i64 rlo,.int .i64 rhi,.bool rlz,.slice rka kn rkc,.slice fa fn fcp,.bool fd,.bool al] f∧ej + 1≤s.length∧FormM5 s R f ej ok:=by
 obtain ⟨hb,h⟩:=h
 cases R with
 | none =>
  refine ⟨0,[],false,none,0,0,0,0,false,none,0,0,none,0,0,false,false,tf0,0,false,?_,hb,TfV.zero _ _,hs1,rfl⟩
  rw [h];rfl
 | some p =>
  obtain ⟨f0,r⟩:=p
  obtain ⟨fc,j,he,hv,_,hj,hd⟩:=h
  obtain ⟨rk,rch,rng,rrs,rlo,rhi,rlz,rks,ra,rcp,rka,rkc,fa,fcp,hc⟩:=hv.open_
  refine ⟨rk,rch,rng,ra,_,rcp,rlo,rhi,rlz,rka,_,rkc,fa,_,fcp,_,_,f0,j,true,?_,hb,hc.eq ▸ hv,hj,rfl,rfl,hd⟩
  rw [he,hc.eq]
theorem n11_eq (w : World) (b : Nat) (v0 v1 v2 v3 v4 v5 v6 v7 v8 v9 va : Value) : (((((((((((w.setCell ⟨b,5,none⟩ v0).setCell ⟨b,6,none⟩ v1).setCell ⟨b,7,none⟩ v2).setCell ⟨b,8,none⟩ v3).setCell ⟨b,9,none⟩ v4).setCell ⟨b,10,none⟩ v5).setCell ⟨b,11,none⟩ v6).setCell ⟨b,12,none⟩ v7).setCell ⟨b,13,none⟩ v8).setCell ⟨b,14,none⟩ v9).setCell ⟨b,15,none⟩ va)=setsL b 5 [v0,v1,v2,v3,v4,v5,v6,v7,v8,v9,va] w:=by
 simp only [setsL]
end Go.Proofs.Ytbgcjpefocdkkaa
/- A region that draws its order and makes new memory alone, by what each operation has yielded. -/
set_option maxRecDepth 100000
namespace Go.Proofs.Ytbgcjpefocdkkaa
open Go.RowKit
/-- It has yielded just this. -/
def eqP (c : Value) : Value→World→Prop:=fun v _ => v=c
def FsAt (Fs : List (Value→World→Prop)) (j : Nat) : Value→World→Prop:=Fs.getD j (fun _ _ => True)
/-- What is true of a value stays true where memory is added. -/
def MonoF (Fs : List (Value→World→Prop)) : Prop:=∀ P ∈ Fs,∀ v w w',Below w.heap.size w w'→P v w→P v w'
theorem MonoF.nil : MonoF []:=fun _ h => by cases h
theorem MonoF.eq {Fs : List (Value→World→Prop)} {c : Value} (h : MonoF Fs) : MonoF (eqP c :: Fs):=fun P hP v w w' hb hv => by
 rcases List.mem_cons.1 hP with rfl | hP
 ·exact hv
 ·exact h P hP v w w' hb hv
theorem MonoF.cons {Fs : List (Value→World→Prop)} {P0 : Value→World→Prop} (h0 : ∀ v w w',Below w.heap.size w w'→P0 v w→P0 v w') (h : MonoF Fs) : MonoF (P0 :: Fs):=fun P hP v w w' hb hv => by
 rcases List.mem_cons.1 hP with rfl | hP
 ·exact h0 v w w' hb hv
 ·exact h P hP v w w' hb hv
theorem MonoF.at_ {Fs : List (Value→World→Prop)} (h : MonoF Fs) (j : Nat) {v : Value} {w w' : World} (hb : Below w.heap.size w w') (hv : FsAt Fs j v w) : FsAt Fs j v w':=by
 unfold FsAt at *
 rw [List.getD_eq_getElem?_getD] at *
 cases hj : Fs[j]? with
 | none => trivial
 | some P => rw [hj] at hv;exact h P (List.mem_of_getElem? hj) v w w' hb hv
structure BelI (W0 : World) (Fs : List (Value→World→Prop)) (V : Nat→Value) (L : Nat→Bool) (w' : World) : Prop where
 ext : Below W0.heap.size W0 w'
 at_ : ∀ j,L j=true→FsAt Fs j (V j) w'
theorem BelI.start (W0 : World) (Fs : List (Value→World→Prop)) (V : Nat→Value) : BelI W0 Fs V (fun _ => false) W0.drew:=⟨(Below.refl _ _).drew,fun _ h => by cases h⟩
theorem BelI.step {W0 : World} {Fs : List (Value→World→Prop)} (hM : MonoF Fs) {V : Nat→Value} {L : Nat→Bool} {w' w2 : World} (h : BelI W0 Fs V L w') (k : Nat) {v : Value} (hb : Below w'.heap.size w' w2) (hv : FsAt Fs k v w2) :
  BelI W0 Fs (upd V k v) (fun j => L j || j == k) w2 :=
 ⟨h.ext.trans (hb.mono h.ext.size),fun j hj => by
  unfold upd
  by_cases e : j=k
  ·subst e;rw [if_pos rfl];exact hv
  ·rw [if_neg e]
   have e1 : (j == k)=false:=beq_eq_false_iff_ne.2 e
   simp only [e1,Bool.or_false] at hj
   exact hM.at_ j hb (h.at_ j hj)⟩
theorem BelI.same {W0 : World} {Fs : List (Value→World→Prop)} (hM : MonoF Fs) {V : Nat→Value} {L : Nat→Bool} {w' : World} (h : BelI W0 Fs V L w') (k : Nat) {v : Value} (hv : FsAt Fs k v w') :
  BelI W0 Fs (upd V k v) (fun j => L j || j == k) w':=h.step hM k (Below.refl _ _) hv
end Go.Proofs.Ytbgcjpefocdkkaa
/- Steps of a region that draws its order, on a frame that is not laid open. -/
set_option maxRecDepth 100000
namespace Go.Proofs.Ytbgcjpefocdkkaa
open Go.RowKit
theorem puts_cons (d : Nat) (ds : List Nat) (k : Nat) (V : Nat→Value) (a : Act) : putsL (d :: ds) k V a=putsL ds (k + 1) V (a.put (some d) (V k)):=rfl
theorem puts_size : ∀ (ds : List Nat) (k : Nat) (V : Nat→Value) (a : Act),(putsL ds k V a).tmps.size=a.tmps.size
 | [],_,_,_ => rfl
 | d :: ds,k,V,a => (puts_size ds (k + 1) V _).trans (by simp [Act.put])
theorem puts_out : ∀ (ds : List Nat) (k : Nat) (V : Nat→Value) (a : Act) (t : Nat),t ∉ ds→(putsL ds k V a).tmps[t]?=a.tmps[t]?
 | [],_,_,_,_,_ => rfl
 | d :: ds,k,V,a,t,h => by
  rw [puts_cons,puts_out ds (k + 1) V _ t (fun e => h (List.mem_cons_of_mem _ e))]
  simp only [Act.put]
  rw [Array.getElem?_setIfInBounds_ne (fun e => h (by simp [e]))]
theorem puts_in : ∀ (ds : List Nat) (k : Nat) (V : Nat→Value) (a : Act) (i t : Nat),ds.Nodup→ds[i]?=some t→t < a.tmps.size→(putsL ds k V a).tmps[t]?=some (V (k + i))
 | [],_,_,_,i,t,_,h,_ => by simp at h
 | d :: ds,k,V,a,0,t,hn,h,hs => by
  simp at h;subst h
  rw [puts_cons,puts_out ds (k + 1) V _ _ (List.nodup_cons.1 hn).1]
  simp [Act.put,hs]
 | d :: ds,k,V,a,i + 1,t,hn,h,hs => by
  rw [puts_cons,puts_in ds (k + 1) V _ i t (List.nodup_cons.1 hn).2 (by simpa using h) (by simpa [Act.put] using hs)]
  rw [show k + 1 + i=k + (i + 1) by omega]
theorem puts_defers : ∀ (ds : List Nat) (k : Nat) (V : Nat→Value) (a : Act),(putsL ds k V a).defers=a.defers
 | [],_,_,_ => rfl
 | _ :: ds,k,V,_ => (puts_defers ds (k + 1) V _).trans rfl
theorem puts_put (ds : List Nat) (V : Nat→Value) (a : Act) (i t : Nat) (v : Value) (hn : ds.Nodup) (h : ds[i]?=some t) (hb : ∀ d ∈ ds,d < a.tmps.size) : (putsL ds 0 V a).put (some t) v=putsL ds 0 (upd V i v) a:=by
 have e : ((putsL ds 0 V a).put (some t) v).tmps=(putsL ds 0 (upd V i v) a).tmps:=by
  apply Array.ext_getElem?
  intro j
  simp only [Act.put]
  have ht:=hb t (List.mem_of_getElem? h)
  by_cases hjt : t=j
  ·subst hjt
   rw [Array.getElem?_setIfInBounds_self_of_lt (by rw [puts_size];exact ht),puts_in ds 0 _ a i t hn h ht]
   simp [upd]
  ·rw [Array.getElem?_setIfInBounds_ne hjt]
   by_cases hj : j ∈ ds
   ·obtain ⟨m,hm⟩:=List.getElem?_of_mem hj
    rw [puts_in ds 0 _ a m j hn hm (hb j hj),puts_in ds 0 _ a m j hn hm (hb j hj)]
    have : m≠i:=fun e => by subst e;rw [hm] at h;injection h with h;exact hjt h.symm
    simp [upd,this]
   ·rw [puts_out ds 0 _ a j hj,puts_out ds 0 _ a j hj]
 have key : ∀ x y : Act,x.tmps=y.tmps→x.defers=y.defers→x=y:=fun x y h h' => by cases x;cases y;simp only at h h';subst h;subst h';rfl
 refine key _ _ e ?_
 show (putsL ds 0 V a).defers=_
 rw [puts_defers,puts_defers]
/-- The frame, the slots that the region writes aside. -/
structure Fm2 (ds : List Nat) (V : Nat→Value) (A0 a : Act) : Prop where
 eq : a=putsL ds 0 V A0
theorem Fm2.ins {ds : List Nat} {V : Nat→Value} {A0 a : Act} (h : Fm2 ds V A0 a) (hn : ds.Nodup) (hb : ∀ d ∈ ds,d < A0.tmps.size) (i : Nat) {t : Nat} (hi : ds[i]?=some t) : a.tmps[t]?=some (V i):=by
 rw [h.eq,puts_in ds 0 V A0 i t hn hi (hb t (List.mem_of_getElem? hi))];simp
theorem Fm2.out {ds : List Nat} {V : Nat→Value} {A0 a : Act} (h : Fm2 ds V A0 a) {t : Nat} (ht : t ∉ ds) : a.tmps[t]?=A0.tmps[t]?:=by
 rw [h.eq,puts_out ds 0 V A0 t ht]
theorem Fm2.put {ds : List Nat} {V : Nat→Value} {A0 a : Act} (h : Fm2 ds V A0 a) (hn : ds.Nodup) (hb : ∀ d ∈ ds,d < A0.tmps.size) (i : Nat) {t : Nat} (hi : ds[i]?=some t) (v : Value) : Fm2 ds (upd V i v) A0 (a.put (some t) v):=⟨by rw [h.eq,puts_put ds V A0 i t v hn hi hb]⟩
theorem Fm2.skip {ds : List Nat} {V : Nat→Value} {A0 a : Act} (h : Fm2 ds V A0 a) (v : Value) : Fm2 ds V A0 (a.put none v):=h
theorem ev_of {a : Act} {t : Nat} {v : Value} (h : a.tmps[t]?=some v) : a.eval (.tmp t)=v:=by
 simp [Act.eval,Array.getD_eq_getD_getElem?,h]
theorem wanted_none {o : Oper} {y : Nat→Option Bool} (h : o.guard=none) : Region.wanted o y=true:=by simp [Region.wanted,h]
theorem yl_of {ops : Array Oper} {a : Act} {g d : Nat} {b : Bool} (h1 : (ops[g]?).bind (·.dst)=some d) (h2 : a.tmps[d]?=some (.bool b)) : yielded ops a.tmps g=some b:=by
 unfold yielded;rw [h1];simp [h2]
theorem wanted_yes {ops : Array Oper} {a : Act} {o : Oper} {g : Nat} {b : Bool} (h : o.guard=some (g,b)) (h2 : yielded ops a.tmps g=some b) : Region.wanted o (yielded ops a.tmps)=true:=by simp [Region.wanted,h,h2]
theorem wanted_not {ops : Array Oper} {a : Act} {o : Oper} {g : Nat} {b c : Bool} (h : o.guard=some (g,b)) (h2 : yielded ops a.tmps g=some c) (hbc : c≠b) : Region.wanted o (yielded ops a.tmps)=false:=by simp [Region.wanted,h,h2,hbc]
section
variable {P : Program} {ops : Array Oper} {Q : Exit→Act→World→Prop} {K : Act→World→Prop} {o : Oper} {a : Act} {w : World}
/-- Not wanted. -/
theorem rs_not (hw : Region.wanted o (yielded ops a.tmps)=false) (h : K (a.put o.dst undef) w) : wpList P ops (Exit.then K Q) [o] a w:=by
 unfold wpList;rw [hw];exact h
/-- It yields. -/
theorem rs_val {v : Value} {w' : World} (hw : Region.wanted o (yielded ops a.tmps)=true) (hr : (execOp a.eval o).run P w=.ok (.value v) w') (h : K (a.put o.dst v) w') : wpList P ops (Exit.then K Q) [o] a w:=by
 unfold wpList;rw [if_pos hw]
 refine .inl ?_
 unfold Oper.wp
 rw [hr]
 exact h
/-- It calls. -/
theorem rs_call {f : FuncId} {args : Array Value} (hw : Region.wanted o (yielded ops a.tmps)=true) (hr : (execOp a.eval o).run P w=.ok (.enter f args) w) (hc : Calls P f args w fun e w' => ∃ v,e=.returned v∧K (a.put o.dst v) w') : wpList P ops (Exit.then K Q) [o] a w:=by
 unfold wpList;rw [if_pos hw]
 refine .inl ?_
 unfold Oper.wp
 rw [hr]
 exact hc.mono fun e w' ⟨v,he,hk⟩ => by subst he;exact hk
theorem ex_move {x : Operand} (ho : o.op=.move x∨o.op=.assign x) : (execOp a.eval o).run P w=.ok (.value (a.eval x)) w:=by
 unfold execOp;rcases ho with h | h <;> rw [h] <;> rfl
theorem ex_nil {x : Operand} {ad : Addr} (ho : o.op=.nilCheck x) (hx : a.eval x=.pointer (some ad)) : (execOp a.eval o).run P w=.ok (.value (.pointer (some ad))) w:=by
 unfold execOp;rw [ho];simp only [hx];rfl
theorem ex_call {f : FuncId} {args : Array Operand} {tys : Array TypeId} {fn : Func} {vs : Array Value} (ho : o.op=.call { callee:=.value (.func f),args:=args,argTypes:=tys })
  (hf : P.funcs[f]? = some fn) (hn : (fn.name == "runtime.NumGoroutine" || fn.body.isNone) = false) (hvs : args.map a.eval = vs) : (execOp a.eval o).run P w = .ok (.enter f vs) w := by
 subst hvs
 simp only [Bool.or_eq_false_iff] at hn
 have h1 : fn.name ≠ "runtime.NumGoroutine" := by simpa using hn.1
 have h2 : fn.body≠none:=by cases hb : fn.body with
  | none => rw [hb] at hn;simp at hn
  | some _ => simp
 unfold execOp
 simp only [ho,resolve,invoke,Sem.run_bind,Act.eval]
 simp [Deferred.ofValue,callFunc,hf,h1,h2]
theorem ex_pick {c x y : Operand} {b : Bool} (ho : o.op=.pick c x y) (hc : a.eval c=.bool b) : (execOp a.eval o).run P w=.ok (.value (if b then a.eval x else a.eval y)) w:=by
 unfold execOp;rw [ho];simp only [hc];cases b <;> rfl
end
theorem fold_zip : ∀ (cc : List Value) (arr : Array Value) (k : Nat),(List.foldl (fun (cs : Array Value) (x : Value × Nat) => cs.setIfInBounds x.2 x.1) arr (cc.zipIdx k)).size=arr.size ∧
  ∀ j,(List.foldl (fun (cs : Array Value) (x : Value × Nat) => cs.setIfInBounds x.2 x.1) arr (cc.zipIdx k))[j]?=if k≤j∧j < k + cc.length∧j < arr.size then cc[j - k]? else arr[j]?
 | [],arr,k => ⟨rfl,fun j => by rw [if_neg (by simp;omega)];rfl⟩
 | c :: cc,arr,k => by
  obtain ⟨h1,h2⟩:=fold_zip cc (arr.setIfInBounds k c) (k + 1)
  simp only [List.zipIdx_cons,List.foldl_cons]
  refine ⟨by rw [h1];simp,fun j => ?_⟩
  rw [h2 j]
  simp only [Array.size_setIfInBounds,List.length_cons]
  by_cases hj : k=j
  ·subst hj
   rw [if_neg (by omega)]
   by_cases hs : k < arr.size
   ·rw [if_pos ⟨Nat.le_refl _,by omega,hs⟩];simp [hs]
   ·rw [if_neg (by omega)]
    rw [Array.getElem?_eq_none (by simpa using hs),Array.getElem?_eq_none (by simpa using hs)]
  ·by_cases hr : k + 1≤j∧j < k + 1 + cc.length∧j < arr.size
   ·rw [if_pos hr,if_pos (by omega),show j - k=(j - (k + 1)) + 1 by omega];simp
   ·rw [if_neg hr,if_neg (by omega),Array.getElem?_setIfInBounds_ne hj]
theorem fold_all {cc : List Value} {arr : Array Value} (h : cc.length=arr.size) : List.foldl (fun (cs : Array Value) (x : Value × Nat) => cs.setIfInBounds x.2 x.1) arr cc.zipIdx=cc.toArray:=by
 obtain ⟨h1,h2⟩:=fold_zip cc arr 0
 apply Array.ext_getElem?
 intro j
 rw [h2 j]
 by_cases hj : j < arr.size
 ·rw [if_pos (by omega)];simp
 ·rw [if_neg (by omega),Array.getElem?_eq_none (by omega),Array.getElem?_eq_none (by simp;omega)]
theorem upd_c {VC : Nat→Value→Prop} {V : Nat→Value} {L : Nat→Bool} (H : ∀ j,L j=true→VC j (V j)) (k : Nat) {v : Value} (hv : VC k v) : ∀ j,(L j || j == k)=true→VC j (upd V k v j):=by
 intro j hj
 unfold upd
 by_cases e : j=k
 ·subst e;rw [if_pos rfl];exact hv
 ·rw [if_neg e]
  have e1 : (j == k)=false:=beq_eq_false_iff_ne.2 e
  rw [e1,Bool.or_false] at hj
  exact H j hj
theorem upd_ne {V : Nat→Value} {k j : Nat} {v : Value} (h : j≠k) : upd V k v j=V j:=by unfold upd;rw [if_neg h]
theorem upd_at {V : Nat→Value} {k : Nat} {v : Value} : upd V k v k=v:=by unfold upd;rw [if_pos rfl]
theorem lor_ne {L : Nat→Bool} {k j : Nat} (h : j≠k) : (L j || j == k)=L j:=by rw [beq_eq_false_iff_ne.2 h,Bool.or_false]
/-- One operation, the M-th one, moves the world; the others read. -/
structure OneE (M : Nat) (W0 : World) (PM : Value→World→Prop) (VC : Nat→Value→Prop) (V : Nat→Value) (L : Nat→Bool) (w' : World) : Prop where
 h0 : L M=false→w'=W0
 h1 : L M=true→PM (V M) w'
 vs : ∀ j,L j=true→VC j (V j)
theorem OneE.start (M : Nat) (W0 : World) (PM : Value→World→Prop) (VC : Nat→Value→Prop) (V : Nat→Value) : OneE M W0 PM VC V (fun _ => false) W0:=⟨fun _ => rfl,(fun h => by cases h),(fun _ h => by cases h)⟩
theorem OneE.pure {M : Nat} {W0 : World} {PM : Value→World→Prop} {VC : Nat→Value→Prop} {V : Nat→Value} {L : Nat→Bool} {w' : World} (h : OneE M W0 PM VC V L w') (k : Nat) {v : Value} (hk : M≠k) (hv : VC k v) : OneE M W0 PM VC (upd V k v) (fun j => L j || j == k) w' :=
 ⟨fun e => h.h0 ((lor_ne (L:=L) hk).symm.trans e),fun e => by rw [upd_ne hk];exact h.h1 ((lor_ne (L:=L) hk).symm.trans e),upd_c h.vs k hv⟩
theorem OneE.event {M : Nat} {W0 : World} {PM : Value→World→Prop} {VC : Nat→Value→Prop} {V : Nat→Value} {L : Nat→Bool} {w' w2 : World} (h : OneE M W0 PM VC V L w') {v : Value} (hM : PM v w2) (hv : VC M v) : OneE M W0 PM VC (upd V M v) (fun j => L j || j == M) w2 :=
 ⟨fun e => by simp at e,fun _ => by rw [upd_at];exact hM,upd_c h.vs M hv⟩
theorem ex_len {o : Oper} {a : Act} {w : World} {t : Nat} {s : Str} (ho : o.op=.call { callee:=.builtin .len,args:=#[.tmp t],argTypes:=#[9] }) (e : a.tmps[t]?=some (.string ⟨(s).toArray⟩)) (_h : s.length≤1000000) : (execOp a.eval o).run Try.prog w=.ok (.value (.int .i64 (s.length : Int))) w:=by
 simp only [execOp,ho]
 go_simp
theorem ex_lss {o : Oper} {a : Act} {w : World} {x y : Nat} {j n : Nat} {ty : TypeId} (ho : o.op=.binOp .lss 3 (.tmp x) (.tmp y) ty) (e1 : a.tmps[x]?=some (.int .i64 (j : Int))) (e2 : a.tmps[y]?=some (.int .i64 (n : Int))) : (execOp a.eval o).run Try.prog w=.ok (.value (.bool (decide (j < n)))) w:=by
 simp only [execOp,ho]
 go_simp
theorem ex_load {o : Oper} {a : Act} {w : World} {t : Nat} {ad : Addr} {u : Value} {ty : TypeId} (ho : o.op=.load ty (.tmp t)) (e : a.tmps[t]?=some (.pointer (some ad))) (hr : (Instr.loadAt ty (.pointer (some ad))).run Try.prog w=.ok u w) : (execOp a.eval o).run Try.prog w=.ok (.value u) w:=by
 have e2:=ev_of e
 simp only [execOp,ho,e2]
 simp [hr,Result.andThen]
theorem ex_bs {o : Oper} {a : Act} {w w' : World} {t : TypeId} {n : Nat} {parts : Array (Nat × Operand)} {vs : Array (Nat × Value)} {v : Value} (ho : o.op=.buildSlice t n parts) (hvs : parts.map (fun (i,x) => (i,a.eval x))=vs) (hr : (Instr.buildSlice t n vs).run Try.prog w=.ok v w') : (execOp a.eval o).run Try.prog w=.ok (.value v) w':=by
 subst hvs
 simp only [execOp,ho]
 simp [hr,Result.andThen]
theorem ld_int {w : World} {ad : Addr} {n : Int} (h : w.cell? ad=some (.int .i64 n)) : (Instr.loadAt 3 (.pointer (some ad))).run Try.prog w=.ok (.int .i64 n) w:=by go_simp
theorem ld_str {w : World} {ad : Addr} {s : Str} (h : w.cell? ad=some (.string ⟨(s).toArray⟩)) : (Instr.loadAt 9 (.pointer (some ad))).run Try.prog w=.ok (.string ⟨(s).toArray⟩) w:=by go_simp
/-- The rule, on a frame that is not laid open. -/
theorem wp_region_relyE {P : Program} {id : Nat} {ops : List Oper} {Q : Exit→Act→World→Prop} {a : Act} {w : World} (n : Nat) (hm : P.follows .mixedOrders=true) (hB : relyTB ops.toArray n=true) (I : Act→World→(Nat→Bool)→Act→World→Prop)
  (h : ∀ A0,Hid (A0=a)→I A0 w (fun _ => false) A0 w.drew∧RelyStepsT P ops.toArray Q (I A0 w) (ops.take n) 0∧∀ L a' w',(∀ j,j < n→L j=true)→I A0 w L a' w'→wpList P ops.toArray Q (ops.drop n) a' w') : (Code.region id ops.toArray true).wp P Q a w:=by
 obtain ⟨h0,h1,h2⟩:=h a (Lib.hid rfl)
 exact wp_region_relyT n hm hB I h0 h1 h2
end Go.Proofs.Ytbgcjpefocdkkaa
