/- A region that draws its order, with guards: by what is true of it all the while, whatever order the tape picks. -/
import Derived.Test.YtdcnncgpomcaaaaGreatDoorRc21
set_option maxRecDepth 100000
set_option maxHeartbeats 4000000
namespace Go.Proofs.YtdcnncgpomcaaaaGreatDoor
open Go.RowKit
def xV (ops:Array Oper):Bool:=(List.range ops.size).all fun i=>((ops[i]?).map fun o=>o.after.all fun e=>!Region.binds .any e||decide (e.on<i)).getD true
theorem IS {ops:Array Oper} (h:xV ops=true) {i:Nat} {o:Oper} (ho:ops[i]?=some o):∀e∈o.after,Region.binds .any e=true→e.on<i:=by
 have hi:i<ops.size:=(Array.getElem?_eq_some_iff.1 ho).1;have h1:=List.all_eq_true.1 h i (List.mem_range.2 hi);rw [ho] at h1;simp only [Option.map_some,Option.getD_some,Array.all_eq_true_iff_forall_mem] at h1;intro e he hb;have:=h1 e he
 rw [hb] at this;simpa using this
theorem BW {ops:Array Oper} (hB:xV ops=true) {listed:Array Bool} (h:Region.ready .any ops listed=[]) (hs:listed.size=ops.size):∀i,i<ops.size→listed.getD i false=true:=by
 intro i;induction i using Nat.strongRecOn with
 | ind i ih =>
  intro hi;cases hl:listed.getD i false with
  | true=>rfl
  | false =>
   exfalso;obtain⟨o,ho⟩:∃o,ops[i]?=some o:=⟨_,Array.getElem?_eq_getElem hi⟩;have hm:i∈Region.ready .any ops listed:=by
    rw [mem_ready];refine⟨?_,o,ho,fun e he hb=>?_⟩
    ·exact dv
    ·have hlt:=IS hB ho e he hb
     exact ih e.on hlt gN
   rw [h] at hm;cases hm
theorem oper_to {P:Program} {o:Oper} {a:Act} {w:World} {K K2:Act→World→Prop} {Q:Exit→Act→World→Prop} (h:o.wp P a w K Q):o.wp P a w K (Exit.then K2 Q):=by
 exact bJ
theorem Ci {P:Program} {ops:Array Oper} {Q:Exit→Act→World→Prop} (hB:xV ops=true) (I:(Nat→Bool)→Act→World→Prop)
  (hstep:∀(L:Nat→Bool) (i:Nat) (o:Oper) (a:Act) (w:World),ops[i]?=some o→L i=false→(∀e∈o.after,Region.binds .any e=true→L e.on=true)→I L a w →
   wpList P ops (Exit.then (fun a' w'=>I (fun j=>L j||j==i) a' w') Q) [o] a w)
  (hend:∀(L:Nat→Bool) (a:Act) (w:World),(∀i,i<ops.size→L i=true)→I L a w→Q .normal a w) :
  ∀(fuel:Nat) (listed:Array Bool) (L:Nat→Bool) (a:Act) (w:World),listed.size=ops.size→open_ ops listed≤fuel→(∀j,L j=listed.getD j false)→I L a w→wpAny P .any ops Q fuel listed a w:=by
 have fin:∀(listed:Array Bool) (L:Nat→Bool) (a:Act) (w:World),listed.size=ops.size→(∀j,L j=listed.getD j false)→I L a w→Region.ready .any ops listed=[]→Q .normal a w :=
  fun listed L a w hs hL h hr=>hend _ a w (fun i hi=>by rw [hL];exact BW hB hr hs i hi) h
 intro fuel;induction fuel with
 | zero =>
  exact cl
 | succ fuel ih =>
  intro listed L a w hs hf hL h;refine⟨fin listed L a w hs hL h,fun i hi=>?_⟩;obtain⟨h1,o,ho,hall⟩:=mem_ready.1 hi;have hlt:=(Array.getElem?_eq_some_iff.1 ho).1;have hd:=yO hlt hs h1;have hls:i<listed.size:=gN;have hLi:L i=false:=by
   exact dV
  have hst:=hstep L i o a w ho hLi (fun e he hb=>by rw [hL];exact hall e he hb) h;have key:∀a' w',I (fun j=>L j||j==i) a' w'→wpAny P .any ops Q fuel (listed.setIfInBounds i true) a' w':=fun a' w' h' =>
   ih _ (fun j=>L j||j==i) a' w' (by simpa using hs) gN (fun j=>by
    by_cases hji:j=i
    ·subst hji
     simp [Array.getD_eq_getD_getElem?,hls]
    ·have e1:(j==i)=false:=JP.2 hji
     rw [e1,Bool.or_false,hL];simp only [Array.getD_eq_getD_getElem?];rw [Array.getElem?_setIfInBounds_ne (Ne.symm hji)]) h'
  unfold wpOp;rw [ho];show if Region.wanted o (yielded ops a.tmps)=true then _ else _
  unfold wpList at hst;by_cases hw:Region.wanted o (yielded ops a.tmps)=true
  ·rw [Jl hw] at hst ⊢
   exact ef
  ·rw [Jo hw] at hst ⊢
   exact key _ _ hst
theorem rp {P:Program} {id:Nat} {ops:Array Oper} {Q:Exit→Act→World→Prop} {a:Act} {w:World} (hm:P.follows .mixedOrders=true) (hB:xV ops=true) (I:(Nat→Bool)→Act→World→Prop)
  (h0:I (fun _=>false) a w.drew)
  (hstep:∀(L:Nat→Bool) (i:Nat) (o:Oper) (a:Act) (w:World),ops[i]?=some o→L i=false→(∀e∈o.after,Region.binds .any e=true→L e.on=true)→I L a w →
   wpList P ops (Exit.then (fun a' w'=>I (fun j=>L j||j==i) a' w') Q) [o] a w)
  (hend:∀(L:Nat→Bool) (a:Act) (w:World),(∀i,i<ops.size→L i=true)→I L a w→Q .normal a w):(Code.region id ops true).wp P Q a w :=
 wp_region_any hm (Ci hB I hstep hend ops.size (Array.replicate ops.size false) (fun _=>false) a w.drew gU (by
  have:=List.length_filter_le (fun j=>!(Array.replicate ops.size false).getD j true) (List.range ops.size)
  simpa [open_] using this) (fun j=>by simp [Array.getD_eq_getD_getElem?,Array.getElem?_replicate];split<;>rfl) h0)
def GC (ops:Array Oper) (n:Nat):Bool:=xV ops&&decide (n<ops.size)&&Region.sinkB .any ops n&&Region.chainB .any ops n
def RelyStepsT (P:Program) (ops:Array Oper) (Q:Exit→Act→World→Prop) (I:(Nat→Bool)→Act→World→Prop):List Oper→Nat→Prop
 | [],_=>True
 | o::rest,i=>(∀(L:Nat→Bool) (a:Act) (w:World),L i=false→lm o L→I L a w→wpList P ops (Exit.then (fun a' w'=>I (fun j=>L j||j==i) a' w') Q) [o] a w)∧RelyStepsT P ops Q I rest (i+1)
theorem RelyStepsT.at_ {P:Program} {ops:Array Oper} {Q:Exit→Act→World→Prop} {I:(Nat→Bool)→Act→World→Prop}:∀{l:List Oper} {k i:Nat} {o:Oper},RelyStepsT P ops Q I l k→l[i]?=some o →
  ∀(L:Nat→Bool) (a:Act) (w:World),L (k+i)=false→lm o L→I L a w→wpList P ops (Exit.then (fun a' w'=>I (fun j=>L j||j==k+i) a' w') Q) [o] a w
 | [],_,_,_,_,h=>by simp at h
 | x::l,k,0,o,hs,h=>by simp at h;subst h;exact hs.1
 | x::l,k,i+1,o,hs,h=>by
  have:=RelyStepsT.at_ (k:=k+1) (i:=i) hs.2 gQ
  rw [show k+(i+1)=k+1+i by omega];exact this
def Clo (ops:Array Oper) (L:Nat→Bool):Prop:=∀j o,ops[j]?=some o→L j=true→lm o L
theorem Clo.add {ops:Array Oper} {L:Nat→Bool} (h:Clo ops L) {i:Nat} {o:Oper} (ho:ops[i]?=some o) (hd:lm o L):Clo ops (fun j=>L j||j==i):=by
 intro j oj hj hL e he hb;have key:lm oj L:=by
  by_cases hji:j=i
  ·subst hji
   obtain rfl:oj=o:=by rw [hj] at ho;injection ho
   exact hd
  ·have e1:(j==i)=false:=JP.2 hji
   simp only [e1,Bool.or_false] at hL;exact h j oj hj hL
 simp [key e he hb]
theorem Clo.sink {ops:Array Oper} {L:Nat→Bool} (h:Clo ops L) {n:Nat} {o:Oper} (hs:Region.sinkB .any ops n=true) (ho:ops[n]?=some o) (hd:lm o L):∀(d i:Nat),n-i=d→i<n→L i=true:=by
 intro d;induction d using Nat.strongRecOn with
 | _ d ih =>
  intro i hdi hi;have h1:=List.all_eq_true.1 hs i (List.mem_range.2 hi);obtain⟨j,hj,hj2⟩:=List.any_eq_true.1 h1;simp only [Jy,Jj] at hj2;obtain⟨oj,hoj,e,he,hb,hon⟩:=Region.waitsFor_spec hj2.2;have hjle:j≤n:=by have:=List.mem_range.1 hj;omega
  rw [←hon];by_cases hjn:j=n
  ·subst hjn
   obtain rfl:oj=o:=by rw [hoj] at ho;injection ho
   exact hd e he hb
  ·exact h j oj hoj (ih (n-j) gN j rfl gN) e he hb
theorem zQ {ops:Array Oper} {n t:Nat} {o:Oper} (hc:Region.chainB .any ops n=true) (ht:n<t) (ho:ops[t]?=some o) {L:Nat→Bool} (hd:lm o L):L (t-1)=true:=by
 have htl:=(Array.getElem?_eq_some_iff.1 ho).1;have h1:=List.all_eq_true.1 hc t (List.mem_range.2 htl);simp only [Js,Jj] at h1;rcases h1 with h1|h1
 ·omega
 ·obtain⟨o',ho',e,he,hb,hon⟩:=Region.waitsFor_spec h1
  obtain rfl:o'=o:=by rw [ho'] at ho;injection ho
  rw [←hon];exact hd e he hb
theorem C7 {P:Program} {ops:Array Oper} {Q:Exit→Act→World→Prop} {o:Oper} {rest:List Oper} {a:Act} {w:World} {K:Act→World→Prop} (h:wpList P ops Q (o::rest) a w) (hK:∀a' w',wpList P ops Q rest a' w'→K a' w') :
  wpList P ops (Exit.then K Q) [o] a w:=by
 unfold wpList at h ⊢;split
 ·rename_i hw
  rw [Jl hw] at h;rcases h with h|⟨h1,h2⟩
  ·exact .inl (oper_to (Oper.wp_mono (K':=wpList P ops (Exit.then K Q) []) (fun a' w' h'=>hK a' w' h') h))
  ·exact .inr ⟨h1,h2⟩
 ·rename_i hw
  rw [Jo hw] at h;exact hK _ _ h
def TailI (P:Program) (ops:List Oper) (Q:Exit→Act→World→Prop) (n:Nat) (I:(Nat→Bool)→Act→World→Prop) (L:Nat→Bool) (a:Act) (w:World):Prop :=
 Clo ops.toArray L∧((∀t,n≤t→t<ops.length→L t=false)∧I L a w∨∃t,n≤t∧t<ops.length∧L t=true∧(∀j,t<j→j<ops.length→L j=false)∧wpList P ops.toArray Q (ops.drop (t+1)) a w)
theorem wC {P:Program} {id:Nat} {ops:List Oper} {Q:Exit→Act→World→Prop} {a:Act} {w:World} (n:Nat) (hm:P.follows .mixedOrders=true) (hB:GC ops.toArray n=true) (I:Act→World→(Nat→Bool)→Act→World→Prop)
  (h0:I a w (fun _=>false) a w.drew) (hs:RelyStepsT P ops.toArray Q (I a w) (ops.take n) 0)
  (hend:∀L a' w',(∀j,j<n→L j=true)→I a w L a' w'→wpList P ops.toArray Q (ops.drop n) a' w'):(Code.region id ops.toArray true).wp P Q a w:=by
 simp only [GC,Jy,Jj] at hB;obtain⟨⟨⟨hB1,hn⟩,hsk⟩,hch⟩:=hB;have hn':n<ops.length:=by simpa using hn
 obtain⟨on,hon⟩:∃on,ops[n]?=some on:=⟨_,Jn hn'⟩;refine rp hm hB1 (TailI P ops Q n (I a w)) ⟨fun j o hj h=>(by cases h),.inl ⟨fun _ _ _=>rfl,h0⟩⟩ ?_ ?_
 ·intro L i o a' w' ho hLi hde hI
  have ho':ops[i]?=some o:=by simpa using ho
  have hil:=(Jx.1 ho').1;obtain⟨hclo,hI⟩:=hI;have hclo':=hclo.add ho hde;by_cases hin:i<n
  ·have hno:∀t,n≤t→t<ops.length→L t=false:=by
    rcases hI with⟨h,_⟩|⟨t,ht,htl,hLt,_,_⟩
    ·exact h
    ·exfalso
     obtain⟨ot,hot⟩:∃ot,ops[t]?=some ot:=⟨_,Jn htl⟩;have hdown:∀k,n+k≤t→L (t-k)=true:=by
      exact bq
     have hLn:L n=true:=by have:=hdown (t-n) gN;rwa [show t-(t-n)=n by omega] at this
     have:=hclo.sink hsk (by simpa using hon) (hclo n on (by simpa using hon) hLn) (n-i) i rfl hin
     rw [this] at hLi;cases hLi
   have hIo:I a w L a' w':=by
    rcases hI with⟨_,h⟩|⟨t,ht,htl,hLt,_,_⟩
    ·exact h
    ·rw [hno t ht htl] at hLt;cases hLt
   have hst:=hs.at_ (i:=i) (o:=o) (by rw [List.getElem?_take_of_lt hin];exact ho') L a' w' (by simpa using hLi) hde hIo;simp only [Nat.zero_add] at hst;have key:∀a2 w2,I a w (fun j=>L j||j==i) a2 w2→TailI P ops Q n (I a w) (fun j=>L j||j==i) a2 w2:=fun a2 w2 h=>⟨hclo',.inl ⟨fun t ht htl=>by
    have e1:(t==i)=false:=JP.2 gN;simp [hno t ht htl,e1],h⟩⟩
   unfold wpList at hst ⊢;split
   ·rename_i hw
    rw [Jl hw] at hst;refine hst.imp (fun h=>?_) (fun h=>h);exact uo (Oper.wp_mono (K':=wpList P ops.toArray _ []) (fun a2 w2 h2=>key a2 w2 h2) h)
   ·rename_i hw
    rw [Jo hw] at hst;exact key _ _ hst
  ·have hni:n≤i:=Nat.le_of_not_lt hin
   have hrest:wpList P ops.toArray Q (ops.drop i) a' w':=by
    by_cases he:i=n
    ·subst he
     rcases hI with⟨hno,hI⟩|⟨t,ht,htl,hLt,hgt,_⟩
     ·exact hend L a' w' (fun j hj=>hclo.sink hsk ho hde (i-j) j rfl hj) hI
     ·exfalso
      by_cases hte:t=i
      ·subst hte;rw [hLt] at hLi;cases hLi
      ·obtain⟨ot,hot⟩:∃ot,ops[t]?=some ot:=⟨_,Jn htl⟩
       exact gj
    ·have hp:=zQ hch (t:=i) gN ho hde
     rcases hI with⟨hno,_⟩|⟨t,ht,htl,hLt,hgt,hw⟩
     ·rw [hno (i-1) gN gN] at hp;cases hp
     ·have hti:t=i-1:=by
       rcases Nat.lt_trichotomy t (i-1) with h|h|h
       ·rw [hgt (i-1) h gN] at hp;cases hp
       ·exact h
       ·exfalso
        by_cases hte:t=i
        ·subst hte;rw [hLt] at hLi;cases hLi
        ·exact gj
      subst hti;rwa [show i-1+1=i by omega] at hw
   have hcons:ops.drop i=o::ops.drop (i+1):=by
    rw [List.drop_eq_getElem_cons hil];have:=(Jx.1 ho').2
    rw [this]
   rw [hcons] at hrest;refine C7 hrest fun a2 w2 h2=>⟨hclo',.inr ⟨i,hni,hil,by simp,fun j hj hjl=>?_,h2⟩⟩
   have e1:(j==i)=false:=JP.2 gN;cases hLj:L j with
   | false=>simp [hLj,e1]
   | true =>
    exfalso;have hdown:∀k,i+k≤j→L (j-k)=true:=by
     intro k;induction k with
     | zero=>intro _;exact hLj
     | succ k ih =>
      intro hk;have h1:=ih gN;obtain⟨ok,hok⟩:∃ok,ops[j-k]?=some ok:=⟨_,Jn gN⟩;have h2:=zQ hch (t:=j-k) gN (by simpa using hok) (hclo _ ok (by simpa using hok) h1);rw [show j-(k+1)=j-k-1 by omega];exact h2
    have:=hdown (j-i) gN
    rw [show j-(j-i)=i by omega,hLi] at this;cases this
 ·intro L a' w' hL hI
  obtain⟨_,hI⟩:=hI;rcases hI with⟨hno,_⟩|⟨t,ht,htl,hLt,hgt,hw⟩
  ·have h1:=hno n (Ju _) hn'
   rw [hL n hn] at h1;cases h1
  ·have hte:t+1=ops.length:=by
    rcases Nat.lt_or_ge (t+1) ops.length with h|h
    ·have h1:=hgt (t+1) gN h
     rw [hL (t+1) gQ] at h1;cases h1
    ·omega
   rw [List.drop_eq_nil_of_le gN] at hw;exact hw
open Go.RowKit Go.Maps Go.MapKept
open Go.ChangeMaps (setBlock)
def PartsPost (S:Nat→Prop) (g m:Nat) (s:Str) (ins:Bool) (RX:List Sn × Str) (w:World) (e:Ending) (w':World):Prop:=Gr2 g m w w' ∧
 ∃(S':Nat→Prop) (j:Nat) (a:Option Addr) (c:Nat),e=.returned (.tuple #[.slice a RX.1.length c,.bool (!ins||!RX.2.isEmpty)])∧Rs S' w' g m s j∧(∀b,S b→S' b)∧(∀b,S' b→S b∨w.heap.size≤b) ∧
  SnSl w' S' a RX.1.length RX.1∧s.drop j=RX.2
def Aq (g m:Nat) (s:Str) (N:Nat):Prop:=∀(S:Nat→Prop) (w:World) (ins:Bool) (i:Nat),Rs S w g m s i→s.length-i≤N →
 Calls Tryz.prog 24 #[.pointer (some ⟨g,0,none⟩),.bool ins] w fun e w'=>PartsPost S g m s ins (lu ins [] [] (s.drop i)) w e w'
theorem sV:∀(n:Nat) (out:List Sn) (text r:Str),r.length≤n→∀c t,(lu true out text r).2=c::t→c.toNat=125
 | n,out,text,[],_,c,t,h=>by rw [me] at h;cases h
 | 0,out,text,d::r,hn,_,_,_=>by simp at hn
 | n+1,out,text,d::r,hn,c,t,h=>by
  rw [l6] at h;split at h
  ·rename_i hc
   simp only at h
   injection h with h _;rw [←h];exact hc.2
  ·cases he:dolM l7 d r with
   | some y =>
    obtain⟨x,r2⟩:=y;rw [he] at h;have hr:r2.length<r.length:=by
     unfold dolM at he;split at he
     ·exact nR he
     ·cases he
    exact sV n _ _ r2 (by simp at hn;omega) c t h
   | none =>
    rw [he] at h;have hr:=nU three d r;exact sV n _ _ _ (by simp at hn;omega) c t h
theorem hx_v {w:World} {S:Nat→Prop} {k:Int} {t:Str} {n:Int} {h u:Bool} {os:List Str} {ks:List Sn} {oa ka:Option Addr} {oc kc:Nat} (h1:SlS w S oa 1 os.length (mE os)) (h2:SnSl w S ka ks.length ks) :
  SnV w S [.int .i64 k,.string ⟨t.toArray⟩,.int .i64 n,.bool h,.bool u,.int .i64 0,.string ⟨#[]⟩,.bool false,.slice none 0 0,.int .i64 0,.int .i64 0,.bool false,.slice none 0 0,.slice none 0 0,.bool false,.bool false,.slice oa os.length oc,.slice ka ks.length kc] (.mk k t n h u tf0 os ks):=SnV.close (TfV.zero w S) h1 h2
theorem optsM_eq (x:Sn) (r:Str):re x r=if List.isPrefixOf [124,125] (optL r [] []).2=true then some (x.choose (optL r [] []).1,(optL r [] []).2.drop 2) else none:=by
 unfold re;generalize optL r [] []=q
 obtain⟨o,t⟩:=q;rcases t with _|⟨c,_|⟨d,r2⟩⟩
 ·rfl
 ·simp [List.isPrefixOf]
 ·simp only [List.isPrefixOf,Jh,Jy,Ji]
  by_cases h:c.toNat=124∧d.toNat=125
  ·rw [Jl h,Jl ⟨(Jk.1 h.1).symm,(Jk.1 h.2).symm⟩];rfl
  ·rw [Jo h,Jo (fun e=>h ⟨by rw [←e.1];rfl,by rw [←e.2];rfl⟩)]
def setsL (b:Nat):Nat→List Value→World→World
 | _,[],w=>w
 | o,v::r,w=>setsL b (o+1) r (w.setCell ⟨b,o,none⟩ v)
theorem rh {b:Nat} {t:TypeId} {post:List Value}:∀(vs old pre:List Value) {w:World},w.heap[b]?=some (.cells (pre++(old++post)).toArray t (0,0))→old.length=vs.length→(setsL b pre.length vs w).heap[b]?=some (.cells (pre++(vs++post)).toArray t (0,0))
 | [],[],_,_,h,_=>h
 | [],_::_,_,_,_,hl=>by cases hl
 | _::_,[],_,_,_,hl=>by cases hl
 | v::r,u::q,pre,w,h,hl=>by
  have h1:=heap_setCell_same w b pre.length _ t v h;have h2:=rh (t:=t) (post:=post) r q (pre++[v]) (w:=w.setCell ⟨b,pre.length,none⟩ v) (by rw [h1];simp) jU;simp only [JA,Jr,J0,Nat.zero_add] at h2;simp only [setsL];rw [h2];simp
theorem mL {b k:Nat} (h:k≠b):∀(vs:List Value) (o:Nat) (w:World),(setsL b o vs w).heap[k]?=w.heap[k]?
 | [],_,_=>rfl
 | v::r,o,w=>(mL h r (o+1) (w.setCell ⟨b,o,none⟩ v)).trans (heap_setCell_other w ⟨b,o,none⟩ k v h)
theorem mP {b:Nat}:∀(vs:List Value) (o:Nat) (w:World),(setsL b o vs w).heap.size=w.heap.size
 | [],_,_=>rfl
 | _::r,o,_=>(mP r (o+1) _).trans jP
theorem rV {b:Nat}:∀(vs:List Value) (o:Nat) (w:World),(setsL b o vs w).os=w.os∧(setsL b o vs w).tape=w.tape∧(setsL b o vs w).output=w.output
 | [],_,_=>⟨rfl,rfl,rfl⟩
 | _::r,o,_=>rV r (o+1) _
theorem Rs.setsL {S:Nat→Prop} {w:World} {g m:Nat} {s:Str} {i:Nat} (h:Rs S w g m s i) {b:Nat} (hb:¬S b∧b≠g∧b≠m) (vs:List Value) (o:Nat):Rs S (setsL b o vs w) g m s i :=
 h.moved ⟨(mL (Ne.symm hb.2.1) vs o w).trans h.pl.1,h.pl.2⟩ (by rw [mP];exact Ju _) fun k hk _=>mL (by
  rcases hk with hk|hk
  ·rintro rfl;exact hb.1 hk
  ·rintro rfl;exact hb.2.2 hk) vs o w
theorem Gr2.setsL {g m:Nat} {w0 w:World} (h:Gr2 g m w0 w) {b:Nat} (hb:w0.heap.size≤b) (vs:List Value) (o:Nat):Gr2 g m w0 (setsL b o vs w) :=
 ⟨(rV vs o w).1.trans h.os,(rV vs o w).2.1.trans h.tape,(rV vs o w).2.2.trans h.output,by rw [mP];exact h.size,fun k hk h1 h2=>(mL gN vs o w).trans (h.block k hk h1 h2)⟩
theorem Rs.twice {S:Nat→Prop} {w:World} {g m:Nat} {s:Str} {i e:Nat} (h:Rs S w g m s i) (he:e+1≤s.length):Rs S ((w.setCell ⟨g,1,none⟩ (.int .i64 (e:Int))).setCell ⟨g,1,none⟩ (.int .i64 ((e:Int)+1))) g m s (e+1):=by
 have h1:=h.place (h.pl.set (j:=e) gN) (lp (lF _ _) 1 _);have h2:=h1.place (h1.pl.set (j:=e+1) he) (lp (lF _ _) 1 _);push_cast at h2;exact h2
theorem Gr2.twice {g m:Nat} {w0 w:World} (h:Gr2 g m w0 w) (u v:Value):Gr2 g m w0 ((w.setCell ⟨g,1,none⟩ u).setCell ⟨g,1,none⟩ v) :=
 h.trans ((Gr2.grown (lp (lF _ _) 1 _)).trans (Gr2.grown (lp (lF _ _) 1 _)))
theorem oJ {w:World} {g k:Nat} (u v:Value) (h:k≠g):((w.setCell ⟨g,1,none⟩ u).setCell ⟨g,1,none⟩ v).heap[k]?=w.heap[k]? :=
 (heap_setCell_other _ ⟨g,1,none⟩ k v h).trans (heap_setCell_other _ ⟨g,1,none⟩ k u h)
def FormM5 (s:Str) (R:Option (Tf × Str)) (f:Tf) (ej:Nat) (ok:Bool):Prop :=
 match R with
 | none=>ok=false
 | some (f0,r)=>ok=true∧f=f0∧s.drop (ej+1)=r
theorem xA {s:Str} {i B:Nat} {w:World} {R:Option (Tf × Str)} {e:Ending} {w':World} (hs1:1≤s.length) (h:u9 s i B w R e w') :
  ∃(rk:Int) (rch:Str) (rng:Bool) (ra:Option Addr) (rn rcp:Nat) (rlo rhi:Int) (rlz:Bool) (rka:Option Addr) (kn rkc:Nat) (fa:Option Addr) (fn fcp:Nat) (fd al:Bool) (f:Tf) (ej:Nat) (ok:Bool),
   e=.returned (.tuple #[.agg #[.int .i64 rk,.string ⟨rch.toArray⟩,.bool rng,.slice ra rn rcp,.int .i64 rlo,.int .i64 rhi,.bool rlz,.slice rka kn rkc,.slice fa fn fcp,.bool fd,.bool al],.int .i64 ej,.bool ok])∧Below w.heap.size w w'∧TfV w' (fun b=>B≤b) [.int .i64 rk,.string ⟨rch.toArray⟩,.bool rng,.slice ra rn rcp,.int .i64 rlo,.int .i64 rhi,.bool rlz,.slice rka kn rkc,.slice fa fn fcp,.bool fd,.bool al] f∧ej+1≤s.length∧FormM5 s R f ej ok:=by
 obtain⟨hb,h⟩:=h;cases R with
 | none =>
  refine⟨0,[],false,none,0,0,0,0,false,none,0,0,none,0,0,false,false,tf0,0,false,?_,hb,TfV.zero _ _,hs1,rfl⟩;rw [h];rfl
 | some p =>
  obtain⟨f0,r⟩:=p;obtain⟨fc,j,he,hv,_,hj,hd⟩:=h;obtain⟨rk,rch,rng,rrs,rlo,rhi,rlz,rks,ra,rcp,rka,rkc,fa,fcp,hc⟩:=hv.open_;refine⟨rk,rch,rng,ra,_,rcp,rlo,rhi,rlz,rka,_,rkc,fa,_,fcp,_,_,f0,j,true,?_,hb,hc.eq▸hv,hj,rfl,rfl,hd⟩;rw [he,hc.eq]
theorem sD (w:World) (b:Nat) (v0 v1 v2 v3 v4 v5 v6 v7 v8 v9 va:Value):(((((((((((w.setCell ⟨b,5,none⟩ v0).setCell ⟨b,6,none⟩ v1).setCell ⟨b,7,none⟩ v2).setCell ⟨b,8,none⟩ v3).setCell ⟨b,9,none⟩ v4).setCell ⟨b,10,none⟩ v5).setCell ⟨b,11,none⟩ v6).setCell ⟨b,12,none⟩ v7).setCell ⟨b,13,none⟩ v8).setCell ⟨b,14,none⟩ v9).setCell ⟨b,15,none⟩ va)=setsL b 5 [v0,v1,v2,v3,v4,v5,v6,v7,v8,v9,va] w:=by
 simp only [setsL]
def eqP (c:Value):Value→World→Prop:=fun v _=>v=c
def FsAt (Fs:List (Value→World→Prop)) (j:Nat):Value→World→Prop:=Fs.getD j (fun _ _=>True)
def MonoF (Fs:List (Value→World→Prop)):Prop:=∀P∈Fs,∀v w w',Below w.heap.size w w'→P v w→P v w'
theorem MonoF.nil:MonoF []:=fun _ h=>by cases h
theorem MonoF.eq {Fs:List (Value→World→Prop)} {c:Value} (h:MonoF Fs):MonoF (eqP c::Fs):=fun P hP v w w' hb hv=>by
 rcases JC.1 hP with rfl|hP
 ·exact hv
 ·exact h P hP v w w' hb hv
theorem MonoF.cons {Fs:List (Value→World→Prop)} {P0:Value→World→Prop} (h0:∀v w w',Below w.heap.size w w'→P0 v w→P0 v w') (h:MonoF Fs):MonoF (P0::Fs):=fun P hP v w w' hb hv=>by
 rcases JC.1 hP with rfl|hP
 ·exact h0 v w w' hb hv
 ·exact h P hP v w w' hb hv
theorem MonoF.at_ {Fs:List (Value→World→Prop)} (h:MonoF Fs) (j:Nat) {v:Value} {w w':World} (hb:Below w.heap.size w w') (hv:FsAt Fs j v w):FsAt Fs j v w':=by
 unfold FsAt at *;rw [List.getD_eq_getElem?_getD] at *;cases hj:Fs[j]? with
 | none=>trivial
 | some P=>rw [hj] at hv;exact h P (JH hj) v w w' hb hv
structure BelI (W0:World) (Fs:List (Value→World→Prop)) (V:Nat→Value) (L:Nat→Bool) (w':World):Prop where
 ext:Below W0.heap.size W0 w'
 at_:∀j,L j=true→FsAt Fs j (V j) w'
theorem BelI.start (W0:World) (Fs:List (Value→World→Prop)) (V:Nat→Value):BelI W0 Fs V (fun _=>false) W0.drew:=⟨(Below.refl _ _).drew,fun _ h=>by cases h⟩
theorem BelI.step {W0:World} {Fs:List (Value→World→Prop)} (hM:MonoF Fs) {V:Nat→Value} {L:Nat→Bool} {w' w2:World} (h:BelI W0 Fs V L w') (k:Nat) {v:Value} (hb:Below w'.heap.size w' w2) (hv:FsAt Fs k v w2) :
  BelI W0 Fs (upd V k v) (fun j=>L j||j==k) w2 :=
 ⟨h.ext.trans (hb.mono h.ext.size),fun j hj=>by
  unfold upd;by_cases e:j=k
  ·subst e;rw [Jl rfl];exact hv
  ·rw [Jo e]
   have e1:(j==k)=false:=JP.2 e;simp only [e1,Bool.or_false] at hj;exact hM.at_ j hb (h.at_ j hj)⟩
theorem BelI.same {W0:World} {Fs:List (Value→World→Prop)} (hM:MonoF Fs) {V:Nat→Value} {L:Nat→Bool} {w':World} (h:BelI W0 Fs V L w') (k:Nat) {v:Value} (hv:FsAt Fs k v w') :
  BelI W0 Fs (upd V k v) (fun j=>L j||j==k) w':=h.step hM k (Below.refl _ _) hv
theorem wF (d:Nat) (ds:List Nat) (k:Nat) (V:Nat→Value) (a:Act):mW (d::ds) k V a=mW ds (k+1) V (a.put (some d) (V k)):=rfl
theorem BI:∀(ds:List Nat) (k:Nat) (V:Nat→Value) (a:Act),(mW ds k V a).tmps.size=a.tmps.size
 | [],_,_,_=>rfl
 | d::ds,k,V,a=>(BI ds (k+1) V _).trans (by simp [Act.put])
theorem s8:∀(ds:List Nat) (k:Nat) (V:Nat→Value) (a:Act) (t:Nat),t ∉ ds→(mW ds k V a).tmps[t]?=a.tmps[t]?
 | [],_,_,_,_,_=>rfl
 | d::ds,k,V,a,t,h=>by
  rw [wF,s8 ds (k+1) V _ t (fun e=>h (JF _ e))];simp only [Act.put];rw [Array.getElem?_setIfInBounds_ne (fun e=>h (by simp [e]))]
theorem vv:∀(ds:List Nat) (k:Nat) (V:Nat→Value) (a:Act) (i t:Nat),ds.Nodup→ds[i]?=some t→t<a.tmps.size→(mW ds k V a).tmps[t]?=some (V (k+i))
 | [],_,_,_,i,t,_,h,_=>by simp at h
 | d::ds,k,V,a,0,t,hn,h,hs=>by
  simp at h;subst h
  rw [wF,s8 ds (k+1) V _ _ (List.nodup_cons.1 hn).1];simp [Act.put,hs]
 | d::ds,k,V,a,i+1,t,hn,h,hs=>by
  rw [wF,vv ds (k+1) V _ i t (List.nodup_cons.1 hn).2 gQ (by simpa [Act.put] using hs)];rw [show k+1+i=k+(i+1) by omega]
theorem sJ:∀(ds:List Nat) (k:Nat) (V:Nat→Value) (a:Act),(mW ds k V a).defers=a.defers
 | [],_,_,_=>rfl
 | _::ds,k,V,_=>(sJ ds (k+1) V _).trans rfl
theorem puts_put (ds:List Nat) (V:Nat→Value) (a:Act) (i t:Nat) (v:Value) (hn:ds.Nodup) (h:ds[i]?=some t) (hb:∀d∈ds,d<a.tmps.size):(mW ds 0 V a).put (some t) v=mW ds 0 (upd V i v) a:=by
 have e:((mW ds 0 V a).put (some t) v).tmps=(mW ds 0 (upd V i v) a).tmps:=by
  apply Array.ext_getElem?
  intro j;simp only [Act.put];have ht:=hb t (JH h);by_cases hjt:t=j
  ·subst hjt
   rw [Array.getElem?_setIfInBounds_self_of_lt (by rw [BI];exact ht),vv ds 0 _ a i t hn h ht];simp [upd]
  ·rw [Array.getElem?_setIfInBounds_ne hjt]
   by_cases hj:j∈ds
   ·obtain⟨m,hm⟩:=List.getElem?_of_mem hj
    rw [vv ds 0 _ a m j hn hm (hb j hj),vv ds 0 _ a m j hn hm (hb j hj)];have:m≠i:=fun e=>by subst e;rw [hm] at h;injection h with h;exact hjt h.symm
    simp [upd,this]
   ·rw [s8 ds 0 _ a j hj,s8 ds 0 _ a j hj]
 have key:∀x y:Act,x.tmps=y.tmps→x.defers=y.defers→x=y:=fun x y h h'=>by cases x;cases y;simp only at h h';subst h;subst h';rfl
 refine key _ _ e ?_;show (mW ds 0 V a).defers=_
 rw [sJ,sJ]
structure Fm2 (ds:List Nat) (V:Nat→Value) (A0 a:Act):Prop where
 eq:a=mW ds 0 V A0
theorem Fm2.ins {ds:List Nat} {V:Nat→Value} {A0 a:Act} (h:Fm2 ds V A0 a) (hn:ds.Nodup) (hb:∀d∈ds,d<A0.tmps.size) (i:Nat) {t:Nat} (hi:ds[i]?=some t):a.tmps[t]?=some (V i):=by
 rw [h.eq,vv ds 0 V A0 i t hn hi (hb t (JH hi))];simp
theorem Fm2.out {ds:List Nat} {V:Nat→Value} {A0 a:Act} (h:Fm2 ds V A0 a) {t:Nat} (ht:t ∉ ds):a.tmps[t]?=A0.tmps[t]?:=by
 rw [h.eq,s8 ds 0 V A0 t ht]
theorem Fm2.put {ds:List Nat} {V:Nat→Value} {A0 a:Act} (h:Fm2 ds V A0 a) (hn:ds.Nodup) (hb:∀d∈ds,d<A0.tmps.size) (i:Nat) {t:Nat} (hi:ds[i]?=some t) (v:Value):Fm2 ds (upd V i v) A0 (a.put (some t) v):=⟨by rw [h.eq,puts_put ds V A0 i t v hn hi hb]⟩
theorem Fm2.skip {ds:List Nat} {V:Nat→Value} {A0 a:Act} (h:Fm2 ds V A0 a) (v:Value):Fm2 ds V A0 (a.put none v):=h
theorem lU {a:Act} {t:Nat} {v:Value} (h:a.tmps[t]?=some v):a.eval (.tmp t)=v:=by
 simp [Act.eval,Array.getD_eq_getD_getElem?,h]
theorem lg {o:Oper} {y:Nat→Option Bool} (h:o.guard=none):Region.wanted o y=true:=by simp [Region.wanted,h]
theorem nQ {ops:Array Oper} {a:Act} {g d:Nat} {b:Bool} (h1:(ops[g]?).bind (·.dst)=some d) (h2:a.tmps[d]?=some (.bool b)):yielded ops a.tmps g=some b:=by
 unfold yielded;rw [h1];simp [h2]
theorem mc {ops:Array Oper} {a:Act} {o:Oper} {g:Nat} {b:Bool} (h:o.guard=some (g,b)) (h2:yielded ops a.tmps g=some b):Region.wanted o (yielded ops a.tmps)=true:=by simp [Region.wanted,h,h2]
theorem mf {ops:Array Oper} {a:Act} {o:Oper} {g:Nat} {b c:Bool} (h:o.guard=some (g,b)) (h2:yielded ops a.tmps g=some c) (hbc:c≠b):Region.wanted o (yielded ops a.tmps)=false:=by simp [Region.wanted,h,h2,hbc]
section
variable {P:Program} {ops:Array Oper} {Q:Exit→Act→World→Prop} {K:Act→World→Prop} {o:Oper} {a:Act} {w:World}
theorem oX (hw:Region.wanted o (yielded ops a.tmps)=false) (h:K (a.put o.dst undef) w):wpList P ops (Exit.then K Q) [o] a w:=by
 unfold wpList;rw [hw];exact h
theorem lR {v:Value} {w':World} (hw:Region.wanted o (yielded ops a.tmps)=true) (hr:(execOp a.eval o).run P w=.ok (.value v) w') (h:K (a.put o.dst v) w'):wpList P ops (Exit.then K Q) [o] a w:=by
 unfold wpList;rw [Jl hw];refine .inl ?_;unfold Oper.wp;rw [hr];exact h
theorem qS {f:FuncId} {args:Array Value} (hw:Region.wanted o (yielded ops a.tmps)=true) (hr:(execOp a.eval o).run P w=.ok (.enter f args) w) (hc:Calls P f args w fun e w'=>∃v,e=.returned v∧K (a.put o.dst v) w'):wpList P ops (Exit.then K Q) [o] a w:=by
 unfold wpList;rw [Jl hw];refine .inl ?_;unfold Oper.wp;rw [hr];exact hc.mono fun e w' ⟨v,he,hk⟩=>by subst he;exact hk
theorem nY {x:Operand} (ho:o.op=.move x∨o.op=.assign x):(execOp a.eval o).run P w=.ok (.value (a.eval x)) w:=by
 unfold execOp;rcases ho with h|h<;>rw [h]<;>rfl
theorem IQ {x:Operand} {ad:Addr} (ho:o.op=.nilCheck x) (hx:a.eval x=.pointer (some ad)):(execOp a.eval o).run P w=.ok (.value (.pointer (some ad))) w:=by
 unfold execOp;rw [ho];simp only [hx];rfl
theorem qV {f:FuncId} {args:Array Operand} {tys:Array TypeId} {fn:Func} {vs:Array Value} (ho:o.op=.call { callee:=.value (.func f),args:=args,argTypes:=tys })
  (hf : P.funcs[f]? = some fn) (hn : (fn.name == "runtime.NumGoroutine" || fn.body.isNone) = false) (hvs : args.map a.eval = vs) : (execOp a.eval o).run P w = .ok (.enter f vs) w := by
 subst hvs;simp only [Bool.or_eq_false_iff] at hn;have h1 : fn.name ≠ "runtime.NumGoroutine" := by simpa using hn.1
 have h2:fn.body≠none:=by cases hb:fn.body with
  | none=>rw [hb] at hn;simp at hn
  | some _=>simp
 unfold execOp;simp only [ho,resolve,invoke,Sem.run_bind,Act.eval];simp [Deferred.ofValue,callFunc,hf,h1,h2]
theorem zd {c x y:Operand} {b:Bool} (ho:o.op=.pick c x y) (hc:a.eval c=.bool b):(execOp a.eval o).run P w=.ok (.value (if b then a.eval x else a.eval y)) w:=by
 unfold execOp;rw [ho];simp only [hc];cases b<;>rfl
end
theorem D6:∀(cc:List Value) (arr:Array Value) (k:Nat),(List.foldl (fun(cs:Array Value) (x:Value × Nat)=>cs.setIfInBounds x.2 x.1) arr (cc.zipIdx k)).size=arr.size ∧
  ∀j,(List.foldl (fun(cs:Array Value) (x:Value × Nat)=>cs.setIfInBounds x.2 x.1) arr (cc.zipIdx k))[j]?=if k≤j∧j<k+cc.length∧j<arr.size then cc[j-k]? else arr[j]?
 | [],arr,k=>⟨rfl,fun j=>by rw [Jo gV];rfl⟩
 | c::cc,arr,k=>by
  obtain⟨h1,h2⟩:=D6 cc (arr.setIfInBounds k c) (k+1);simp only [List.zipIdx_cons,JQ];refine⟨by rw [h1];simp,fun j=>?_⟩;rw [h2 j];simp only [Array.size_setIfInBounds,Jr];by_cases hj:k=j
  ·subst hj
   rw [Jo gN];by_cases hs:k<arr.size
   ·rw [Jl ⟨Ju _,by omega,hs⟩];simp [hs]
   ·rw [Jo gN]
    rw [Array.getElem?_eq_none (by simpa using hs),Array.getElem?_eq_none (by simpa using hs)]
  ·by_cases hr:k+1≤j∧j<k+1+cc.length∧j<arr.size
   ·rw [Jl hr,Jl gN,show j-k=(j-(k+1))+1 by omega];simp
   ·rw [Jo hr,Jo gN,Array.getElem?_setIfInBounds_ne hj]
theorem fold_all {cc:List Value} {arr:Array Value} (h:cc.length=arr.size):List.foldl (fun(cs:Array Value) (x:Value × Nat)=>cs.setIfInBounds x.2 x.1) arr cc.zipIdx=cc.toArray:=by
 obtain⟨h1,h2⟩:=D6 cc arr 0;apply Array.ext_getElem?
 intro j;rw [h2 j];by_cases hj:j<arr.size
 ·rw [Jl gN];simp
 ·rw [Jo gN,Array.getElem?_eq_none gN,Array.getElem?_eq_none gV]
theorem upd_c {VC:Nat→Value→Prop} {V:Nat→Value} {L:Nat→Bool} (H:∀j,L j=true→VC j (V j)) (k:Nat) {v:Value} (hv:VC k v):∀j,(L j||j==k)=true→VC j (upd V k v j):=by
 intro j hj;unfold upd;by_cases e:j=k
 ·subst e;rw [Jl rfl];exact hv
 ·rw [Jo e]
  have e1:(j==k)=false:=JP.2 e;rw [e1,Bool.or_false] at hj;exact H j hj
theorem upd_ne {V:Nat→Value} {k j:Nat} {v:Value} (h:j≠k):upd V k v j=V j:=by unfold upd;rw [Jo h]
theorem upd_at {V:Nat→Value} {k:Nat} {v:Value}:upd V k v k=v:=by unfold upd;rw [Jl rfl]
theorem lor_ne {L:Nat→Bool} {k j:Nat} (h:j≠k):(L j||j==k)=L j:=by rw [JP.2 h,Bool.or_false]
structure OneE (M:Nat) (W0:World) (PM:Value→World→Prop) (VC:Nat→Value→Prop) (V:Nat→Value) (L:Nat→Bool) (w':World):Prop where
 h0:L M=false→w'=W0
 h1:L M=true→PM (V M) w'
 vs:∀j,L j=true→VC j (V j)
theorem OneE.start (M:Nat) (W0:World) (PM:Value→World→Prop) (VC:Nat→Value→Prop) (V:Nat→Value):OneE M W0 PM VC V (fun _=>false) W0:=⟨fun _=>rfl,(fun h=>by cases h),(fun _ h=>by cases h)⟩
theorem OneE.pure {M:Nat} {W0:World} {PM:Value→World→Prop} {VC:Nat→Value→Prop} {V:Nat→Value} {L:Nat→Bool} {w':World} (h:OneE M W0 PM VC V L w') (k:Nat) {v:Value} (hk:M≠k) (hv:VC k v):OneE M W0 PM VC (upd V k v) (fun j=>L j||j==k) w' :=
 ⟨fun e=>h.h0 ((lor_ne (L:=L) hk).symm.trans e),fun e=>by rw [upd_ne hk];exact h.h1 ((lor_ne (L:=L) hk).symm.trans e),upd_c h.vs k hv⟩
theorem OneE.event {M:Nat} {W0:World} {PM:Value→World→Prop} {VC:Nat→Value→Prop} {V:Nat→Value} {L:Nat→Bool} {w' w2:World} (h:OneE M W0 PM VC V L w') {v:Value} (hM:PM v w2) (hv:VC M v):OneE M W0 PM VC (upd V M v) (fun j=>L j||j==M) w2 :=
 ⟨fun e=>by simp at e,fun _=>by rw [upd_at];exact hM,upd_c h.vs M hv⟩
theorem ex_len {o:Oper} {a:Act} {w:World} {t:Nat} {s:Str} (ho:o.op=.call { callee:=.builtin .len,args:=#[.tmp t],argTypes:=#[9] }) (e:a.tmps[t]?=some (.string ⟨s.toArray⟩)) (_h:s.length≤1000000):(execOp a.eval o).run Tryz.prog w=.ok (.value (.int .i64 (s.length:Int))) w:=by
 simp only [execOp,ho];go_simp
theorem ex_lss {o:Oper} {a:Act} {w:World} {x y:Nat} {j n:Nat} {ty:TypeId} (ho:o.op=.binOp .lss 3 (.tmp x) (.tmp y) ty) (e1:a.tmps[x]?=some (.int .i64 (j:Int))) (e2:a.tmps[y]?=some (.int .i64 (n:Int))):(execOp a.eval o).run Tryz.prog w=.ok (.value (.bool (decide (j<n)))) w:=by
 simp only [execOp,ho];go_simp
theorem qG {o:Oper} {a:Act} {w:World} {t:Nat} {ad:Addr} {u:Value} {ty:TypeId} (ho:o.op=.load ty (.tmp t)) (e:a.tmps[t]?=some (.pointer (some ad))) (hr:(Instr.loadAt ty (.pointer (some ad))).run Tryz.prog w=.ok u w):(execOp a.eval o).run Tryz.prog w=.ok (.value u) w:=by
 have e2:=lU e;simp only [execOp,ho,e2];simp [hr,Result.andThen]
theorem ex_bs {o:Oper} {a:Act} {w w':World} {t:TypeId} {n:Nat} {parts:Array (Nat × Operand)} {vs:Array (Nat × Value)} {v:Value} (ho:o.op=.buildSlice t n parts) (hvs:parts.map (fun(i,x)=>(i,a.eval x))=vs) (hr:(Instr.buildSlice t n vs).run Tryz.prog w=.ok v w'):(execOp a.eval o).run Tryz.prog w=.ok (.value v) w':=by
 subst hvs;simp only [execOp,ho];simp [hr,Result.andThen]
theorem ld_int {w:World} {ad:Addr} {n:Int} (h:w.cell? ad=some (.int .i64 n)):(Instr.loadAt 3 (.pointer (some ad))).run Tryz.prog w=.ok (.int .i64 n) w:=by go_simp
theorem ld_str {w:World} {ad:Addr} {s:Str} (h:w.cell? ad=some (.string ⟨s.toArray⟩)):(Instr.loadAt 9 (.pointer (some ad))).run Tryz.prog w=.ok (.string ⟨s.toArray⟩) w:=by go_simp
theorem mn {P:Program} {id:Nat} {ops:List Oper} {Q:Exit→Act→World→Prop} {a:Act} {w:World} (n:Nat) (hm:P.follows .mixedOrders=true) (hB:GC ops.toArray n=true) (I:Act→World→(Nat→Bool)→Act→World→Prop)
  (h:∀A0,Hid (A0=a)→I A0 w (fun _=>false) A0 w.drew∧RelyStepsT P ops.toArray Q (I A0 w) (ops.take n) 0∧∀L a' w',(∀j,j<n→L j=true)→I A0 w L a' w'→wpList P ops.toArray Q (ops.drop n) a' w'):(Code.region id ops.toArray true).wp P Q a w:=by
 obtain⟨h0,h1,h2⟩:=h a (ab rfl);exact wC n hm hB I h0 h1 h2
theorem Iq:(Tryz.prog.info? 9).map (fun i=>(i.zero,i.size,i.bytes))=some (some (.string ⟨#[]⟩),1,16):=by kernel_rfl
theorem FO (l:List Str):∀u∈mE l,u.oneCell'=true:=fun u hu=>by
 simp only [mE,List.mem_map] at hu;obtain⟨_,_,rfl⟩:=hu;rfl
theorem BG (a:Option Addr) (n c:Nat) (l:List Str) (w:World) (hl:n=l.length) (h:Sl w w.heap.size a 1 n (mE l)) (hn:n≤1000000) :
  Calls Tryz.prog 44 #[.slice a n c] w fun e w'=>∃a' c',e=.returned (.slice a' n c')∧SlS w' (fun b=>w.heap.size≤b) a' 1 n (mE l)∧Below w.heap.size w w':=by
 subst hl;obtain⟨ir,hir⟩:=info_parts Iq;cases a with
 | none =>
  have h0:l=[]:=by
   exact dK
  subst h0;have hq:(binOp .eql 42 (.slice none 0 c) (.slice none 0 0)).run Tryz.prog w=.ok (.bool true) w:=Go.run_eql_slice_nil w _ _ none 0 c Tryz.underlying42;go_enter Tryz.func44,Tryz.ntmps44
  exact dH
 | some ad =>
  have HS:=ab (h.alloc_self (.cells #[] 9));have hq:(binOp .eql 42 (.slice (some ad) l.length c) (.slice none 0 0)).run Tryz.prog w=.ok (.bool false) w:=Go.run_eql_slice_nil w _ _ (some ad) _ c Tryz.underlying42;clear h;go_enter Tryz.func44,Tryz.ntmps44
  go_wp2_with (at_builtin;refine lJ w.heap.size 9 rfl _ _ 42 rfl Tryz.underlying42 hir rfl gR rfl (World.ownsRow_made w #[] 0 (Ju _) (by simp [maxLen]) rfl) rfl HS.out (FO l) gN gN gR gU ?_)
  exact bY
theorem Db (a:Option Addr) (n c:Nat) (l:List Fm) (w:World) (hl:n=l.length) (h:Sl w w.heap.size a 5 n (mu l)) (hn:n≤1000000) :
  Calls Tryz.prog 61 #[.slice a n c] w fun e w'=>∃a' c',e=.returned (.slice a' n c')∧SlS w' (fun b=>w.heap.size≤b) a' 5 n (mu l)∧Below w.heap.size w w':=by
 subst hl;obtain⟨ir,hir⟩:=info_parts Cv;cases a with
 | none =>
  have h0:l=[]:=by
   exact dK
  subst h0;have hq:(binOp .eql 39 (.slice none 0 c) (.slice none 0 0)).run Tryz.prog w=.ok (.bool true) w:=Go.run_eql_slice_nil w _ _ none 0 c Tryz.underlying39;go_enter Tryz.func61,Tryz.ntmps61
  exact dH
 | some ad =>
  have HS:=ab (h.alloc_self (.cells #[] 95));have hq:(binOp .eql 39 (.slice (some ad) l.length c) (.slice none 0 0)).run Tryz.prog w=.ok (.bool false) w:=Go.run_eql_slice_nil w _ _ (some ad) _ c Tryz.underlying39;clear h;go_enter Tryz.func61,Tryz.ntmps61
  go_wp2_with (at_builtin;refine lJ w.heap.size 95 rfl _ _ 39 rfl Tryz.underlying39 hir rfl gR rfl (World.ownsRow_made w #[] 0 (Ju _) (by simp [maxLen]) rfl) rfl HS.out (Ck l) gN gN gR gU ?_)
  exact bY
theorem oT:(Tryz.prog.info? 41).map (·.size)=some 11:=by kernel_rfl
theorem Ge:(Tryz.prog.info? 38).map (·.size)=some 8:=by kernel_rfl
theorem mG:Tryz.prog.underlying 41=some (.struct (Tryz.prog.fieldsOf 41)):=by kernel_rfl
theorem mb:Tryz.prog.underlying 38=some (.struct (Tryz.prog.fieldsOf 38)):=by kernel_rfl
def RxP (B:Nat) (X:Rx):Value→World→Prop:=fun v W=>∃rc',v=.agg rc'.toArray∧RxV W (fun b=>B≤b) rc' X
def SlP (B sz n:Nat) (cs:List Value):Value→World→Prop:=fun v W=>∃a c,v=.slice a n c∧SlS W (fun b=>B≤b) a sz n cs
def XFs (B b1:Nat) (rc:List Value) (X:Rx) (fa:Option Addr) (fcp:Nat) (fs:List Fm):List (Value→World→Prop) :=
 [eqP (.pointer (some ⟨b1,0,none⟩)),eqP (.agg rc.toArray),RxP B X,eqP (.pointer (some ⟨b1,8,none⟩)),eqP (.slice fa fs.length fcp),SlP B 5 fs.length (mu fs),eqP (.pointer (some ⟨b1,0,none⟩))]
theorem RxP.mono {B:Nat} {X:Rx} (v:Value) (w w':World) (hb:Below w.heap.size w w') (h:RxP B X v w):RxP B X v w':=by
 obtain⟨rc',h1,h2⟩:=h;exact⟨rc',h1,h2.later hb⟩
theorem SlP.mono {B sz n:Nat} {cs:List Value} (v:Value) (w w':World) (hb:Below w.heap.size w w') (h:SlP B sz n cs v w):SlP B sz n cs v w':=by
 obtain⟨a,c,h1,h2⟩:=h;exact⟨a,c,h1,h2.keep (Kept.all hb)⟩
theorem XFs_mono (B b1:Nat) (rc:List Value) (X:Rx) (fa:Option Addr) (fcp:Nat) (fs:List Fm):MonoF (XFs B b1 rc X fa fcp fs) :=
 .eq (.eq (.cons RxP.mono (.eq (.eq (.cons SlP.mono (.eq .nil))))))
def XRI (B b1:Nat) (rc:List Value) (X:Rx) (fa:Option Addr) (fcp:Nat) (fs:List Fm) (A0:Act) (W0:World) (L:Nat→Bool) (a:Act) (w':World):Prop :=
 ∃V:Nat→Value,Fm2 [3,4,5,6,7,8,9] V A0 a∧BelI W0 (XFs B b1 rc X fa fcp fs) V L w'
theorem wU {w0 w:World} {b:Nat} (h:Below w0.heap.size w0 w) (hb:w0.heap.size≤b):∀(vs:List Value) (o:Nat),Below w0.heap.size w0 (setsL b o vs w):=by
 intro vs;induction vs generalizing w with
 | nil=>intro o;exact h
 | cons v r ih=>intro o;exact ih (h.setCell hb _) (o+1)
theorem uw {w0 w:World} {b:Nat} (h:Below w0.heap.size w0 w) (hb:w0.heap.size≤b) (cs:Array Value):Below w0.heap.size w0 (w.setRow b cs) :=
 ⟨h.os,h.tape,h.output,by rw [vC];exact h.size,fun k hk=>(nj cs gN).trans (h.block k hk)⟩
theorem res_box1 {fn:Func} {p:Tmp} {ty t:TypeId} {tmps:Array Value} {w:World} {b:Nat} {cs:Array Value} {f:Nat × Nat} {fs:Array Field} {n:Nat} (hr:fn.results=#[.cell p ty]) (hu:Tryz.prog.underlying ty=some (.struct fs)) (hi:(Tryz.prog.info? ty).map (·.size)=some n)
  (h:w.heap[b]?=some (.cells cs t f)) (hn:cs.size=n) (hp:tmps.getD p undef=.pointer (some ⟨b,0,none⟩)):(results fn tmps).run Tryz.prog w=.ok (.agg cs) w:=by
 subst hn;exact results_cell_row hr tmps w b t cs f _ hp h hu rfl hi
theorem EC (S:Nat→Prop) (f:Tf) (hsm:f.small) (fc:List Value) (w:World) (hv:TfV w S fc f) :
  Calls Tryz.prog 43 #[.agg fc.toArray] w fun e w'=>∃fc',e=.returned (.agg fc'.toArray)∧TfV w' (fun b=>w.heap.size≤b) fc' f∧Below w.heap.size w w':=by
 obtain⟨rk,rch,rng,rrs,rlo,rhi,rlz,rks,ra,rcp,rka,rkc,fa,fcp,hc⟩:=hv.open_;obtain⟨X,fs,fd,al⟩:=f;obtain⟨hx,hp,hfs⟩:=hsm;have hxe:X=.mk rk rch rng rrs rlo rhi rlz rks:=hc.rx;obtain⟨W0,hW0⟩:∃W0,W0=(w.alloc (.cells fc.toArray 41)).alloc (.cells #[.int .i64 0,.string ⟨#[]⟩,.bool false,.slice none 0 0,.int .i64 0,.int .i64 0,.bool false,.slice none 0 0,.slice none 0 0,.bool false,.bool false] 41):=⟨_,rfl⟩;have hb0:Below w.heap.size w W0:=by rw [hW0];exact((Below.refl _ _).alloc (Ju _) _).alloc gU _
 have hz0:W0.heap.size=w.heap.size+2:=by rw [hW0];simp
 have HB1:Hid (W0.heap[w.heap.size]?=some (.cells fc.toArray 41 (0,0))):=ab ib;have HB2:Hid (W0.heap[w.heap.size+1]?=some (.cells #[.int .i64 0,.string ⟨#[]⟩,.bool false,.slice none 0 0,.int .i64 0,.int .i64 0,.bool false,.slice none 0 0,.slice none 0 0,.bool false,.bool false] 41 (0,0))):=ab (by
  have:=heap_alloc_new (w.alloc (.cells fc.toArray 41)) (.cells #[.int .i64 0,.string ⟨#[]⟩,.bool false,.slice none 0 0,.int .i64 0,.int .i64 0,.bool false,.slice none 0 0,.slice none 0 0,.bool false,.bool false] 41)
  rw [hW0];simpa using this)
 have HXV:Hid (RxV W0 S (rxc rk rch rng ra rrs.length rcp rlo rhi rlz rka rks.length rkc) X):=ab (hxe▸hc.rv.later hb0);have HFS:Hid (SlS W0 S fa 5 fs.length (mu fs)):=ab (hc.fv.keep (Kept.all hb0));have HXS:=ab hx;obtain⟨rc,hrc⟩:∃rc,rc=rxc rk rch rng ra rrs.length rcp rlo rhi rlz rka rks.length rkc:=⟨_,rfl⟩;have hl8:rc.length=8:=by rw [hrc];rfl
 have hfce:fc=[.int .i64 rk,.string ⟨rch.toArray⟩,.bool rng,.slice ra rrs.length rcp,.int .i64 rlo,.int .i64 rhi,.bool rlz,.slice rka rks.length rkc,.slice fa fs.length fcp,.bool fd,.bool al]:=hc.eq;subst hfce;have HW0:=ab hW0;have HRC:=ab hrc;clear hv hc hx hxe hW0;go_enter Tryz.func43,Tryz.ntmps43
 go_upto_region 1 with fail
 rw [←HW0.out];refine mn 7 gT gT (fun A0 W0 L a w'=>XRI (w.heap.size+2) w.heap.size rc X fa fcp fs A0 W0 L a w') ?_;intro A0 HA;have hsz:A0.tmps.size=12:=by rw [HA.out];rfl
 have hnd:[3,4,5,6,7,8,9].Nodup:=gR;have hbd:∀d∈[3,4,5,6,7,8,9],d<A0.tmps.size:=by rw [hsz];decide
 have e1:A0.tmps[1]?=some (.pointer (some ⟨w.heap.size,0,none⟩)):=by rw [HA.out];rfl
 have hM:=XFs_mono (w.heap.size+2) w.heap.size rc X fa fcp fs;have hbx:∀w',Below W0.heap.size W0 w'→w'.heap[w.heap.size]?=some (.cells (rc++[Value.slice fa fs.length fcp,Value.bool fd,Value.bool al]).toArray 41 (0,0)):=fun w' h=>by rw [HRC.out];exact(h.block _ (kT HB1.out)).trans HB1.out
 refine⟨?_,?_,?_⟩
 ·obtain⟨V,hV⟩:=nT A0 [3,4,5,6,7,8,9]
  exact⟨V,⟨hV⟩,BelI.start _ _ _⟩
 ·refine⟨?_,?_,?_,?_,?_,?_,?_,trivial⟩
  ·intro L a w' hL hd hI
   obtain⟨V,hf,hB⟩:=hI;simp [lm,Region.binds] at hd
   have e:=lU ((hf.out (t:=1) gR).trans e1);refine lR (lg rfl) (v:=.pointer (some ⟨w.heap.size,0,none⟩)) (w':=w') ig ?_;exact ey
  ·intro L a w' hL hd hI
   obtain⟨V,hf,hB⟩:=hI;simp [lm,Region.binds] at hd
   refine kV rfl 38 (.tmp 3) rfl w.heap.size 0 (lU ((hf.ins hnd hbd 0 rfl).trans (Jp some (show V 0=.pointer (some ⟨w.heap.size,0,none⟩) from hB.at_ 0 gW)))) rc _ (lc (hbx w' hB.ext)) mb rfl (by rw [Ge,hl8]) ?_;exact dy
  ·intro L a w' hL hd hI
   obtain⟨V,hf,hB⟩:=hI;simp [lm,Region.binds] at hd
   have e:=(lU ((hf.ins hnd hbd 1 rfl).trans (Jp some (show V 1=.agg rc.toArray from hB.at_ 1 gW))));have hxv:=HXV.out.later hB.ext;rw [←HRC.out] at hxv;refine qS (lg rfl) (qV (vs:=#[.agg rc.toArray]) rfl Tryz.func60 gT il) ((wy S X.parts X (Ju _) HXS.out rc w' hxv).mono ?_);rintro e9 w9 ⟨rc',rfl,hv9,hb9⟩;refine⟨_,rfl,?_⟩;exact⟨_,hf.put hnd hbd 2 rfl _,hB.step hM 2 hb9 ⟨rc',rfl,hv9.mono fun b hb _=>by have:=hB.ext.size;have:w'.heap.size≤b:=hb;show w.heap.size+2≤b;omega⟩⟩
  ·intro L a w' hL hd hI
   obtain⟨V,hf,hB⟩:=hI;simp [lm,Region.binds] at hd
   have e:=lU ((hf.out (t:=1) gR).trans e1);refine lR (lg rfl) (v:=.pointer (some ⟨w.heap.size,8,none⟩)) (w':=w') ig ?_;exact ez
  ·intro L a w' hL hd hI
   obtain⟨V,hf,hB⟩:=hI;simp [lm,Region.binds] at hd
   have e:=(hf.ins hnd hbd 3 rfl).trans (Jp some (show V 3=.pointer (some ⟨w.heap.size,8,none⟩) from hB.at_ 3 gW));have hcell:w'.cell? ⟨w.heap.size,8,none⟩=some (.slice fa fs.length fcp):=by rw [Jw (hbx w' hB.ext)];simp [hl8]
   refine lR (lg rfl) (qG rfl e (u:=.slice fa fs.length fcp) kP) ?_;exact⟨_,hf.put hnd hbd 4 rfl _,hB.same hM 4 rfl⟩
  ·intro L a w' hL hd hI
   obtain⟨V,hf,hB⟩:=hI;simp [lm,Region.binds] at hd
   have e:=(lU ((hf.ins hnd hbd 4 rfl).trans (Jp some (show V 4=.slice fa fs.length fcp from hB.at_ 4 gW))));refine qS (lg rfl) (qV (vs:=#[.slice fa fs.length fcp]) rfl Tryz.func61 gT il) ((Db fa fs.length fcp fs w' rfl (HFS.out.keep (Kept.all hB.ext)).sl hfs).mono ?_);rintro e9 w9 ⟨a9,c9,rfl,hv9,hb9⟩;refine⟨_,rfl,?_⟩;exact⟨_,hf.put hnd hbd 5 rfl _,hB.step hM 5 hb9 ⟨a9,c9,rfl,hv9.mono fun b hb _=>by have:=hB.ext.size;have:w'.heap.size≤b:=hb;show w.heap.size+2≤b;omega⟩⟩
  ·intro L a w' hL hd hI
   obtain⟨V,hf,hB⟩:=hI;simp [lm,Region.binds] at hd
   have e:=lU ((hf.out (t:=1) gR).trans e1);refine lR (lg rfl) (v:=.pointer (some ⟨w.heap.size,0,none⟩)) (w':=w') ig ?_;exact⟨_,hf.put hnd hbd 6 rfl _,hB.same hM 6 rfl⟩
 ·intro L a w' hL hI
  obtain⟨V,hf,hB⟩:=hI;obtain⟨rc',hv2,hxv⟩:=(show RxP (w.heap.size+2) X (V 2) w' from hB.at_ 2 (hL 2 gR));obtain⟨a9,c9,hv5,hsv⟩:=(show SlP (w.heap.size+2) 5 fs.length (mu fs) (V 5) w' from hB.at_ 5 (hL 5 gR));have hv6:V 6=.pointer (some ⟨w.heap.size,0,none⟩):=hB.at_ 6 (hL 6 gR);have hbx':=hbx w' hB.ext;have hby:=(hB.ext.block _ (kT HB2.out)).trans HB2.out;have hbw:=bel2 hb0 hB.ext;have ha:=hf.eq;have hA:=HA.out;obtain⟨qk,qch,qng,qrs,qlo,qhi,qlz,qks⟩:=X;obtain⟨qa,qc,qb,qd,rfl,hq1,hq2⟩:=hxv.open_;unfold rxc at hv2;have HXV':=ab (RxV.close (k:=qk) (c:=qch) (ng:=qng) (lo:=qlo) (hi:=qhi) (lz:=qlz) (rc:=qc) (kc:=qd) hq1 hq2);have HSV:=ab hsv;have HBW:=ab hbw;have HBX:=ab hbx';have HBY:=ab hby;have hzw:=hB.ext.size;subst ha;subst hA;simp only [mW,hv2,hv5,hv6,List.drop_succ_cons,JZ];rw [HRC.out] at HBX;have hbx:=HBX.out;unfold rxc at hbx;clear hf hB hM hbd hsz e1 HA hv2 hv5 hv6 hxv hsv hq1 hq2 hbx' hby hL HB1 HB2 HXV HFS HXS HW0;have z0:=kU hbx 0 rfl;have z1:=kU hbx 1 rfl;have z2:=kU hbx 2 rfl;have z3:=kU hbx 3 rfl;have z4:=kU hbx 4 rfl;have z5:=kU hbx 5 rfl;have z6:=kU hbx 6 rfl;have z7:=kU hbx 7 rfl;have z8:=kU hbx 8 rfl;have zf:=mg hbx;obtain⟨W7,hW7⟩:∃W7,W7=(((((((((w'.setCell ⟨w.heap.size,0,none⟩ (.int .i64 qk)).setCell ⟨w.heap.size,1,none⟩ (.string ⟨qch.toArray⟩)).setCell ⟨w.heap.size,2,none⟩ (.bool qng)).setCell ⟨w.heap.size,3,none⟩ (.slice qa qrs.length qc)).setCell ⟨w.heap.size,4,none⟩ (.int .i64 qlo)).setCell ⟨w.heap.size,5,none⟩ (.int .i64 qhi)).setCell ⟨w.heap.size,6,none⟩ (.bool qlz)).setCell ⟨w.heap.size,7,none⟩ (.slice qb qks.length qd)).setCell ⟨w.heap.size,8,none⟩ (.slice a9 fs.length c9)):=⟨_,rfl⟩;have hW7':W7=setsL w.heap.size 0 [.int .i64 qk,.string ⟨qch.toArray⟩,.bool qng,.slice qa qrs.length qc,.int .i64 qlo,.int .i64 qhi,.bool qlz,.slice qb qks.length qd,.slice a9 fs.length c9] w':=hW7;have HX7:Hid (W7.heap[w.heap.size]?=some (.cells #[.int .i64 qk,.string ⟨qch.toArray⟩,.bool qng,.slice qa qrs.length qc,.int .i64 qlo,.int .i64 qhi,.bool qlz,.slice qb qks.length qd,.slice a9 fs.length c9,.bool fd,.bool al] 41 (0,0))):=ab (by
   rw [hW7'];exact rh (post:=[.bool fd,.bool al]) [.int .i64 qk,.string ⟨qch.toArray⟩,.bool qng,.slice qa qrs.length qc,.int .i64 qlo,.int .i64 qhi,.bool qlz,.slice qb qks.length qd,.slice a9 fs.length c9] [.int .i64 rk,.string ⟨rch.toArray⟩,.bool rng,.slice ra rrs.length rcp,.int .i64 rlo,.int .i64 rhi,.bool rlz,.slice rka rks.length rkc,.slice fa fs.length fcp] [] hbx rfl)
  have HY7:Hid (W7.heap[w.heap.size+1]?=some (.cells #[.int .i64 0,.string ⟨#[]⟩,.bool false,.slice none 0 0,.int .i64 0,.int .i64 0,.bool false,.slice none 0 0,.slice none 0 0,.bool false,.bool false] 41 (0,0))):=ab (by rw [hW7',mL gN];exact HBY.out);have HBW7:Hid (Below w.heap.size w W7):=ab (by rw [hW7'];exact wU HBW.out (Ju _) _ _);have hk7:Kept (fun b=>w.heap.size+2≤b) w' W7:=⟨by rw [hW7',mP];exact Ju _,fun b hb _=>by have:w.heap.size+2≤b:=hb;rw [hW7',mL gN]⟩;have HV7:Hid (TfV W7 (fun b=>w.heap.size+2≤b) [.int .i64 qk,.string ⟨qch.toArray⟩,.bool qng,.slice qa qrs.length qc,.int .i64 qlo,.int .i64 qhi,.bool qlz,.slice qb qks.length qd,.slice a9 fs.length c9,.bool fd,.bool al] ⟨.mk qk qch qng qrs qlo qhi qlz qks,fs,fd,al⟩):=ab ⟨_,a9,c9,HXV'.out.keep hk7,HSV.out.keep hk7,rfl⟩;have HON7:=ab HV7.out.one;clear hW7';go_upto_region 2 with fail
  rw [←hW7];clear hW7 z0 z1 z2 z3 z4 z5 z6 z7 z8 zf hbx hk7;have HB9:=ab (mF (w:=W7) (cs:=#[.int .i64 qk,.string ⟨qch.toArray⟩,.bool qng,.slice qa qrs.length qc,.int .i64 qlo,.int .i64 qhi,.bool qlz,.slice qb qks.length qd,.slice a9 fs.length c9,.bool fd,.bool al]) HY7.out);go_wp2_with (first|(refine kV rfl 41 (.tmp 1) rfl (w.heap.size) 0 rfl ([.int .i64 qk,.string ⟨qch.toArray⟩,.bool qng,.slice qa qrs.length qc,.int .i64 qlo,.int .i64 qhi,.bool qlz,.slice qb qks.length qd,.slice a9 fs.length c9,.bool fd,.bool al]) _ (lc (ds:=[]) (HX7.out)) mG rfl (by rw [oT];rfl) ?_)|(refine ll rfl 41 (.tmp 2) (.tmp 11) rfl ((w.heap.size+1)) (#[.int .i64 qk,.string ⟨qch.toArray⟩,.bool qng,.slice qa qrs.length qc,.int .i64 qlo,.int .i64 qhi,.bool qlz,.slice qb qks.length qd,.slice a9 fs.length c9,.bool fd,.bool al]) rfl rfl 41 _ (HY7.out) (oT) rfl rfl (HON7.out) (W:=(W7.setRow (w.heap.size+1) #[.int .i64 qk,.string ⟨qch.toArray⟩,.bool qng,.slice qa qrs.length qc,.int .i64 qlo,.int .i64 qhi,.bool qlz,.slice qb qks.length qd,.slice a9 fs.length c9,.bool fd,.bool al])) (rfl) ?_))
  refine JM (res_box1 Tryz.results43 mG oT HB9.out rfl rfl) rfl ?_;refine⟨_,rfl,(HV7.out.keep ⟨by rw [vC];exact Ju _,fun b hb _=>nj _ (by have:w.heap.size+2≤b:=hb;omega)⟩).mono fun b hb _=>by have:w.heap.size+2≤b:=hb;show w.heap.size≤b;omega,uw HBW7.out gN _⟩
def Jf (n:Nat) (w:World) (q:Value) (wr:World):Prop:=∃i:Nat,i≤n∧q=.int .i64 i∧Below w.heap.size w wr
theorem xQ (a a':Option Addr) (c c':Nat) (rs:List (Str × Str)) (w:World) (h:Sl w w.heap.size a 2 rs.length (lw rs)) (h':Sl w w.heap.size a' 2 rs.length (lw rs)) (hl:rs.length≤1000000) :
  Calls Tryz.prog 78 #[.slice a rs.length c,.slice a' rs.length c'] w fun e w'=>e=.returned (.bool true)∧Below w.heap.size w w':=by
 have H1:=ab h;have H2:=ab h';clear h h';go_enter Tryz.func78,Tryz.ntmps78
 go_wp2
 go_loopw [13] (fun q wr=>Jf rs.length w q wr) (fun q _=>rs.length-(intOf q).toNat)
 case atStart=>exact dD
 case round =>
  obtain⟨i,hi,rfl,hb⟩:=hrel;cases hd:rs[i]? with
  | none =>
   have h2:rs.length≤i:=it;exact dE
  | some r =>
   have h2:=(Jx.1 hd).1;obtain⟨b,o,rfl,hb1,c0,c1⟩:=(H1.out.keep hb).row hd;obtain⟨b',o',rfl,hb1',c0',c1'⟩:=(H2.out.keep hb).row hd;obtain⟨x,y⟩:=r;simp only at c0 c1 c0' c1'
   clear hd;exact cM
def SameC (y:Rx):Prop:=∀(S S':Nat→Prop) (cc cc':List Value) (w:World),RxV w S cc y→RxV w S' cc' y →
 Calls Tryz.prog 62 #[.agg cc.toArray,.agg cc'.toArray] w fun e w'=>e=.returned (.bool true)∧Below w.heap.size w w'
theorem RxV.box' {w:World} {S:Nat→Prop} {cc:List Value} {k:Int} {c:Str} {ng:Bool} {rs:List (Str × Str)} {lo hi:Int} {lz:Bool} {ks:List Rx} (h:RxV w S cc (.mk k c ng rs lo hi lz ks)) :
  ∃ra rc ka kc,cc=rxc k c ng ra rs.length rc lo hi lz ka ks.length kc∧Sl w w.heap.size ra 2 rs.length (lw rs)∧RxSl w S ka ks.length ks:=by
 obtain⟨ra,rc,ka,kc,h1,h2,h3⟩:=h.open_;exact⟨ra,rc,ka,kc,h1,h2.sl,h3⟩
theorem CA (S S':Nat→Prop) (a a':Option Addr) (c c':Nat) (ks:List Rx) (w:World) (IH:∀y∈ks,SameC y) (h:RxSl w S a ks.length ks) (h':RxSl w S' a' ks.length ks) (hl:ks.length≤1000000) :
  Calls Tryz.prog 79 #[.slice a ks.length c,.slice a' ks.length c',.func (.func 62) #[] #[]] w fun e w'=>e=.returned (.bool true)∧Below w.heap.size w w':=by
 have H1:=ab h;have H2:=ab h';have HIH:=ab IH;clear h h' IH;go_enter Tryz.func79,Tryz.ntmps79
 go_wp2
 go_loopw [17] (fun q wr=>Jf ks.length w q wr) (fun q _=>ks.length-(intOf q).toNat)
 case atStart=>exact dD
 case round =>
  obtain⟨i,hi,rfl,hb⟩:=hrel;cases hd:ks[i]? with
  | none =>
   have h2:ks.length≤i:=it;exact dE
  | some y =>
   have h2:=(Jx.1 hd).1;have HY:=ab (HIH.out y (JH hd));obtain⟨k,ch,ng,rs,lo,hi',lz,xs⟩:=y;obtain⟨b,o,ra,rc,ka,kc,rfl,_,hb1,_,_,hv1,c0,c1,c2,c3,c4,c5,c6,c7⟩:=(H1.out.later hb).cells hd;obtain⟨b',o',ra',rc',ka',kc',rfl,_,hb1',_,_,hv1',d0,d1,d2,d3,d4,d5,d6,d7⟩:=(H2.out.later hb).cells hd;have hbn:Below wr.heap.size wr ((wr.alloc (.cells (rxc k ch ng ra rs.length rc lo hi' lz ka xs.length kc).toArray 38)).alloc (.cells (rxc k ch ng ra' rs.length rc' lo hi' lz ka' xs.length kc').toArray 38)):=((Below.refl _ _).alloc (Ju _) _).alloc gU _;have HC:=ab (HY.out S S' _ _ _ (hv1.later hbn) (hv1'.later hbn));unfold rxc at HC hbn;have hB:=hb.size;clear hd hv1 hv1' HY;go_wp2_with (go_at_call 62;refine HC.out.mono ?_)
   rintro e w2 ⟨rfl,hb2⟩;have hb3:Below w.heap.size w w2:=(hb.trans (hbn.mono hB)).trans (hb2.mono (Jv hB hbn.size));clear hbn hb2 HC;go_wp2
   exact⟨⟨i+1,by omega,by go_num,hb3⟩,by simp [intOf];omega⟩
theorem Ee:∀(N:Nat) (x:Rx),x.parts≤N→x.small→SameC x
 | 0,x,h,_=>by have:=Rx.parts_pos x;omega
 | N+1,.mk k c ng rs lo hi lz ks,h,hsm=>by
  intro S S' cc cc' w hv hv';obtain⟨ra,rc,ka,kc,rfl,hrs,hks⟩:=hv.box';obtain⟨ra',rc',ka',kc',rfl,hrs',hks'⟩:=hv'.box';obtain⟨⟨s1,s2,s3,s4⟩,hsmL⟩:=hsm;simp only [Rx.parts] at h;have ih:∀y∈ks,SameC y:=fun y hy=>Ee N y jv (oG hsmL hy)
  have HIH:=ab ih;have hbn:Below w.heap.size w ((w.alloc (.cells (rxc k c ng ra rs.length rc lo hi lz ka ks.length kc).toArray 38)).alloc (.cells (rxc k c ng ra' rs.length rc' lo hi lz ka' ks.length kc').toArray 38)):=((Below.refl _ _).alloc (Ju _) _).alloc gU _;obtain⟨w0,hw0⟩:∃w0,w0=(w.alloc (.cells (rxc k c ng ra rs.length rc lo hi lz ka ks.length kc).toArray 38)).alloc (.cells (rxc k c ng ra' rs.length rc' lo hi lz ka' ks.length kc').toArray 38):=⟨_,rfl⟩;rw [←hw0] at hbn;have hz0:=hbn.size;have hx1:w0.heap[w.heap.size]?=some (.cells (rxc k c ng ra rs.length rc lo hi lz ka ks.length kc).toArray 38 (0,0)):=by rw [hw0,Below.heap_alloc _ _ _ gU];exact heap_alloc_new w _
  have hx2:w0.heap[w.heap.size+1]?=some (.cells (rxc k c ng ra' rs.length rc' lo hi lz ka' ks.length kc').toArray 38 (0,0)):=by
   rw [hw0];have:=heap_alloc_new (w.alloc (.cells (rxc k c ng ra rs.length rc lo hi lz ka ks.length kc).toArray 38)) (.cells (rxc k c ng ra' rs.length rc' lo hi lz ka' ks.length kc').toArray 38);simpa using this
  have HX1:=ab hx1;have HX2:=ab hx2;have HEQ:=ab (xQ ra ra' rc rc' rs w0 ((hrs.keep hbn).mono hz0) ((hrs'.keep hbn).mono hz0) s2);have HK:=ab (hks.later hbn);have HK':=ab (hks'.later hbn);clear hks hks' hrs hrs' hv hv' ih hx1 hx2;unfold rxc at hw0 HX1 HX2 ⊢;go_enter Tryz.func62,Tryz.ntmps62
  go_upto_region 1 with fail
  rw [←hw0];clear hw0;obtain⟨e0,e1,e2,e3,e4,e5,e6,e7,e8⟩:=kY HX1.out;obtain⟨d0,d1,d2,d3,d4,d5,d6,d7,d8⟩:=kY HX2.out;go_wp2_with (go_at_call 78;refine HEQ.out.mono ?_)
  rintro e w1 ⟨rfl,hb1⟩;have hx1:=(hb1.block _ (kT HX1.out)).trans HX1.out;have hx2:=(hb1.block _ (kT HX2.out)).trans HX2.out;have hbw1:=bel2 hbn hb1;have HEF:=ab (CA S S' ka ka' kc kc' ks w1 HIH.out (HK.out.later hb1) (HK'.out.later hb1) s4);clear e0 e1 e2 e3 e4 e5 e6 e7 e8 d0 d1 d2 d3 d4 d5 d6 d7 d8 HEQ;obtain⟨e0,e1,e2,e3,e4,e5,e6,e7,e8⟩:=kY hx1;obtain⟨d0,d1,d2,d3,d4,d5,d6,d7,d8⟩:=kY hx2;clear hx1 hx2 hb1;go_wp2_with (go_at_call 79;refine HEF.out.mono ?_)
  rintro e w2 ⟨rfl,hb2⟩;have hbw2:=bel2 hbw1 hb2;go_wp2
  go_ret
  exact⟨rfl,hbw2⟩
theorem GA {x:Rx} {S S':Nat→Prop} {cc cc':List Value} (w:World) (hs:x.small) (h:RxV w S cc x) (h':RxV w S' cc' x) :
  Calls Tryz.prog 62 #[.agg cc.toArray,.agg cc'.toArray] w fun e w'=>e=.returned (.bool true)∧Below w.heap.size w w':=Ee _ x (Ju _) hs S S' cc cc' w h h'
theorem EqualStr (a a':Option Addr) (c c':Nat) (l:List Str) (w:World) (h:Sl w w.heap.size a 1 l.length (mE l)) (h':Sl w w.heap.size a' 1 l.length (mE l)) (hl:l.length≤1000000) :
  Calls Tryz.prog 46 #[.slice a l.length c,.slice a' l.length c'] w fun e w'=>e=.returned (.bool true)∧Below w.heap.size w w':=by
 have H1:=ab h;have H2:=ab h';clear h h';go_enter Tryz.func46,Tryz.ntmps46
 go_wp2
 go_loopw [13] (fun q wr=>Jf l.length w q wr) (fun q _=>l.length-(intOf q).toNat)
 case atStart=>exact dD
 case round =>
  obtain⟨i,hi,rfl,hb⟩:=hrel;cases hd:l[i]? with
  | none =>
   have h2:l.length≤i:=it;exact dE
  | some x =>
   have h2:=(Jx.1 hd).1;obtain⟨b,o,rfl,hb1,hc⟩:=(H1.out.keep hb).2 gN;obtain⟨b',o',rfl,hb1',hc'⟩:=(H2.out.keep hb).2 gN;have c0:=hc i (.string ⟨x.toArray⟩) (by simp [mE,hd]);have c0':=hc' i (.string ⟨x.toArray⟩) (by simp [mE,hd]);clear hd hc hc';exact cM
theorem GW (a a':Option Addr) (c c':Nat) (l:List Fm) (w:World) (h:Sl w w.heap.size a 5 l.length (mu l)) (h':Sl w w.heap.size a' 5 l.length (mu l)) (hl:l.length≤1000000) :
  Calls Tryz.prog 63 #[.slice a l.length c,.slice a' l.length c'] w fun e w'=>e=.returned (.bool true)∧Below w.heap.size w w':=by
 have H1:=ab h;have H2:=ab h';clear h h';go_enter Tryz.func63,Tryz.ntmps63
 go_wp2
 go_loopw [13] (fun q wr=>Jf l.length w q wr) (fun q _=>l.length-(intOf q).toNat)
 case atStart=>exact dD
 case round =>
  obtain⟨i,hi,rfl,hb⟩:=hrel;cases hd:l[i]? with
  | none =>
   have h2:l.length≤i:=it;exact dE
  | some x =>
   have h2:=(Jx.1 hd).1;obtain⟨b,o,rfl,hb1,c0,c1,c2,c3,c4⟩:=(H1.out.keep hb).fm hd;obtain⟨b',o',rfl,hb1',d0,d1,d2,d3,d4⟩:=(H2.out.keep hb).fm hd;obtain⟨x0,x1,x2,x3,x4⟩:=x;simp only at c0 c1 c2 c3 c4 d0 d1 d2 d3 d4
   clear hd;exact cM
theorem Ht (S S':Nat→Prop) (f:Tf) (hsm:f.small) (fc fc':List Value) (w:World) (hv:TfV w S fc f) (hv':TfV w S' fc' f) :
  Calls Tryz.prog 45 #[.agg fc.toArray,.agg fc'.toArray] w fun e w'=>e=.returned (.bool true)∧Below w.heap.size w w':=by
 obtain⟨rk,rch,rng,rrs,rlo,rhi,rlz,rks,ra,rcp,rka,rkc,fa,fcp,hc⟩:=hv.open_;obtain⟨qk,qch,qng,qrs,qlo,qhi,qlz,qks,qa,qcp,qka,qkc,ga,gcp,hd⟩:=hv'.open_;obtain⟨X,fs,fd,al⟩:=f;obtain⟨hx,hp,hfs⟩:=hsm;have hx1:X=.mk rk rch rng rrs rlo rhi rlz rks:=hc.rx;have hx2:X=.mk qk qch qng qrs qlo qhi qlz qks:=hd.rx;have hfce:fc=[.int .i64 rk,.string ⟨rch.toArray⟩,.bool rng,.slice ra rrs.length rcp,.int .i64 rlo,.int .i64 rhi,.bool rlz,.slice rka rks.length rkc,.slice fa fs.length fcp,.bool fd,.bool al]:=hc.eq;have hfde:fc'=[.int .i64 qk,.string ⟨qch.toArray⟩,.bool qng,.slice qa qrs.length qcp,.int .i64 qlo,.int .i64 qhi,.bool qlz,.slice qka qks.length qkc,.slice ga fs.length gcp,.bool fd,.bool al]:=hd.eq;obtain⟨W0,hW0⟩:∃W0,W0=(w.alloc (.cells fc.toArray 41)).alloc (.cells fc'.toArray 41):=⟨_,rfl⟩;have hb0:Below w.heap.size w W0:=by rw [hW0];exact((Below.refl _ _).alloc (Ju _) _).alloc gU _
 have HB1:Hid (W0.heap[w.heap.size]?=some (.cells fc.toArray 41 (0,0))):=ab ib;have HB2:Hid (W0.heap[w.heap.size+1]?=some (.cells fc'.toArray 41 (0,0))):=ab (by
  have:=heap_alloc_new (w.alloc (.cells fc.toArray 41)) (.cells fc'.toArray 41)
  rw [hW0];simpa using this)
 have HXV:Hid (RxV W0 S [.int .i64 rk,.string ⟨rch.toArray⟩,.bool rng,.slice ra rrs.length rcp,.int .i64 rlo,.int .i64 rhi,.bool rlz,.slice rka rks.length rkc] X):=ab (hx1▸hc.rv.later hb0);have HXV':Hid (RxV W0 S' [.int .i64 qk,.string ⟨qch.toArray⟩,.bool qng,.slice qa qrs.length qcp,.int .i64 qlo,.int .i64 qhi,.bool qlz,.slice qka qks.length qkc] X):=ab (hx2▸hd.rv.later hb0);have HFS:Hid (SlS W0 S fa 5 fs.length (mu fs)):=ab (hc.fv.keep (Kept.all hb0));have HFS':Hid (SlS W0 S' ga 5 fs.length (mu fs)):=ab (hd.fv.keep (Kept.all hb0));have HXS:=ab hx;have HFL:=ab hfs;subst hfce;subst hfde;have HW0:=ab hW0;clear hv hv' hc hd hx hx1 hx2 hW0 hfs;go_enter Tryz.func45,Tryz.ntmps45
 go_upto_region 1 with fail
 rw [←HW0.out];clear HW0;go_wp2_with (first
  | (refine kV rfl 38 (.tmp 5) rfl w.heap.size 0 rfl [.int .i64 rk,.string ⟨rch.toArray⟩,.bool rng,.slice ra rrs.length rcp,.int .i64 rlo,.int .i64 rhi,.bool rlz,.slice rka rks.length rkc] _ (lc (ds:=[.slice fa fs.length fcp,.bool fd,.bool al]) HB1.out) mb rfl iB ?_)
  | (refine kV rfl 38 (.tmp 7) rfl (w.heap.size+1) 0 rfl [.int .i64 qk,.string ⟨qch.toArray⟩,.bool qng,.slice qa qrs.length qcp,.int .i64 qlo,.int .i64 qhi,.bool qlz,.slice qka qks.length qkc] _ (lc (ds:=[.slice ga fs.length gcp,.bool fd,.bool al]) HB2.out) mb rfl iB ?_)
  | (go_at_call 62;refine(GA W0 HXS.out HXV.out HXV'.out).mono ?_))
 first|rintro e w1 rfl hb1|rintro e w1 ⟨rfl,hb1⟩
 have hx1:=(hb1.block _ (kT HB1.out)).trans HB1.out;have hx2:=(hb1.block _ (kT HB2.out)).trans HB2.out;have z8:=kU hx1 8 rfl;have y8:=kU hx2 8 rfl;have HE:=ab (GW fa ga fcp gcp fs w1 (HFS.out.keep (Kept.all hb1)).sl (HFS'.out.keep (Kept.all hb1)).sl HFL.out);go_wp2_with (go_at_call 63;refine HE.out.mono ?_)
 first|rintro e w2 rfl hb2|rintro e w2 ⟨rfl,hb2⟩
 have hx1':=(hb2.block _ (kT hx1)).trans hx1;have hx2':=(hb2.block _ (kT hx2)).trans hx2;have z9:=kU hx1' 9 rfl;have y9:=kU hx2' 9 rfl;have z10:=kU hx1' 10 rfl;have y10:=kU hx2' 10 rfl;have hbw:=bel2 (bel2 hb0 hb1) hb2;clear hx1 hx2 hx1' hx2' z8 y8;go_wp2
 go_ret
 exact⟨rfl,hbw⟩
end Go.Proofs.YtdcnncgpomcaaaaGreatDoor
