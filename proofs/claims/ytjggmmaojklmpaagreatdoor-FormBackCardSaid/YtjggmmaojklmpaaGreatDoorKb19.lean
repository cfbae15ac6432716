/- From a walk to a row: the arguments read as they did, whatever new blocks the call has made. -/
import Derived.Test.YtjggmmaojklmpaaGreatDoorKb2
import Derived.Test.YtjggmmaojklmpaaGreatDoorRows
import Derived.ProofKit
import Derived.OpenShut
import Derived.ShutString
import Derived.Shelf.Small.Strs
import Derived.Shelf.Strconv.Itoa3
import Derived.Shelf.Bits.Mul64
set_option maxRecDepth 100000
set_option maxHeartbeats 4000000
namespace Go.Proofs.YtjggmmaojklmpaaGreatDoor
open Go.RowKit Go.WideShapes Go.ChangeShapes
theorem own:ownKnob Tryz.prog.godebug=none:=by kernel_rfl
section
variable {H:Type} {enc:TypeId × Value→H} {P:Program}
theorem qv (hl:laidOutB P=true) {W W':World} (hb:Below W.heap.size W W'):∀{ts:List TypeId} {vs:List Value} {ds:List (DataW H)} {ps:List MemPlace},
  (∀t∈ts,P.readableRec t=true∧t<P.types.size)→DataW.TrodAll enc P W 0 (fun _=>true) true ts vs ds ps→(∀p∈ps,p.block<W.heap.size)→∀sp:Nat→Bool,(∀p∈ps,sp p.block=true) →
  DataW.TrodAll enc P W' 0 sp true ts vs ds ps
 | [],vs,ds,ps,_,h,_,sp,_=>by
  obtain⟨rfl,rfl,rfl⟩:=trodAll_nil h;exact trodAll_mk0
 | t::ts,vs,ds,ps,ht,h,hlt,sp,hsp=>by
  obtain⟨v,vs',d,ds',p,q,rfl,rfl,rfl,h1,h2⟩:=trodAll_cons h;obtain⟨r1,r2⟩:=ht t (DH ..);exact trodAll_cons_mk (WideElems.Trod_stays hl r1 r2 h1 (fun x hx=>hb.same (hlt x (List.mem_append_left _ hx))) (fun x hx=>hsp x (List.mem_append_left _ hx)))
   (qv hl hb (fun t hm=>ht t (DI _ hm)) h2 (fun x hx=>hlt x (List.mem_append_right _ hx)) sp (fun x hx=>hsp x (List.mem_append_right _ hx)))
theorem uj {f:Func} {s:ChangeSpec} {apart fresh handsOn again:Bool} {W W':World} {args:Array Value} {v:Value} {ds gs:List (DataW H)} {before pa pv:List MemPlace}
  (hW:DataW.Whole enc P f.params.toList s.vars apart W args.toList ds gs before)
  (hres:∀(b:Nat) (sp:Nat→Bool) (hd:Bool),DataW.TrodAll enc P W' b sp hd f.resultTypes.toList (v.resultList f.resultTypes.size) (s.fn H (ds++gs)).results [])
  (hargs:∀sp:Nat→Bool,(∀p∈before,sp p.block=true)→DataW.TrodAll enc P W' 0 sp true f.params.toList args.toList (s.fn H (ds++gs)).args pa)
  (hvars:∀sp:Nat→Bool,(∀p∈before,sp p.block=true)→DataW.TrodVars enc P W' sp s.vars (s.fn H (ds++gs)).vars pv)
  (hps:before=pa++pv) (hb:Below W.heap.size W W')
  (hok:∀(j:Nat) (t:TypeId) (r:Value),f.resultTypes[j]?=some t→(v.resultList f.resultTypes.size)[j]?=some r→Value.okWide P W' .any 0 t r) :
  s.post enc P f apart fresh handsOn again W args v W':=by
 have hlt:∀p∈before,p.block<W.heap.size:=fun p hp=>hW.lt p hp
 have hold:∀p∈before,(fun b=>decide (b<W.heap.size)) p.block=true:=fun p hp=>by simpa using hlt p hp
 refine⟨ds,gs,before,[],pa,pv,hW,hres _ _ _,hargs _ hold,hvars _ hold,World.keptBut_mono (fun p hp=>⟨hp,?_⟩) (hb.frame (·∈before)),fun _=>?_⟩
 ·rw [hps,DZ] at hp
  exact Or.inr hp
 ·obtain⟨_,_,_,_,_,hz,hn⟩:=hW
  refine⟨hok,_,_,([]++pa)++pv,⟨[]++pa,pv,trodAll_append (hargs _ (fun _ _=>rfl)) (hres _ _ _),hvars _ (fun _ _=>rfl),rfl,?_,?_⟩,?_⟩
  ·intro b off hp
   have hin:MemPlace.cell b off∈before:=by rw [hps];simpa using hp
   rw [hb.frozen (hlt _ hin)];exact hz b off hin
  ·intro ha
   have:=hn ha
   rw [hps] at this;simpa using this
  ·intro p hp _
   rw [hps];simpa using hp
end
def dec (n:Int):Str:=Lib.decDigits n.toNat
theorem s7 {u:Nat} (h:u≤9999):1≤Lib.nDigits u∧Lib.nDigits u≤4:=by
 have h1:∀v,v<10→Lib.nDigits v=1:=fun v hv=>by rw [Lib.nDigits,dif_pos hv]
 have h2:∀v,¬v<10→Lib.nDigits v=Lib.nDigits (v / 10)+1:=fun v hv=>by rw [Lib.nDigits,dif_neg hv]
 by_cases a:u<10
 ·rw [h1 u a];omega
 ·rw [h2 u a]
  by_cases b:u / 10<10
  ·rw [h1 _ b];omega
  ·rw [h2 _ b]
   by_cases c:u / 10 / 10<10
   ·rw [h1 _ c];omega
   ·rw [h2 _ c,h1 _ fR];omega
theorem nJ {n:Int} (h0:0≤n) (h:n≤9999):1≤(dec n).length∧(dec n).length≤4:=by
 unfold dec;rw [Lib.decDigits_length];exact s7 fR
def escL (th c:Str):Str :=
 if c=[10] then [92,110] else if c=[13] then [92,114] else if c=[9] then [92,116] else if c=[12] then [92,102] else if c=[11] then [92,118]
 else if th.contains (c.headD 0)=true then 92::c else c
def oftS (lo hi:Int):Str :=
 if lo=0∧hi=-1 then [42] else if lo=1∧hi=-1 then [43] else if lo=0∧hi=1 then [63] else if lo=hi then 123::(dec lo++[125])
 else if hi=-1 then 123::(dec lo++[44,125]) else 123::(dec lo++44::(dec hi++[125]))
def th1:Str:=[94,36,92,46,42,43,63,40,41,91,93,123,125,124,47]
def th2:Str:=[94,45,92,91,93,47]
def rowS (r:Str × Str):Str:=escL th2 r.1++(if r.2=r.1 then [] else 45::escL th2 r.2)
def setS (ng:Bool) (rs:List (Str × Str)):Str:=91::((if ng=true then [94] else [])++(rs.flatMap rowS++[93]))
namespace Rx
mutual
def tell:Rx→Str
 | mk k c ng rs lo hi lz ks =>
  if k=0 then tellL ks
  else if k=1 then tellA false ks
  else if k=2 then escL th1 c
  else if k=3 then [46]
  else if k=8 then [94]
  else if k=9 then [36]
  else if k=10 then [92,98]
  else if k=11 then [92,66]
  else if k=4 then setS ng rs
  else if k=5 then 40::(tellL ks++[41])
  else if k=6 then 40::63::58::(tellL ks++[41])
  else tellL ks++(oftS lo hi++(if lz=true then [63] else []))
def tellL:List Rx→Str
 | []=>[]
 | x::r=>tell x++tellL r
def tellA:Bool→List Rx→Str
 | _,[]=>[]
 | b,x::r=>(if b=true then [124] else [])++(tell x++tellA true r)
end
end Rx
theorem oftS_len {lo hi:Int} (h0:0≤lo) (h1:lo≤255) (h2:hi=-1∨lo≤hi∧hi≤255):(oftS lo hi).length≤12:=by
 have a:=nJ h0 (by omega:lo≤9999);unfold oftS;split
 ·simp
 split
 ·simp
 split
 ·simp
 split
 ·simp;omega
 split
 ·simp;omega
 ·have b:=nJ (n:=hi) fR fR
  simp;omega
theorem oI (th c:Str):(escL th c).length≤c.length+1:=by
 unfold escL
 (repeat' split)<;>simp_all
theorem BE {k:Int} {c:Str} {ng:Bool} {rs:List (Str × Str)} {lo hi:Int} {lz:Bool} {ks:List Rx} (h:(Rx.mk k c ng rs lo hi lz ks).wf=true):jT (.mk k c ng rs lo hi lz ks)=true∧Rx.wfL ks=true:=by
 simpa [Rx.wf] using h
theorem sJ:∀{ks:List Rx} {x:Rx},Rx.wfL ks=true→x∈ks→x.wf=true
 | [],_,_,h=>by simp at h
 | y::r,x,hs,h=>by
  simp only [Rx.wfL,Dy] at hs;rcases DF.1 h with rfl|h
  ·exact hs.1
  ·exact sJ hs.2 h
theorem uD {k:Int} {c:Str} {ng:Bool} {rs:List (Str × Str)} {lo hi:Int} {lz:Bool} {ks:List Rx} (h:jT (.mk k c ng rs lo hi lz ks)=true) :
  k=0∨k=1∨k=2∨k=3∨k=4∨k=5∨k=6∨k=7∨k=8∨k=9∨k=10∨k=11:=by
 by_cases a:k=0∨k=1∨k=2∨k=3∨k=4∨k=5∨k=6∨k=7∨k=8∨k=9∨k=10∨k=11
 ·exact a
 ·exfalso
  simp only [jT] at h;rw [Du fR,Du fR,Du fR,Du fR,Du fR,Du fR,Du fR] at h;cases h
theorem pX {c:Str} (h:kj c=true):c≠[]:=by rintro rfl;cases h
theorem xi:∀{rs:List (Str × Str)} {p:Option Str},mC p rs=true→∀r∈rs,r.1≠[]∧r.2≠[]
 | [],_,_,r,hr=>by simp at hr
 | r0::rs,p,h,r,hr=>by
  simp only [mC,Dy] at h;rcases DF.1 hr with rfl|hr
  ·have h1:=h.1.1
   simp only [rowB,Dy] at h1;exact⟨pX h1.1.1,pX h1.1.2⟩
  ·exact xi h.2 r hr
end Go.Proofs.YtjggmmaojklmpaaGreatDoor
namespace Go.Proofs
open Go.Shelf
def Tryz.laysM171_ren:Go.Shelf.Ren:=⟨fun|171=>33|243=>61|246=>90|283=>111|284=>112|285=>113|286=>114|129=>135|317=>134|318=>136|319=>137|320=>138|337=>156|338=>157|n=>n,fun|3=>3|9=>9|2=>2|4=>4|171=>145|0=>0|53=>146|37=>48|5=>5|173=>149|212=>165|51=>166|20=>20|213=>167|46=>156|232=>194|233=>195|n=>n,fun|17=>1|18=>2|19=>3|n=>n⟩
theorem Tryz.laysM171:Go.Proofs.LaysM.n171 Tryz.prog Tryz.laysM171_ren:={
 mixed:=by kernel_rfl
 f129:=Tryz.func135.trans (congrArg some (by kernel_rfl))
 f171:=Tryz.func33.trans (congrArg some (by kernel_rfl))
 f243:=Tryz.func61.trans (congrArg some (by kernel_rfl))
 f246:=Tryz.func90.trans (congrArg some (by kernel_rfl))
 f283:=Tryz.func111.trans (congrArg some (by kernel_rfl))
 f284:=Tryz.func112.trans (congrArg some (by kernel_rfl))
 f285:=Tryz.func113.trans (congrArg some (by kernel_rfl))
 f286:=Tryz.func114.trans (congrArg some (by kernel_rfl))
 f317:=Tryz.func134.trans (congrArg some (by kernel_rfl))
 f318:=Tryz.func136.trans (congrArg some (by kernel_rfl))
 f319:=Tryz.func137.trans (congrArg some (by kernel_rfl))
 f320:=Tryz.func138.trans (congrArg some (by kernel_rfl))
 f337:=Tryz.func156.trans (congrArg some (by kernel_rfl))
 f338:=Tryz.func157.trans (congrArg some (by kernel_rfl))
 t0:=Tryz.underlying0
 a0:=Tryz.isAgg0
 z0:=Tryz.sizeOf0
 v0:=Tryz.zeroValue0
 t2:=Tryz.underlying2
 a2:=Tryz.isAgg2
 z2:=Tryz.sizeOf2
 v2:=Tryz.zeroValue2
 t3:=Tryz.underlying3
 a3:=Tryz.isAgg3
 z3:=Tryz.sizeOf3
 v3:=Tryz.zeroValue3
 t4:=Tryz.underlying4
 a4:=Tryz.isAgg4
 z4:=Tryz.sizeOf4
 v4:=Tryz.zeroValue4
 t5:=Tryz.underlying5
 a5:=Tryz.isAgg5
 z5:=Tryz.sizeOf5
 v5:=Tryz.zeroValue5
 t9:=Tryz.underlying9
 a9:=Tryz.isAgg9
 z9:=Tryz.sizeOf9
 v9:=Tryz.zeroValue9
 t20:=Tryz.underlying20
 a20:=Tryz.isAgg20
 z20:=Tryz.sizeOf20
 v20:=Tryz.zeroValue20
 t37:=Tryz.underlying48
 a37:=Tryz.isAgg48
 z37:=Tryz.sizeOf48
 v37:=Tryz.zeroValue48
 t46:=Tryz.underlying156
 a46:=Tryz.isAgg156
 z46:=Tryz.sizeOf156
 v46:=Tryz.zeroValue156
 t51:=Tryz.underlying166
 a51:=Tryz.isAgg166
 z51:=Tryz.sizeOf166
 v51:=Tryz.zeroValue166
 t53:=Tryz.underlying146
 a53:=Tryz.isAgg146
 z53:=Tryz.sizeOf146
 v53:=Tryz.zeroValue146
 t171:=Tryz.underlying145
 a171:=Tryz.isAgg145
 z171:=Tryz.sizeOf145
 v171:=Tryz.zeroValue145
 t173:=Tryz.underlying149
 a173:=Tryz.isAgg149
 z173:=Tryz.sizeOf149
 v173:=Tryz.zeroValue149
 t212:=Tryz.underlying165
 a212:=Tryz.isAgg165
 z212:=Tryz.sizeOf165
 v212:=Tryz.zeroValue165
 t213:=Tryz.underlying167
 a213:=Tryz.isAgg167
 z213:=Tryz.sizeOf167
 t232:=Tryz.underlying194
 a232:=Tryz.isAgg194
 z232:=Tryz.sizeOf194
 v232:=Tryz.zeroValue194
 t233:=Tryz.underlying195
 a233:=Tryz.isAgg195
 z233:=Tryz.sizeOf195
 v233:=Tryz.zeroValue195
 g17:=by kernel_rfl
 g18:=by kernel_rfl
 g19:=by kernel_rfl
 i0:=by kernel_rfl
 i2:=by kernel_rfl
 i3:=by kernel_rfl
 i4:=by kernel_rfl
 i5:=by kernel_rfl
 i9:=by kernel_rfl
 i20:=by kernel_rfl
 i37:=by kernel_rfl
 i46:=by kernel_rfl
 i51:=by kernel_rfl
 i53:=by kernel_rfl
 i171:=by kernel_rfl
 i173:=by kernel_rfl
 i212:=by kernel_rfl
 i232:=by kernel_rfl
 i233:=by kernel_rfl
 m17:=by kernel_rfl
 m18:=by kernel_rfl
 m19:=by kernel_rfl }
open Go.RowKit Go.Sort Go.Lib in
theorem Tryz.strconv_Itoa (n : Int) (h0 : -9223372036854775808 ≤ n) (h1 : n ≤ 9223372036854775807) (w : World) (htab : Lib.TabIs Tryz.prog w "internal/strconv.uint64pow10" .u64 Lib.pow10Tab) :
  Calls Tryz.prog 33 #[.int .i64 n] w fun e w'=>e=.returned (.string ⟨(Lib.itoa n).toArray⟩)∧∃k os,w'=grow (w.drewN k) os:=Any.strconv_Itoa Tryz.laysM171 n h0 h1 w htab
end Go.Proofs
set_option maxRecDepth 100000
namespace Go.Proofs.YtjggmmaojklmpaaGreatDoor
open Go.RowKit
def Tab (w : World) : Prop := Lib.TabIs Tryz.prog w "internal/strconv.uint64pow10" .u64 Lib.pow10Tab
theorem tab_name : ∃ g, Tryz.prog.globalNamed "internal/strconv.uint64pow10" = some g := by
 have h : (Tryz.prog.globalNamed "internal/strconv.uint64pow10").isSome = true := by kernel_rfl
 exact Option.isSome_iff_exists.1 h
theorem Tab.keep {w w':World} (h:Tab w) (hb:Below w.heap.size w w'):Tab w':=by
 obtain⟨g,hg⟩:=tab_name;unfold Tab Lib.TabIs World.var? at h ⊢;rw [hg] at h ⊢;simp only [Option.bind_some] at h ⊢;have hlt:g<w.heap.size:=by
  rcases Nat.lt_or_ge g w.heap.size with h'|h'
  ·exact h'
  ·rw [Array.getElem?_eq_none h'] at h;cases h
 rw [hb.block g hlt];exact h
theorem Cn : Tryz.prog.globalNamed "internal/strconv.uint64pow10" = some 1 := by kernel_rfl
theorem Tab.lt {w:World} (h:Tab w):1<w.heap.size:=by
 unfold Tab Lib.TabIs World.var? at h;rw [Cn] at h;simp only [Option.bind_some] at h;rcases Nat.lt_or_ge 1 w.heap.size with h'|h'
 ·exact h'
 ·rw [Array.getElem?_eq_none h'] at h;cases h
theorem Tab.keepB {w w':World} {B:Nat} (h:Tab w) (hg:1<B) (hb:Below B w w'):Tab w':=by
 unfold Tab Lib.TabIs World.var? at h ⊢;rw [Cn] at h ⊢;simp only [Option.bind_some] at h ⊢;rw [hb.block _ hg];exact h
theorem zS (w:World) (n:Nat) (os:Array Obj):Below w.heap.size w (Sort.grow (w.drewN n) os) :=
 ⟨rfl,rfl,rfl,by simp [Sort.grow],fun k hk=>by simp [Sort.grow,Array.getElem?_append_left hk]⟩
theorem rl (n:Int) (w:World) (h0:0≤n) (h1:n≤100000) (ht:Tab w) :
  Calls Tryz.prog 33 #[.int .i64 n] w fun e w'=>e=.returned (.string ⟨(dec n).toArray⟩)∧Below w.heap.size w w':=by
 refine(Tryz.strconv_Itoa n fR fR w ht).mono ?_
 rintro e w' ⟨rfl,k,os,rfl⟩;obtain⟨m,rfl⟩:=Int.eq_ofNat_of_zero_le h0;refine⟨?_,zS w k os⟩;rw [Lib.itoa_nonneg];rfl
open Go.RowKit
theorem qn (th c:Str) (w:World) (hc:c≠[]) (hs:c.length≤10000000) :
  Calls Tryz.prog 47 #[.string ⟨c.toArray⟩,.string ⟨th.toArray⟩] w fun e w'=>e=.returned (.string ⟨(escL th c).toArray⟩)∧w=w':=by
 cases c with
 | nil=>exact absurd rfl hc
 | cons a r =>
  clear hc;simp only [Dx] at hs;generalize hR:escL th (a::r)=R
  have HR:=ab hR;clear hR;by_cases hm:th.contains a=true
  ·obtain⟨k,hk⟩:=Ci hm
   exact cr
  ·have hk:=zB hm
   exact cr
theorem Bv (lo hi:Int) (w:World) (h0:0≤lo) (h1:lo≤255) (h2:hi=-1∨lo≤hi∧hi≤255) (ht:Tab w) :
  Calls Tryz.prog 49 #[.int .i64 lo,.int .i64 hi] w fun e w'=>e=.returned (.string ⟨(oftS lo hi).toArray⟩)∧Below w.heap.size w w':=by
 generalize hR:oftS lo hi=R
 have HR:=ab hR;clear hR;have HT:=ab ht;have hl:=nJ h0 (by omega:lo≤9999);clear ht;rcases h2 with rfl|⟨h3,h4⟩
 ·by_cases hl0:lo=0
  ·subst hl0
   go_enter Tryz.func49,Tryz.ntmps49
   exact ce
  by_cases hl1:lo=1
  ·subst hl1
   go_enter Tryz.func49,Tryz.ntmps49
   exact ce
  have e0:(lo==0)=false:=jh;have e1:(lo==1)=false:=ji;have e2:(lo==-1)=false:= gI;have HR2:Hid (R=123::(dec lo++[44,125])):=ab (by
   rw [←HR.out];unfold oftS;rw [Du fR,Du fR,Du fR,Du fR,Dr rfl])
  clear hl0 hl1 HR;exact bC
 ·have hh:=nJ (n:=hi) fR fR
  have e2:(hi==-1)=false:=by rw [DV];omega
  by_cases hlh:lo=hi
  ·subst hlh
   have HR2:Hid (R=123::(dec lo++[125])):=ab (by
    rw [←HR.out];unfold oftS;rw [Du fR,Du fR,Du fR,Dr rfl])
   clear HR;by_cases hl0:lo=0
   ·subst hl0
    exact bC
   by_cases hl1:lo=1
   ·subst hl1
    exact bC
   ·have e0:(lo==0)=false:=jh
    have e1:(lo==1)=false:=ji;clear hl0 hl1;exact bC
  ·by_cases hq:lo=0∧hi=1
   ·obtain⟨rfl,rfl⟩:=hq
    go_enter Tryz.func49,Tryz.ntmps49
    exact ce
   have HR2:Hid (R=123::(dec lo++44::(dec hi++[125]))):=ab (by
    rw [←HR.out];unfold oftS;rw [Du fR,Du fR,Du fR,Du hlh,Du fR])
   have e3:(lo==hi)=false:=by simpa using hlh
   clear HR;by_cases hl0:lo=0
   ·subst hl0
    have e4:(hi==1)=false:=by rw [DV];omega
    clear hq hlh;exact be
   by_cases hl1:lo=1
   ·subst hl1
    clear hq hlh;exact be
   ·have e0:(lo==0)=false:=jh
    have e1:(lo==1)=false:=ji;clear hl0 hl1 hq hlh;exact be
open Go.RowKit
theorem Fr.held {B g:Nat} {w w':World} (h:Fr B [g] [5] w w') {k:Nat} {cs:Array Value} {T:TypeId} {m:Nat × Nat} (hk:w.heap[k]?=some (.cells cs T m)) (hT:T≠5) (hg:k≠g):w'.heap[k]?=some (.cells cs T m) :=
 (h.block k (jA hk) (by simpa using hg) (.inr (by intro e he;simp at he;subst he;simp [vm,hk,hT]))).trans hk
def SetRel (B g:Nat) (rs:List (Str × Str)) (T:Str) (w1:World) (q:Value) (wr:World):Prop :=
 ∃(k:Nat) (acc:Str),k≤rs.length∧q=.int .i64 k∧Bld B g acc wr∧Fr B [g] [5] w1 wr∧acc.length≤20000000∧Hid (acc++(rs.drop k).flatMap rowS=T)
theorem set_any (B g:Nat) (acc:Str) (kd:Int) (c:Str) (ng:Bool) (ra:Option Addr) (rs:List (Str × Str)) (rc:Nat) (lo hi:Int) (lz:Bool) (ka:Option Addr) (kn kc:Nat) (w:World)
  (hbl:Bld B g acc w) (hB:B≤w.heap.size) (hr:Sl w B ra 2 rs.length (jN rs)) (hne:∀r∈rs,r.1≠[]∧r.2≠[]) (hsz:∀r∈rs,r.1.length≤1000000∧r.2.length≤1000000) (hrl:rs.length≤1000000)
  (hlen:(acc++setS ng rs).length≤10000000) :
  Calls Tryz.prog 48 #[.pointer (some ⟨g,0,none⟩),.agg #[.int .i64 kd,.string ⟨c.toArray⟩,.bool ng,.slice ra rs.length rc,.int .i64 lo,.int .i64 hi,.bool lz,.slice ka kn kc]] w fun e w'=>e=.returned (.tuple #[])∧Bld B g (acc++setS ng rs) w'∧Fr B [g] [5] w w':=by
 have HNE:=ab hne;have HSZ:=ab hsz;clear hne hsz;have hal:acc.length≤10000000:=by simp only [DE] at hlen;omega
 have hgl0:=hbl.lt;cases ng with
 | false =>
  simp only [setS,DE,Dx,DW,if_false,D4] at hlen;go_enter Tryz.func48,Tryz.ntmps48
  go_wp2_with (go_at_call 46;refine(jW B _ (acc) 91 _ (hbl.alloc _) fS fS fU fU).mono ?_)
  first|rintro e w1 rfl hbl1 hfr1|rintro e w1 ⟨rfl,hbl1,hfr1⟩
  have hbx0:=hfr1.held (heap_alloc_new w _) fU (Nat.ne_of_gt hbl.lt);have z2:w1.cell? ⟨w.heap.size,2,none⟩=some (.bool false):=by rw [DB hbx0];rfl
  clear hbx0;have hbx1:=(hfr1).held (heap_alloc_new w _) fU (Nat.ne_of_gt hbl.lt);have z3:w1.cell? ⟨w.heap.size,3,none⟩=some (.slice ra rs.length rc):=by rw [DB hbx1];rfl
  have hB1:B≤w1.heap.size:=by have:=(hfr1).size;simp at this;omega
  have HR1:=ab (hr.keep (((Below.refl B w).alloc hB _).trans ((hfr1).below fY (by simp;exact hbl.le))));obtain⟨T,hT⟩:∃T,(acc++[91])++rs.flatMap rowS=T:=⟨_,rfl⟩;have HT0:Hid ((acc++[91])++(rs.drop 0).flatMap rowS=T):=ab hT;have HTL:T.length≤15000000:=by rw [←hT];have h:=hlen;simp only [DE,Dx,DP] at h ⊢;omega
  have HTT:=ab hT;have HFR0:=ab hfr1;have HBX:=ab hbx1;clear hT hbx1;go_wp2
  go_loopw [15] (fun q wr=>SetRel B g rs T w1 q wr) (fun q _=>rs.length-(intOf q).toNat)
  case atStart=>exact⟨0,acc++[91],by omega,rfl,hbl1,Fr.refl _ _ _ _,by have h:=hlen;simp only [DE,Dx,DP] at h ⊢;omega,HT0⟩
  case round =>
   exact aq
 | true =>
  simp only [setS,DE,Dx,if_true,DP] at hlen;go_enter Tryz.func48,Tryz.ntmps48
  go_wp2_with (go_at_call 46;refine(jW B _ (acc) 91 _ (hbl.alloc _) fS fS fU fU).mono ?_)
  first|rintro e w1 rfl hbl1 hfr1|rintro e w1 ⟨rfl,hbl1,hfr1⟩
  have hbx0:=hfr1.held (heap_alloc_new w _) fU (Nat.ne_of_gt hbl.lt);have z2:w1.cell? ⟨w.heap.size,2,none⟩=some (.bool true):=by rw [DB hbx0];rfl
  have hB1':B≤w1.heap.size:=by have:=hfr1.size;simp at this;omega
  clear hbx0;go_wp2_with (go_at_call 46;refine(jW B _ (acc++[91]) 94 _ (hbl1) fS fS fU fU).mono ?_)
  first|rintro e w1b rfl hbl1b hfr1b|rintro e w1b ⟨rfl,hbl1b,hfr1b⟩
  have hfrx:=hfr1.trans hfr1b;clear z2;have hbx1:=(hfrx).held (heap_alloc_new w _) fU (Nat.ne_of_gt hbl.lt);have z3:w1b.cell? ⟨w.heap.size,3,none⟩=some (.slice ra rs.length rc):=by rw [DB hbx1];rfl
  have hB1:B≤w1b.heap.size:=by have:=(hfrx).size;simp at this;omega
  have HR1:=ab (hr.keep (((Below.refl B w).alloc hB _).trans ((hfrx).below fY (by simp;exact hbl.le))));obtain⟨T,hT⟩:∃T,(acc++[91]++[94])++rs.flatMap rowS=T:=⟨_,rfl⟩;have HT0:Hid ((acc++[91]++[94])++(rs.drop 0).flatMap rowS=T):=ab hT;have HTL:T.length≤15000000:=by rw [←hT];have h:=hlen;simp only [DE,Dx,DP] at h ⊢;omega
  have HTT:=ab hT;have HFR0:=ab hfrx;have HBX:=ab hbx1;clear hT hbx1;go_wp2
  go_loopw [15] (fun q wr=>SetRel B g rs T w1b q wr) (fun q _=>rs.length-(intOf q).toNat)
  case atStart=>exact⟨0,acc++[91]++[94],by omega,rfl,hbl1b,Fr.refl _ _ _ _,by have h:=hlen;simp only [DE,Dx,DP] at h ⊢;omega,HT0⟩
  case round =>
   exact aq
open Go.RowKit
def oG (B g:Nat) (out:Str) (w:World) (e:Ending) (w':World):Prop:=e=.returned (.tuple #[])∧Bld B g out w'∧Fr B [g] [5] w w'
def Cc (B g:Nat) (ks:List Rx) (f:Nat→List Rx→Str) (T:Str) (w1:World) (q:Value) (wr:World):Prop :=
 ∃(k:Nat) (acc:Str),k≤ks.length∧q=.int .i64 k∧Bld B g acc wr∧Fr B [g] [5] w1 wr∧Hid (acc++f k (ks.drop k)=T)
theorem Kept.fr {B g:Nat} {w w':World} (h:Fr B [g] [5] w w') (hB:B≤w.heap.size) (hg:B≤g):Kept (·<B) w w':=Kept.below (h.below hB (by simpa using hg)) (fun _ h _=>h)
theorem mZ (B g:Nat) (acc:Str) (K:Int) (hK:K=3∨K=8∨K=9∨K=10∨K=11) (c:Str) (ng:Bool) (ra:Option Addr) (rs:List (Str × Str)) (rn rc:Nat) (lo hi:Int) (lz:Bool) (ka:Option Addr) (ks:List Rx) (kn kc:Nat) (w:World)
  (hbl:Bld B g acc w) (hB:B≤w.heap.size) (hlen:acc.length≤10000000) :
  Calls Tryz.prog 24 #[.pointer (some ⟨g,0,none⟩),.agg #[.int .i64 K,.string ⟨c.toArray⟩,.bool ng,.slice ra rn rc,.int .i64 lo,.int .i64 hi,.bool lz,.slice ka kn kc]] w fun e w'=>oG B g (acc++(Rx.mk K c ng rs lo hi lz ks).tell) w e w':=by
 have hg:=hbl.lt;rcases hK with rfl|rfl|rfl|rfl|rfl
 ·go_enter Tryz.func24,Tryz.ntmps24
  go_wp2_with (go_at_call 46;refine(jW B _ (acc) 46 _ (hbl.alloc _) fS fS fU fU).mono ?_)
  exact bd
 ·go_enter Tryz.func24,Tryz.ntmps24
  go_wp2_with (go_at_call 46;refine(jW B _ (acc) 94 _ (hbl.alloc _) fS fS fU fU).mono ?_)
  exact bd
 ·go_enter Tryz.func24,Tryz.ntmps24
  go_wp2_with (go_at_call 46;refine(jW B _ (acc) 36 _ (hbl.alloc _) fS fS fU fU).mono ?_)
  exact bd
 ·exact eU
 ·exact eU
theorem C4 (B g:Nat) (acc:Str) (c:Str) (ng:Bool) (ra:Option Addr) (rs:List (Str × Str)) (rn rc:Nat) (lo hi:Int) (lz:Bool) (ka:Option Addr) (ks:List Rx) (kn kc:Nat) (w:World)
  (hbl:Bld B g acc w) (hB:B≤w.heap.size) (hlen:acc.length≤10000000) (hc:c≠[]) (hcl:c.length≤1000000) :
  Calls Tryz.prog 24 #[.pointer (some ⟨g,0,none⟩),.agg #[.int .i64 2,.string ⟨c.toArray⟩,.bool ng,.slice ra rn rc,.int .i64 lo,.int .i64 hi,.bool lz,.slice ka kn kc]] w fun e w'=>oG B g (acc++(Rx.mk 2 c ng rs lo hi lz ks).tell) w e w':=by
 have HC:=ab hc;have hq:=oI th1 c;clear hc;go_enter Tryz.func24,Tryz.ntmps24
 go_wp2_with (first|(go_at_call 47;refine(qn _ _ _ HC.out fR).mono ?_;rintro e w2 ⟨rfl,rfl⟩;rw [show [94,36,92,46,42,43,63,40,41,91,93,123,125,124,47]=th1 from rfl])|(go_at_call 35;refine(jU B _ (acc) _ _ (hbl.alloc _) fS fS fS).mono ?_))
 exact bd
theorem show_set (B g:Nat) (acc:Str) (c:Str) (ng:Bool) (ra:Option Addr) (rs:List (Str × Str)) (rc:Nat) (lo hi:Int) (lz:Bool) (ka:Option Addr) (ks:List Rx) (kn kc:Nat) (w:World)
  (hbl:Bld B g acc w) (hB:B≤w.heap.size) (hr:Sl w B ra 2 rs.length (jN rs)) (hne:∀r∈rs,r.1≠[]∧r.2≠[]) (hsz:∀r∈rs,r.1.length≤1000000∧r.2.length≤1000000) (hrl:rs.length≤1000000)
  (hlen:(acc++setS ng rs).length≤10000000) :
  Calls Tryz.prog 24 #[.pointer (some ⟨g,0,none⟩),.agg #[.int .i64 4,.string ⟨c.toArray⟩,.bool ng,.slice ra rs.length rc,.int .i64 lo,.int .i64 hi,.bool lz,.slice ka kn kc]] w fun e w'=>oG B g (acc++(Rx.mk 4 c ng rs lo hi lz ks).tell) w e w':=by
 have HNE:=ab hne;have HSZ:=ab hsz;have HLN:=ab hlen;have HR:=ab (hr.keep ((Below.refl B w).alloc hB (.cells #[.int .i64 4,.string ⟨c.toArray⟩,.bool ng,.slice ra rs.length rc,.int .i64 lo,.int .i64 hi,.bool lz,.slice ka kn kc] 25)));clear hne hsz hlen hr;go_enter Tryz.func24,Tryz.ntmps24
 go_wp2_with (go_at_call 48;refine(set_any B g acc _ _ _ _ rs _ _ _ _ _ _ _ _ (hbl.alloc _) fY HR.out HNE.out HSZ.out hrl HLN.out).mono ?_)
 exact bd
open Go.RowKit
def ShowC (B g:Nat) (x:Rx):Prop:=∀(cc:List Value) (acc:Str) (w:World),RxV w (·<B) cc x→Bld B g acc w→B≤w.heap.size→Tab w→(acc++x.tell).length≤10000000 →
 Calls Tryz.prog 24 #[.pointer (some ⟨g,0,none⟩),.agg cc.toArray] w fun e w'=>oG B g (acc++x.tell) w e w'
theorem ShowC.at_ {B g:Nat} {x:Rx} {out:Str} (h:ShowC B g x) {cc:List Value} {acc:Str} {w:World} (hv:RxV w (·<B) cc x) (hbl:Bld B g acc w) (hB:B≤w.heap.size) (ht:Tab w) (ho:acc++x.tell=out) (hl:out.length≤10000000) :
  Calls Tryz.prog 24 #[.pointer (some ⟨g,0,none⟩),.agg cc.toArray] w fun e w'=>e=.returned (.tuple #[])∧Bld B g out w'∧Fr B [g] [5] w w':=by
 subst ho;exact h cc acc w hv hbl hB ht hl
def tlF (_:Nat) (ks:List Rx):Str:=Rx.tellL ks
def taF (k:Nat) (ks:List Rx):Str:=Rx.tellA (decide (0<k)) ks
theorem show_seq (B g:Nat) (acc:Str) (c:Str) (ng:Bool) (ra:Option Addr) (rs:List (Str × Str)) (rn rc:Nat) (lo hi:Int) (lz:Bool) (ka:Option Addr) (ks:List Rx) (kc:Nat) (w:World)
  (ih:∀y∈ks,ShowC B g y) (hgT:1<B)
  (hbl:Bld B g acc w) (hB:B≤w.heap.size) (ht:Tab w) (hx:RxSl w (·<B) ka ks.length ks) (hkl:ks.length≤1000000)
  (hlen:(acc++tlF 0 ks).length≤10000000) :
  Calls Tryz.prog 24 #[.pointer (some ⟨g,0,none⟩),.agg #[.int .i64 0,.string ⟨c.toArray⟩,.bool ng,.slice ra rn rc,.int .i64 lo,.int .i64 hi,.bool lz,.slice ka ks.length kc]] w fun e w'=>oG B g (acc++(Rx.mk 0 c ng rs lo hi lz ks).tell) w e w':=by
 have IH:=ab ih;clear ih;obtain⟨T,hT⟩:∃T,acc++tlF 0 ks=T:=⟨_,rfl⟩;have HT0:Hid (acc++tlF 0 (ks.drop 0)=T):=ab hT;have HTL:T.length≤10000000:=by rw [←hT];exact hlen
 have HTT:=ab hT;clear hT hlen;have hgl:=hbl.lt;have hgB:=hbl.le;obtain⟨w0,hw0⟩:∃w0,w0=w.alloc (.cells #[.int .i64 0,.string ⟨c.toArray⟩,.bool ng,.slice ra rn rc,.int .i64 lo,.int .i64 hi,.bool lz,.slice ka ks.length kc] 25):=⟨_,rfl⟩;have hb0:Below w.heap.size w w0:=by rw [hw0];exact(Below.refl _ _).alloc (Dv _) _
 have HX:=ab (hx.keep (Kept.all hb0));have hbl0:Bld B g acc w0:=by rw [hw0];exact hbl.alloc _
 have HTB:=ab (ht.keep hb0);have hB0:B≤w0.heap.size:=Dz hB hb0.size;clear hx ht hbl;go_enter Tryz.func24,Tryz.ntmps24
 go_wp2
 rw [←hw0];have hf0:Fr B [g] [5] w w0:=Fr.of_below hb0 (Dv _);clear hw0;go_loopw [15] (fun q wr=>Cc B g ks tlF T w0 q wr) (fun q _=>ks.length-(intOf q).toNat)
 case atStart=>exact⟨0,acc,by omega,rfl,hbl0,Fr.refl _ _ _ _,HT0⟩
 case round =>
  obtain⟨k,ac,hk,rfl,hblr,hfrr,HF⟩:=hrel;clear HT0 hbl0;have hBr:B≤wr.heap.size:=Dz hB0 hfrr.size;have hkp:=Kept.fr hfrr hB0 hgB;have htr:Tab wr:=HTB.out.keepB hgT (hfrr.below hB0 jk);have hgl2:=hblr.lt;have hacl:ac.length≤10000000:=by have h:=DQ List.length HF.out;simp only [DE] at h;omega
  cases hd:ks.drop k with
  | nil =>
   have h2:ks.length≤k:=gm;have HE:Hid (ac=T):=ab (by rw [←HF.out,hd];simp [tlF,Rx.tellL]);clear hd HF;go_wp2
   go_end0
   exact⟨rfl,by have h:=hblr;rw [HE.out,←HTT.out] at h;simpa [Rx.tell,tlF] using h,hf0.trans hfrr⟩
  | cons y r =>
   obtain⟨h2,h3,hr⟩:=jO hd;have hymem:=DL h3;obtain⟨yk,yc,yn,yr,yl,yh,yz,ys⟩:=y;obtain⟨b,o,ya,yrc,yka,ykc,rfl,hS,hbB,_,_,hyv,c0,c1,c2,c3,c4,c5,c6,c7⟩:=(HX.out.keep hkp).cells h3;have Hr:=ab hr;have HYV:=ab (hyv.keep (Kept.all ((Below.refl wr.heap.size wr).alloc (Dv _) (.cells (rxc yk yc yn ya yr.length yrc yl yh yz yka ys.length ykc).toArray 25))));unfold rxc at HYV;have HE:Hid (ac++(Rx.tell (.mk yk yc yn yr yl yh yz ys)++tlF (k+1) r)=T):=ab gC;have hol:(ac++Rx.tell (.mk yk yc yn yr yl yh yz ys)).length≤10000000:=by have h:=DQ List.length HE.out;simp only [DE] at h ⊢;omega
   have HTA:=ab (htr.keep ((Below.refl wr.heap.size wr).alloc (Dv _) (.cells (rxc yk yc yn ya yr.length yrc yl yh yz yka ys.length ykc).toArray 25)));unfold rxc at HTA;clear hd HF hr h3 hyv htr;go_wp2_with (go_at_call 24;refine((IH.out _ hymem).at_ HYV.out (hblr.alloc _) fY HTA.out rfl hol).mono ?_)
   first|rintro e w2 rfl hbl2 hfr2|rintro e w2 ⟨rfl,hbl2,hfr2⟩
   go_wp2_with fail
   go_roundw
   case rel=>exact⟨k+1,_,by omega,by go_num,hbl2,hfrr.trans (((Fr.refl _ _ _ _).alloc _).trans hfr2),ab (by rw [Hr.out,←HE.out,D6])⟩
   case measure=>simp [intOf];omega
theorem show_alt (B g:Nat) (acc:Str) (c:Str) (ng:Bool) (ra:Option Addr) (rs:List (Str × Str)) (rn rc:Nat) (lo hi:Int) (lz:Bool) (ka:Option Addr) (ks:List Rx) (kc:Nat) (w:World)
  (ih:∀y∈ks,ShowC B g y) (hgT:1<B)
  (hbl:Bld B g acc w) (hB:B≤w.heap.size) (ht:Tab w) (hx:RxSl w (·<B) ka ks.length ks) (hkl:ks.length≤1000000)
  (hlen:(acc++taF 0 ks).length≤10000000) :
  Calls Tryz.prog 24 #[.pointer (some ⟨g,0,none⟩),.agg #[.int .i64 1,.string ⟨c.toArray⟩,.bool ng,.slice ra rn rc,.int .i64 lo,.int .i64 hi,.bool lz,.slice ka ks.length kc]] w fun e w'=>oG B g (acc++(Rx.mk 1 c ng rs lo hi lz ks).tell) w e w':=by
 have IH:=ab ih;clear ih;obtain⟨T,hT⟩:∃T,acc++taF 0 ks=T:=⟨_,rfl⟩;have HT0:Hid (acc++taF 0 (ks.drop 0)=T):=ab hT;have HTL:T.length≤10000000:=by rw [←hT];exact hlen
 have HTT:=ab hT;clear hT hlen;have hgl:=hbl.lt;have hgB:=hbl.le;obtain⟨w0,hw0⟩:∃w0,w0=w.alloc (.cells #[.int .i64 1,.string ⟨c.toArray⟩,.bool ng,.slice ra rn rc,.int .i64 lo,.int .i64 hi,.bool lz,.slice ka ks.length kc] 25):=⟨_,rfl⟩;have hb0:Below w.heap.size w w0:=by rw [hw0];exact(Below.refl _ _).alloc (Dv _) _
 have HX:=ab (hx.keep (Kept.all hb0));have hbl0:Bld B g acc w0:=by rw [hw0];exact hbl.alloc _
 have HTB:=ab (ht.keep hb0);have hB0:B≤w0.heap.size:=Dz hB hb0.size;clear hx ht hbl;go_enter Tryz.func24,Tryz.ntmps24
 go_wp2
 rw [←hw0];have hf0:Fr B [g] [5] w w0:=Fr.of_below hb0 (Dv _);clear hw0;go_loopw [28] (fun q wr=>Cc B g ks taF T w0 q wr) (fun q _=>ks.length-(intOf q).toNat)
 case atStart=>exact⟨0,acc,by omega,rfl,hbl0,Fr.refl _ _ _ _,HT0⟩
 case round =>
  obtain⟨k,ac,hk,rfl,hblr,hfrr,HF⟩:=hrel;clear HT0 hbl0;have hBr:B≤wr.heap.size:=Dz hB0 hfrr.size;have hkp:=Kept.fr hfrr hB0 hgB;have htr:Tab wr:=HTB.out.keepB hgT (hfrr.below hB0 jk);have hgl2:=hblr.lt;have hacl:ac.length≤10000000:=by have h:=DQ List.length HF.out;simp only [DE] at h;omega
  cases hd:ks.drop k with
  | nil =>
   have h2:ks.length≤k:=gm;have HE:Hid (ac=T):=ab (by rw [←HF.out,hd];simp [taF,Rx.tellA]);clear hd HF;go_wp2
   go_end0
   exact⟨rfl,by have h:=hblr;rw [HE.out,←HTT.out] at h;simpa [Rx.tell,taF] using h,hf0.trans hfrr⟩
  | cons y r =>
   obtain⟨h2,h3,hr⟩:=jO hd;have hymem:=DL h3;obtain⟨yk,yc,yn,yr,yl,yh,yz,ys⟩:=y;obtain⟨b,o,ya,yrc,yka,ykc,rfl,hS,hbB,_,_,hyv,c0,c1,c2,c3,c4,c5,c6,c7⟩:=(HX.out.keep hkp).cells h3;have Hr:=ab hr;have HYV:=ab (hyv.keep (Kept.all ((Below.refl wr.heap.size wr).alloc (Dv _) (.cells (rxc yk yc yn ya yr.length yrc yl yh yz yka ys.length ykc).toArray 25))));unfold rxc at HYV;have HE:Hid (ac++((if 0<k then [124] else [])++(Rx.tell (.mk yk yc yn yr yl yh yz ys)++taF (k+1) r))=T):=ab (by rw [←HF.out,hd];simp [taF,Rx.tellA]);have HTA:=ab (htr.keep ((Below.refl wr.heap.size wr).alloc (Dv _) (.cells (rxc yk yc yn ya yr.length yrc yl yh yz yka ys.length ykc).toArray 25)));unfold rxc at HTA;by_cases hk0:0<k
   ·have HE2:Hid (ac++[124]++Rx.tell (.mk yk yc yn yr yl yh yz ys)++taF (k+1) r=T):=ab (by rw [←HE.out,Dr hk0];simp)
    have hol:(ac++[124]++Rx.tell (.mk yk yc yn yr yl yh yz ys)).length≤10000000:=by have h:=DQ List.length HE2.out;simp only [DE] at h ⊢;omega
    clear hd HF hr h3 hyv htr;go_wp2_with (go_at_call 46;refine(jW B _ (ac) 124 _ (hblr.alloc _) fS fS fU fU).mono ?_)
    first|rintro e w1 rfl hbl1 hfr1|rintro e w1 ⟨rfl,hbl1,hfr1⟩
    have hbx1:=hfr1.held (heap_alloc_new wr _) fU (Nat.ne_of_gt hgl2);have z0:w1.cell? ⟨wr.heap.size,0,none⟩=some (.int .i64 yk):= gv;have z1:w1.cell? ⟨wr.heap.size,1,none⟩=some (.string ⟨yc.toArray⟩):= gv;have z2:w1.cell? ⟨wr.heap.size,2,none⟩=some (.bool yn):= gv;have z3:w1.cell? ⟨wr.heap.size,3,none⟩=some (.slice ya yr.length yrc):= gv;have z4:w1.cell? ⟨wr.heap.size,4,none⟩=some (.int .i64 yl):= gv;have z5:w1.cell? ⟨wr.heap.size,5,none⟩=some (.int .i64 yh):= gv;have z6:w1.cell? ⟨wr.heap.size,6,none⟩=some (.bool yz):= gv;have z7:w1.cell? ⟨wr.heap.size,7,none⟩=some (.slice yka ys.length ykc):= gv;have hBA:B≤(wr.alloc (.cells (rxc yk yc yn ya yr.length yrc yl yh yz yka ys.length ykc).toArray 25)).heap.size:=by simp;omega
    have hB1:B≤w1.heap.size:=Dz hBA hfr1.size;have HYV1:=ab (HYV.out.keep (Kept.fr hfr1 hBA hgB));have HTA1:=ab (HTA.out.keepB hgT (hfr1.below hBA jk));have hfx:=hfrr.trans (((Fr.refl _ _ _ _).alloc _).trans hfr1);clear hbx1 hfr1;go_wp2_with (go_at_call 24;refine((IH.out _ hymem).at_ HYV1.out hbl1 hB1 HTA1.out rfl hol).mono ?_)
    first|rintro e w2 rfl hbl2 hfr2|rintro e w2 ⟨rfl,hbl2,hfr2⟩
    go_wp2_with fail
    go_roundw
    case rel=>exact⟨k+1,_,by omega,by go_num,hbl2,hfx.trans hfr2,ab (by rw [Hr.out];exact HE2.out)⟩
    case measure=>simp [intOf];omega
   ·have hk1:k=0:=fR
    subst hk1;have HE2:Hid (ac++Rx.tell (.mk yk yc yn yr yl yh yz ys)++taF (0+1) r=T):=ab (by rw [←HE.out,Du hk0];simp);have hol:(ac++Rx.tell (.mk yk yc yn yr yl yh yz ys)).length≤10000000:=by have h:=DQ List.length HE2.out;simp only [DE] at h ⊢;omega
    simp only [Nat.zero_mul,Nat.add_zero] at c0 c1 c2 c3 c4 c5 c6 c7;clear hd HF hr h3 hyv htr hk0;go_wp2_with (go_at_call 24;refine((IH.out _ hymem).at_ HYV.out (hblr.alloc _) fY HTA.out rfl hol).mono ?_)
    first|rintro e w2 rfl hbl2 hfr2|rintro e w2 ⟨rfl,hbl2,hfr2⟩
    go_wp2_with fail
    go_roundw
    case rel=>exact⟨0+1,_,by omega,by go_num,hbl2,hfrr.trans (((Fr.refl _ _ _ _).alloc _).trans hfr2),ab (by rw [Hr.out];exact HE2.out)⟩
    case measure=>simp [intOf];omega
open Go.RowKit
theorem te (B g:Nat) (acc:Str) (K:Int) (hK:K=5∨K=6) (c:Str) (ng:Bool) (ra:Option Addr) (rs:List (Str × Str)) (rn rc:Nat) (lo hi:Int) (lz:Bool) (ka:Option Addr) (y:Rx) (kc:Nat) (w:World)
  (ih:ShowC B g y) (hgT:1<B)
  (hbl:Bld B g acc w) (hB:B≤w.heap.size) (ht:Tab w) (hx:RxSl w (·<B) ka 1 [y])
  (hlen:(acc++(Rx.mk K c ng rs lo hi lz [y]).tell).length≤10000000) :
  Calls Tryz.prog 24 #[.pointer (some ⟨g,0,none⟩),.agg #[.int .i64 K,.string ⟨c.toArray⟩,.bool ng,.slice ra rn rc,.int .i64 lo,.int .i64 hi,.bool lz,.slice ka 1 kc]] w fun e w'=>oG B g (acc++(Rx.mk K c ng rs lo hi lz [y]).tell) w e w':=by
 have IH:=ab ih;clear ih;rcases hK with rfl|rfl
 ·have HO:Hid (acc++(Rx.mk 5 c ng rs lo hi lz [y]).tell=acc++[40]++y.tell++[41]):=ab iv
  rw [HO.out] at hlen ⊢;simp only [DE,Dx,DP] at hlen;obtain⟨yk,yc,yn,yr,yl,yh,yz,ys⟩:=y;have hgl:=hbl.lt;have hgB:=hbl.le;obtain⟨w0,hw0⟩:∃w0,w0=w.alloc (.cells #[.int .i64 5,.string ⟨c.toArray⟩,.bool ng,.slice ra rn rc,.int .i64 lo,.int .i64 hi,.bool lz,.slice ka 1 kc] 25):=⟨_,rfl⟩;have hb0:Below w.heap.size w w0:=by rw [hw0];exact(Below.refl _ _).alloc (Dv _) _
  have hbx0:w0.heap[w.heap.size]?=some (.cells #[.int .i64 5,.string ⟨c.toArray⟩,.bool ng,.slice ra rn rc,.int .i64 lo,.int .i64 hi,.bool lz,.slice ka 1 kc] 25 (0,0)):=by rw [hw0];exact heap_alloc_new w _
  have HX:=ab (hx.keep (Kept.all hb0));have hbl0:Bld B g acc w0:=by rw [hw0];exact hbl.alloc _
  have htb:=ht.keep hb0;have hB0:B≤w0.heap.size:=Dz hB hb0.size;have hf0:Fr B [g] [5] w w0:=Fr.of_below hb0 (Dv _);have hBX0:=ab hbx0;have HTB:=ab htb;have HW0:=ab hw0;clear hx ht htb hbl0 hw0;obtain⟨b,o,ya,yrc,yka,ykc,rfl,hS,hbB,_,_,hyv,c0,c1,c2,c3,c4,c5,c6,c7⟩:=HX.out.cells (m:=0) rfl;have HYV:=ab hyv;unfold rxc at HYV;simp only [Nat.zero_mul,Nat.add_zero] at c0 c1 c2 c3 c4 c5 c6 c7;have C:=ab (And.intro c0 (And.intro c1 (And.intro c2 (And.intro c3 (And.intro c4 (And.intro c5 (And.intro c6 c7)))))));clear c0 c1 c2 c3 c4 c5 c6 c7 hyv;go_enter Tryz.func24,Tryz.ntmps24
  go_wp2_with (go_at_call 46;refine(jW B _ (acc) 40 _ (hbl.alloc _) fS fS fU fU).mono ?_)
  first|rintro e w1 rfl hbl1 hfr1|rintro e w1 ⟨rfl,hbl1,hfr1⟩
  rw [←HW0.out] at hfr1;have hbx1:=hfr1.held hbx0 fU (Nat.ne_of_gt hgl);have z0:w1.cell? ⟨w.heap.size,0,none⟩=some (.int .i64 5):= gv;have z7:w1.cell? ⟨w.heap.size,7,none⟩=some (.slice (some ⟨b,o,none⟩) 1 kc):= gv;have hB1:B≤w1.heap.size:=Dz hB0 hfr1.size;have hbw1:=hfr1.below hB0 jk;have kb:b<B:=hS;have kc0:∀j u,w0.cell? ⟨b,o+j,none⟩=some u→w1.cell? ⟨b,o+j,none⟩=some u:=fun j u h=>((hbw1).cell (p:=⟨b,o+j,none⟩) kb).trans h
  have d0:w1.cell? ⟨b,o,none⟩=some (.int .i64 yk):=kc0 0 _ C.out.1;have d1:=kc0 1 _ C.out.2.1;have d2:=kc0 2 _ C.out.2.2.1;have d3:=kc0 3 _ C.out.2.2.2.1;have d4:=kc0 4 _ C.out.2.2.2.2.1;have d5:=kc0 5 _ C.out.2.2.2.2.2.1;have d6:=kc0 6 _ C.out.2.2.2.2.2.2.1;have d7:=kc0 7 _ C.out.2.2.2.2.2.2.2;clear kc0;have HYV1:=ab (HYV.out.keep (Kept.fr hfr1 hB0 hgB));have HTB1:=ab (HTB.out.keepB hgT hbw1);have hfx:=hf0.trans hfr1;clear hbx1 hfr1 hbx0;go_wp2_with (go_at_call 24;refine(IH.out.at_ HYV1.out hbl1 hB1 HTB1.out rfl iw).mono ?_)
  first|rintro e w2 rfl hbl2 hfr2|rintro e w2 ⟨rfl,hbl2,hfr2⟩
  have hB2:B≤w2.heap.size:=Dz hB1 hfr2.size;go_wp2_with (go_at_call 46;refine(jW B _ (acc++[40]++Rx.tell (.mk yk yc yn yr yl yh yz ys)) 41 _ (hbl2) fS fS fU fU).mono ?_)
  first|rintro e w3 rfl hbl3 hfr3|rintro e w3 ⟨rfl,hbl3,hfr3⟩
  go_wp2_with fail
  go_end0
  exact⟨rfl,hbl3,(hfx.trans hfr2).trans hfr3⟩
 ·have HO:Hid (acc++(Rx.mk 6 c ng rs lo hi lz [y]).tell=acc++[40]++[63,58]++y.tell++[41]):=ab iv
  rw [HO.out] at hlen ⊢;simp only [DE,Dx,DP] at hlen;obtain⟨yk,yc,yn,yr,yl,yh,yz,ys⟩:=y;have hgl:=hbl.lt;have hgB:=hbl.le;obtain⟨w0,hw0⟩:∃w0,w0=w.alloc (.cells #[.int .i64 6,.string ⟨c.toArray⟩,.bool ng,.slice ra rn rc,.int .i64 lo,.int .i64 hi,.bool lz,.slice ka 1 kc] 25):=⟨_,rfl⟩;have hb0:Below w.heap.size w w0:=by rw [hw0];exact(Below.refl _ _).alloc (Dv _) _
  have hbx0:w0.heap[w.heap.size]?=some (.cells #[.int .i64 6,.string ⟨c.toArray⟩,.bool ng,.slice ra rn rc,.int .i64 lo,.int .i64 hi,.bool lz,.slice ka 1 kc] 25 (0,0)):=by rw [hw0];exact heap_alloc_new w _
  have HX:=ab (hx.keep (Kept.all hb0));have hbl0:Bld B g acc w0:=by rw [hw0];exact hbl.alloc _
  have htb:=ht.keep hb0;have hB0:B≤w0.heap.size:=Dz hB hb0.size;have hf0:Fr B [g] [5] w w0:=Fr.of_below hb0 (Dv _);have hBX0:=ab hbx0;have HTB:=ab htb;have HW0:=ab hw0;clear hx ht htb hbl0 hw0;obtain⟨b,o,ya,yrc,yka,ykc,rfl,hS,hbB,_,_,hyv,c0,c1,c2,c3,c4,c5,c6,c7⟩:=HX.out.cells (m:=0) rfl;have HYV:=ab hyv;unfold rxc at HYV;simp only [Nat.zero_mul,Nat.add_zero] at c0 c1 c2 c3 c4 c5 c6 c7;have C:=ab (And.intro c0 (And.intro c1 (And.intro c2 (And.intro c3 (And.intro c4 (And.intro c5 (And.intro c6 c7)))))));clear c0 c1 c2 c3 c4 c5 c6 c7 hyv;go_enter Tryz.func24,Tryz.ntmps24
  go_wp2_with (go_at_call 46;refine(jW B _ (acc) 40 _ (hbl.alloc _) fS fS fU fU).mono ?_)
  first|rintro e w1 rfl hbl1 hfr1|rintro e w1 ⟨rfl,hbl1,hfr1⟩
  rw [←HW0.out] at hfr1;have hbx1:=hfr1.held hbx0 fU (Nat.ne_of_gt hgl);have z0:w1.cell? ⟨w.heap.size,0,none⟩=some (.int .i64 6):= gv;have hB1:B≤w1.heap.size:=Dz hB0 hfr1.size;have hfx:=hf0.trans hfr1;have HBX1:=ab hbx1;have HFA:=ab hfr1;clear hbx1 hfr1 hbx0;go_wp2_with (go_at_call 35;refine(jU B _ (acc++[40]) _ _ (hbl1) fS fS fS).mono ?_)
  first|rintro e w1b rfl hbl1b hfr1b|rintro e w1b ⟨rfl,hbl1b,hfr1b⟩
  have hbx1b:=hfr1b.held HBX1.out fU (Nat.ne_of_gt hgl);have z7:w1b.cell? ⟨w.heap.size,7,none⟩=some (.slice (some ⟨b,o,none⟩) 1 kc):=(by rw [DB hbx1b];rfl);have hB1b:B≤w1b.heap.size:=Dz hB1 hfr1b.size;have hfrA:=HFA.out.trans hfr1b;have hbw1:=hfrA.below hB0 jk;have kb:b<B:=hS;have kc0:∀j u,w0.cell? ⟨b,o+j,none⟩=some u→w1b.cell? ⟨b,o+j,none⟩=some u:=fun j u h=>((hbw1).cell (p:=⟨b,o+j,none⟩) kb).trans h
  have d0:w1b.cell? ⟨b,o,none⟩=some (.int .i64 yk):=kc0 0 _ C.out.1;have d1:=kc0 1 _ C.out.2.1;have d2:=kc0 2 _ C.out.2.2.1;have d3:=kc0 3 _ C.out.2.2.2.1;have d4:=kc0 4 _ C.out.2.2.2.2.1;have d5:=kc0 5 _ C.out.2.2.2.2.2.1;have d6:=kc0 6 _ C.out.2.2.2.2.2.2.1;have d7:=kc0 7 _ C.out.2.2.2.2.2.2.2;clear kc0;have HYV1:=ab (HYV.out.keep (Kept.fr hfrA hB0 hgB));have HTB1:=ab (HTB.out.keepB hgT hbw1);have hfxb:=hfx.trans hfr1b;clear hbx1b hfr1b hfrA;go_wp2_with (go_at_call 24;refine(IH.out.at_ HYV1.out hbl1b hB1b HTB1.out rfl iw).mono ?_)
  first|rintro e w2 rfl hbl2 hfr2|rintro e w2 ⟨rfl,hbl2,hfr2⟩
  have hB2:B≤w2.heap.size:=Dz hB1b hfr2.size;go_wp2_with (go_at_call 46;refine(jW B _ (acc++[40]++[63,58]++Rx.tell (.mk yk yc yn yr yl yh yz ys)) 41 _ (hbl2) fS fS fU fU).mono ?_)
  first|rintro e w3 rfl hbl3 hfr3|rintro e w3 ⟨rfl,hbl3,hfr3⟩
  go_wp2_with fail
  go_end0
  exact⟨rfl,hbl3,(hfxb.trans hfr2).trans hfr3⟩
theorem often_eq {lo hi:Int} (w:World) (h0:0≤lo) (h1:lo≤255) (h2:hi=-1∨lo≤hi∧hi≤255) (ht:Tab w) :
  Calls Tryz.prog 49 #[.int .i64 lo,.int .i64 hi] w fun e w'=>e=.returned (.string ⟨(oftS lo hi).toArray⟩)∧Below w.heap.size w w':=Bv lo hi w h0 h1 h2 ht
theorem show_rep (B g:Nat) (acc:Str) (c:Str) (ng:Bool) (ra:Option Addr) (rs:List (Str × Str)) (rn rc:Nat) (lo hi:Int) (lz:Bool) (ka:Option Addr) (y:Rx) (kc:Nat) (w:World)
  (ih:ShowC B g y) (hgT:1<B) (h0:0≤lo) (h1:lo≤255) (h2:hi=-1∨lo≤hi∧hi≤255)
  (hbl:Bld B g acc w) (hB:B≤w.heap.size) (ht:Tab w) (hx:RxSl w (·<B) ka 1 [y])
  (hlen:(acc++(Rx.mk 7 c ng rs lo hi lz [y]).tell).length≤10000000) :
  Calls Tryz.prog 24 #[.pointer (some ⟨g,0,none⟩),.agg #[.int .i64 7,.string ⟨c.toArray⟩,.bool ng,.slice ra rn rc,.int .i64 lo,.int .i64 hi,.bool lz,.slice ka 1 kc]] w fun e w'=>oG B g (acc++(Rx.mk 7 c ng rs lo hi lz [y]).tell) w e w':=by
 have IH:=ab ih;have H2:=ab h2;have HO:Hid (acc++(Rx.mk 7 c ng rs lo hi lz [y]).tell=acc++y.tell++oftS lo hi++(if lz=true then [63] else [])):=ab iv;rw [HO.out] at hlen ⊢;have hl3:acc.length+y.tell.length+(oftS lo hi).length≤10000000:=by simp only [DE] at hlen;omega
 clear ih h2 hlen;obtain⟨yk,yc,yn,yr,yl,yh,yz,ys⟩:=y;have hgl:=hbl.lt;have hgB:=hbl.le;obtain⟨w0,hw0⟩:∃w0,w0=w.alloc (.cells #[.int .i64 7,.string ⟨c.toArray⟩,.bool ng,.slice ra rn rc,.int .i64 lo,.int .i64 hi,.bool lz,.slice ka 1 kc] 25):=⟨_,rfl⟩;have hb0:Below w.heap.size w w0:=by rw [hw0];exact(Below.refl _ _).alloc (Dv _) _
 have hbx0:w0.heap[w.heap.size]?=some (.cells #[.int .i64 7,.string ⟨c.toArray⟩,.bool ng,.slice ra rn rc,.int .i64 lo,.int .i64 hi,.bool lz,.slice ka 1 kc] 25 (0,0)):=by rw [hw0];exact heap_alloc_new w _
 obtain⟨b,o,ya,yrc,yka,ykc,rfl,hS,hbB,_,_,hyv,c0,c1,c2,c3,c4,c5,c6,c7⟩:=hx.cells (m:=0) rfl;simp only [Nat.zero_mul,Nat.add_zero] at c0 c1 c2 c3 c4 c5 c6 c7;have HYV:=ab (hyv.later hb0);unfold rxc at HYV;have HTB:=ab (ht.keep hb0);have hB0:B≤w0.heap.size:=Dz hB hb0.size;have hf0:Fr B [g] [5] w w0:=Fr.of_below hb0 (Dv _);have HBX0:=ab hbx0;have HBL0:Hid (Bld B g acc w0):=ab (by rw [hw0];exact hbl.alloc _);rw [hw0] at HYV HTB HBL0;have HW0:=ab hw0;clear hx ht hw0 hyv hbx0;go_enter Tryz.func24,Tryz.ntmps24
 go_wp2_with (go_at_call 24;refine(IH.out.at_ HYV.out HBL0.out fY HTB.out rfl (by simp only [DE];omega)).mono ?_)
 first|rintro e w1 rfl hbl1 hfr1|rintro e w1 ⟨rfl,hbl1,hfr1⟩
 rw [←HW0.out] at hfr1;have hbx1:=hfr1.held HBX0.out fU (Nat.ne_of_gt hgl);have z4:w1.cell? ⟨w.heap.size,4,none⟩=some (.int .i64 lo):= gv;have z5:w1.cell? ⟨w.heap.size,5,none⟩=some (.int .i64 hi):= gv;have hB1:B≤w1.heap.size:=Dz hB0 hfr1.size;have hbw1:=hfr1.below hB0 jk;have HTB1:=ab ((show Tab w0 by rw [HW0.out];exact HTB.out).keepB hgT hbw1);have hfx:=hf0.trans hfr1;have HBX1:=ab hbx1;have hgl1:=hbl1.lt;clear hbx1 hfr1;go_wp2_with (go_at_call 49;refine(often_eq _ h0 h1 H2.out HTB1.out).mono ?_)
 first|rintro e w2 rfl hb2|rintro e w2 ⟨rfl,hb2⟩
 have hbl2:=hbl1.below hb2;have hB2:B≤w2.heap.size:=Dz hB1 hb2.size;have hfx2:Fr B [g] [5] w w2:=hfx.trans (Fr.of_below hb2 (Dv _));have HBX2:Hid (w2.heap[w.heap.size]?=some (.cells #[.int .i64 7,.string ⟨c.toArray⟩,.bool ng,.slice ra rn rc,.int .i64 lo,.int .i64 hi,.bool lz,.slice (some ⟨b,o,none⟩) 1 kc] 25 (0,0))):=ab ((hb2.block _ (jA HBX1.out)).trans HBX1.out);clear hb2;go_wp2_with (go_at_call 35;refine(jU B _ (acc++Rx.tell (.mk yk yc yn yr yl yh yz ys)) _ _ (hbl2) fS fS fS).mono ?_)
 first|rintro e w3 rfl hbl3 hfr3|rintro e w3 ⟨rfl,hbl3,hfr3⟩
 have hbx3:=hfr3.held HBX2.out fU (Nat.ne_of_gt hgl);have z6:w3.cell? ⟨w.heap.size,6,none⟩=some (.bool lz):=(by rw [DB hbx3];rfl);have hB3:B≤w3.heap.size:=Dz hB2 hfr3.size;have hfx3:=hfx2.trans hfr3;clear hbx3 hfr3;cases lz with
 | false =>
  go_wp2
  go_end0
  exact⟨rfl,by simpa using hbl3,hfx3⟩
 | true =>
  go_wp2_with (go_at_call 46;refine(jW B _ (acc++Rx.tell (.mk yk yc yn yr yl yh yz ys)++oftS lo hi) 63 _ (hbl3) fS fS fU fU).mono ?_)
  first|rintro e w4 rfl hbl4 hfr4|rintro e w4 ⟨rfl,hbl4,hfr4⟩
  go_wp2_with fail
  go_end0
  exact⟨rfl,by simpa using hbl4,hfx3.trans hfr4⟩
theorem len1 {α:Type} {l:List α} (h:l.length=1):∃a,l=[a]:=by
 match l,h with
 | [a],_=>exact⟨a,rfl⟩
theorem yw (B g:Nat) (hgT:1<B):∀(N:Nat) (x:Rx),x.parts≤N→x.small→x.wf=true→ShowC B g x
 | 0,x,h,_,_=>by have:=Rx.parts_pos x;omega
 | N+1,.mk k c ng rs lo hi lz ks,h,hsm,hwf=>by
  intro cc acc w hv hbl hB ht hlen;obtain⟨ra,rc,ka,kc,rfl,hrs,hx⟩:=hv.open_;obtain⟨⟨s1,s2,s3,s4⟩,hsmL⟩:=hsm;obtain⟨hf,hwl⟩:=BE hwf;simp only [Rx.parts] at h;have ih:∀y∈ks,ShowC B g y:=fun y hy=>yw B g hgT N y gS (kV hsmL hy) (sJ hwl hy)
  have hrB:Sl w B ra 2 rs.length (jN rs):=⟨hrs.1,fun hn=>by
   obtain⟨b,o,e1,e2,_,e4⟩:=hrs.2 hn;exact⟨b,o,e1,e2,e4⟩⟩
  have hal:acc.length≤10000000:=by simp only [DE] at hlen;omega
  unfold rxc;rcases uD hf with rfl|rfl|rfl|rfl|rfl|rfl|rfl|rfl|rfl|rfl|rfl|rfl
  ·exact show_seq B g acc c ng ra rs _ rc lo hi lz ka ks kc w ih hgT hbl hB ht hx s4 (by simpa [Rx.tell,tlF] using hlen)
  ·exact show_alt B g acc c ng ra rs _ rc lo hi lz ka ks kc w ih hgT hbl hB ht hx s4 (by simpa [Rx.tell,taF] using hlen)
  ·have hp:kj c=true:=by simp [jT] at hf;exact hf.2
   exact C4 B g acc c ng ra rs _ rc lo hi lz ka ks _ kc w hbl hB hal (pX hp) s1
  ·exact mZ B g acc 3 fX c ng ra rs _ rc lo hi lz ka ks _ kc w hbl hB hal
  ·have hp:ox rs=true:=by simp [jT] at hf;exact hf.2
   exact show_set B g acc c ng ra rs rc lo hi lz ka ks _ kc w hbl hB hrB (xi hp) s3 s2 (by simpa [Rx.tell] using hlen)
  ·have h1:ks.length=1:=by simp [jT] at hf;exact hf.2
   obtain⟨y,rfl⟩:=len1 h1;exact te B g acc 5 (.inl rfl) c ng ra rs _ rc lo hi lz ka y kc w (ih y fX) hgT hbl hB ht hx hlen
  ·have h1:ks.length=1:=by simp [jT] at hf;exact hf.2
   obtain⟨y,rfl⟩:=len1 h1;exact te B g acc 6 (.inr rfl) c ng ra rs _ rc lo hi lz ka y kc w (ih y fX) hgT hbl hB ht hx hlen
  ·simp only [jT] at hf
   rw [Du fU,Du fU,Dr trivial] at hf;simp only [Dy,Dp] at hf;obtain⟨⟨_,h1⟩,h2,h3,h4⟩:=hf;match ks,h1 with
   | [y],_=>exact show_rep B g acc c ng ra rs _ rc lo hi lz ka y kc w (ih y fX) hgT h2 h3 h4 hbl hB ht hx hlen
  ·exact mZ B g acc 8 fX c ng ra rs _ rc lo hi lz ka ks _ kc w hbl hB hal
  ·exact mZ B g acc 9 fX c ng ra rs _ rc lo hi lz ka ks _ kc w hbl hB hal
  ·exact mZ B g acc 10 fX c ng ra rs _ rc lo hi lz ka ks _ kc w hbl hB hal
  ·exact mZ B g acc 11 fX c ng ra rs _ rc lo hi lz ka ks _ kc w hbl hB hal
open Go.RowKit
theorem pZ (S:Nat→Prop) (x:Rx) (cc:List Value) (w:World) (hm:x.parts≤1000000) (hsm:x.small) (hv:RxV w S cc x) (ht:Tab w) (hmay:mayB x=true) (hlen:x.tell.length≤10000000) :
  Calls Tryz.prog 11 #[.agg cc.toArray] w fun e w'=>e=.returned (.tuple #[.string ⟨(x.tell).toArray⟩,.int .i64 0])∧Below w.heap.size w w':=by
 have hwf:x.wf=true:=by
  have h:=hmay;simp only [mayB,okB,Dy] at h;exact h.1.1
 obtain⟨k,c,ng,rs,lo,hi,lz,ks⟩:=x;obtain⟨ra,rc,ka,kc,rfl,hrs,hx⟩:=hv.open_;obtain⟨w0,hw0⟩:∃w0,w0=w.alloc (.cells #[.int .i64 k,.string ⟨c.toArray⟩,.bool ng,.slice ra rs.length rc,.int .i64 lo,.int .i64 hi,.bool lz,.slice ka ks.length kc] 25):=⟨_,rfl⟩;have hb0:Below w.heap.size w w0:=by rw [hw0];exact(Below.refl _ _).alloc (Dv _) _
 have hbx0:w0.heap[w.heap.size]?=some (.cells #[.int .i64 k,.string ⟨c.toArray⟩,.bool ng,.slice ra rs.length rc,.int .i64 lo,.int .i64 hi,.bool lz,.slice ka ks.length kc] 25 (0,0)):=by rw [hw0];exact heap_alloc_new w _
 have HV0:=ab (hv.later hb0).any;have HTB:=ab (ht.keep hb0);have HSM:=ab hsm;have HMAY:=ab hmay;have HWF:=ab hwf;have HBX0:=ab hbx0;have HLEN:=ab hlen;have HM:=ab hm;rw [hw0] at HV0;have HW0:=ab hw0;clear hv hrs hx hsm hmay hwf ht hbx0 hw0 hlen hm;unfold rxc at HV0 ⊢;go_enter Tryz.func11,Tryz.ntmps11
 go_wp2_with (go_at_call 20;refine(pG Any _ _ _ HM.out HSM.out HV0.out).mono ?_)
 first|rintro e w1 rfl hb1|rintro e w1 ⟨rfl,hb1⟩
 rw [HMAY.out];have hb1':Below w0.heap.size w0 w1:=by rw [HW0.out];exact hb1.mono fX
 have HV1:=ab ((show RxV w0 Any _ _ by rw [HW0.out];exact HV0.out).later hb1');have HTB1:=ab (HTB.out.keep hb1');have hbx1:=(hb1'.block _ (jA HBX0.out)).trans HBX0.out;have hbw1:Below w.heap.size w w1:=hb0.trans (hb1'.mono hb0.size);have hz1:=hbw1.size;have hl1:=jA hbx1;have e0:w1.cell? ⟨w.heap.size,0,none⟩=some (.int .i64 k):=by rw [DB hbx1];rfl
 have e1:w1.cell? ⟨w.heap.size,1,none⟩=some (.string ⟨c.toArray⟩):=by rw [DB hbx1];rfl
 have e2:w1.cell? ⟨w.heap.size,2,none⟩=some (.bool ng):=by rw [DB hbx1];rfl
 have e3:w1.cell? ⟨w.heap.size,3,none⟩=some (.slice ra rs.length rc):=by rw [DB hbx1];rfl
 have e4:w1.cell? ⟨w.heap.size,4,none⟩=some (.int .i64 lo):=by rw [DB hbx1];rfl
 have e5:w1.cell? ⟨w.heap.size,5,none⟩=some (.int .i64 hi):=by rw [DB hbx1];rfl
 have e6:w1.cell? ⟨w.heap.size,6,none⟩=some (.bool lz):=by rw [DB hbx1];rfl
 have e7:w1.cell? ⟨w.heap.size,7,none⟩=some (.slice ka ks.length kc):=by rw [DB hbx1];rfl
 have HV2:=ab ((HV1.out.mono (S':=(·<w1.heap.size)) (fun _ _ h=>h)).later ((Below.refl _ _).alloc (Dv _) (.cells #[.pointer none,.slice none 0 0] 50)));have HTB2:=ab (HTB1.out.keep ((Below.refl _ _).alloc (Dv _) (.cells #[.pointer none,.slice none 0 0] 50)));have hgT:=HTB1.out.lt;clear hb1 hbx1;go_wp2_with (go_at_call 24;refine((yw w1.heap.size w1.heap.size hgT _ _ (Dv _) HSM.out HWF.out).at_ (acc:=[]) HV2.out (Bld.fresh _ _ (Dv _)) fX HTB2.out (D4 _) HLEN.out).mono ?_)
 first|rintro e w2 rfl hbl2 hfr2|rintro e w2 ⟨rfl,hbl2,hfr2⟩
 have hB2:w1.heap.size≤w2.heap.size:=by have:=hfr2.size;simp at this;omega
 have hbw2:Below w1.heap.size w1 w2:=((Below.refl _ _).alloc (Dv _) _).trans (hfr2.below fX fX);go_wp2_with (go_at_call 25;refine(nw _ _ _ _ hbl2 hB2).mono ?_;rintro e w3 ⟨rfl,hb3⟩)
 go_ret2
 exact⟨rfl,hbw1.trans ((hbw2.trans hb3).mono hz1)⟩
end Go.Proofs.YtjggmmaojklmpaaGreatDoor
