/- walk of sread: braced -/
import Derived.Test.YtbgcjpefocdkkaaSx1
import Derived.Test.YtbgcjpefocdkkaaSx2
import Derived.Test.YtbgcjpefocdkkaaSx3
import Derived.Test.YtbgcjpefocdkkaaSx4
import Derived.Test.YtbgcjpefocdkkaaSx5
import Derived.Test.YtbgcjpefocdkkaaSx6
import Derived.Test.YtbgcjpefocdkkaaSx7
import Derived.Test.YtbgcjpefocdkkaaSx8
import Derived.Test.YtbgcjpefocdkkaaSx9
import Derived.Test.YtbgcjpefocdkkaaSx10
import Derived.Test.YtbgcjpefocdkkaaSx11
import Derived.Test.YtbgcjpefocdkkaaSx12
import Derived.Lib.ItoaMem
import Derived.Test.YtbgcjpefocdkkaaSx13
import Derived.Test.YtbgcjpefocdkkaaSx14
import Derived.Test.YtbgcjpefocdkkaaSx15
import Derived.Test.YtbgcjpefocdkkaaSx16
import Derived.Test.YtbgcjpefocdkkaaSx17
import Derived.Test.YtbgcjpefocdkkaaSx18
import Derived.Test.YtbgcjpefocdkkaaSx19
import Derived.Test.YtbgcjpefocdkkaaSx20
import Derived.Test.YtbgcjpefocdkkaaSx21
set_option maxRecDepth 100000
namespace Go.Proofs.Ytbgcjpefocdkkaa
open Go.RowKit Go.Maps Go.MapKept
open Go.ChangeMaps (setBlock)
def PartsPost (S:Nat→Prop) (g m:Nat) (s:Str) (ins:Bool) (RX:List Sn × Str) (w:World) (e:Ending) (w':World):Prop:=Gr2 g m w w' ∧
 ∃(S':Nat→Prop) (j:Nat) (a:Option Addr) (c:Nat),e=.returned (.tuple #[.slice a RX.1.length c,.bool (!ins||!RX.2.isEmpty)])∧Rs S' w' g m s j∧(∀b,S b→S' b)∧(∀b,S' b→S b∨w.heap.size≤b) ∧
  SnSl w' S' a RX.1.length RX.1∧s.drop j=RX.2
def PartsC (g m:Nat) (s:Str) (N:Nat):Prop:=∀(S:Nat→Prop) (w:World) (ins:Bool) (i:Nat),Rs S w g m s i→s.length-i≤N →
 Calls Try.prog 19 #[.pointer (some ⟨g,0,none⟩),.bool ins] w fun e w'=>PartsPost S g m s ins (partsS ins [] [] (s.drop i)) w e w'
theorem partsS_head:∀(n:Nat) (out:List Sn) (text r:Str),r.length≤n→∀c t,(partsS true out text r).2=c::t→c.toNat=125
 | n,out,text,[],_,c,t,h=>by rw [partsS_nil] at h;cases h
 | 0,out,text,d::r,hn,_,_,_=>by simp at hn
 | n+1,out,text,d::r,hn,c,t,h=>by
  rw [partsS_cons] at h;split at h
  ·rename_i hc
   simp only at h
   injection h with h _;rw [←h];exact hc.2
  ·cases he:dolM partS d r with
   | some y =>
    obtain⟨x,r2⟩:=y;rw [he] at h;have hr:r2.length<r.length:=by
     unfold dolM at he;split at he
     ·exact partS_len he
     ·cases he
    exact partsS_head n _ _ r2 (by simp at hn;omega) c t h
   | none =>
    rw [he] at h;have hr:=nxtM_len three d r;exact partsS_head n _ _ _ (by simp at hn;omega) c t h
theorem hx_v {w:World} {S:Nat→Prop} {k:Int} {t:Str} {n:Int} {h u:Bool} {os:List Str} {ks:List Sn} {oa ka:Option Addr} {oc kc:Nat} (h1:SlS w S oa 1 os.length (scells os)) (h2:SnSl w S ka ks.length ks) :
  SnV w S [.int .i64 k,.string ⟨(t).toArray⟩,.int .i64 n,.bool h,.bool u,.int .i64 0,.string ⟨#[]⟩,.bool false,.slice none 0 0,.int .i64 0,.int .i64 0,.bool false,.slice none 0 0,.slice none 0 0,.bool false,.bool false,.slice oa os.length oc,.slice ka ks.length kc] (.mk k t n h u tf0 os ks):=SnV.close (TfV.zero w S) h1 h2
theorem optsM_eq (x:Sn) (r:Str):optsM x r=if List.isPrefixOf [124,125] (optL r [] []).2=true then some (x.choose (optL r [] []).1,(optL r [] []).2.drop 2) else none:=by
 unfold optsM;generalize optL r [] []=q
 obtain⟨o,t⟩:=q;rcases t with _|⟨c,_|⟨d,r2⟩⟩
 ·rfl
 ·simp [List.isPrefixOf]
 ·simp only [List.isPrefixOf,Bool.and_true,Bool.and_eq_true,beq_iff_eq]
  by_cases h:c.toNat=124∧d.toNat=125
  ·rw [if_pos h,if_pos ⟨(UInt8.toNat_inj.1 h.1).symm,(UInt8.toNat_inj.1 h.2).symm⟩];rfl
  ·rw [if_neg h,if_neg (fun e=>h ⟨by rw [←e.1];rfl,by rw [←e.2];rfl⟩)]
def setsL (b:Nat):Nat→List Value→World→World
 | _,[],w=>w
 | o,v::r,w=>setsL b (o+1) r (w.setCell ⟨b,o,none⟩ v)
theorem setsL_mid {b:Nat} {t:TypeId} {post:List Value}:∀(vs old pre:List Value) {w:World},w.heap[b]?=some (.cells (pre++(old++post)).toArray t (0,0))→old.length=vs.length→(setsL b pre.length vs w).heap[b]?=some (.cells (pre++(vs++post)).toArray t (0,0))
 | [],[],_,_,h,_=>h
 | [],_::_,_,_,_,hl=>by cases hl
 | _::_,[],_,_,_,hl=>by cases hl
 | v::r,u::q,pre,w,h,hl=>by
  have h1:=heap_setCell_same w b pre.length _ t v h;have h2:=setsL_mid (t:=t) (post:=post) r q (pre++[v]) (w:=w.setCell ⟨b,pre.length,none⟩ v) (by rw [h1];simp) (by simpa using hl);simp only [List.length_append,List.length_cons,List.length_nil,Nat.zero_add] at h2;simp only [setsL];rw [h2];simp
theorem setsL_other {b k:Nat} (h:k≠b):∀(vs:List Value) (o:Nat) (w:World),(setsL b o vs w).heap[k]?=w.heap[k]?
 | [],_,_=>rfl
 | v::r,o,w=>(setsL_other h r (o+1) (w.setCell ⟨b,o,none⟩ v)).trans (heap_setCell_other w ⟨b,o,none⟩ k v h)
theorem setsL_size {b:Nat}:∀(vs:List Value) (o:Nat) (w:World),(setsL b o vs w).heap.size=w.heap.size
 | [],_,_=>rfl
 | _::r,o,_=>(setsL_size r (o+1) _).trans (by simp [World.setCell])
theorem setsL_rest {b:Nat}:∀(vs:List Value) (o:Nat) (w:World),(setsL b o vs w).os=w.os∧(setsL b o vs w).tape=w.tape∧(setsL b o vs w).output=w.output
 | [],_,_=>⟨rfl,rfl,rfl⟩
 | _::r,o,_=>setsL_rest r (o+1) _
theorem Rs.setsL {S:Nat→Prop} {w:World} {g m:Nat} {s:Str} {i:Nat} (h:Rs S w g m s i) {b:Nat} (hb:¬S b∧b≠g∧b≠m) (vs:List Value) (o:Nat):Rs S (setsL b o vs w) g m s i :=
 h.moved ⟨(setsL_other (Ne.symm hb.2.1) vs o w).trans h.pl.1,h.pl.2⟩ (by rw [setsL_size];exact Nat.le_refl _) fun k hk _=>setsL_other (by
  rcases hk with hk|hk
  ·rintro rfl;exact hb.1 hk
  ·rintro rfl;exact hb.2.2 hk) vs o w
theorem Gr2.setsL {g m:Nat} {w0 w:World} (h:Gr2 g m w0 w) {b:Nat} (hb:w0.heap.size≤b) (vs:List Value) (o:Nat):Gr2 g m w0 (setsL b o vs w) :=
 ⟨(setsL_rest vs o w).1.trans h.os,(setsL_rest vs o w).2.1.trans h.tape,(setsL_rest vs o w).2.2.trans h.output,by rw [setsL_size];exact h.size,fun k hk h1 h2=>(setsL_other (by omega) vs o w).trans (h.block k hk h1 h2)⟩
theorem Rs.twice {S:Nat→Prop} {w:World} {g m:Nat} {s:Str} {i e:Nat} (h:Rs S w g m s i) (he:e+1≤s.length):Rs S ((w.setCell ⟨g,1,none⟩ (.int .i64 (e:Int))).setCell ⟨g,1,none⟩ (.int .i64 ((e:Int)+1))) g m s (e+1):=by
 have h1:=h.place (h.pl.set (j:=e) (by omega)) (grown_set (grown_refl _ _) 1 _);have h2:=h1.place (h1.pl.set (j:=e+1) he) (grown_set (grown_refl _ _) 1 _);push_cast at h2;exact h2
theorem Gr2.twice {g m:Nat} {w0 w:World} (h:Gr2 g m w0 w) (u v:Value):Gr2 g m w0 ((w.setCell ⟨g,1,none⟩ u).setCell ⟨g,1,none⟩ v) :=
 h.trans ((Gr2.grown (grown_set (grown_refl _ _) 1 _)).trans (Gr2.grown (grown_set (grown_refl _ _) 1 _)))
theorem twice_other {w:World} {g k:Nat} (u v:Value) (h:k≠g):((w.setCell ⟨g,1,none⟩ u).setCell ⟨g,1,none⟩ v).heap[k]?=w.heap[k]? :=
 (heap_setCell_other _ ⟨g,1,none⟩ k v h).trans (heap_setCell_other _ ⟨g,1,none⟩ k u h)
def FormM5 (s:Str) (R:Option (Tf × Str)) (f:Tf) (ej:Nat) (ok:Bool):Prop :=
 match R with
 | none=>ok=false
 | some (f0,r)=>ok=true∧f=f0∧s.drop (ej+1)=r
theorem form_cells {s:Str} {i B:Nat} {w:World} {R:Option (Tf × Str)} {e:Ending} {w':World} (hs1:1≤s.length) (h:FormPost s i B w R e w') :
  ∃(rk:Int) (rch:Str) (rng:Bool) (ra:Option Addr) (rn rcp:Nat) (rlo rhi:Int) (rlz:Bool) (rka:Option Addr) (kn rkc:Nat) (fa:Option Addr) (fn fcp:Nat) (fd al:Bool) (f:Tf) (ej:Nat) (ok:Bool),
   e=.returned (.tuple #[.agg #[.int .i64 rk,.string ⟨(rch).toArray⟩,.bool rng,.slice ra rn rcp,.int .i64 rlo,.int .i64 rhi,.bool rlz,.slice rka kn rkc,.slice fa fn fcp,.bool fd,.bool al],.int .i64 ej,.bool ok])∧Below w.heap.size w w'∧TfV w' (fun b=>B≤b) [.int .i64 rk,.string ⟨(rch).toArray⟩,.bool rng,.slice ra rn rcp,.int .i64 rlo,.int .i64 rhi,.bool rlz,.slice rka kn rkc,.slice fa fn fcp,.bool fd,.bool al] f∧ej+1≤s.length∧FormM5 s R f ej ok:=by
 obtain⟨hb,h⟩:=h;cases R with
 | none =>
  refine⟨0,[],false,none,0,0,0,0,false,none,0,0,none,0,0,false,false,tf0,0,false,?_,hb,TfV.zero _ _,hs1,rfl⟩;rw [h];rfl
 | some p =>
  obtain⟨f0,r⟩:=p;obtain⟨fc,j,he,hv,_,hj,hd⟩:=h;obtain⟨rk,rch,rng,rrs,rlo,rhi,rlz,rks,ra,rcp,rka,rkc,fa,fcp,hc⟩:=hv.open_;refine⟨rk,rch,rng,ra,_,rcp,rlo,rhi,rlz,rka,_,rkc,fa,_,fcp,_,_,f0,j,true,?_,hb,hc.eq▸hv,hj,rfl,rfl,hd⟩;rw [he,hc.eq]
theorem n11_eq (w:World) (b:Nat) (v0 v1 v2 v3 v4 v5 v6 v7 v8 v9 va:Value):(((((((((((w.setCell ⟨b,5,none⟩ v0).setCell ⟨b,6,none⟩ v1).setCell ⟨b,7,none⟩ v2).setCell ⟨b,8,none⟩ v3).setCell ⟨b,9,none⟩ v4).setCell ⟨b,10,none⟩ v5).setCell ⟨b,11,none⟩ v6).setCell ⟨b,12,none⟩ v7).setCell ⟨b,13,none⟩ v8).setCell ⟨b,14,none⟩ v9).setCell ⟨b,15,none⟩ va)=setsL b 5 [v0,v1,v2,v3,v4,v5,v6,v7,v8,v9,va] w:=by
 simp only [setsL]
end Go.Proofs.Ytbgcjpefocdkkaa
set_option maxRecDepth 100000
namespace Go.Proofs.Ytbgcjpefocdkkaa
open Go.RowKit
def eqP (c:Value):Value→World→Prop:=fun v _=>v=c
def FsAt (Fs:List (Value→World→Prop)) (j:Nat):Value→World→Prop:=Fs.getD j (fun _ _=>True)
def MonoF (Fs:List (Value→World→Prop)):Prop:=∀P∈Fs,∀v w w',Below w.heap.size w w'→P v w→P v w'
theorem MonoF.nil:MonoF []:=fun _ h=>by cases h
theorem MonoF.eq {Fs:List (Value→World→Prop)} {c:Value} (h:MonoF Fs):MonoF (eqP c::Fs):=fun P hP v w w' hb hv=>by
 rcases List.mem_cons.1 hP with rfl|hP
 ·exact hv
 ·exact h P hP v w w' hb hv
theorem MonoF.cons {Fs:List (Value→World→Prop)} {P0:Value→World→Prop} (h0:∀v w w',Below w.heap.size w w'→P0 v w→P0 v w') (h:MonoF Fs):MonoF (P0::Fs):=fun P hP v w w' hb hv=>by
 rcases List.mem_cons.1 hP with rfl|hP
 ·exact h0 v w w' hb hv
 ·exact h P hP v w w' hb hv
theorem MonoF.at_ {Fs:List (Value→World→Prop)} (h:MonoF Fs) (j:Nat) {v:Value} {w w':World} (hb:Below w.heap.size w w') (hv:FsAt Fs j v w):FsAt Fs j v w':=by
 unfold FsAt at *;rw [List.getD_eq_getElem?_getD] at *;cases hj:Fs[j]? with
 | none=>trivial
 | some P=>rw [hj] at hv;exact h P (List.mem_of_getElem? hj) v w w' hb hv
structure BelI (W0:World) (Fs:List (Value→World→Prop)) (V:Nat→Value) (L:Nat→Bool) (w':World):Prop where
 ext:Below W0.heap.size W0 w'
 at_:∀j,L j=true→FsAt Fs j (V j) w'
theorem BelI.start (W0:World) (Fs:List (Value→World→Prop)) (V:Nat→Value):BelI W0 Fs V (fun _=>false) W0.drew:=⟨(Below.refl _ _).drew,fun _ h=>by cases h⟩
theorem BelI.step {W0:World} {Fs:List (Value→World→Prop)} (hM:MonoF Fs) {V:Nat→Value} {L:Nat→Bool} {w' w2:World} (h:BelI W0 Fs V L w') (k:Nat) {v:Value} (hb:Below w'.heap.size w' w2) (hv:FsAt Fs k v w2) :
  BelI W0 Fs (upd V k v) (fun j=>L j||j==k) w2 :=
 ⟨h.ext.trans (hb.mono h.ext.size),fun j hj=>by
  unfold upd;by_cases e:j=k
  ·subst e;rw [if_pos rfl];exact hv
  ·rw [if_neg e]
   have e1:(j==k)=false:=beq_eq_false_iff_ne.2 e;simp only [e1,Bool.or_false] at hj;exact hM.at_ j hb (h.at_ j hj)⟩
theorem BelI.same {W0:World} {Fs:List (Value→World→Prop)} (hM:MonoF Fs) {V:Nat→Value} {L:Nat→Bool} {w':World} (h:BelI W0 Fs V L w') (k:Nat) {v:Value} (hv:FsAt Fs k v w') :
  BelI W0 Fs (upd V k v) (fun j=>L j||j==k) w':=h.step hM k (Below.refl _ _) hv
end Go.Proofs.Ytbgcjpefocdkkaa
set_option maxRecDepth 100000
namespace Go.Proofs.Ytbgcjpefocdkkaa
open Go.RowKit
theorem puts_cons (d:Nat) (ds:List Nat) (k:Nat) (V:Nat→Value) (a:Act):putsL (d::ds) k V a=putsL ds (k+1) V (a.put (some d) (V k)):=rfl
theorem puts_size:∀(ds:List Nat) (k:Nat) (V:Nat→Value) (a:Act),(putsL ds k V a).tmps.size=a.tmps.size
 | [],_,_,_=>rfl
 | d::ds,k,V,a=>(puts_size ds (k+1) V _).trans (by simp [Act.put])
theorem puts_out:∀(ds:List Nat) (k:Nat) (V:Nat→Value) (a:Act) (t:Nat),t ∉ ds→(putsL ds k V a).tmps[t]?=a.tmps[t]?
 | [],_,_,_,_,_=>rfl
 | d::ds,k,V,a,t,h=>by
  rw [puts_cons,puts_out ds (k+1) V _ t (fun e=>h (List.mem_cons_of_mem _ e))];simp only [Act.put];rw [Array.getElem?_setIfInBounds_ne (fun e=>h (by simp [e]))]
theorem puts_in:∀(ds:List Nat) (k:Nat) (V:Nat→Value) (a:Act) (i t:Nat),ds.Nodup→ds[i]?=some t→t<a.tmps.size→(putsL ds k V a).tmps[t]?=some (V (k+i))
 | [],_,_,_,i,t,_,h,_=>by simp at h
 | d::ds,k,V,a,0,t,hn,h,hs=>by
  simp at h;subst h
  rw [puts_cons,puts_out ds (k+1) V _ _ (List.nodup_cons.1 hn).1];simp [Act.put,hs]
 | d::ds,k,V,a,i+1,t,hn,h,hs=>by
  rw [puts_cons,puts_in ds (k+1) V _ i t (List.nodup_cons.1 hn).2 (by simpa using h) (by simpa [Act.put] using hs)];rw [show k+1+i=k+(i+1) by omega]
theorem puts_defers:∀(ds:List Nat) (k:Nat) (V:Nat→Value) (a:Act),(putsL ds k V a).defers=a.defers
 | [],_,_,_=>rfl
 | _::ds,k,V,_=>(puts_defers ds (k+1) V _).trans rfl
theorem puts_put (ds:List Nat) (V:Nat→Value) (a:Act) (i t:Nat) (v:Value) (hn:ds.Nodup) (h:ds[i]?=some t) (hb:∀d∈ds,d<a.tmps.size):(putsL ds 0 V a).put (some t) v=putsL ds 0 (upd V i v) a:=by
 have e:((putsL ds 0 V a).put (some t) v).tmps=(putsL ds 0 (upd V i v) a).tmps:=by
  apply Array.ext_getElem?
  intro j;simp only [Act.put];have ht:=hb t (List.mem_of_getElem? h);by_cases hjt:t=j
  ·subst hjt
   rw [Array.getElem?_setIfInBounds_self_of_lt (by rw [puts_size];exact ht),puts_in ds 0 _ a i t hn h ht];simp [upd]
  ·rw [Array.getElem?_setIfInBounds_ne hjt]
   by_cases hj:j∈ds
   ·obtain⟨m,hm⟩:=List.getElem?_of_mem hj
    rw [puts_in ds 0 _ a m j hn hm (hb j hj),puts_in ds 0 _ a m j hn hm (hb j hj)];have:m≠i:=fun e=>by subst e;rw [hm] at h;injection h with h;exact hjt h.symm
    simp [upd,this]
   ·rw [puts_out ds 0 _ a j hj,puts_out ds 0 _ a j hj]
 have key:∀x y:Act,x.tmps=y.tmps→x.defers=y.defers→x=y:=fun x y h h'=>by cases x;cases y;simp only at h h';subst h;subst h';rfl
 refine key _ _ e ?_;show (putsL ds 0 V a).defers=_
 rw [puts_defers,puts_defers]
structure Fm2 (ds:List Nat) (V:Nat→Value) (A0 a:Act):Prop where
 eq:a=putsL ds 0 V A0
theorem Fm2.ins {ds:List Nat} {V:Nat→Value} {A0 a:Act} (h:Fm2 ds V A0 a) (hn:ds.Nodup) (hb:∀d∈ds,d<A0.tmps.size) (i:Nat) {t:Nat} (hi:ds[i]?=some t):a.tmps[t]?=some (V i):=by
 rw [h.eq,puts_in ds 0 V A0 i t hn hi (hb t (List.mem_of_getElem? hi))];simp
theorem Fm2.out {ds:List Nat} {V:Nat→Value} {A0 a:Act} (h:Fm2 ds V A0 a) {t:Nat} (ht:t ∉ ds):a.tmps[t]?=A0.tmps[t]?:=by
 rw [h.eq,puts_out ds 0 V A0 t ht]
theorem Fm2.put {ds:List Nat} {V:Nat→Value} {A0 a:Act} (h:Fm2 ds V A0 a) (hn:ds.Nodup) (hb:∀d∈ds,d<A0.tmps.size) (i:Nat) {t:Nat} (hi:ds[i]?=some t) (v:Value):Fm2 ds (upd V i v) A0 (a.put (some t) v):=⟨by rw [h.eq,puts_put ds V A0 i t v hn hi hb]⟩
theorem Fm2.skip {ds:List Nat} {V:Nat→Value} {A0 a:Act} (h:Fm2 ds V A0 a) (v:Value):Fm2 ds V A0 (a.put none v):=h
theorem ev_of {a:Act} {t:Nat} {v:Value} (h:a.tmps[t]?=some v):a.eval (.tmp t)=v:=by
 simp [Act.eval,Array.getD_eq_getD_getElem?,h]
theorem wanted_none {o:Oper} {y:Nat→Option Bool} (h:o.guard=none):Region.wanted o y=true:=by simp [Region.wanted,h]
theorem yl_of {ops:Array Oper} {a:Act} {g d:Nat} {b:Bool} (h1:(ops[g]?).bind (·.dst)=some d) (h2:a.tmps[d]?=some (.bool b)):yielded ops a.tmps g=some b:=by
 unfold yielded;rw [h1];simp [h2]
theorem wanted_yes {ops:Array Oper} {a:Act} {o:Oper} {g:Nat} {b:Bool} (h:o.guard=some (g,b)) (h2:yielded ops a.tmps g=some b):Region.wanted o (yielded ops a.tmps)=true:=by simp [Region.wanted,h,h2]
theorem wanted_not {ops:Array Oper} {a:Act} {o:Oper} {g:Nat} {b c:Bool} (h:o.guard=some (g,b)) (h2:yielded ops a.tmps g=some c) (hbc:c≠b):Region.wanted o (yielded ops a.tmps)=false:=by simp [Region.wanted,h,h2,hbc]
section
variable {P:Program} {ops:Array Oper} {Q:Exit→Act→World→Prop} {K:Act→World→Prop} {o:Oper} {a:Act} {w:World}
theorem rs_not (hw:Region.wanted o (yielded ops a.tmps)=false) (h:K (a.put o.dst undef) w):wpList P ops (Exit.then K Q) [o] a w:=by
 unfold wpList;rw [hw];exact h
theorem rs_val {v:Value} {w':World} (hw:Region.wanted o (yielded ops a.tmps)=true) (hr:(execOp a.eval o).run P w=.ok (.value v) w') (h:K (a.put o.dst v) w'):wpList P ops (Exit.then K Q) [o] a w:=by
 unfold wpList;rw [if_pos hw];refine .inl ?_;unfold Oper.wp;rw [hr];exact h
theorem rs_call {f:FuncId} {args:Array Value} (hw:Region.wanted o (yielded ops a.tmps)=true) (hr:(execOp a.eval o).run P w=.ok (.enter f args) w) (hc:Calls P f args w fun e w'=>∃v,e=.returned v∧K (a.put o.dst v) w'):wpList P ops (Exit.then K Q) [o] a w:=by
 unfold wpList;rw [if_pos hw];refine .inl ?_;unfold Oper.wp;rw [hr];exact hc.mono fun e w' ⟨v,he,hk⟩=>by subst he;exact hk
theorem ex_move {x:Operand} (ho:o.op=.move x∨o.op=.assign x):(execOp a.eval o).run P w=.ok (.value (a.eval x)) w:=by
 unfold execOp;rcases ho with h|h<;>rw [h]<;>rfl
theorem ex_nil {x:Operand} {ad:Addr} (ho:o.op=.nilCheck x) (hx:a.eval x=.pointer (some ad)):(execOp a.eval o).run P w=.ok (.value (.pointer (some ad))) w:=by
 unfold execOp;rw [ho];simp only [hx];rfl
theorem ex_call {f:FuncId} {args:Array Operand} {tys:Array TypeId} {fn:Func} {vs:Array Value} (ho:o.op=.call { callee:=.value (.func f),args:=args,argTypes:=tys })
  (hf : P.funcs[f]? = some fn) (hn : (fn.name == "runtime.NumGoroutine" || fn.body.isNone) = false) (hvs : args.map a.eval = vs) : (execOp a.eval o).run P w = .ok (.enter f vs) w := by
 subst hvs;simp only [Bool.or_eq_false_iff] at hn;have h1 : fn.name ≠ "runtime.NumGoroutine" := by simpa using hn.1
 have h2:fn.body≠none:=by cases hb:fn.body with
  | none=>rw [hb] at hn;simp at hn
  | some _=>simp
 unfold execOp;simp only [ho,resolve,invoke,Sem.run_bind,Act.eval];simp [Deferred.ofValue,callFunc,hf,h1,h2]
theorem ex_pick {c x y:Operand} {b:Bool} (ho:o.op=.pick c x y) (hc:a.eval c=.bool b):(execOp a.eval o).run P w=.ok (.value (if b then a.eval x else a.eval y)) w:=by
 unfold execOp;rw [ho];simp only [hc];cases b<;>rfl
end
theorem fold_zip:∀(cc:List Value) (arr:Array Value) (k:Nat),(List.foldl (fun(cs:Array Value) (x:Value × Nat)=>cs.setIfInBounds x.2 x.1) arr (cc.zipIdx k)).size=arr.size ∧
  ∀j,(List.foldl (fun(cs:Array Value) (x:Value × Nat)=>cs.setIfInBounds x.2 x.1) arr (cc.zipIdx k))[j]?=if k≤j∧j<k+cc.length∧j<arr.size then cc[j-k]? else arr[j]?
 | [],arr,k=>⟨rfl,fun j=>by rw [if_neg (by simp;omega)];rfl⟩
 | c::cc,arr,k=>by
  obtain⟨h1,h2⟩:=fold_zip cc (arr.setIfInBounds k c) (k+1);simp only [List.zipIdx_cons,List.foldl_cons];refine⟨by rw [h1];simp,fun j=>?_⟩;rw [h2 j];simp only [Array.size_setIfInBounds,List.length_cons];by_cases hj:k=j
  ·subst hj
   rw [if_neg (by omega)];by_cases hs:k<arr.size
   ·rw [if_pos ⟨Nat.le_refl _,by omega,hs⟩];simp [hs]
   ·rw [if_neg (by omega)]
    rw [Array.getElem?_eq_none (by simpa using hs),Array.getElem?_eq_none (by simpa using hs)]
  ·by_cases hr:k+1≤j∧j<k+1+cc.length∧j<arr.size
   ·rw [if_pos hr,if_pos (by omega),show j-k=(j-(k+1))+1 by omega];simp
   ·rw [if_neg hr,if_neg (by omega),Array.getElem?_setIfInBounds_ne hj]
theorem fold_all {cc:List Value} {arr:Array Value} (h:cc.length=arr.size):List.foldl (fun(cs:Array Value) (x:Value × Nat)=>cs.setIfInBounds x.2 x.1) arr cc.zipIdx=cc.toArray:=by
 obtain⟨h1,h2⟩:=fold_zip cc arr 0;apply Array.ext_getElem?
 intro j;rw [h2 j];by_cases hj:j<arr.size
 ·rw [if_pos (by omega)];simp
 ·rw [if_neg (by omega),Array.getElem?_eq_none (by omega),Array.getElem?_eq_none (by simp;omega)]
theorem upd_c {VC:Nat→Value→Prop} {V:Nat→Value} {L:Nat→Bool} (H:∀j,L j=true→VC j (V j)) (k:Nat) {v:Value} (hv:VC k v):∀j,(L j||j==k)=true→VC j (upd V k v j):=by
 intro j hj;unfold upd;by_cases e:j=k
 ·subst e;rw [if_pos rfl];exact hv
 ·rw [if_neg e]
  have e1:(j==k)=false:=beq_eq_false_iff_ne.2 e;rw [e1,Bool.or_false] at hj;exact H j hj
theorem upd_ne {V:Nat→Value} {k j:Nat} {v:Value} (h:j≠k):upd V k v j=V j:=by unfold upd;rw [if_neg h]
theorem upd_at {V:Nat→Value} {k:Nat} {v:Value}:upd V k v k=v:=by unfold upd;rw [if_pos rfl]
theorem lor_ne {L:Nat→Bool} {k j:Nat} (h:j≠k):(L j||j==k)=L j:=by rw [beq_eq_false_iff_ne.2 h,Bool.or_false]
structure OneE (M:Nat) (W0:World) (PM:Value→World→Prop) (VC:Nat→Value→Prop) (V:Nat→Value) (L:Nat→Bool) (w':World):Prop where
 h0:L M=false→w'=W0
 h1:L M=true→PM (V M) w'
 vs:∀j,L j=true→VC j (V j)
theorem OneE.start (M:Nat) (W0:World) (PM:Value→World→Prop) (VC:Nat→Value→Prop) (V:Nat→Value):OneE M W0 PM VC V (fun _=>false) W0:=⟨fun _=>rfl,(fun h=>by cases h),(fun _ h=>by cases h)⟩
theorem OneE.pure {M:Nat} {W0:World} {PM:Value→World→Prop} {VC:Nat→Value→Prop} {V:Nat→Value} {L:Nat→Bool} {w':World} (h:OneE M W0 PM VC V L w') (k:Nat) {v:Value} (hk:M≠k) (hv:VC k v):OneE M W0 PM VC (upd V k v) (fun j=>L j||j==k) w' :=
 ⟨fun e=>h.h0 ((lor_ne (L:=L) hk).symm.trans e),fun e=>by rw [upd_ne hk];exact h.h1 ((lor_ne (L:=L) hk).symm.trans e),upd_c h.vs k hv⟩
theorem OneE.event {M:Nat} {W0:World} {PM:Value→World→Prop} {VC:Nat→Value→Prop} {V:Nat→Value} {L:Nat→Bool} {w' w2:World} (h:OneE M W0 PM VC V L w') {v:Value} (hM:PM v w2) (hv:VC M v):OneE M W0 PM VC (upd V M v) (fun j=>L j||j==M) w2 :=
 ⟨fun e=>by simp at e,fun _=>by rw [upd_at];exact hM,upd_c h.vs M hv⟩
theorem ex_len {o:Oper} {a:Act} {w:World} {t:Nat} {s:Str} (ho:o.op=.call { callee:=.builtin .len,args:=#[.tmp t],argTypes:=#[9] }) (e:a.tmps[t]?=some (.string ⟨(s).toArray⟩)) (_h:s.length≤1000000):(execOp a.eval o).run Try.prog w=.ok (.value (.int .i64 (s.length:Int))) w:=by
 simp only [execOp,ho];go_simp
theorem ex_lss {o:Oper} {a:Act} {w:World} {x y:Nat} {j n:Nat} {ty:TypeId} (ho:o.op=.binOp .lss 3 (.tmp x) (.tmp y) ty) (e1:a.tmps[x]?=some (.int .i64 (j:Int))) (e2:a.tmps[y]?=some (.int .i64 (n:Int))):(execOp a.eval o).run Try.prog w=.ok (.value (.bool (decide (j<n)))) w:=by
 simp only [execOp,ho];go_simp
theorem ex_load {o:Oper} {a:Act} {w:World} {t:Nat} {ad:Addr} {u:Value} {ty:TypeId} (ho:o.op=.load ty (.tmp t)) (e:a.tmps[t]?=some (.pointer (some ad))) (hr:(Instr.loadAt ty (.pointer (some ad))).run Try.prog w=.ok u w):(execOp a.eval o).run Try.prog w=.ok (.value u) w:=by
 have e2:=ev_of e;simp only [execOp,ho,e2];simp [hr,Result.andThen]
theorem ex_bs {o:Oper} {a:Act} {w w':World} {t:TypeId} {n:Nat} {parts:Array (Nat × Operand)} {vs:Array (Nat × Value)} {v:Value} (ho:o.op=.buildSlice t n parts) (hvs:parts.map (fun(i,x)=>(i,a.eval x))=vs) (hr:(Instr.buildSlice t n vs).run Try.prog w=.ok v w'):(execOp a.eval o).run Try.prog w=.ok (.value v) w':=by
 subst hvs;simp only [execOp,ho];simp [hr,Result.andThen]
theorem ld_int {w:World} {ad:Addr} {n:Int} (h:w.cell? ad=some (.int .i64 n)):(Instr.loadAt 3 (.pointer (some ad))).run Try.prog w=.ok (.int .i64 n) w:=by go_simp
theorem ld_str {w:World} {ad:Addr} {s:Str} (h:w.cell? ad=some (.string ⟨(s).toArray⟩)):(Instr.loadAt 9 (.pointer (some ad))).run Try.prog w=.ok (.string ⟨(s).toArray⟩) w:=by go_simp
theorem wp_region_relyE {P:Program} {id:Nat} {ops:List Oper} {Q:Exit→Act→World→Prop} {a:Act} {w:World} (n:Nat) (hm:P.follows .mixedOrders=true) (hB:relyTB ops.toArray n=true) (I:Act→World→(Nat→Bool)→Act→World→Prop)
  (h:∀A0,Hid (A0=a)→I A0 w (fun _=>false) A0 w.drew∧RelyStepsT P ops.toArray Q (I A0 w) (ops.take n) 0∧∀L a' w',(∀j,j<n→L j=true)→I A0 w L a' w'→wpList P ops.toArray Q (ops.drop n) a' w'):(Code.region id ops.toArray true).wp P Q a w:=by
 obtain⟨h0,h1,h2⟩:=h a (Lib.hid rfl);exact wp_region_relyT n hm hB I h0 h1 h2
end Go.Proofs.Ytbgcjpefocdkkaa
set_option maxRecDepth 100000
namespace Go.Proofs.Ytbgcjpefocdkkaa
open Go.RowKit Go.Maps Go.MapKept
open Go.ChangeMaps (setBlock)
def VP (ok:Bool) (v c:Value):Prop:=ok=true→v=c
structure In7 (S5:Nat→Prop) (g m:Nat) (s:Str) (b b0 j5:Nat) (CS Z:Array Value) (w:World) (x:Sn) (ok:Bool) (L:Nat→Bool) (V:Nat→Value) (w':World):Prop where
 hb:w'.heap[b]?=some (.cells CS 36 (0,0))
 hz:L 8=false→w'.heap[b0]?=some (.cells Z 36 (0,0))
 hz1:L 8=true→w'.heap[b0]?=some (.cells CS 36 (0,0))
 hg:Gr2 g m w w'
 hr0:(L 6&&ok)=false→Rs S5 w' g m s j5
 hr1:(L 6&&ok)=true→Rs S5 w' g m s (j5+1)
 hv:SnV w' S5 CS.toList x
 v0:L 0=true→V 0=.agg CS
 v1:L 1=true→V 1=.bool ok
 v2:L 2=true→V 2=.bool ok
 v3:L 3=true→VP ok (V 3) (.pointer (some ⟨g,0,none⟩))
 v4:L 4=true→VP ok (V 4) (.pointer (some ⟨g,0,none⟩))
 v5:L 5=true→VP ok (V 5) (.pointer (some ⟨g,0,none⟩))
 v6:L 6=true→VP ok (V 6) (.bool true)
 v7:L 7=true→V 7=.bool ok
def RI7 (S5:Nat→Prop) (g m:Nat) (s:Str) (b b0 j5:Nat) (CS Z:Array Value) (w:World) (x:Sn) (ok:Bool) (A0:Act) (L:Nat→Bool) (a:Act) (w':World):Prop:=∃V:Nat→Value,Fm2 [25,26,27,28,29,30,31,32] V A0 a∧In7 S5 g m s b b0 j5 CS Z w x ok L V w'
set_option maxHeartbeats 4000000 in
theorem braced_58 {g m:Nat} {s:Str} {N:Nat} (HP:PartsC g m s N) (S:Nat→Prop) (w:World) (i:Nat) {k:Int} {t:Str} {n:Int} (h:Rs S w g m s i) (hN:s.length-i≤N+1) {r1:Str} (hn125:List.isPrefixOf [125] (s.drop i)=false) (hd:s.drop i=58::r1) :
  Calls Try.prog 44 #[.pointer (some ⟨g,0,none⟩),.agg #[.int .i64 k,.string ⟨(t).toArray⟩,.int .i64 n,.bool false,.bool false,.int .i64 0,.string ⟨#[]⟩,.bool false,.slice none 0 0,.int .i64 0,.int .i64 0,.bool false,.slice none 0 0,.slice none 0 0,.bool false,.bool false,.slice none 0 0,.slice none 0 0]] w fun e w'=>OutX S g m s (bracedS (partsS true [] []) (hdN k t n) (s.drop i)) false i w e w':=by
 have HRS:=Lib.hid h;have hgB:=h.pl.lt;have hi:=h.pl.2.1;have hmg:=h.gm;have hnb3:¬S w.heap.size∧w.heap.size≠g∧w.heap.size≠m:=⟨fun e=>by have:=h.lt _ e;omega,by omega,by omega⟩;have hnb4:¬S (w.heap.size+1)∧w.heap.size+1≠g∧w.heap.size+1≠m:=⟨fun e=>by have:=h.lt _ e;omega,by omega,by omega⟩;obtain⟨W0,hW0⟩:∃W0,W0=(w.alloc (.cells #[.int .i64 k,.string ⟨(t).toArray⟩,.int .i64 n,.bool false,.bool false,.int .i64 0,.string ⟨#[]⟩,.bool false,.slice none 0 0,.int .i64 0,.int .i64 0,.bool false,.slice none 0 0,.slice none 0 0,.bool false,.bool false,.slice none 0 0,.slice none 0 0] 36)).alloc (.cells #[.int .i64 0,.string ⟨#[]⟩,.int .i64 0,.bool false,.bool false,.int .i64 0,.string ⟨#[]⟩,.bool false,.slice none 0 0,.int .i64 0,.int .i64 0,.bool false,.slice none 0 0,.slice none 0 0,.bool false,.bool false,.slice none 0 0,.slice none 0 0] 36):=⟨_,rfl⟩;have hb0:Below w.heap.size w W0:=by rw [hW0];exact((Below.refl _ _).alloc (Nat.le_refl _) _).alloc (by simp) _
 have HX0:Hid (W0.heap[w.heap.size]?=some (.cells #[.int .i64 k,.string ⟨(t).toArray⟩,.int .i64 n,.bool false,.bool false,.int .i64 0,.string ⟨#[]⟩,.bool false,.slice none 0 0,.int .i64 0,.int .i64 0,.bool false,.slice none 0 0,.slice none 0 0,.bool false,.bool false,.slice none 0 0,.slice none 0 0] 36 (0,0))):=Lib.hid (by rw [hW0,Below.heap_alloc _ _ _ (by simp)];exact heap_alloc_new w _);have HB0:Hid (W0.heap[w.heap.size+1]?=some (.cells #[.int .i64 0,.string ⟨#[]⟩,.int .i64 0,.bool false,.bool false,.int .i64 0,.string ⟨#[]⟩,.bool false,.slice none 0 0,.int .i64 0,.int .i64 0,.bool false,.slice none 0 0,.slice none 0 0,.bool false,.bool false,.slice none 0 0,.slice none 0 0] 36 (0,0))):=Lib.hid (by
  have:=heap_alloc_new (w.alloc (.cells #[.int .i64 k,.string ⟨(t).toArray⟩,.int .i64 n,.bool false,.bool false,.int .i64 0,.string ⟨#[]⟩,.bool false,.slice none 0 0,.int .i64 0,.int .i64 0,.bool false,.slice none 0 0,.slice none 0 0,.bool false,.bool false,.slice none 0 0,.slice none 0 0] 36)) (.cells #[.int .i64 0,.string ⟨#[]⟩,.int .i64 0,.bool false,.bool false,.int .i64 0,.string ⟨#[]⟩,.bool false,.slice none 0 0,.int .i64 0,.int .i64 0,.bool false,.slice none 0 0,.slice none 0 0,.bool false,.bool false,.slice none 0 0,.slice none 0 0] 36)
  rw [hW0];simpa using this)
 have HRS0:=Lib.hid (h.later hb0);have HG0:Hid (Gr2 g m w W0):=Lib.hid (Gr2.below hb0);have hz0:W0.heap.size=w.heap.size+2:=by rw [hW0];simp
 have HW0:=Lib.hid hW0;obtain⟨R,hR⟩:∃R,bracedS (partsS true [] []) (hdN k t n) (s.drop i)=R:=⟨_,rfl⟩;rw [hR];have HPP:=Lib.hid HP;have htk:=take_s_no (p:=[125]) _ HRS0.out.pl (by simp) hn125;rw [hW0] at htk;have HTK:=Lib.hid htk;clear htk hW0;have HDJ:Hid (s.drop (i+1)=r1):=Lib.hid (drop_cons hd).2.2;have hyes:List.isPrefixOf [58] (s.drop i)=true:=by rw [hd];rfl
 have HYES:=Lib.hid hyes;have HE0:Hid (R=match (partsS true [] [] r1).2 with|[]=>none|_::r2=>some ((hdN k t n).give (partsS true [] [] r1).1,r2)):=Lib.hid (by rw [←hR,hd];simp only [bracedS];rw [if_neg (by decide),if_pos (by decide)];cases (partsS true [] [] r1).2<;>rfl);obtain⟨kids,rest,hq⟩:∃kids rest,partsS true [] [] r1=(kids,rest):=⟨_,_,rfl⟩;have hqh:=fun c t=>partsS_head r1.length [] [] r1 (Nat.le_refl _) c t
 rw [hq] at HE0 hqh;have HQH:=Lib.hid hqh;have HQ:=Lib.hid hq;clear hq hqh;cases rest with
 | nil =>
  have HE:Hid (R=none):=Lib.hid (HE0.out);clear HE0 HQH;clear h hd hR hb0 hn125 hyes;go_enter Try.func44,Try.ntmps44
  go_wp2_with (go_at_call 41;refine HTK.out.mono ?_)
  first|rintro e w1 rfl hp1 hg1|rintro e w1 ⟨rfl,hp1,hg1⟩
  rw [←HW0.out] at hg1;have HTK2:=Lib.hid (take_s_yes (p:=[58]) _ hp1 (by simp) HYES.out);go_wp2_with (go_at_call 41;refine HTK2.out.mono ?_)
  first|rintro e w3 rfl hp3 hg3|rintro e w3 ⟨rfl,hp3,hg3⟩
  have hg03:=grown_trans hg1 hg3;have hx3:=box_same (box_same HX0.out hg1 (by omega)) hg3 (by omega);have kc3:=blk_cell hx3 3 rfl;have kf3:=blk_free hx3 3;obtain⟨W4,hW4⟩:∃W4,W4=w3.setCell ⟨w.heap.size,3,none⟩ (.bool true):=⟨_,rfl⟩;have HR3:Hid (Rs S w3 g m s (i+1)):=Lib.hid (HRS0.out.place hp3 hg03);have HR4:=Lib.hid (hW4▸HR3.out.setCell (a:=⟨w.heap.size,3,none⟩) hnb3 (.bool true));have HG4:=Lib.hid (hW4▸(HG0.out.trans (Gr2.grown hg03)).setNew (a:=⟨w.heap.size,3,none⟩) (Nat.le_refl _) (.bool true));have HX4:Hid (W4.heap[w.heap.size]?=some (.cells #[.int .i64 k,.string ⟨(t).toArray⟩,.int .i64 n,.bool true,.bool false,.int .i64 0,.string ⟨#[]⟩,.bool false,.slice none 0 0,.int .i64 0,.int .i64 0,.bool false,.slice none 0 0,.slice none 0 0,.bool false,.bool false,.slice none 0 0,.slice none 0 0] 36 (0,0))):=Lib.hid (by rw [hW4,heap_setCell_same _ _ _ _ _ _ hx3];rfl);have HB4:Hid (W4.heap[w.heap.size+1]?=some (.cells #[.int .i64 0,.string ⟨#[]⟩,.int .i64 0,.bool false,.bool false,.int .i64 0,.string ⟨#[]⟩,.bool false,.slice none 0 0,.int .i64 0,.int .i64 0,.bool false,.slice none 0 0,.slice none 0 0,.bool false,.bool false,.slice none 0 0,.slice none 0 0] 36 (0,0))):=Lib.hid (by rw [hW4];exact(heap_setCell_other _ _ _ _ (by show w.heap.size+1≠w.heap.size;omega)).trans (box_same HB0.out hg03 (by omega)));have hz4:w.heap.size+2≤W4.heap.size:=by rw [hW4];simp only [World.size_setCell];have:=hg03.size;omega
  have hpp:=HPP.out S W4 true (i+1) HR4.out (by have:=HR4.out.pl.2.1;omega);rw [HDJ.out] at hpp;rw [HQ.out] at hpp;have HPA:=Lib.hid hpp;clear hpp HDJ;go_upto_region 6 with fail
  rw [←hW4];clear hW4 hx3 kc3 kf3 hp3 hg3 hg03 hp1 hg1 HTK HTK2 HR3;have HPB:=HPA;clear HPA;go_wp2_with (go_at_call 19;refine HPB.out.mono ?_)
  rintro e w5 ⟨hg5,S5,j5,a5,c5',rfl,hr5,hT1,hT2,hsl5,hd5⟩;have hz5:=hg5.size;have hx5:=(hg5.block _ (heap_lt HX4.out) (by omega) (by omega)).trans HX4.out;have kc5:=blk_cell hx5 17 rfl;have kf5:=blk_free hx5 17;obtain⟨W6,hW6⟩:∃W6,W6=w5.setCell ⟨w.heap.size,17,none⟩ (.slice a5 (kids).length c5'):=⟨_,rfl⟩;have hnS:∀b,w.heap.size≤b→b<W4.heap.size→¬S5 b:=fun b h1 h2 e=>by
   rcases hT2 b e with h|h
   ·have:=HRS.out.lt b h;omega
   ·omega
  have hx5n:¬S5 w.heap.size∧w.heap.size≠g∧w.heap.size≠m:=⟨hnS _ (Nat.le_refl _) (by omega),by omega,by omega⟩;have HR5:Hid (Rs S5 W6 g m s j5):=Lib.hid (hW6▸hr5.setCell (a:=⟨w.heap.size,17,none⟩) hx5n _);have HG5:Hid (Gr2 g m w W6):=Lib.hid (hW6▸(HG4.out.trans hg5).setNew (a:=⟨w.heap.size,17,none⟩) (Nat.le_refl _) _);have HX5:Hid (W6.heap[w.heap.size]?=some (.cells #[.int .i64 k,.string ⟨(t).toArray⟩,.int .i64 n,.bool true,.bool false,.int .i64 0,.string ⟨#[]⟩,.bool false,.slice none 0 0,.int .i64 0,.int .i64 0,.bool false,.slice none 0 0,.slice none 0 0,.bool false,.bool false,.slice none 0 0,.slice a5 (kids).length c5'] 36 (0,0))):=Lib.hid (by rw [hW6,heap_setCell_same _ _ _ _ _ _ hx5];rfl);have HB5:Hid (W6.heap[w.heap.size+1]?=some (.cells #[.int .i64 0,.string ⟨#[]⟩,.int .i64 0,.bool false,.bool false,.int .i64 0,.string ⟨#[]⟩,.bool false,.slice none 0 0,.int .i64 0,.int .i64 0,.bool false,.slice none 0 0,.slice none 0 0,.bool false,.bool false,.slice none 0 0,.slice none 0 0] 36 (0,0))):=Lib.hid (by rw [hW6];exact(heap_setCell_other _ _ _ _ (by show w.heap.size+1≠w.heap.size;omega)).trans ((hg5.block _ (heap_lt HB4.out) (by omega) (by omega)).trans HB4.out));have HV5:Hid (SnV W6 S5 [.int .i64 k,.string ⟨(t).toArray⟩,.int .i64 n,.bool true,.bool false,.int .i64 0,.string ⟨#[]⟩,.bool false,.slice none 0 0,.int .i64 0,.int .i64 0,.bool false,.slice none 0 0,.slice none 0 0,.bool false,.bool false,.slice none 0 0,.slice a5 (kids).length c5'] (.mk k t n true false tf0 [] (kids))):=Lib.hid (by
   refine hx_v (os:=[]) (SlS.none_ _ _ _ _) ?_;rw [hW6];exact hsl5.keep (Kept.setLow _ fun b hb=>by rintro rfl;exact hx5n.1 hb))
  have HON5:=Lib.hid HV5.out.one;have hS1:∀b,S b→S5 b:=hT1;have hS2:∀b,S5 b→S b∨w.heap.size≤b:=fun b h=>(hT2 b h).imp id fun h=>by omega
  have hnb4':¬S5 (w.heap.size+1)∧w.heap.size+1≠g∧w.heap.size+1≠m:=⟨hnS _ (by omega) (by omega),by omega,by omega⟩;have HD5:Hid (s.drop j5=[]):=Lib.hid hd5;have hz6:W6.heap.size=w5.heap.size:=by rw [hW6];simp
  go_upto_region 7 with fail
  rw [←hW6];clear hW6 hx5 kc5 kf5 hr5 hg5 hd5 hsl5 HPB hnb4;obtain⟨CS,hCS⟩:∃CS:Array Value,CS=#[.int .i64 k,.string ⟨(t).toArray⟩,.int .i64 n,.bool true,.bool false,.int .i64 0,.string ⟨#[]⟩,.bool false,.slice none 0 0,.int .i64 0,.int .i64 0,.bool false,.slice none 0 0,.slice none 0 0,.bool false,.bool false,.slice none 0 0,.slice a5 kids.length c5']:=⟨_,rfl⟩;obtain⟨Z,hZ⟩:∃Z:Array Value,Z=#[.int .i64 0,.string ⟨#[]⟩,.int .i64 0,.bool false,.bool false,.int .i64 0,.string ⟨#[]⟩,.bool false,.slice none 0 0,.int .i64 0,.int .i64 0,.bool false,.slice none 0 0,.slice none 0 0,.bool false,.bool false,.slice none 0 0,.slice none 0 0]:=⟨_,rfl⟩;obtain⟨X,hX⟩:∃X:Sn,X=.mk k t n true false tf0 [] kids:=⟨_,rfl⟩;have HZS:Hid (Z.size=18):=Lib.hid (by rw [hZ];rfl);have hcs:CS.size=18:=by rw [hCS];rfl
  rw [←hCS] at HX5;rw [←hZ] at HB5;have HVX:Hid (SnV W6 S5 CS.toList X):=Lib.hid (by rw [hCS,hX];exact HV5.out);have HPR:Hid (false=true→List.isPrefixOf [125] (s.drop j5)=true):=Lib.hid (fun e=>by first|(cases e;done)|(rw [HD5.out];rfl));clear hCS hZ HV5 HON5;refine wp_region_relyE 9 (by kernel_rfl) (by kernel_rfl) (fun A0 W0 L a w'=>RI7 S5 g m s w.heap.size (w.heap.size+1) j5 CS Z w X false A0 L a w') ?_;intro A0 HA;have hsz:A0.tmps.size=84:=by rw [HA.out];rfl
  have hnd:[25,26,27,28,29,30,31,32].Nodup:=by decide
  have hbd:∀d∈[25,26,27,28,29,30,31,32],d<A0.tmps.size:=by rw [hsz];decide
  have e0:A0.tmps[0]?=some (.pointer (some ⟨g,0,none⟩)):=by rw [HA.out];rfl
  have e3:A0.tmps[3]?=some (.pointer (some ⟨w.heap.size,0,none⟩)):=by rw [HA.out];rfl
  have e4:A0.tmps[4]?=some (.pointer (some ⟨w.heap.size+1,0,none⟩)):=by rw [HA.out];rfl
  have e6:A0.tmps[6]?=some (.bool false):=by rw [HA.out];rfl
  refine⟨?_,?_,?_⟩
  ·obtain⟨V,hV⟩:=putsL_own A0 [25,26,27,28,29,30,31,32]
   exact⟨V,⟨hV⟩,⟨HX5.out,fun _=>HB5.out,(fun h=>by cases h),HG5.out.trans (Gr2.below ((Below.refl _ _).drew)),fun _=>HR5.out.later ((Below.refl _ _).drew),(fun h=>by cases h),HVX.out.later ((Below.refl _ _).drew),(fun h=>by cases h),(fun h=>by cases h),(fun h=>by cases h),(fun h=>by cases h),(fun h=>by cases h),(fun h=>by cases h),(fun h=>by cases h),(fun h=>by cases h)⟩⟩
  ·refine⟨?_,?_,?_,?_,?_,?_,?_,?_,?_,trivial⟩
   ·skip
    intro L a w' hL hd hI;obtain⟨V,hf,⟨hb,hz,hz1,hg,hr0,hr1,hv,v0,v1,v2,v3,v4,v5,v6,v7⟩⟩:=hI;simp [DepsOk,Region.binds] at hd
    refine wpList_ldW rfl 36 (.tmp 3) rfl w.heap.size 0 (ev_of ((hf.out (by decide)).trans e3)) CS.toList _ (range_blk (ds:=[]) (by simpa using hb)) snip_under rfl (by rw [snip_size];simp [hcs]) ?_;refine wpList_nil ?_;exact⟨_,hf.put hnd hbd 0 rfl _,⟨hb,(fun h=>hz (by simpa using h)),(fun h=>hz1 (by simpa using h)),hg,(fun _=>hr0 (by simp)),(fun h=>by simp at h),hv,(fun _=>rfl),(fun h=>v1 (by simpa using h)),(fun h=>v2 (by simpa using h)),(fun h=>v3 (by simpa using h)),(fun h=>v4 (by simpa using h)),(fun h=>v5 (by simpa using h)),(fun h=>v6 (by simpa using h)),(fun h=>v7 (by simpa using h))⟩⟩
   ·skip
    intro L a w' hL hd hI;obtain⟨V,hf,⟨hb,hz,hz1,hg,hr0,hr1,hv,v0,v1,v2,v3,v4,v5,v6,v7⟩⟩:=hI;simp [DepsOk,Region.binds] at hd
    have e:=ev_of ((hf.out (t:=6) (by decide)).trans e6);refine rs_val (wanted_none rfl) (ex_move (.inl rfl)) ?_;rw [e];exact⟨_,hf.put hnd hbd 1 rfl _,⟨hb,(fun h=>hz (by simpa using h)),(fun h=>hz1 (by simpa using h)),hg,(fun _=>hr0 (by simp)),(fun h=>by simp at h),hv,(fun h=>v0 (by simpa using h)),(fun _=>rfl),(fun h=>v2 (by simpa using h)),(fun h=>v3 (by simpa using h)),(fun h=>v4 (by simpa using h)),(fun h=>v5 (by simpa using h)),(fun h=>v6 (by simpa using h)),(fun h=>v7 (by simpa using h))⟩⟩
   ·skip
    intro L a w' hL hd hI;obtain⟨V,hf,⟨hb,hz,hz1,hg,hr0,hr1,hv,v0,v1,v2,v3,v4,v5,v6,v7⟩⟩:=hI;simp [DepsOk,Region.binds] at hd
    have e:=(ev_of ((hf.ins hnd hbd 1 rfl).trans (congrArg some (v1 hd))));refine rs_val (wanted_none rfl) (ex_move (.inl rfl)) ?_;rw [e];exact⟨_,hf.put hnd hbd 2 rfl _,⟨hb,(fun h=>hz (by simpa using h)),(fun h=>hz1 (by simpa using h)),hg,(fun _=>hr0 (by simp)),(fun h=>by simp at h),hv,(fun h=>v0 (by simpa using h)),(fun h=>v1 (by simpa using h)),(fun _=>rfl),(fun h=>v3 (by simpa using h)),(fun h=>v4 (by simpa using h)),(fun h=>v5 (by simpa using h)),(fun h=>v6 (by simpa using h)),(fun h=>v7 (by simpa using h))⟩⟩
   ·skip
    intro L a w' hL hd hI;obtain⟨V,hf,⟨hb,hz,hz1,hg,hr0,hr1,hv,v0,v1,v2,v3,v4,v5,v6,v7⟩⟩:=hI;simp [DepsOk,Region.binds] at hd
    refine rs_not (wanted_not rfl (yl_of rfl ((hf.ins hnd hbd 2 rfl).trans (congrArg some (v2 (by simp [hd]))))) (by decide)) ?_;exact⟨_,hf.put hnd hbd 3 rfl _,⟨hb,(fun h=>hz (by simpa using h)),(fun h=>hz1 (by simpa using h)),hg,(fun _=>hr0 (by simp)),(fun h=>by simp at h),hv,(fun h=>v0 (by simpa using h)),(fun h=>v1 (by simpa using h)),(fun h=>v2 (by simpa using h)),(fun _ e=>by cases e),(fun h=>v4 (by simpa using h)),(fun h=>v5 (by simpa using h)),(fun h=>v6 (by simpa using h)),(fun h=>v7 (by simpa using h))⟩⟩
   ·skip
    intro L a w' hL hd hI;obtain⟨V,hf,⟨hb,hz,hz1,hg,hr0,hr1,hv,v0,v1,v2,v3,v4,v5,v6,v7⟩⟩:=hI;simp [DepsOk,Region.binds] at hd
    refine rs_not (wanted_not rfl (yl_of rfl ((hf.ins hnd hbd 2 rfl).trans (congrArg some (v2 (by simp [hd]))))) (by decide)) ?_;exact⟨_,hf.put hnd hbd 4 rfl _,⟨hb,(fun h=>hz (by simpa using h)),(fun h=>hz1 (by simpa using h)),hg,(fun _=>hr0 (by simp)),(fun h=>by simp at h),hv,(fun h=>v0 (by simpa using h)),(fun h=>v1 (by simpa using h)),(fun h=>v2 (by simpa using h)),(fun h=>v3 (by simpa using h)),(fun _ e=>by cases e),(fun h=>v5 (by simpa using h)),(fun h=>v6 (by simpa using h)),(fun h=>v7 (by simpa using h))⟩⟩
   ·skip
    intro L a w' hL hd hI;obtain⟨V,hf,⟨hb,hz,hz1,hg,hr0,hr1,hv,v0,v1,v2,v3,v4,v5,v6,v7⟩⟩:=hI;simp [DepsOk,Region.binds] at hd
    refine rs_not (wanted_not rfl (yl_of rfl ((hf.ins hnd hbd 2 rfl).trans (congrArg some (v2 (by simp [hd]))))) (by decide)) ?_;exact⟨_,hf.put hnd hbd 5 rfl _,⟨hb,(fun h=>hz (by simpa using h)),(fun h=>hz1 (by simpa using h)),hg,(fun _=>hr0 (by simp)),(fun h=>by simp at h),hv,(fun h=>v0 (by simpa using h)),(fun h=>v1 (by simpa using h)),(fun h=>v2 (by simpa using h)),(fun h=>v3 (by simpa using h)),(fun h=>v4 (by simpa using h)),(fun _ e=>by cases e),(fun h=>v6 (by simpa using h)),(fun h=>v7 (by simpa using h))⟩⟩
   ·skip
    intro L a w' hL hd hI;obtain⟨V,hf,⟨hb,hz,hz1,hg,hr0,hr1,hv,v0,v1,v2,v3,v4,v5,v6,v7⟩⟩:=hI;simp [DepsOk,Region.binds] at hd
    refine rs_not (wanted_not rfl (yl_of rfl ((hf.ins hnd hbd 2 rfl).trans (congrArg some (v2 (by simp [hd]))))) (by decide)) ?_;exact⟨_,hf.put hnd hbd 6 rfl _,⟨hb,(fun h=>hz (by simpa using h)),(fun h=>hz1 (by simpa using h)),hg,(fun _=>hr0 (by simp)),(fun h=>by simp at h),hv,(fun h=>v0 (by simpa using h)),(fun h=>v1 (by simpa using h)),(fun h=>v2 (by simpa using h)),(fun h=>v3 (by simpa using h)),(fun h=>v4 (by simpa using h)),(fun h=>v5 (by simpa using h)),(fun _ e=>by cases e),(fun h=>v7 (by simpa using h))⟩⟩
   ·skip
    intro L a w' hL hd hI;obtain⟨V,hf,⟨hb,hz,hz1,hg,hr0,hr1,hv,v0,v1,v2,v3,v4,v5,v6,v7⟩⟩:=hI;simp [DepsOk,Region.binds] at hd
    have e:=(ev_of ((hf.ins hnd hbd 2 rfl).trans (congrArg some (v2 (by simp [hd])))));refine rs_val (wanted_none rfl) (ex_pick rfl e) ?_;rw [if_neg (by decide)];exact⟨_,hf.put hnd hbd 7 rfl _,⟨hb,(fun h=>hz (by simpa using h)),(fun h=>hz1 (by simpa using h)),hg,(fun _=>hr0 (by simp)),(fun h=>by simp at h),hv,(fun h=>v0 (by simpa using h)),(fun h=>v1 (by simpa using h)),(fun h=>v2 (by simpa using h)),(fun h=>v3 (by simpa using h)),(fun h=>v4 (by simpa using h)),(fun h=>v5 (by simpa using h)),(fun h=>v6 (by simpa using h)),(fun _=>rfl)⟩⟩
   ·skip
    intro L a w' hL hd hI;obtain⟨V,hf,⟨hb,hz,hz1,hg,hr0,hr1,hv,v0,v1,v2,v3,v4,v5,v6,v7⟩⟩:=hI;simp [DepsOk,Region.binds] at hd
    have hz0:=hz hL;refine wpList_stW rfl 36 (.tmp 4) (.tmp 25) rfl (w.heap.size+1) CS (ev_of ((hf.out (by decide)).trans e4)) (ev_of ((hf.ins hnd hbd 0 rfl).trans (congrArg some (v0 (by simp [hd]))))) 36 Z hz0 snip_size (by simp [hcs]) HZS.out (fun u hu=>hv.one u (by simpa using hu)) rfl ?_;refine wpList_nil ?_;exact⟨_,hf.skip _,⟨((sr_other _ (by omega)).trans hb),(fun h=>by simp at h),(fun _=>sr_heap hz0),(hg.setRow (by omega) _),(fun _=>(hr0 (by simp)).setRow hnb4' _),(fun h=>by simp at h),(hv.setRow hnb4'.1 _),(fun h=>v0 (by simpa using h)),(fun h=>v1 (by simpa using h)),(fun h=>v2 (by simpa using h)),(fun h=>v3 (by simpa using h)),(fun h=>v4 (by simpa using h)),(fun h=>v5 (by simpa using h)),(fun h=>v6 (by simpa using h)),(fun h=>v7 (by simpa using h))⟩⟩
  ·intro L a w' hL hI
   obtain⟨V,hf,⟨hb,hz,hz1,hg,hr0,hr1,hv,v0,v1,v2,v3,v4,v5,v6,v7⟩⟩:=hI;have ha:=hf.eq;have h7:=v7 (hL 7 (by decide));have HB9:=Lib.hid (hz1 (hL 8 (by decide)));have hr9:=hr0 (by simp);have hA:=HA.out;subst ha;subst hA;simp only [putsL,h7];clear e0 e3 e4 e6 hsz hbd hf HA;go_wp2
   refine bodyPost_ret (res_box Try.results44 snip_under snip_size HB9.out (by simp [hcs]) rfl rfl) rfl ?_;rw [HE.out];exact⟨hg,S5,j5,CS.toList,X,false,rfl,hr9,hS1,hS2,hv,⟨rfl,fun e=>by cases e⟩⟩
 | cons c5 r5 =>
  have hc5:c5=125:=UInt8.toNat_inj.1 (HQH.out c5 r5 rfl);subst hc5;have HE:Hid (R=some ((hdN k t n).give kids,r5)):=Lib.hid (HE0.out);clear HE0 HQH;clear h hd hR hb0 hn125 hyes;go_enter Try.func44,Try.ntmps44
  go_wp2_with (go_at_call 41;refine HTK.out.mono ?_)
  first|rintro e w1 rfl hp1 hg1|rintro e w1 ⟨rfl,hp1,hg1⟩
  rw [←HW0.out] at hg1;have HTK2:=Lib.hid (take_s_yes (p:=[58]) _ hp1 (by simp) HYES.out);go_wp2_with (go_at_call 41;refine HTK2.out.mono ?_)
  first|rintro e w3 rfl hp3 hg3|rintro e w3 ⟨rfl,hp3,hg3⟩
  have hg03:=grown_trans hg1 hg3;have hx3:=box_same (box_same HX0.out hg1 (by omega)) hg3 (by omega);have kc3:=blk_cell hx3 3 rfl;have kf3:=blk_free hx3 3;obtain⟨W4,hW4⟩:∃W4,W4=w3.setCell ⟨w.heap.size,3,none⟩ (.bool true):=⟨_,rfl⟩;have HR3:Hid (Rs S w3 g m s (i+1)):=Lib.hid (HRS0.out.place hp3 hg03);have HR4:=Lib.hid (hW4▸HR3.out.setCell (a:=⟨w.heap.size,3,none⟩) hnb3 (.bool true));have HG4:=Lib.hid (hW4▸(HG0.out.trans (Gr2.grown hg03)).setNew (a:=⟨w.heap.size,3,none⟩) (Nat.le_refl _) (.bool true));have HX4:Hid (W4.heap[w.heap.size]?=some (.cells #[.int .i64 k,.string ⟨(t).toArray⟩,.int .i64 n,.bool true,.bool false,.int .i64 0,.string ⟨#[]⟩,.bool false,.slice none 0 0,.int .i64 0,.int .i64 0,.bool false,.slice none 0 0,.slice none 0 0,.bool false,.bool false,.slice none 0 0,.slice none 0 0] 36 (0,0))):=Lib.hid (by rw [hW4,heap_setCell_same _ _ _ _ _ _ hx3];rfl);have HB4:Hid (W4.heap[w.heap.size+1]?=some (.cells #[.int .i64 0,.string ⟨#[]⟩,.int .i64 0,.bool false,.bool false,.int .i64 0,.string ⟨#[]⟩,.bool false,.slice none 0 0,.int .i64 0,.int .i64 0,.bool false,.slice none 0 0,.slice none 0 0,.bool false,.bool false,.slice none 0 0,.slice none 0 0] 36 (0,0))):=Lib.hid (by rw [hW4];exact(heap_setCell_other _ _ _ _ (by show w.heap.size+1≠w.heap.size;omega)).trans (box_same HB0.out hg03 (by omega)));have hz4:w.heap.size+2≤W4.heap.size:=by rw [hW4];simp only [World.size_setCell];have:=hg03.size;omega
  have hpp:=HPP.out S W4 true (i+1) HR4.out (by have:=HR4.out.pl.2.1;omega);rw [HDJ.out] at hpp;rw [HQ.out] at hpp;have HPA:=Lib.hid hpp;clear hpp HDJ;go_upto_region 6 with fail
  rw [←hW4];clear hW4 hx3 kc3 kf3 hp3 hg3 hg03 hp1 hg1 HTK HTK2 HR3;have HPB:=HPA;clear HPA;go_wp2_with (go_at_call 19;refine HPB.out.mono ?_)
  rintro e w5 ⟨hg5,S5,j5,a5,c5',rfl,hr5,hT1,hT2,hsl5,hd5⟩;have hz5:=hg5.size;have hx5:=(hg5.block _ (heap_lt HX4.out) (by omega) (by omega)).trans HX4.out;have kc5:=blk_cell hx5 17 rfl;have kf5:=blk_free hx5 17;obtain⟨W6,hW6⟩:∃W6,W6=w5.setCell ⟨w.heap.size,17,none⟩ (.slice a5 (kids).length c5'):=⟨_,rfl⟩;have hnS:∀b,w.heap.size≤b→b<W4.heap.size→¬S5 b:=fun b h1 h2 e=>by
   rcases hT2 b e with h|h
   ·have:=HRS.out.lt b h;omega
   ·omega
  have hx5n:¬S5 w.heap.size∧w.heap.size≠g∧w.heap.size≠m:=⟨hnS _ (Nat.le_refl _) (by omega),by omega,by omega⟩;have HR5:Hid (Rs S5 W6 g m s j5):=Lib.hid (hW6▸hr5.setCell (a:=⟨w.heap.size,17,none⟩) hx5n _);have HG5:Hid (Gr2 g m w W6):=Lib.hid (hW6▸(HG4.out.trans hg5).setNew (a:=⟨w.heap.size,17,none⟩) (Nat.le_refl _) _);have HX5:Hid (W6.heap[w.heap.size]?=some (.cells #[.int .i64 k,.string ⟨(t).toArray⟩,.int .i64 n,.bool true,.bool false,.int .i64 0,.string ⟨#[]⟩,.bool false,.slice none 0 0,.int .i64 0,.int .i64 0,.bool false,.slice none 0 0,.slice none 0 0,.bool false,.bool false,.slice none 0 0,.slice a5 (kids).length c5'] 36 (0,0))):=Lib.hid (by rw [hW6,heap_setCell_same _ _ _ _ _ _ hx5];rfl);have HB5:Hid (W6.heap[w.heap.size+1]?=some (.cells #[.int .i64 0,.string ⟨#[]⟩,.int .i64 0,.bool false,.bool false,.int .i64 0,.string ⟨#[]⟩,.bool false,.slice none 0 0,.int .i64 0,.int .i64 0,.bool false,.slice none 0 0,.slice none 0 0,.bool false,.bool false,.slice none 0 0,.slice none 0 0] 36 (0,0))):=Lib.hid (by rw [hW6];exact(heap_setCell_other _ _ _ _ (by show w.heap.size+1≠w.heap.size;omega)).trans ((hg5.block _ (heap_lt HB4.out) (by omega) (by omega)).trans HB4.out));have HV5:Hid (SnV W6 S5 [.int .i64 k,.string ⟨(t).toArray⟩,.int .i64 n,.bool true,.bool false,.int .i64 0,.string ⟨#[]⟩,.bool false,.slice none 0 0,.int .i64 0,.int .i64 0,.bool false,.slice none 0 0,.slice none 0 0,.bool false,.bool false,.slice none 0 0,.slice a5 (kids).length c5'] (.mk k t n true false tf0 [] (kids))):=Lib.hid (by
   refine hx_v (os:=[]) (SlS.none_ _ _ _ _) ?_;rw [hW6];exact hsl5.keep (Kept.setLow _ fun b hb=>by rintro rfl;exact hx5n.1 hb))
  have HON5:=Lib.hid HV5.out.one;have hS1:∀b,S b→S5 b:=hT1;have hS2:∀b,S5 b→S b∨w.heap.size≤b:=fun b h=>(hT2 b h).imp id fun h=>by omega
  have hnb4':¬S5 (w.heap.size+1)∧w.heap.size+1≠g∧w.heap.size+1≠m:=⟨hnS _ (by omega) (by omega),by omega,by omega⟩;have HD5:Hid (s.drop j5=(125::r5)):=Lib.hid hd5;have hz6:W6.heap.size=w5.heap.size:=by rw [hW6];simp
  go_upto_region 7 with fail
  rw [←hW6];clear hW6 hx5 kc5 kf5 hr5 hg5 hd5 hsl5 HPB hnb4;obtain⟨CS,hCS⟩:∃CS:Array Value,CS=#[.int .i64 k,.string ⟨(t).toArray⟩,.int .i64 n,.bool true,.bool false,.int .i64 0,.string ⟨#[]⟩,.bool false,.slice none 0 0,.int .i64 0,.int .i64 0,.bool false,.slice none 0 0,.slice none 0 0,.bool false,.bool false,.slice none 0 0,.slice a5 kids.length c5']:=⟨_,rfl⟩;obtain⟨Z,hZ⟩:∃Z:Array Value,Z=#[.int .i64 0,.string ⟨#[]⟩,.int .i64 0,.bool false,.bool false,.int .i64 0,.string ⟨#[]⟩,.bool false,.slice none 0 0,.int .i64 0,.int .i64 0,.bool false,.slice none 0 0,.slice none 0 0,.bool false,.bool false,.slice none 0 0,.slice none 0 0]:=⟨_,rfl⟩;obtain⟨X,hX⟩:∃X:Sn,X=.mk k t n true false tf0 [] kids:=⟨_,rfl⟩;have HZS:Hid (Z.size=18):=Lib.hid (by rw [hZ];rfl);have hcs:CS.size=18:=by rw [hCS];rfl
  rw [←hCS] at HX5;rw [←hZ] at HB5;have HVX:Hid (SnV W6 S5 CS.toList X):=Lib.hid (by rw [hCS,hX];exact HV5.out);have HPR:Hid (true=true→List.isPrefixOf [125] (s.drop j5)=true):=Lib.hid (fun e=>by first|(cases e;done)|(rw [HD5.out];rfl));clear hCS hZ HV5 HON5;refine wp_region_relyE 9 (by kernel_rfl) (by kernel_rfl) (fun A0 W0 L a w'=>RI7 S5 g m s w.heap.size (w.heap.size+1) j5 CS Z w X true A0 L a w') ?_;intro A0 HA;have hsz:A0.tmps.size=84:=by rw [HA.out];rfl
  have hnd:[25,26,27,28,29,30,31,32].Nodup:=by decide
  have hbd:∀d∈[25,26,27,28,29,30,31,32],d<A0.tmps.size:=by rw [hsz];decide
  have e0:A0.tmps[0]?=some (.pointer (some ⟨g,0,none⟩)):=by rw [HA.out];rfl
  have e3:A0.tmps[3]?=some (.pointer (some ⟨w.heap.size,0,none⟩)):=by rw [HA.out];rfl
  have e4:A0.tmps[4]?=some (.pointer (some ⟨w.heap.size+1,0,none⟩)):=by rw [HA.out];rfl
  have e6:A0.tmps[6]?=some (.bool true):=by rw [HA.out];rfl
  refine⟨?_,?_,?_⟩
  ·obtain⟨V,hV⟩:=putsL_own A0 [25,26,27,28,29,30,31,32]
   exact⟨V,⟨hV⟩,⟨HX5.out,fun _=>HB5.out,(fun h=>by cases h),HG5.out.trans (Gr2.below ((Below.refl _ _).drew)),fun _=>HR5.out.later ((Below.refl _ _).drew),(fun h=>by cases h),HVX.out.later ((Below.refl _ _).drew),(fun h=>by cases h),(fun h=>by cases h),(fun h=>by cases h),(fun h=>by cases h),(fun h=>by cases h),(fun h=>by cases h),(fun h=>by cases h),(fun h=>by cases h)⟩⟩
  ·have HPR:=Lib.hid (HPR.out rfl)
   refine⟨?_,?_,?_,?_,?_,?_,?_,?_,?_,trivial⟩
   ·skip
    intro L a w' hL hd hI;obtain⟨V,hf,⟨hb,hz,hz1,hg,hr0,hr1,hv,v0,v1,v2,v3,v4,v5,v6,v7⟩⟩:=hI;simp [DepsOk,Region.binds] at hd
    refine wpList_ldW rfl 36 (.tmp 3) rfl w.heap.size 0 (ev_of ((hf.out (by decide)).trans e3)) CS.toList _ (range_blk (ds:=[]) (by simpa using hb)) snip_under rfl (by rw [snip_size];simp [hcs]) ?_;refine wpList_nil ?_;exact⟨_,hf.put hnd hbd 0 rfl _,⟨hb,(fun h=>hz (by simpa using h)),(fun h=>hz1 (by simpa using h)),hg,(fun h=>hr0 (by simpa using h)),(fun h=>hr1 (by simpa using h)),hv,(fun _=>rfl),(fun h=>v1 (by simpa using h)),(fun h=>v2 (by simpa using h)),(fun h=>v3 (by simpa using h)),(fun h=>v4 (by simpa using h)),(fun h=>v5 (by simpa using h)),(fun h=>v6 (by simpa using h)),(fun h=>v7 (by simpa using h))⟩⟩
   ·skip
    intro L a w' hL hd hI;obtain⟨V,hf,⟨hb,hz,hz1,hg,hr0,hr1,hv,v0,v1,v2,v3,v4,v5,v6,v7⟩⟩:=hI;simp [DepsOk,Region.binds] at hd
    have e:=ev_of ((hf.out (t:=6) (by decide)).trans e6);refine rs_val (wanted_none rfl) (ex_move (.inl rfl)) ?_;rw [e];exact⟨_,hf.put hnd hbd 1 rfl _,⟨hb,(fun h=>hz (by simpa using h)),(fun h=>hz1 (by simpa using h)),hg,(fun h=>hr0 (by simpa using h)),(fun h=>hr1 (by simpa using h)),hv,(fun h=>v0 (by simpa using h)),(fun _=>rfl),(fun h=>v2 (by simpa using h)),(fun h=>v3 (by simpa using h)),(fun h=>v4 (by simpa using h)),(fun h=>v5 (by simpa using h)),(fun h=>v6 (by simpa using h)),(fun h=>v7 (by simpa using h))⟩⟩
   ·skip
    intro L a w' hL hd hI;obtain⟨V,hf,⟨hb,hz,hz1,hg,hr0,hr1,hv,v0,v1,v2,v3,v4,v5,v6,v7⟩⟩:=hI;simp [DepsOk,Region.binds] at hd
    have e:=(ev_of ((hf.ins hnd hbd 1 rfl).trans (congrArg some (v1 hd))));refine rs_val (wanted_none rfl) (ex_move (.inl rfl)) ?_;rw [e];exact⟨_,hf.put hnd hbd 2 rfl _,⟨hb,(fun h=>hz (by simpa using h)),(fun h=>hz1 (by simpa using h)),hg,(fun h=>hr0 (by simpa using h)),(fun h=>hr1 (by simpa using h)),hv,(fun h=>v0 (by simpa using h)),(fun h=>v1 (by simpa using h)),(fun _=>rfl),(fun h=>v3 (by simpa using h)),(fun h=>v4 (by simpa using h)),(fun h=>v5 (by simpa using h)),(fun h=>v6 (by simpa using h)),(fun h=>v7 (by simpa using h))⟩⟩
   ·skip
    intro L a w' hL hd hI;obtain⟨V,hf,⟨hb,hz,hz1,hg,hr0,hr1,hv,v0,v1,v2,v3,v4,v5,v6,v7⟩⟩:=hI;simp [DepsOk,Region.binds] at hd
    have e:=ev_of ((hf.out (t:=0) (by decide)).trans e0);refine rs_val (wanted_yes rfl (yl_of rfl ((hf.ins hnd hbd 2 rfl).trans (congrArg some (v2 (by simp [hd])))))) (ex_move (.inl rfl)) ?_;rw [e];exact⟨_,hf.put hnd hbd 3 rfl _,⟨hb,(fun h=>hz (by simpa using h)),(fun h=>hz1 (by simpa using h)),hg,(fun h=>hr0 (by simpa using h)),(fun h=>hr1 (by simpa using h)),hv,(fun h=>v0 (by simpa using h)),(fun h=>v1 (by simpa using h)),(fun h=>v2 (by simpa using h)),(fun _=>(fun _=>rfl)),(fun h=>v4 (by simpa using h)),(fun h=>v5 (by simpa using h)),(fun h=>v6 (by simpa using h)),(fun h=>v7 (by simpa using h))⟩⟩
   ·skip
    intro L a w' hL hd hI;obtain⟨V,hf,⟨hb,hz,hz1,hg,hr0,hr1,hv,v0,v1,v2,v3,v4,v5,v6,v7⟩⟩:=hI;simp [DepsOk,Region.binds] at hd
    refine rs_val (wanted_yes rfl (yl_of rfl ((hf.ins hnd hbd 2 rfl).trans (congrArg some (v2 (by simp [hd])))))) (ex_nil rfl (ev_of ((hf.ins hnd hbd 3 rfl).trans (congrArg some (v3 (by simp [hd]) rfl))))) ?_;exact⟨_,hf.put hnd hbd 4 rfl _,⟨hb,(fun h=>hz (by simpa using h)),(fun h=>hz1 (by simpa using h)),hg,(fun h=>hr0 (by simpa using h)),(fun h=>hr1 (by simpa using h)),hv,(fun h=>v0 (by simpa using h)),(fun h=>v1 (by simpa using h)),(fun h=>v2 (by simpa using h)),(fun h=>v3 (by simpa using h)),(fun _=>(fun _=>rfl)),(fun h=>v5 (by simpa using h)),(fun h=>v6 (by simpa using h)),(fun h=>v7 (by simpa using h))⟩⟩
   ·skip
    intro L a w' hL hd hI;obtain⟨V,hf,⟨hb,hz,hz1,hg,hr0,hr1,hv,v0,v1,v2,v3,v4,v5,v6,v7⟩⟩:=hI;simp [DepsOk,Region.binds] at hd
    have e:=(ev_of ((hf.ins hnd hbd 4 rfl).trans (congrArg some (v4 (by simp [hd]) rfl))));refine rs_val (wanted_yes rfl (yl_of rfl ((hf.ins hnd hbd 2 rfl).trans (congrArg some (v2 (by simp [hd])))))) (v:=.pointer (some ⟨g,0,none⟩)) (w':=w') (by simp only [execOp,e];kernel_rfl) ?_;exact⟨_,hf.put hnd hbd 5 rfl _,⟨hb,(fun h=>hz (by simpa using h)),(fun h=>hz1 (by simpa using h)),hg,(fun h=>hr0 (by simpa using h)),(fun h=>hr1 (by simpa using h)),hv,(fun h=>v0 (by simpa using h)),(fun h=>v1 (by simpa using h)),(fun h=>v2 (by simpa using h)),(fun h=>v3 (by simpa using h)),(fun h=>v4 (by simpa using h)),(fun _=>(fun _=>rfl)),(fun h=>v6 (by simpa using h)),(fun h=>v7 (by simpa using h))⟩⟩
   ·skip
    intro L a w' hL hd hI;obtain⟨V,hf,⟨hb,hz,hz1,hg,hr0,hr1,hv,v0,v1,v2,v3,v4,v5,v6,v7⟩⟩:=hI;simp [DepsOk,Region.binds] at hd
    have hr:=hr0 (by simp [hL]);have htk:=take_s_yes (p:=[125]) _ hr.pl (by simp) HPR.out;have e:=(ev_of ((hf.ins hnd hbd 5 rfl).trans (congrArg some (v5 (by simp [hd]) rfl))));refine rs_call (wanted_yes rfl (yl_of rfl ((hf.ins hnd hbd 2 rfl).trans (congrArg some (v2 (by simp [hd])))))) (ex_call (vs:=#[.pointer (some ⟨g,0,none⟩),.string ⟨#[125]⟩]) rfl Try.func41 (by kernel_rfl) (by rw [List.map_toArray];simp only [List.map_cons,List.map_nil,e];rfl)) (htk.mono ?_);first|rintro e w8 rfl hp8 hg8|rintro e w8 ⟨rfl,hp8,hg8⟩
    refine⟨_,rfl,?_⟩;have hne:∀b',w.heap.size≤b'→b'≠g:=fun b' h=>by omega
    exact⟨_,hf.put hnd hbd 6 rfl _,⟨(box_same hb hg8 (hne _ (Nat.le_refl _))),(fun h=>box_same (hz (by simpa using h)) hg8 (hne _ (Nat.le_succ _))),(fun h=>box_same (hz1 (by simpa using h)) hg8 (hne _ (Nat.le_succ _))),(hg.trans (Gr2.grown hg8)),(fun h=>by simp at h),(fun _=>hr.place hp8 hg8),(hv.keep ⟨hg8.size,fun b' hb' hlt=>hg8.block b' hlt (fun e=>hr.ng (by injection e with e;exact e▸hb'))⟩),(fun h=>v0 (by simpa using h)),(fun h=>v1 (by simpa using h)),(fun h=>v2 (by simpa using h)),(fun h=>v3 (by simpa using h)),(fun h=>v4 (by simpa using h)),(fun h=>v5 (by simpa using h)),(fun _=>(fun _=>rfl)),(fun h=>v7 (by simpa using h))⟩⟩
   ·skip
    intro L a w' hL hd hI;obtain⟨V,hf,⟨hb,hz,hz1,hg,hr0,hr1,hv,v0,v1,v2,v3,v4,v5,v6,v7⟩⟩:=hI;simp [DepsOk,Region.binds] at hd
    have e:=(ev_of ((hf.ins hnd hbd 2 rfl).trans (congrArg some (v2 (by simp [hd])))));have e1:=(ev_of ((hf.ins hnd hbd 6 rfl).trans (congrArg some (v6 (by simp [hd]) rfl))));refine rs_val (wanted_none rfl) (ex_pick rfl e) ?_;rw [if_pos rfl,e1];exact⟨_,hf.put hnd hbd 7 rfl _,⟨hb,(fun h=>hz (by simpa using h)),(fun h=>hz1 (by simpa using h)),hg,(fun h=>hr0 (by simpa using h)),(fun h=>hr1 (by simpa using h)),hv,(fun h=>v0 (by simpa using h)),(fun h=>v1 (by simpa using h)),(fun h=>v2 (by simpa using h)),(fun h=>v3 (by simpa using h)),(fun h=>v4 (by simpa using h)),(fun h=>v5 (by simpa using h)),(fun h=>v6 (by simpa using h)),(fun _=>rfl)⟩⟩
   ·skip
    intro L a w' hL hd hI;obtain⟨V,hf,⟨hb,hz,hz1,hg,hr0,hr1,hv,v0,v1,v2,v3,v4,v5,v6,v7⟩⟩:=hI;simp [DepsOk,Region.binds] at hd
    have hz0:=hz hL;refine wpList_stW rfl 36 (.tmp 4) (.tmp 25) rfl (w.heap.size+1) CS (ev_of ((hf.out (by decide)).trans e4)) (ev_of ((hf.ins hnd hbd 0 rfl).trans (congrArg some (v0 (by simp [hd]))))) 36 Z hz0 snip_size (by simp [hcs]) HZS.out (fun u hu=>hv.one u (by simpa using hu)) rfl ?_;refine wpList_nil ?_;exact⟨_,hf.skip _,⟨((sr_other _ (by omega)).trans hb),(fun h=>by simp at h),(fun _=>sr_heap hz0),(hg.setRow (by omega) _),(fun h=>(hr0 (by simpa using h)).setRow hnb4' _),(fun h=>(hr1 (by simpa using h)).setRow hnb4' _),(hv.setRow hnb4'.1 _),(fun h=>v0 (by simpa using h)),(fun h=>v1 (by simpa using h)),(fun h=>v2 (by simpa using h)),(fun h=>v3 (by simpa using h)),(fun h=>v4 (by simpa using h)),(fun h=>v5 (by simpa using h)),(fun h=>v6 (by simpa using h)),(fun h=>v7 (by simpa using h))⟩⟩
  ·intro L a w' hL hI
   obtain⟨V,hf,⟨hb,hz,hz1,hg,hr0,hr1,hv,v0,v1,v2,v3,v4,v5,v6,v7⟩⟩:=hI;have ha:=hf.eq;have h7:=v7 (hL 7 (by decide));have HB9:=Lib.hid (hz1 (hL 8 (by decide)));have hr9:=hr1 (by simp [hL 6 (by decide)]);have hA:=HA.out;subst ha;subst hA;simp only [putsL,h7];clear e0 e3 e4 e6 hsz hbd hf HA;go_wp2
   refine bodyPost_ret (res_box Try.results44 snip_under snip_size HB9.out (by simp [hcs]) rfl rfl) rfl ?_;rw [HE.out];exact⟨hg,S5,(j5+1),CS.toList,X,true,rfl,hr9,hS1,hS2,hv,⟨rfl,by rw [hX];rfl,by rw [←List.drop_drop,HD5.out];rfl⟩⟩
end Go.Proofs.Ytbgcjpefocdkkaa
