/- Snippets in memory: what a value of eighteen cells is read as. -/
import Derived.Test.YtdcnncgpomcaaaaGreatDoorRc0a
import Derived.Test.YtdcnncgpomcaaaaGreatDoorRc35
import Derived.Test.YtdcnncgpomcaaaaGreatDoorRc34
set_option maxRecDepth 100000
set_option maxHeartbeats 4000000
namespace Go.Proofs.YtdcnncgpomcaaaaGreatDoor
open Go.RowKit
theorem SnVs.one {w:World} {S:Nat→Prop}:∀{css:List (List Value)} {xs:List Sn},SnVs w S css xs→∀u∈css.flatten,u.oneCell'=true
 | _,_,.nil,u,hu=>by simp at hu
 | _,_,.cons h1 h2,u,hu=>by
  exact ea
def topL (t r:Str):List Sn:=(lu false [] t r).1
theorem zt (t:Str):topL t []=lO [] t:=rfl
theorem vM (t:Str) (c:UInt8) (r:Str):topL t (c::r)=match dolM l7 c r with
  | some (x,r2)=>lO [] t++x::topL [] r2
  | none=>topL (t++[(nxtM three (c::r)).1]) (nxtM three (c::r)).2:=by
 unfold topL;rw [l6,Jo gU];cases he:dolM l7 c r with
 | some y =>
  obtain⟨x,r2⟩:=y;simp only
  rw [nB false _ _ _ _ (Ju _)];simp
 | none=>rfl
theorem IY {r:Str} {x:Sn} {s:Str} (h:l7 r=some (x,s)):x.kind≠0:=by
 have hh:∀{r:Str} {x:Sn} {s:Str},nD r=some (x,s)→x.kind≠0:=by
  intro r x s h;unfold nD at h;split at h
  ·injection h with h;injection h with h _;subst h;exact(by decide:(1:Int)≠0)
  ·unfold tS at h
   split at h
   ·injection h with h;injection h with h _;subst h;exact(by decide:(3:Int)≠0)
   ·cases h
 have hb:∀{ps:Str→List Sn × Str} {x y:Sn} {r s:Str},x.kind≠0→lE ps x r=some (y,s)→y.kind≠0:=by
  intro ps x y r s hx h;obtain⟨k,t,n,hs,u,f,o,ks⟩:=x;cases r with
  | nil=>cases h
  | cons c r =>
   simp only [lE] at h;split at h
   ·exact ee
   ·split at h
    ·split at h
     ·cases h
     ·exact ee
    ·split at h
     ·unfold re at h
      split at h
      ·split at h
       ·injection h with h;injection h with h _;subst h;exact(by decide:(2:Int)≠0)
       ·cases h
      ·cases h
     ·split at h
      ·cases h
      ·exact ee
 rw [oL] at h;cases r with
 | nil=>cases h
 | cons c r =>
  simp only [oO] at h;split at h
  ·split at h
   ·cases h
   ·rename_i heq
    exact hb (hh heq) h
  ·exact hh h
def oy:List Sn→Str→List Sn
 | [],t=>lO [] t
 | x::l,t=>if x.kind=0 then oy l (t++x.text) else lO [] t++x::oy l []
theorem yA (t u:Str) (l:List Sn):oy (lO [] u++l) t=oy l (t++u):=by
 unfold lO;split
 ·rename_i h;subst h;simp
 ·simp only [JV,J2,oy]
  rw [Jl kQ];rfl
theorem zl:∀(n:Nat) (r t u:Str),r.length≤n→oy (topL u r) t=topL (t++u) r
 | _,[],t,u,_=>by
  rw [zt,zt];have:=yA t u []
  rw [J5] at this;rw [this];rfl
 | 0,_::_,_,_,h=>by simp at h
 | n+1,c::r,t,u,h=>by
  simp only [Jr] at h;rw [vM,vM];split
  ·rename_i x r2 he
   have h1:r2.length≤r.length∧x.kind≠0:=by
    exact eF
   rw [yA];simp only [oy];rw [Jo h1.2,zl n r2 [] [] gN];rfl
  ·have h1:=(o9 three c r).length_le
   rw [zl n _ t _ gN,J3]
theorem uY:∀(l:List Sn) (o:List Sn) (t:Str),nI (o,t) l=(o++(nI ([],t) l).1,(nI ([],t) l).2)
 | [],o,t=>by simp [nI]
 | x::r,o,t=>by
  have e:∀p,nI p (x::r)=nI (tT p x) r:=fun p=>rfl
  rw [e,e];unfold tT;split
  ·exact uY r o _
  ·simp only
   rw [uY r (lO o t++[x]) [],uY r (lO [] t++[x]) [],qz o];simp
theorem vU:∀(l M:List Sn) (t:Str),oy (l++M) t=(nI ([],t) l).1++oy M (nI ([],t) l).2
 | [],M,t=>by simp [nI]
 | x::r,M,t=>by
  have e:∀p,nI p (x::r)=nI (tT p x) r:=fun p=>rfl
  rw [e];unfold tT;simp only [JW,oy];split
  ·exact vU r M _
  ·rw [vU r M [],uY r (lO [] t++[x]) []]
   simp
theorem Fn {l:List Sn} (hw:Sn.wfL l=true) (hs:Sn.shortL l=true) (r:Str):nn (Sn.tellL l++r)=oy (l++nn r) []:=by
 rw [vU,oz,Ek hw hs,nB false r.length _ _ r (Ju _),oz];have h:=zl r.length r (nI ([],[]) l).2 [] (Ju _);unfold topL at h;rw [h,J5]
theorem sF:∀(l:List Sn) (t:Str),Sn.deepL (oy l t)≤Sn.deepL l
 | [],t=>by rw [oy,nC];omega
 | x::r,t=>by
  simp only [oy,Sn.deepL];split
  ·have:=sF r (t++x.text);omega
  ·have:=sF r []
   rw [Sn.deepL_app,nC];simp only [Sn.deepL];omega
theorem Ag {ps:Str→List Sn × Str} {x y:Sn} {r s:Str} (hx:Hd x) (hps:∀t,t.length<r.length→2*Sn.deepL (ps t).1+(ps t).2.length≤t.length) (h:lE ps x r=some (y,s)):2*y.deep+s.length≤r.length:=by
 cases r with
 | nil=>cases h
 | cons c r =>
  simp only [lE] at h;split at h
  ·injection h with h;injection h with h h';subst h;subst h'
   rw [hx.deep];simp
  ·split at h
   ·have h1:=hps r gU
    split at h
    ·cases h
    ·rename_i d r2 heq
     rw [heq] at h1;injection h with h;injection h with h h';subst h;subst h'
     have hxd:=hx.deep;obtain⟨k,t,n,hh,u,f,o,l⟩:=x;simp only [Jr] at h1 ⊢;show 2*(Sn.deepL (ps r).1+1)+_≤_
     omega
   ·split at h
    ·rename_i hk
     obtain⟨o,ho,rfl⟩:=ug h;obtain⟨a,b,e,f⟩:=hx.choose hk.2 ho;have:=tD h
     rw [f];simp;omega
    ·split at h
     ·cases h
     ·rename_i f' r2 heq
      injection h with h;injection h with h h';subst h;subst h'
      obtain⟨a,b,e,f⟩:=hx.turn (AW heq);have:=vK heq
      rw [f];omega
theorem wB:∀(N:Nat),(∀r x s,r.length≤N→l7 r=some (x,s)→2*x.deep+s.length≤r.length)∧(∀ins t r,r.length≤N→2*Sn.deepL (lu ins [] t r).1+(lu ins [] t r).2.length≤r.length)
 | 0=>by
  refine⟨fun r x s h hp=>?_,fun ins t r h=>?_⟩
  ·exact bK
  ·have:r=[]:=Jm gN
   subst this;rw [me,nC];simp
 | N+1=>by
  obtain⟨ih1,ih2⟩:=wB N;have k1:∀r x s,r.length≤N+1→l7 r=some (x,s)→2*x.deep+s.length≤r.length:=fun r x s hr h=>by
   rw [oL] at h;cases r with
   | nil=>cases h
   | cons c r =>
    simp only [Jr] at hr;simp only [oO] at h;split at h
    ·split at h
     ·cases h
     ·rename_i heq
      have h1:=mD heq;have:=Ag (nW heq) (fun t ht=>ih2 true [] t gN) h
      simp;omega
    ·have h1:=mD h
     rw [(nW h).deep];simp at h1 ⊢;omega
  refine⟨k1,fun ins t r hr=>?_⟩;cases r with
  | nil=>rw [me,nC];simp
  | cons c r =>
   simp only [Jr] at hr;rw [l6];split
   ·rw [nC];simp
   ·split
    ·rename_i x r2 he
     have hx:l7 r=some (x,r2):=by
      exact cG
     have h1:=k1 r x r2 gN hx;have h2:=nR hx;have h3:=ih2 ins [] r2 gN;rw [nB ins r2.length (lO [] t++[x]) [] r2 (Ju _)];simp only [Sn.deepL_app,Sn.deepL,nC,Jr];have h4:=(t8 ins [] [] r2).length_le;omega
    ·have hl:=nU three c r
     have:=ih2 ins (t++[(nxtM three (c::r)).1]) (nxtM three (c::r)).2 gN
     simp only [Jr];omega
theorem Ex (r:Str):2*Sn.deepL (nn r)≤r.length:=by
 have:=(wB r.length).2 false [] r (Ju _)
 rw [oz];omega
theorem rI {P:Program} {id:Nat} {ops:List Oper} {Q:Exit→Act→World→Prop} {a:Act} {w:World} (hm:P.follows .mixedOrders=true) (hB:xV ops.toArray=true) (I:Act→World→(Nat→Bool)→Act→World→Prop)
  (h:∀A0,Hid (A0=a)→I A0 w (fun _=>false) A0 w.drew∧RelyStepsT P ops.toArray Q (I A0 w) ops 0∧∀L a' w',(∀j,j<ops.length→L j=true)→I A0 w L a' w'→wpList P ops.toArray Q [] a' w'):(Code.region id ops.toArray true).wp P Q a w:=by
 obtain⟨h0,h1,h2⟩:=h a (ab rfl);refine rp hm hB (I a w) h0 (fun L i o a' w' ho hLi hde hI=>?_) (fun L a' w' hL hI=>?_)
 ·have:=h1.at_ (i:=i) (by simpa using ho) L a' w' (by simpa using hLi) hde hI
  simpa using this
 ·exact h2 L a' w' (fun j hj=>hL j (by simpa using hj)) hI
structure Gx (X:Nat→Prop) (w w':World):Prop where
 os:w'.os=w.os
 tape:w'.tape=w.tape
 output:w'.output=w.output
 size:w.heap.size≤w'.heap.size
 block:∀k,k<w.heap.size→¬X k→w'.heap[k]?=w.heap[k]?
theorem Gx.refl (X:Nat→Prop) (w:World):Gx X w w:=⟨rfl,rfl,rfl,Ju _,fun _ _ _=>rfl⟩
theorem Gx.of_below {X:Nat→Prop} {w w':World} (h:Below w.heap.size w w'):Gx X w w':=⟨h.os,h.tape,h.output,h.size,fun k hk _=>h.block k hk⟩
theorem Gx.to {X Y:Nat→Prop} {a b c:World} (h:Gx X a b) (hk:Gx Y b c) (hY:∀k,k<a.heap.size→Y k→X k):Gx X a c :=
 ⟨hk.os.trans h.os,hk.tape.trans h.tape,hk.output.trans h.output,Jv h.size hk.size,fun k hlt hx=>(hk.block k (Jt hlt h.size) (fun hy=>hx (hY k hlt hy))).trans (h.block k hlt hx)⟩
theorem Gx.of_grown {X:Nat→Prop} {w w':World} {row:Option Nat} (h:w.grownBy w' row) (hr:∀k,row=some k→X k):Gx X w w':=⟨h.os,h.tape,h.output,h.size,fun k hk hx=>h.block k hk (fun e=>hx (hr k e.symm))⟩
theorem Gx.set {X:Nat→Prop} (w:World) {a:Addr} (u:Value) (ha:X a.block):Gx X w (w.setCell a u):=⟨rfl,rfl,rfl,by simp [World.setCell],fun k _ hx=>heap_setCell_other w a k u (fun e=>hx (e▸ha))⟩
theorem Gx.sets {X:Nat→Prop} {b:Nat} (hb:X b):∀(vs:List Value) (o:Nat) (w:World),Gx X w (w.setCells b o vs)
 | [],_,w=>Gx.refl X w
 | v::r,o,w=>(Gx.set w (a:=⟨b,o,none⟩) v hb).to (Gx.sets hb r (o+1) _) (fun _ _ h=>h)
theorem Gx.kept {X S:Nat→Prop} {w w':World} (h:Gx X w w') (hS:∀b,S b→¬X b):Kept S w w':=⟨h.size,fun b hb hlt=>h.block b hlt (hS b hb)⟩
theorem Gx.below {X:Nat→Prop} {w w':World} {B:Nat} (h:Gx X w w') (hB:B≤w.heap.size) (hX:∀k,X k→B≤k):Below B w w':=⟨h.os,h.tape,h.output,h.size,fun k hk=>h.block k gN (fun hx=>by have:=hX k hx;omega)⟩
theorem Gx.heap {X:Nat→Prop} {w w':World} (h:Gx X w w') {b:Nat} {o:Obj} (hb:w.heap[b]?=some o) (hx:¬X b):w'.heap[b]?=some o:=(h.block b (kT hb) hx).trans hb
theorem Aj {X:Nat→Prop} {w w':World} {B:Nat} {e:TypeId} {sz n:Nat} {v:Value} {xs:List Value} (h:w.ownsRow B e sz v n xs) (hg:Gx X w w') (hv:∀k,v.ownBlock=some k→¬X k):w'.ownsRow B e sz v n xs:=by
 refine⟨h.1,?_⟩;rcases h.2 with h5|⟨g',cap,cur,hv',hB,hg',r⟩
 ·exact .inl h5
 ·exact .inr ⟨g',cap,cur,hv',hB,(hg.block g' (kT hg') (hv g' (by rw [hv'];rfl))).trans hg',r⟩
theorem D5 {B:Nat} {e:TypeId} {sz n g cap:Nat}:∀(vs old pre post:List Value) {w:World},w.ownsRow B e sz (.slice (some ⟨g,0,none⟩) n cap) n (pre++(old++post))→old.length=vs.length→(w.setCells g pre.length vs).ownsRow B e sz (.slice (some ⟨g,0,none⟩) n cap) n (pre++(vs++post))
 | [],old,pre,post,w,h,hl=>by
  have h0:old=[]:=Jm hl;subst h0;exact h
 | v::vs,[],pre,post,w,h,hl=>by simp at hl
 | v::vs,u::old,pre,post,w,h,hl=>by
  have h1:=(h.stored pre.length v).1;have e1:(pre++(u::old++post)).set pre.length v=(pre++[v])++(old++post):=by
   rw [List.set_append_right _ _ (Ju _)];simp
  rw [e1] at h1;have h2:=D5 vs old (pre++[v]) post h1 jU;have e2:(pre++[v]).length=pre.length+1:=gU;rw [e2] at h2;have e3:pre++[v]++(vs++post)=pre++(v::vs++post):=gU;rw [e3] at h2;exact h2
def OwnS (w:World) (D:Nat) (S:Nat→Prop) (v:Value) (xs:List Sn):Prop:=∃css,w.ownsRow D 44 18 v xs.length css.flatten∧SnVs w S css xs
theorem OwnS.nil (w:World) (D:Nat) (S:Nat→Prop):OwnS w D S (.slice none 0 0) []:=⟨[],World.ownsRow_nil _ _ _ _,.nil⟩
theorem OwnS.gx {X S:Nat→Prop} {w w':World} {D:Nat} {v:Value} {xs:List Sn} (h:OwnS w D S v xs) (hg:Gx X w w') (hS:∀b,S b→¬X b) (hv:∀k,v.ownBlock=some k→¬X k):OwnS w' D S v xs:=by
 obtain⟨css,h1,h2⟩:=h;exact⟨css,Aj h1 hg hv,h2.keep (hg.kept hS)⟩
theorem OwnS.later {S:Nat→Prop} {w w':World} {D:Nat} {v:Value} {xs:List Sn} (h:OwnS w D S v xs) (hb:Below w.heap.size w w'):OwnS w' D S v xs :=
 h.gx (X:=fun _=>False) (Gx.of_below hb) (fun _ _ h=>h) (fun _ _ h=>h)
theorem OwnS.form {S:Nat→Prop} {w:World} {D:Nat} {v:Value} {xs:List Sn} (h:OwnS w D S v xs):∃a c,v=.slice a xs.length c:=by
 obtain⟨css,h1,_⟩:=h;exact lD h1
theorem OwnS.lt {S:Nat→Prop} {w:World} {D:Nat} {v:Value} {xs:List Sn} (h:OwnS w D S v xs):∀k,v.ownBlock=some k→D≤k∧k<w.heap.size:=by
 obtain⟨css,h1,_⟩:=h;exact h1.lt
theorem OwnS.sl {S:Nat→Prop} {w:World} {D:Nat} {a:Option Addr} {n c:Nat} {xs:List Sn} (h:OwnS w D S (.slice a n c) xs):n=xs.length∧SnSl w (fun b=>S b∨D≤b) a xs.length xs:=by
 obtain⟨css,h1,h2⟩:=h;have hn:n=xs.length:=by
  exact cN
 subst hn;refine⟨rfl,css,⟨(Sl.of_own h1).1,fun hn=>?_⟩,h2.mono fun b hb _=>.inl hb⟩;exact eh
structure AP (W:World) (D bo:Nat) (S:Nat→Prop) (ov:Value) (o:List Sn) (x:Sn) (lz la ls lo:Bool) (vz va:Value) (w':World):Prop where
 gx:Gx (fun k=>k=bo∨ov.ownBlock=some k) W w'
 z:la=false→lz=true→∃b,vz=.slice (some ⟨b,0,none⟩) 1 1∧w'.heap[b]?=some s0
 b0:la=false→Below W.heap.size W w'
 o0:la=false→OwnS w' D S ov o
 fm:la=true→∃g cap,va=.slice (some ⟨g,0,none⟩) (o.length+1) cap
 a1:la=true→ls=false→∃css,w'.ownsRow D 44 18 va (o.length+1) (css.flatten++[.int .i64 0,.string ⟨#[]⟩,.int .i64 0,.bool false,.bool false,.int .i64 0,.string ⟨#[]⟩,.bool false,.slice none 0 0,.int .i64 0,.int .i64 0,.bool false,.slice none 0 0,.slice none 0 0,.bool false,.bool false,.slice none 0 0,.slice none 0 0])∧SnVs w' S css o
 a2:la=true→ls=true→OwnS w' D S va (o++[x])
 av:la=true→∀k,va.ownBlock=some k→D≤k∧(ov.ownBlock=some k∨W.heap.size≤k)
 bo1:w'.heap[bo]?=some (.cells #[if lo then va else ov] 22 (0,0))
 d1:la=true→lz=true
 d2:ls=true→la=true
 d3:lo=true→la=true
section
variable {W:World} {D bo:Nat} {S:Nat→Prop} {ov:Value} {o:List Sn} {x:Sn}
theorem AP.start (h:OwnS W D S ov o) (hb:W.heap[bo]?=some (.cells #[ov] 22 (0,0))) (vz va:Value):AP W D bo S ov o x false false false false vz va W.drew :=
 ⟨Gx.of_below ((Below.refl _ _).drew),(fun _ h=>by cases h),fun _=>(Below.refl _ _).drew,fun _=>h.later ((Below.refl _ _).drew),(fun h=>by cases h),(fun h=>by cases h),(fun h=>by cases h),(fun h=>by cases h),hb,(fun h=>by cases h),(fun h=>by cases h),(fun h=>by cases h)⟩
theorem AP.alloc {la ls lo:Bool} {vz va:Value} {w':World} (h:AP W D bo S ov o x false la ls lo vz va w'):AP W D bo S ov o x true la ls lo (.slice (some ⟨w'.heap.size,0,none⟩) 1 1) va (w'.alloc s0):=by
 obtain rfl:la=false:=by cases la with|false=>rfl|true=>have:=h.d1 rfl;cases this
 obtain rfl:ls=false:=by cases ls with|false=>rfl|true=>have:=h.d2 rfl;cases this
 obtain rfl:lo=false:=by cases lo with|false=>rfl|true=>have:=h.d3 rfl;cases this
 have hb:Below w'.heap.size w' (w'.alloc s0):=(Below.refl _ _).alloc (Ju _) _;refine⟨h.gx.to (Gx.of_below (X:=fun _=>False) hb) (fun _ _ h=>h.elim),fun _ _=>⟨_,rfl,heap_alloc_new _ _⟩,fun e=>(h.b0 e).alloc h.gx.size _,fun e=>(h.o0 e).later hb,(fun h=>by cases h),(fun h=>by cases h),(fun h=>by cases h),(fun h=>by cases h),(hb.block _ (kT h.bo1)).trans h.bo1,(fun h=>by cases h),(fun h=>by cases h),(fun h=>by cases h)⟩
theorem AP.app {lz ls lo:Bool} {vz va v':Value} {w' w2:World} {css:List (List Value)} (h:AP W D bo S ov o x lz false ls lo vz va w') (hz:lz=true) (hS:∀b,S b→b<D) (hbo:bo<D) (hv:SnVs w' S css o) (hD:∀k,ov.ownBlock=some k→D≤k)
  (ho:w2.ownsRow D 44 18 v' (o.length+1) (css.flatten++[.int .i64 0,.string ⟨#[]⟩,.int .i64 0,.bool false,.bool false,.int .i64 0,.string ⟨#[]⟩,.bool false,.slice none 0 0,.int .i64 0,.int .i64 0,.bool false,.slice none 0 0,.slice none 0 0,.bool false,.bool false,.slice none 0 0,.slice none 0 0])) (hg:w'.grownBy w2 ov.ownBlock) (hmv:xj w' ov v'):AP W D bo S ov o x lz true ls lo vz v' w2:=by
 obtain rfl:ls=false:=by cases ls with|false=>rfl|true=>have:=h.d2 rfl;cases this
 obtain rfl:lo=false:=by cases lo with|false=>rfl|true=>have:=h.d3 rfl;cases this
 have hgx:Gx (fun k=>ov.ownBlock=some k) w' w2:=Gx.of_grown hg (fun _ e=>e);refine⟨h.gx.to hgx (fun _ _ e=>.inr e),(fun h=>by cases h),(fun h=>by cases h),(fun h=>by cases h),fun _=>?_,fun _ _=>⟨css,ho,hv.keep (hgx.kept fun b hb e=>by have:=hS b hb;have:=hD b e;omega)⟩,(fun _ h=>by cases h),fun _ k hk=>⟨(ho.lt k hk).1,?_⟩,hgx.heap h.bo1 (fun e=>by have:=hD _ e;omega),fun _=>hz,(fun h=>by cases h),(fun h=>by cases h)⟩
 ·rcases ho.2 with⟨_,h0⟩|⟨g,cap,cur,hv',_⟩
  ·omega
  ·exact⟨g,cap,hv'⟩
 ·rcases hmv with e|e
  ·exact .inl (e▸hk)
  ·exact .inr (Jv h.gx.size (e k hk))
theorem AP.st {lz lo:Bool} {vz va:Value} {w':World} {g cap:Nat} {cc:List Value} (h:AP W D bo S ov o x lz true false lo vz va w') (hS:∀b,S b→b<D) (hbo:bo<D) (hva:va=.slice (some ⟨g,0,none⟩) (o.length+1) cap) (hcc:cc.length=18) (hx:SnV w' S cc x) :
  AP W D bo S ov o x lz true true lo vz va (w'.setCells g (o.length*18) cc):=by
 obtain⟨css,ho,hv⟩:=h.a1 rfl rfl;have hgD:=(h.av rfl g (by rw [hva];rfl));have hgx:Gx (fun k=>k=g) w' (w'.setCells g (o.length*18) cc):=Gx.sets (X:=fun k=>k=g) rfl cc _ w';have hk:Kept S w' (w'.setCells g (o.length*18) cc):=hgx.kept fun b hb e=>by have:=hS b hb;omega
 refine⟨h.gx.to hgx (fun k hk e=>?_),(fun h=>by cases h),(fun h=>by cases h),(fun h=>by cases h),h.fm,(fun _ h=>by cases h),fun _ _=>?_,h.av,hgx.heap h.bo1 (fun e=>by omega),h.d1,fun _=>rfl,h.d3⟩
 ·subst e
  rcases hgD.2 with e|e
  ·exact .inr e
  ·omega
 ·refine⟨css++[cc],?_,(hv.keep hk).append (.cons (hx.keep hk) .nil)⟩
  have hl:css.flatten.length=o.length*18:=by have h1:=ho.1;rw [JA,show ([.int .i64 0,.string ⟨#[]⟩,.int .i64 0,.bool false,.bool false,.int .i64 0,.string ⟨#[]⟩,.bool false,.slice none 0 0,.int .i64 0,.int .i64 0,.bool false,.slice none 0 0,.slice none 0 0,.bool false,.bool false,.slice none 0 0,.slice none 0 0]:List Value).length=18 from rfl] at h1;omega
  rw [hva] at ho ⊢;have h2:=D5 cc [.int .i64 0,.string ⟨#[]⟩,.int .i64 0,.bool false,.bool false,.int .i64 0,.string ⟨#[]⟩,.bool false,.slice none 0 0,.int .i64 0,.int .i64 0,.bool false,.slice none 0 0,.slice none 0 0,.bool false,.bool false,.slice none 0 0,.slice none 0 0] css.flatten [] (w:=w') (by simpa using ho) (by rw [hcc];rfl);rw [hl] at h2;rw [JA,List.flatten_append];simpa using h2
theorem AP.ou {lz ls:Bool} {vz va:Value} {w':World} (h:AP W D bo S ov o x lz true ls false vz va w') (hS:∀b,S b→b<D∧b≠bo) (hbo:bo<D):AP W D bo S ov o x lz true ls true vz va (w'.setCell ⟨bo,0,none⟩ va):=by
 have hgx:Gx (fun k=>k=bo) w' (w'.setCell ⟨bo,0,none⟩ va):=Gx.set w' (a:=⟨bo,0,none⟩) va rfl;have hne:∀k,va.ownBlock=some k→¬k=bo:=fun k hk e=>by have:=(h.av rfl k hk).1;omega
 refine⟨h.gx.to hgx (fun _ _ e=>.inl e),(fun h=>by cases h),(fun h=>by cases h),(fun h=>by cases h),h.fm,fun _ e=>?_,fun _ e=>(h.a2 rfl e).gx hgx (fun b hb=>(hS b hb).2) hne,h.av,?_,h.d1,h.d2,fun _=>rfl⟩
 ·obtain⟨css,h2,h3⟩:=h.a1 rfl e
  exact⟨css,Aj h2 hgx hne,h3.keep (hgx.kept fun b hb=>(hS b hb).2)⟩
 ·rw [Jl rfl]
  have h1:=h.bo1;rw [Jo gR] at h1;exact pC h1
end
theorem Im {P:Program} {ops:Array Oper} {Q:Exit→Act→World→Prop} {K:Act→World→Prop} {o:Oper} {a:Act} {w w':World} (hw:Region.wanted o (yielded ops a.tmps)=true) (hr:(execOp a.eval o).run P w=.ok .skip w') (h:K (a.put o.dst undef) w'):wpList P ops (Exit.then K Q) [o] a w:=by
 unfold wpList;rw [Jl hw];refine .inl ?_;unfold Oper.wp;rw [hr];exact h
theorem IM {o:Oper} {a:Act} {w:World} {t n c:Nat} {s:Option Addr} (ho:o.op=.call { callee:=.builtin .len,args:=#[.tmp t],argTypes:=#[22] }) (e:a.tmps[t]?=some (.slice s n c)) (_h:n≤100000000):(execOp a.eval o).run Tryz.prog w=.ok (.value (.int .i64 (n:Int))) w:=by
 simp only [execOp,ho];go_simp
theorem ex_conv {o:Oper} {a:Act} {w:World} {t:Nat} {src dst:TypeId} {v u:Value} (ho:o.op=.convert src dst (.tmp t)) (e:a.tmps[t]?=some v) (h:(convert src dst v).run Tryz.prog w=.ok u w):(execOp a.eval o).run Tryz.prog w=.ok (.value u) w:=by
 have e2:=lU e;simp only [execOp,ho,e2];simp [h,Result.andThen]
theorem ex_idx {o:Oper} {a:Act} {w:World} {x y g n cap:Nat} (ho:o.op=.indexAddr 22 (.tmp x) (.tmp y)) (e1:a.tmps[x]?=some (.slice (some ⟨g,0,none⟩) (n+1) cap)) (e2:a.tmps[y]?=some (.int .i64 (n:Int))) (_h:n≤100000000):(execOp a.eval o).run Tryz.prog w=.ok (.value (.pointer (some ⟨g,n*18,none⟩))) w:=by
 simp only [execOp,ho];go_simp
 intro h;omega
theorem ex_sto {o:Oper} {a:Act} {w:World} {x y g:Nat} {s:Option Addr} {n c:Nat} {u:Value} (ho:o.op=.store 22 (.tmp x) (.tmp y)) (e1:a.tmps[x]?=some (.pointer (some ⟨g,0,none⟩))) (e2:a.tmps[y]?=some (.slice s n c)) (hc:w.cell? ⟨g,0,none⟩=some u) (hf:w.frozen? ⟨g,0,none⟩=false):(execOp a.eval o).run Tryz.prog w=.ok .skip (w.setCell ⟨g,0,none⟩ (.slice s n c)):=by
 have e3:=lU e1;have e4:=lU e2;simp only [execOp,ho,e3,e4];have hr:(Instr.storeAt 22 (.pointer (some ⟨g,0,none⟩)) (.slice s n c)).run Tryz.prog w=.ok () (w.setCell ⟨g,0,none⟩ (.slice s n c)):=kP;simp [hr,Result.andThen]
def JS (D bt bo:Nat) (S:Nat→Prop) (t:Str) (o:List Sn) (w:World):Prop :=
 ∃tv ov,w.heap[bt]?=some (.cells #[tv] 52 (0,0))∧w.heap[bo]?=some (.cells #[ov] 22 (0,0))∧w.ownsRow D 5 1 tv t.length (mt t)∧OwnS w D S ov o
structure JI (W:World) (D bo:Nat) (S:Nat→Prop) (tv ov:Value) (t:Str) (o:List Sn) (V:Nat→Value) (L:Nat→Bool) (w':World):Prop where
 ap:AP W D bo S ov o (pM t) (L 5) (L 6) (L 8) (L 9) (V 5) (V 6) w'
 d0:L 6=true→L 0=true
 d7:L 7=true→L 6=true
 v0:L 0=true→V 0=ov
 v1:L 1=true→V 1=tv
 v2:L 2=true→V 2=.string ⟨t.toArray⟩
 v3:L 3=true→V 3=.agg #[.int .i64 0,.string ⟨t.toArray⟩,.int .i64 0,.bool false,.bool false,.int .i64 0,.string ⟨#[]⟩,.bool false,.slice none 0 0,.int .i64 0,.int .i64 0,.bool false,.slice none 0 0,.slice none 0 0,.bool false,.bool false,.slice none 0 0,.slice none 0 0]
 v4:L 4=true→V 4=.int .i64 (o.length:Int)
 v7:L 7=true→∃g cap,V 6=.slice (some ⟨g,0,none⟩) (o.length+1) cap∧V 7=.pointer (some ⟨g,o.length*18,none⟩)
def RJI (W:World) (D bo:Nat) (S:Nat→Prop) (tv ov:Value) (t:Str) (o:List Sn) (A0:Act) (L:Nat→Bool) (a:Act) (w':World):Prop :=
 ∃V:Nat→Value,Fm2 [5,6,7,8,9,10,11,12] V A0 a∧JI W D bo S tv ov t o V L w'
theorem jflush {D bt bo:Nat} {S:Nat→Prop} {t:Str} {o:List Sn} (w0 w:World) (h:JS D bt bo S t o w0) (hw:Below w0.heap.size w0 w) (hbt:bt<D) (hbo:bo<D) (hS:∀b,S b→b<D∧b≠bt∧b≠bo) (hD:D≤w0.heap.size) (htx:t.length≤1000000) (hol:o.length≤3000000) :
  Calls Tryz.prog 28 #[.pointer (some ⟨bt,0,none⟩),.pointer (some ⟨bo,0,none⟩)] w fun e w'=>e=.returned (.tuple #[])∧JS D bt bo S [] (lO o t) w'∧Gx (fun k=>k=bt∨k=bo∨(D≤k∧k<w0.heap.size)) w w':=by
 obtain⟨tv,ov,h1,h2,ht,hov⟩:=h;have hrow:=hov.lt;replace h1:=(hw.block _ (kT h1)).trans h1;replace h2:=(hw.block _ (kT h2)).trans h2;replace ht:=rZ ht hw;replace hov:=hov.later hw;have hDw:D≤w.heap.size:=Jv hD hw.size;have hne:bt≠bo:=fun e=>by subst e;rw [h1] at h2;simp at h2
 obtain⟨ta,tc,rfl⟩:=lD ht;obtain⟨oa,oc,rfl⟩:=hov.form;have hto:∀k,(Value.slice ta t.length tc).ownBlock=some k→¬(k=bo∨(Value.slice oa o.length oc).ownBlock=some k):=fun k hk e=>by
  rcases e with e|e
  ·have:=(ht.lt k hk).1;omega
  ·obtain⟨css,ho1,_⟩:=hov
   rcases sU ht ho1 gR with e2|e2
   ·rw [hk] at e2;cases e2
   ·exact e2 (hk.trans e.symm)
 have hbo2:∀k,(Value.slice oa o.length oc).ownBlock=some k→D≤k:=fun k hk=>(hrow k hk).1
 have c1:w.cell? ⟨bt,0,none⟩=some (.slice ta t.length tc):=by rw [Jw h1];rfl
 have H1:=ab h1;have H2:=ab h2;have HOV:=ab hov;have HTV:=ab ht;have HROW:=ab hrow;have HNE:=ab hne;have HTO:=ab hto;have HBO:=ab hbo2;have HS:=ab hS;clear h1 h2 hov ht hrow hne hto hbo2 hw hS;by_cases h0:t=[]
 ·subst h0
  simp only [J0] at c1;go_enter Tryz.func28,Tryz.ntmps28
  go_wp2
  go_end0
  exact⟨rfl,⟨_,_,H1.out,H2.out,HTV.out,HOV.out⟩,Gx.refl _ _⟩
 ·have hl:0<t.length:=List.length_pos_iff.2 h0
  have HW:Hid (lO o t=o++[pM t]):=ab (by unfold lO;rw [Jo h0]);obtain⟨iN,hiN⟩:=info_parts px;clear h0;go_enter Tryz.func28,Tryz.ntmps28
  go_upto_region 1 with fail
  refine rI gT gT (fun A0 W0 L a w'=>RJI W0 D bo S (.slice ta t.length tc) (.slice oa o.length oc) t o A0 L a w') ?_;intro A0 HAA;have hsz:A0.tmps.size=13:=by rw [HAA.out];rfl
  have hnd:[5,6,7,8,9,10,11,12].Nodup:=gR;have hbd:∀d∈[5,6,7,8,9,10,11,12],d<A0.tmps.size:=by rw [hsz];decide
  have e0:A0.tmps[0]?=some (.pointer (some ⟨bt,0,none⟩)):=by rw [HAA.out];rfl
  have e1:A0.tmps[1]?=some (.pointer (some ⟨bo,0,none⟩)):=by rw [HAA.out];rfl
  have hSD:∀b,S b→b<D:=fun b hb=>(HS.out b hb).1
  refine⟨?_,?_,?_⟩
  ·obtain⟨V,hV⟩:=nT A0 [5,6,7,8,9,10,11,12]
   exact⟨V,⟨hV⟩,AP.start HOV.out H2.out _ _,(fun h=>by cases h),(fun h=>by cases h),(fun h=>by cases h),(fun h=>by cases h),(fun h=>by cases h),(fun h=>by cases h),(fun h=>by cases h),(fun h=>by cases h)⟩
  ·refine⟨?_,?_,?_,?_,?_,?_,?_,?_,?_,?_,trivial⟩
   ·intro L a w' hL hd hI
    obtain⟨V,hf,hJ⟩:=hI;simp [lm,Region.binds] at hd
    have hL9:L 9=false:=by
     cases h:L 9 with
     | false=>rfl
     | true=>have:=hJ.d0 (hJ.ap.d3 h);rw [hL] at this;cases this
    have hb:=hJ.ap.bo1;rw [hL9,Jo gR] at hb;have c:=Jw hb 0;simp only [List.getElem?_toArray,List.getElem?_cons_zero] at c;refine lR (lg rfl) (qG rfl ((hf.out (t:=1) gR).trans e1) (u:=.slice oa o.length oc) kP) ?_;exact⟨_,hf.put hnd hbd 0 rfl _,⟨by simpa [upd] using hJ.ap,by simp,by simpa [upd] using hJ.d7,fun _=>rfl,by simpa [upd] using hJ.v1,by simpa [upd] using hJ.v2,by simpa [upd] using hJ.v3,by simpa [upd] using hJ.v4,by simpa [upd] using hJ.v7⟩⟩
   ·intro L a w' hL hd hI
    obtain⟨V,hf,hJ⟩:=hI;simp [lm,Region.binds] at hd
    have c:=Jw (hJ.ap.gx.heap H1.out (fun e=>by rcases e with e|e;exact HNE.out e;have:=HBO.out _ e;omega)) 0;simp only [List.getElem?_toArray,List.getElem?_cons_zero] at c;refine lR (lg rfl) (qG rfl ((hf.out (t:=0) gR).trans e0) (u:=.slice ta t.length tc) kP) ?_;exact⟨_,hf.put hnd hbd 1 rfl _,⟨by simpa [upd] using hJ.ap,by simpa [upd] using hJ.d0,by simpa [upd] using hJ.d7,by simpa [upd] using hJ.v0,fun _=>rfl,by simpa [upd] using hJ.v2,by simpa [upd] using hJ.v3,by simpa [upd] using hJ.v4,by simpa [upd] using hJ.v7⟩⟩
   ·intro L a w' hL hd hI
    obtain⟨V,hf,hJ⟩:=hI;simp [lm,Region.binds] at hd
    have ht':=Aj HTV.out hJ.ap.gx HTO.out;have hcv:=oN (P:=Tryz.prog) (src:=52) (dst:=9) Tryz.underlying52 Tryz.underlying5 Tryz.underlying9 ht';refine lR (lg rfl) (ex_conv rfl ((hf.ins hnd hbd 1 rfl).trans (Jp some (hJ.v1 gW))) hcv) ?_;exact⟨_,hf.put hnd hbd 2 rfl _,⟨by simpa [upd] using hJ.ap,by simpa [upd] using hJ.d0,by simpa [upd] using hJ.d7,by simpa [upd] using hJ.v0,by simpa [upd] using hJ.v1,fun _=>rfl,by simpa [upd] using hJ.v3,by simpa [upd] using hJ.v4,by simpa [upd] using hJ.v7⟩⟩
   ·intro L a w' hL hd hI
    obtain⟨V,hf,hJ⟩:=hI;simp [lm,Region.binds] at hd
    have e:=lU ((hf.ins hnd hbd 2 rfl).trans (Jp some (hJ.v2 gW)));refine lR (lg rfl) (v:=.agg #[.int .i64 0,.string ⟨t.toArray⟩,.int .i64 0,.bool false,.bool false,.int .i64 0,.string ⟨#[]⟩,.bool false,.slice none 0 0,.int .i64 0,.int .i64 0,.bool false,.slice none 0 0,.slice none 0 0,.bool false,.bool false,.slice none 0 0,.slice none 0 0]) (w':=w') (by simp only [execOp];simp [e];go_simp) ?_;exact⟨_,hf.put hnd hbd 3 rfl _,⟨by simpa [upd] using hJ.ap,by simpa [upd] using hJ.d0,by simpa [upd] using hJ.d7,by simpa [upd] using hJ.v0,by simpa [upd] using hJ.v1,by simpa [upd] using hJ.v2,fun _=>rfl,by simpa [upd] using hJ.v4,by simpa [upd] using hJ.v7⟩⟩
   ·intro L a w' hL hd hI
    obtain⟨V,hf,hJ⟩:=hI;simp [lm,Region.binds] at hd
    refine lR (lg rfl) (IM rfl ((hf.ins hnd hbd 0 rfl).trans (Jp some (hJ.v0 gW))) gN) ?_;exact⟨_,hf.put hnd hbd 4 rfl _,⟨by simpa [upd] using hJ.ap,by simpa [upd] using hJ.d0,by simpa [upd] using hJ.d7,by simpa [upd] using hJ.v0,by simpa [upd] using hJ.v1,by simpa [upd] using hJ.v2,by simpa [upd] using hJ.v3,fun _=>rfl,by simpa [upd] using hJ.v7⟩⟩
   ·intro L a w' hL hd hI
    obtain⟨V,hf,hJ⟩:=hI;simp [lm,Region.binds] at hd
    have hap:=hJ.ap;rw [hL] at hap;refine lR (lg rfl) (ex_bs (vs:=#[(0,.agg #[.int .i64 0,.string ⟨#[]⟩,.int .i64 0,.bool false,.bool false,.int .i64 0,.string ⟨#[]⟩,.bool false,.slice none 0 0,.int .i64 0,.int .i64 0,.bool false,.slice none 0 0,.slice none 0 0,.bool false,.bool false,.slice none 0 0,.slice none 0 0])]) rfl (by simp [Act.eval]) (Ce (cc:=[.int .i64 0,.string ⟨#[]⟩,.int .i64 0,.bool false,.bool false,.int .i64 0,.string ⟨#[]⟩,.bool false,.slice none 0 0,.int .i64 0,.int .i64 0,.bool false,.slice none 0 0,.slice none 0 0,.bool false,.bool false,.slice none 0 0,.slice none 0 0]) w' rfl)) ?_;exact⟨_,hf.put hnd hbd 5 rfl _,⟨by simpa [upd] using hap.alloc,by simpa [upd] using hJ.d0,by simpa [upd] using hJ.d7,by simpa [upd] using hJ.v0,by simpa [upd] using hJ.v1,by simpa [upd] using hJ.v2,by simpa [upd] using hJ.v3,by simpa [upd] using hJ.v4,by simpa [upd] using hJ.v7⟩⟩
   ·intro L a w' hL hd hI
    obtain⟨V,hf,hJ⟩:=hI;simp [lm,Region.binds] at hd
    have hap:=hJ.ap;rw [hL] at hap;have hl5:L 5=true:=gW;obtain⟨bz,hz1,hz2⟩:=hap.z rfl hl5;obtain⟨css,hown,hsv⟩:=hap.o0 rfl;have hv0:=hJ.v0 gW;refine lJ D 44 rfl (.tmp 5) (.tmp 10) 22 rfl Tryz.underlying22 hiN rfl gR (lU ((hf.ins hnd hbd 0 rfl).trans (Jp some hv0))) hown (lU ((hf.ins hnd hbd 5 rfl).trans (Jp some hz1))) (Sl.lit (n:=1) (sz:=18) hz2 rfl) gR gN gR gR (Jv hDw hap.gx.size) ?_;intro v' w2 ho2 hg2 _ hmv;refine wpList_nil ?_;exact⟨_,hf.put hnd hbd 6 rfl _,⟨by simpa [upd] using hap.app hl5 hSD hbo hsv HBO.out ho2 hg2 hmv,by simp [hd],by simp,by simpa [upd] using hJ.v0,by simpa [upd] using hJ.v1,by simpa [upd] using hJ.v2,by simpa [upd] using hJ.v3,by simpa [upd] using hJ.v4,fun e=>by have:=hJ.d7 kN;rw [hL] at this;cases this⟩⟩
   ·intro L a w' hL hd hI
    obtain⟨V,hf,hJ⟩:=hI;simp [lm,Region.binds] at hd
    have hl6:L 6=true:=gW;obtain⟨g,cap,hg⟩:=hJ.ap.fm hl6;refine lR (lg rfl) (ex_idx rfl ((hf.ins hnd hbd 6 rfl).trans (Jp some hg)) ((hf.ins hnd hbd 4 rfl).trans (Jp some (hJ.v4 gW))) gN) ?_;exact⟨_,hf.put hnd hbd 7 rfl _,⟨by simpa [upd] using hJ.ap,by simpa [upd] using hJ.d0,by simp [hd],by simpa [upd] using hJ.v0,by simpa [upd] using hJ.v1,by simpa [upd] using hJ.v2,by simpa [upd] using hJ.v3,by simpa [upd] using hJ.v4,fun _=>⟨g,cap,by simpa [upd] using hg,by simp [upd]⟩⟩⟩
   ·intro L a w' hL hd hI
    obtain⟨V,hf,hJ⟩:=hI;simp [lm,Region.binds] at hd
    have hl6:L 6=true:=gW;obtain⟨g,cap,hg,h7⟩:=hJ.v7 gW;have hap:=hJ.ap;rw [hL,hl6] at hap;obtain⟨css,hown,_⟩:=hap.a1 rfl rfl;rw [hg] at hown;have hth:w'.there g (o.length*18) (#[.int .i64 0,.string ⟨t.toArray⟩,.int .i64 0,.bool false,.bool false,.int .i64 0,.string ⟨#[]⟩,.bool false,.slice none 0 0,.int .i64 0,.int .i64 0,.bool false,.slice none 0 0,.slice none 0 0,.bool false,.bool false,.slice none 0 0,.slice none 0 0]:Array Value).size:=fun j hj=>⟨by rw [hown.cellAt _ (by simp at hj;omega)];rw [Jn (by have:=hown.1;simp at hj;omega)];rfl,hown.frozenAt _⟩
    refine wpList_store_mid rfl 44 (.tmp 12) (.tmp 8) rfl g (o.length*18) #[.int .i64 0,.string ⟨t.toArray⟩,.int .i64 0,.bool false,.bool false,.int .i64 0,.string ⟨#[]⟩,.bool false,.slice none 0 0,.int .i64 0,.int .i64 0,.bool false,.slice none 0 0,.slice none 0 0,.bool false,.bool false,.slice none 0 0,.slice none 0 0] (lU ((hf.ins hnd hbd 7 rfl).trans (Jp some h7))) (lU ((hf.ins hnd hbd 3 rfl).trans (Jp some (hJ.v3 gW)))) hth iD ii ?_;refine wpList_nil ?_;refine⟨_,hf.skip _,⟨?_,by simpa [upd] using hJ.d0,by simpa [upd] using hJ.d7,by simpa [upd] using hJ.v0,by simpa [upd] using hJ.v1,by simpa [upd] using hJ.v2,by simpa [upd] using hJ.v3,by simpa [upd] using hJ.v4,by simpa [upd] using hJ.v7⟩⟩;have:=hap.st hSD hbo hg rfl (zL w' S t)
    simpa [hl6] using this
   ·intro L a w' hL hd hI
    obtain⟨V,hf,hJ⟩:=hI;simp [lm,Region.binds] at hd
    have hl6:L 6=true:=gW;obtain⟨g,cap,hg⟩:=hJ.ap.fm hl6;have hap:=hJ.ap;rw [hL,hl6] at hap;have hb:=hap.bo1;rw [Jo gR] at hb;have c:=Jw hb 0;simp only [List.getElem?_toArray,List.getElem?_cons_zero] at c;refine Im (lg rfl) (ex_sto rfl ((hf.out (t:=1) gR).trans e1) ((hf.ins hnd hbd 6 rfl).trans (Jp some hg)) c (Lib.frozen_of_heap hb 0)) ?_;refine⟨_,hf.skip _,⟨?_,by simpa [upd] using hJ.d0,by simpa [upd] using hJ.d7,by simpa [upd] using hJ.v0,by simpa [upd] using hJ.v1,by simpa [upd] using hJ.v2,by simpa [upd] using hJ.v3,by simpa [upd] using hJ.v4,by simpa [upd] using hJ.v7⟩⟩;have:=hap.ou (fun b hb=>⟨(HS.out b hb).1,(HS.out b hb).2.2⟩) hbo
    simpa [hl6,hg] using this
  ·intro L a w' hL hI
   obtain⟨V,hf,hJ⟩:=hI;have ha:=hf.eq;have hA:=HAA.out;have hap:=hJ.ap;rw [hL 5 gR,hL 6 gR,hL 8 gR,hL 9 gR] at hap;have hbt1:=hap.gx.heap H1.out (fun e=>by rcases e with e|e;exact HNE.out e;have:=HBO.out _ e;omega);have c:=Jw hbt1 0;have f:=Lib.frozen_of_heap hbt1 0;simp only [List.getElem?_toArray,List.getElem?_cons_zero] at c;have hgx:Gx (fun k=>k=bt) w' (w'.setCell ⟨bt,0,none⟩ (.slice none 0 0)):=Gx.set w' (a:=⟨bt,0,none⟩) _ rfl;have HB1:=ab (hgx.heap hap.bo1 (fun e=>HNE.out e.symm));have HB2:=ab (pC (u:=.slice none 0 0) hbt1);have HOW:=ab ((hap.a2 rfl rfl).gx hgx (fun b hb=>(HS.out b hb).2.1) (fun k hk e=>by have:=(hap.av rfl k hk).1;omega));have HGX:=ab hap.gx;have HG2:Hid (Gx (fun k=>k=bt∨k=bo∨(D≤k∧k<w0.heap.size)) w (w'.setCell ⟨bt,0,none⟩ (.slice none 0 0))):=ab (((Gx.refl _ w).to HGX.out (fun k _ e=>by
    rcases e with e|e
    ·exact .inr (.inl e)
    ·exact .inr (.inr (HROW.out k e)))).to hgx (fun k _ e=>.inl e))
   clear hJ hap hbt1 hgx;subst ha;subst hA;simp only [mW];clear hf HAA hbd hsz e0 e1;go_wp2
   go_end0
   refine⟨rfl,⟨_,_,HB2.out,HB1.out,World.ownsRow_nil _ _ _ _,?_⟩,HG2.out⟩;rw [HW.out];exact HOW.out
def tsum:List Sn→Nat
 | []=>0
 | x::l=>(if x.kind=0 then x.text.length else 0)+tsum l
def JnRel (ks R:List Sn) (D bt bo:Nat) (S:Nat→Prop) (wc:World) (q:Value) (wr:World):Prop :=
 ∃(i:Nat) (t:Str) (o:List Sn),q=.int .i64 i∧i≤ks.length∧JS D bt bo S t o wr∧Gx (fun k=>k=bt∨k=bo) wc wr∧Hid (o++oy (ks.drop i) t=R)∧t.length+tsum (ks.drop i)≤1000000∧o.length≤2*i
structure KI (W:World) (D bo:Nat) (S:Nat→Prop) (ov:Value) (o:List Sn) (cc:List Value) (x:Sn) (V:Nat→Value) (L:Nat→Bool) (w':World):Prop where
 ap:AP W D bo S ov o x (L 3) (L 4) (L 6) (L 7) (V 3) (V 4) w'
 d0:L 4=true→L 0=true
 d1:L 4=true→L 1=true
 d7:L 5=true→L 4=true
 v0:L 0=true→V 0=ov
 v1:L 1=true→V 1=.agg cc.toArray
 v2:L 2=true→V 2=.int .i64 (o.length:Int)
 v7:L 5=true→∃g cap,V 4=.slice (some ⟨g,0,none⟩) (o.length+1) cap∧V 5=.pointer (some ⟨g,o.length*18,none⟩)
def RKI (W:World) (D bo:Nat) (S:Nat→Prop) (ov:Value) (o:List Sn) (cc:List Value) (x:Sn) (A0:Act) (L:Nat→Bool) (a:Act) (w':World):Prop :=
 ∃V:Nat→Value,Fm2 [25,26,27,28,29,30] V A0 a∧KI W D bo S ov o cc x V L w'
theorem ER {x:Sn} (h:x.kind≠0) (l:List Sn) (t:Str):oy (x::l) t=lO [] t++x::oy l []:=by rw [oy,Jo h]
theorem Gm (o:List Sn) (t:Str):(lO o t).length≤o.length+1:=by unfold lO;split<;>simp
theorem Join_any (S0:Nat→Prop) (ks:List Sn) (hsm:Sn.smallL ks) (hkl:ks.length≤1000000) (hts:tsum ks≤1000000) (a:Option Addr) (c:Nat) (w:World) (hx:SnSl w S0 a ks.length ks) :
  Calls Tryz.prog 18 #[.slice a ks.length c] w fun e w'=>∃a' c',e=.returned (.slice a' (oy ks []).length c')∧SnSl w' (fun b=>w.heap.size≤b) a' (oy ks []).length (oy ks [])∧Below w.heap.size w w':=by
 obtain⟨R,hR⟩:∃R,oy ks []=R:=⟨_,rfl⟩;rw [hR];have HR:=ab hR;have HC:=ab (fun a c w h=>t7 S0 (Sn.partsL ks+1) ks gN hsm hkl a c w h);have HX:=ab hx;obtain⟨iN,hiN⟩:=info_parts px;obtain⟨iu,hiu,hz0,hz1,hz2⟩:=info_parts qP;clear hR hsm hx;have hb2:Below w.heap.size w ((w.alloc (.cells #[.slice none 0 0] 22)).alloc (.cells #[.slice none 0 0] 52)):=((Below.refl _ _).alloc (Ju _) _).alloc gU _;have HC2:=ab (HC.out a c _ (HX.out.later hb2));have h3:((w.alloc (.cells #[.slice none 0 0] 22)).alloc (.cells #[.slice none 0 0] 52)).heap[w.heap.size+1]?=some (.cells #[.slice none 0 0] 52 (0,0)):=heap_alloc2_new _ _ _;have h4:((w.alloc (.cells #[.slice none 0 0] 22)).alloc (.cells #[.slice none 0 0] 52)).heap[w.heap.size]?=some (.cells #[.slice none 0 0] 22 (0,0)):=heap_alloc2_old _ _ _;have hz:((w.alloc (.cells #[.slice none 0 0] 22)).alloc (.cells #[.slice none 0 0] 52)).heap.size=w.heap.size+2:=gU;have H3:=ab h3;have H4:=ab h4;have HZ:=ab hz;have HB2:=ab hb2;clear hb2 h3 h4 hz HC HX;go_enter Tryz.func18,Tryz.ntmps18
 go_wp2_with (go_at_call 25;refine HC2.out.mono ?_)
 rintro e wc ⟨a',c',rfl,hsl,hbc⟩;have hzc:=hbc.size;rw [HZ.out] at hzc hsl;have HJ0:Hid (JS wc.heap.size (w.heap.size+1) w.heap.size (fun b=>w.heap.size+2≤b∧b<wc.heap.size) [] [] wc):=ab ⟨_,_,(hbc.block _ (kT H3.out)).trans H3.out,(hbc.block _ (kT H4.out)).trans H4.out,World.ownsRow_nil _ _ _ _,OwnS.nil _ _ _⟩;have HSL:Hid (SnSl wc (fun b=>w.heap.size+2≤b∧b<wc.heap.size) a' ks.length ks):=ab (hsl.mono fun b hb hlt=>⟨hb,hlt⟩);have HBC:Hid (Below w.heap.size w wc):=ab (HB2.out.trans (hbc.mono HB2.out.size));obtain⟨S,hS⟩:∃S,S=fun b=>w.heap.size+2≤b∧b<wc.heap.size:=⟨_,rfl⟩
 rw [←hS] at HJ0 HSL;have HS:Hid (∀b,S b→b<wc.heap.size∧b≠w.heap.size+1∧b≠w.heap.size∧w.heap.size≤b):=ab (by rw [hS];exact fun b hb=>⟨hb.2,by have:=hb.1;omega,by have:=hb.1;omega,by have:=hb.1;omega⟩);clear hS hsl hbc HC2 H3 H4 HB2 HZ;go_wp2
 go_loopw [12] (fun q wr=>JnRel ks R wc.heap.size (w.heap.size+1) w.heap.size S wc q wr) (fun q _=>ks.length-(intOf q).toNat)
 case atStart=>exact⟨0,[],[],rfl,by omega,HJ0.out,Gx.refl _ _,HR,by simpa using hts,by simp⟩
 case round =>
  obtain⟨i,t,o,rfl,hi,hjs,hgx,HF,htl,hol⟩:=hrel;have hD:=hgx.size;have hSx:∀b,S b→b<wc.heap.size∧b≠w.heap.size+1∧b≠w.heap.size:=fun b hb=>⟨(HS.out b hb).1,(HS.out b hb).2.1,(HS.out b hb).2.2.1⟩
  have HSX:=ab hSx;have HJS:=ab hjs;have HGX:=ab hgx;clear hSx HJ0 HR hts hjs hgx;cases hd:ks.drop i with
  | nil =>
   have h2:ks.length≤i:=it;have HF':Hid (lO o t=R):=ab (by rw [←HF.out,hd,qz o];rfl);have ht1:t.length≤1000000:=gN;clear hd HF htl;have HFL:=ab (jflush (D:=wc.heap.size) (bt:=w.heap.size+1) (bo:=w.heap.size) (S:=S) wr wr HJS.out (Below.refl _ _) gN gN HSX.out hD ht1 gN);go_wp2_with (go_at_call 28;refine HFL.out.mono ?_)
   first|rintro e w6 rfl hj6 hg6|rintro e w6 ⟨rfl,hj6,hg6⟩
   rw [HF'.out] at hj6;obtain⟨tv6,ov6,_,hbo6,_,how6⟩:=hj6;obtain⟨oa6,oc6,rfl⟩:=how6.form;have c6:=Jw hbo6 0;simp only [List.getElem?_toArray,List.getElem?_cons_zero] at c6;have HO6:=ab how6.sl.2;have HB6:Hid (Below w.heap.size w w6):=ab (((HBC.out.trans (HGX.out.below gN (fun k e=>by omega))).trans (hg6.below gN (fun k e=>by omega))));clear hbo6 how6 hg6;go_wp2
   go_ret
   exact⟨oa6,oc6,rfl,HO6.out.mono fun b hb _=>by rcases hb with hb|hb;exact(HS.out b hb).2.2.2;omega,HB6.out⟩
  | cons y r =>
   obtain⟨h2,h3,hr⟩:=lC hd;have hwr:SnSl wr S a' ks.length ks:=HSL.out.keep (HGX.out.kept fun b hb e=>by have:=HS.out b hb;omega);obtain⟨yk,yt,yn,yh,yu,yf,yo,ys⟩:=y;obtain⟨b,off,cc,hae,hSb,hbB,hyv,hcc⟩:=hwr.at_ h3;have hrg:wr.rangeAt b (off+i*18) cc:=fun j v hj=>by rw [J4];exact hcc j v hj
   have hcl:=hyv.len;obtain⟨fc,foa,foc,fka,fkc,hA⟩:=hyv.at_;obtain⟨W5,hW5,HW5,hb5,-⟩:=sM wr cc;have hz5:W5.heap.size=wr.heap.size+1:=by rw [hW5];simp
   have hbx5:W5.heap[wr.heap.size]?=some (.cells cc.toArray 44 (0,0)):=by rw [hW5];exact heap_alloc_new _ _
   have HBX:=ab hbx5;have HONE:Hid (∀u∈cc.toArray.toList,u.oneCell'=true):=ab (fun u hu=>hyv.one u iY);obtain⟨q0,q1,_,_,_,_,_,_⟩:=hA.box hbx5;have HYV:=ab (hyv.later hb5);have HB5:=ab hb5;have HDR:=ab hr;have HF':Hid (o++oy (.mk yk yt yn yh yu yf yo ys::r) t=R):=ab iL;have htl':t.length+((if yk=0 then yt.length else 0)+tsum r)≤1000000:=by rw [hd] at htl;exact htl
   subst hae;clear hd hr h3 hyv hcc hW5 hA hwr HF htl hbx5;by_cases hk0:yk=0
   ·subst hk0
    rw [Jl rfl] at htl';obtain⟨tv,ov,j1,j2,j3,j4⟩:=HJS.out;have k1:=(HB5.out.block _ (kT j1)).trans j1;have k2:=(HB5.out.block _ (kT j2)).trans j2;have k3:=rZ j3 HB5.out;have k4:=j4.later HB5.out;obtain⟨ta,tc,rfl⟩:=lD k3;have d1:=Jw k1 0;simp only [List.getElem?_toArray,List.getElem?_cons_zero] at d1;have K1:=ab k1;have K2:=ab k2;have K4:=ab k4;have hDw:wc.heap.size≤W5.heap.size:=gN;have HTO:Hid (∀k,ov.ownBlock=some k→¬(Value.slice ta t.length tc).ownBlock=some k):=ab (fun k hk e=>by
     obtain⟨css,ho1,_⟩:=K4.out;rcases sU k3 ho1 gR with e2|e2
     ·rw [e] at e2;cases e2
     ·exact e2 (e.trans hk.symm))
    clear k1 k2 k4 j1 j2 j3 j4;go_wp2_with (first
     | (refine kV rfl 44 (.tmp 14) rfl b (off+i*18) rfl cc _ hrg kX rfl gY ?_)
     | (refine ll rfl 44 (.tmp 7) (.tmp 15) rfl (wr.heap.size) (cc.toArray) rfl rfl 44 _ (heap_alloc_new wr _) (ld) iH rfl (HONE.out) (W:=W5) (HW5.out) ?_)
     | (at_builtin;refine Lib.wpList_append_own_string _ rfl _ _ 52 9 rfl wc.heap.size 5 iu Tryz.underlying52 Tryz.underlying9 hiu hz0 hz1 hz2 _ _ _ rfl k3 _ rfl (by simp only [maxLen,yW];omega) (by simp only [yW];omega) hDw ?_))
    intro v' w2 ho2 hg2 _;have ho3:w2.ownsRow wc.heap.size 5 1 v' (t.length+yt.length) (mt (t++yt)):=by simpa [mt,Lib.strCells] using ho2
    have hgg:Gx (fun k=>(Value.slice ta t.length tc).ownBlock=some k) W5 w2:=Gx.of_grown hg2 (fun _ e=>e);have hlt1:∀k,(Value.slice ta t.length tc).ownBlock=some k→wc.heap.size≤k:=fun k hk=>(k3.lt k hk).1
    have m1:=hgg.heap K1.out (fun e=>by have:=hlt1 _ e;omega);have m2:=hgg.heap K2.out (fun e=>by have:=hlt1 _ e;omega);have m4:=K4.out.gx hgg (fun b hb e=>by have:=hlt1 _ e;have:=HS.out b hb;omega) HTO.out;obtain⟨va,vc,rfl⟩:=lD ho3;have hgs:Gx (fun k=>k=w.heap.size+1) w2 (w2.setCell ⟨w.heap.size+1,0,none⟩ (.slice va (t.length+yt.length) vc)):=Gx.set w2 (a:=⟨w.heap.size+1,0,none⟩) _ rfl;have HJN:Hid (JS wc.heap.size (w.heap.size+1) w.heap.size S (t++yt) o (w2.setCell ⟨w.heap.size+1,0,none⟩ (.slice va (t.length+yt.length) vc))):=ab ⟨_,_,pC m1,hgs.heap m2 gN,(by rw [JA];exact Aj ho3 hgs (fun k hk e=>by have:=(ho3.lt k hk).1;omega)),m4.gx hgs (fun b hb e=>by have:=HS.out b hb;omega) (fun k hk e=>by have:=(m4.lt k hk).1;omega)⟩;have HGN:Hid (Gx (fun k=>k=w.heap.size+1∨k=w.heap.size) wc (w2.setCell ⟨w.heap.size+1,0,none⟩ (.slice va (t.length+yt.length) vc))):=ab (((HGX.out.to (Gx.of_below (X:=fun _=>False) HB5.out) (fun _ _ h=>h.elim)).to hgg (fun k hk e=>by have:=hlt1 _ e;omega)).to hgs (fun k _ e=>.inl e));have e1:=Jw m1 0;simp only [List.getElem?_toArray,List.getElem?_cons_zero] at e1;have f1:=Lib.frozen_of_heap m1 0;clear ho2 hg2 ho3 hgg m1 m2 m4 hgs k3 hlt1;go_wp2
    go_roundw
    case rel=>exact⟨i+1,t++yt,o,by go_num,by omega,HJN.out,HGN.out,ab (by rw [HDR.out,←HF'.out];rfl),by rw [HDR.out,JA];omega,by omega⟩
    case measure=>simp [intOf];omega
   ·rw [Jo hk0] at htl'
    have hkb:(yk==0)=false:=by rw [JP];exact hk0
    have ht1:t.length≤1000000:=gN;have HFL:=ab (jflush (D:=wc.heap.size) (bt:=w.heap.size+1) (bo:=w.heap.size) (S:=S) wr W5 HJS.out HB5.out gN gN HSX.out hD ht1 gN);have HKN:=ab hk0;clear hk0;go_wp2_with (first
     | (refine kV rfl 44 (.tmp 14) rfl b (off+i*18) rfl cc _ hrg kX rfl gY ?_)
     | (refine ll rfl 44 (.tmp 7) (.tmp 15) rfl (wr.heap.size) (cc.toArray) rfl rfl 44 _ (heap_alloc_new wr _) (ld) iH rfl (HONE.out) (W:=W5) (HW5.out) ?_)
     | (go_at_call 28;refine HFL.out.mono ?_))
    first|rintro e w6 rfl hj6 hg6|rintro e w6 ⟨rfl,hj6,hg6⟩
    obtain⟨O,hO⟩:∃O,lO o t=O:=⟨_,rfl⟩;have hOl:O.length≤o.length+1:=by rw [←hO];exact Gm o t
    have HO:=ab hO;have HR2:Hid ((O++[.mk yk yt yn yh yu yf yo ys])++oy (ks.drop (i+1)) []=R):=ab (by
     rw [HDR.out,←HF'.out,←hO];rw [ER (x:=.mk yk yt yn yh yu yf yo ys) HKN.out,qz o];simp)
    have HT2:Hid (([]:Str).length+tsum (ks.drop (i+1))≤1000000):=ab (by rw [HDR.out,J0];omega);have HL2:Hid ((O++[.mk yk yt yn yh yu yf yo ys]:List Sn).length≤2*(i+1)):=ab (by rw [JA,List.length_singleton];omega);have HI2:Hid (i+1≤ks.length):=ab h2;rw [hO] at hj6;obtain⟨tv6,ov6,hbt6,hbo6,htr6,how6⟩:=hj6;obtain⟨oa6,oc6,rfl⟩:=how6.form;have hbx6:=hg6.heap HBX.out (fun e=>by omega);have HV6:=ab (HYV.out.keep (S:=S) (w':=w6) ⟨hg6.size,fun k hk hlt=>hg6.block k hlt (fun e=>by have:=HS.out k hk;omega)⟩);have HG6:Hid (Gx (fun k=>k=w.heap.size+1∨k=w.heap.size) wc w6):=ab ((HGX.out.to (Gx.of_below (X:=fun _=>False) HB5.out) (fun _ _ h=>h.elim)).to hg6 (fun k hk e=>by omega));have HT6:=ab hbt6;have HBO6:=ab hbo6;have HTR6:=ab htr6;have HOW6:=ab how6;have HBX6:=ab hbx6;have hw6:wr.heap.size+1≤w6.heap.size:=by have:=hg6.size;omega
    have HDO:Hid (∀k,(Value.slice oa6 O.length oc6).ownBlock=some k→wc.heap.size≤k):=ab (fun k hk=>(how6.lt k hk).1);clear hO hbt6 hbo6 htr6 how6 hbx6 hg6 HFL hrg;go_upto_region 10 with fail
    refine rI gT gT (fun A0 W0 L a w'=>RKI W0 wc.heap.size w.heap.size S (.slice oa6 O.length oc6) O cc (.mk yk yt yn yh yu yf yo ys) A0 L a w') ?_;intro A0 HAA;have hsz:A0.tmps.size=35:=by rw [HAA.out];rfl
    have hnd:[25,26,27,28,29,30].Nodup:=gR;have hbd:∀d∈[25,26,27,28,29,30],d<A0.tmps.size:=by rw [hsz];decide
    have e3:A0.tmps[3]?=some (.pointer (some ⟨w.heap.size,0,none⟩)):=by rw [HAA.out];rfl
    have e7:A0.tmps[7]?=some (.pointer (some ⟨wr.heap.size,0,none⟩)):=by rw [HAA.out];rfl
    have hSD:∀b,S b→b<wc.heap.size:=fun b hb=>(HS.out b hb).1
    have hbo:w.heap.size<wc.heap.size:=gN;have hDw:wc.heap.size≤w6.heap.size:=gN;refine⟨?_,?_,?_⟩
    ·obtain⟨V,hV⟩:=nT A0 [25,26,27,28,29,30]
     exact⟨V,⟨hV⟩,AP.start HOW6.out HBO6.out _ _,(fun h=>by cases h),(fun h=>by cases h),(fun h=>by cases h),(fun h=>by cases h),(fun h=>by cases h),(fun h=>by cases h),(fun h=>by cases h)⟩
    ·refine⟨?_,?_,?_,?_,?_,?_,?_,?_,trivial⟩
     ·intro L a w' hL hd hI
      obtain⟨V,hf,hJ⟩:=hI;simp [lm,Region.binds] at hd
      have hL7:L 7=false:=by
       cases h:L 7 with
       | false=>rfl
       | true=>have:=hJ.d0 (hJ.ap.d3 h);rw [hL] at this;cases this
      have hb:=hJ.ap.bo1;rw [hL7,Jo gR] at hb;have c:=Jw hb 0;simp only [List.getElem?_toArray,List.getElem?_cons_zero] at c;refine lR (lg rfl) (qG rfl ((hf.out (t:=3) gR).trans e3) (u:=.slice oa6 O.length oc6) kP) ?_;exact⟨_,hf.put hnd hbd 0 rfl _,⟨by simpa [upd] using hJ.ap,by simp,by simpa [upd] using hJ.d1,by simpa [upd] using hJ.d7,fun _=>rfl,by simpa [upd] using hJ.v1,by simpa [upd] using hJ.v2,by simpa [upd] using hJ.v7⟩⟩
     ·intro L a w' hL hd hI
      obtain⟨V,hf,hJ⟩:=hI;simp [lm,Region.binds] at hd
      have hL4:L 4=false:=by
       cases h:L 4 with
       | false=>rfl
       | true=>have:=hJ.d1 h;rw [hL] at this;cases this
      have hb0:=hJ.ap.b0 hL4;have hbx:=(hb0.block _ (kT HBX6.out)).trans HBX6.out;refine kV rfl 44 (.tmp 7) rfl wr.heap.size 0 (lU ((hf.out (t:=7) gR).trans e7)) cc _ (lc (ds:=[]) (by simpa using hbx)) kX rfl gY ?_;refine wpList_nil ?_;exact⟨_,hf.put hnd hbd 1 rfl _,⟨by simpa [upd] using hJ.ap,by simpa [upd] using hJ.d0,by simp,by simpa [upd] using hJ.d7,by simpa [upd] using hJ.v0,fun _=>rfl,by simpa [upd] using hJ.v2,by simpa [upd] using hJ.v7⟩⟩
     ·intro L a w' hL hd hI
      obtain⟨V,hf,hJ⟩:=hI;simp [lm,Region.binds] at hd
      refine lR (lg rfl) (IM rfl ((hf.ins hnd hbd 0 rfl).trans (Jp some (hJ.v0 gW))) gN) ?_;exact⟨_,hf.put hnd hbd 2 rfl _,⟨by simpa [upd] using hJ.ap,by simpa [upd] using hJ.d0,by simpa [upd] using hJ.d1,by simpa [upd] using hJ.d7,by simpa [upd] using hJ.v0,by simpa [upd] using hJ.v1,fun _=>rfl,by simpa [upd] using hJ.v7⟩⟩
     ·intro L a w' hL hd hI
      obtain⟨V,hf,hJ⟩:=hI;simp [lm,Region.binds] at hd
      have hap:=hJ.ap;rw [hL] at hap;refine lR (lg rfl) (ex_bs (vs:=#[(0,.agg #[.int .i64 0,.string ⟨#[]⟩,.int .i64 0,.bool false,.bool false,.int .i64 0,.string ⟨#[]⟩,.bool false,.slice none 0 0,.int .i64 0,.int .i64 0,.bool false,.slice none 0 0,.slice none 0 0,.bool false,.bool false,.slice none 0 0,.slice none 0 0])]) rfl (by simp [Act.eval]) (Ce (cc:=[.int .i64 0,.string ⟨#[]⟩,.int .i64 0,.bool false,.bool false,.int .i64 0,.string ⟨#[]⟩,.bool false,.slice none 0 0,.int .i64 0,.int .i64 0,.bool false,.slice none 0 0,.slice none 0 0,.bool false,.bool false,.slice none 0 0,.slice none 0 0]) w' rfl)) ?_;exact⟨_,hf.put hnd hbd 3 rfl _,⟨by simpa [upd] using hap.alloc,by simpa [upd] using hJ.d0,by simpa [upd] using hJ.d1,by simpa [upd] using hJ.d7,by simpa [upd] using hJ.v0,by simpa [upd] using hJ.v1,by simpa [upd] using hJ.v2,by simpa [upd] using hJ.v7⟩⟩
     ·intro L a w' hL hd hI
      obtain⟨V,hf,hJ⟩:=hI;simp [lm,Region.binds] at hd
      have hap:=hJ.ap;rw [hL] at hap;have hl3:L 3=true:=gW;obtain⟨bz,hz1,hz2⟩:=hap.z rfl hl3;obtain⟨css,hown,hsv⟩:=hap.o0 rfl;have hv0:=hJ.v0 gW;refine lJ wc.heap.size 44 rfl (.tmp 25) (.tmp 28) 22 rfl Tryz.underlying22 hiN rfl gR (lU ((hf.ins hnd hbd 0 rfl).trans (Jp some hv0))) hown (lU ((hf.ins hnd hbd 3 rfl).trans (Jp some hz1))) (Sl.lit (n:=1) (sz:=18) hz2 rfl) gR gN gR gR (Jv hDw hap.gx.size) ?_;intro v' w2 ho2 hg2 _ hmv;refine wpList_nil ?_;exact⟨_,hf.put hnd hbd 4 rfl _,⟨by simpa [upd] using hap.app hl3 hSD hbo hsv HDO.out ho2 hg2 hmv,by simp [hd],by simp [hd],by simp,by simpa [upd] using hJ.v0,by simpa [upd] using hJ.v1,by simpa [upd] using hJ.v2,fun e=>by have:=hJ.d7 kN;rw [hL] at this;cases this⟩⟩
     ·intro L a w' hL hd hI
      obtain⟨V,hf,hJ⟩:=hI;simp [lm,Region.binds] at hd
      have hl6:L 4=true:=gW;obtain⟨g,cap,hg⟩:=hJ.ap.fm hl6;refine lR (lg rfl) (ex_idx rfl ((hf.ins hnd hbd 4 rfl).trans (Jp some hg)) ((hf.ins hnd hbd 2 rfl).trans (Jp some (hJ.v2 gW))) gN) ?_;exact⟨_,hf.put hnd hbd 5 rfl _,⟨by simpa [upd] using hJ.ap,by simpa [upd] using hJ.d0,by simpa [upd] using hJ.d1,by simp [hd],by simpa [upd] using hJ.v0,by simpa [upd] using hJ.v1,by simpa [upd] using hJ.v2,fun _=>⟨g,cap,by simpa [upd] using hg,by simp [upd]⟩⟩⟩
     ·intro L a w' hL hd hI
      obtain⟨V,hf,hJ⟩:=hI;simp [lm,Region.binds] at hd
      have hl6:L 4=true:=gW;obtain⟨g,cap,hg,h7⟩:=hJ.v7 gW;have hap:=hJ.ap;rw [hL,hl6] at hap;obtain⟨css,hown,_⟩:=hap.a1 rfl rfl;rw [hg] at hown;have hth:w'.there g (O.length*18) cc.toArray.size:=fun j hj=>⟨by rw [hown.cellAt _ (by simp at hj;omega)];rw [Jn (by have:=hown.1;simp at hj;omega)];rfl,hown.frozenAt _⟩
      have hvx:SnV w' S cc (.mk yk yt yn yh yu yf yo ys):=HV6.out.keep (hap.gx.kept fun b hb e=>by
       rcases e with e|e
       ·exact(HS.out b hb).2.2.1 e
       ·have:=HDO.out b e;have:=hSD b hb;omega)
      refine wpList_store_mid rfl 44 (.tmp 30) (.tmp 26) rfl g (O.length*18) cc.toArray (lU ((hf.ins hnd hbd 5 rfl).trans (Jp some h7))) (lU ((hf.ins hnd hbd 1 rfl).trans (Jp some (hJ.v1 gW)))) hth (by rw [ld];simp [hcl]) (all_oneCell_toArray (fun u hu=>hvx.one u hu)) ?_;refine wpList_nil ?_;refine⟨_,hf.skip _,⟨?_,by simpa [upd] using hJ.d0,by simpa [upd] using hJ.d1,by simpa [upd] using hJ.d7,by simpa [upd] using hJ.v0,by simpa [upd] using hJ.v1,by simpa [upd] using hJ.v2,by simpa [upd] using hJ.v7⟩⟩;have:=hap.st hSD hbo hg hcl hvx
      simpa [hl6] using this
     ·intro L a w' hL hd hI
      obtain⟨V,hf,hJ⟩:=hI;simp [lm,Region.binds] at hd
      have hl6:L 4=true:=gW;obtain⟨g,cap,hg⟩:=hJ.ap.fm hl6;have hap:=hJ.ap;rw [hL,hl6] at hap;have hb:=hap.bo1;rw [Jo gR] at hb;have c:=Jw hb 0;simp only [List.getElem?_toArray,List.getElem?_cons_zero] at c;refine Im (lg rfl) (ex_sto rfl ((hf.out (t:=3) gR).trans e3) ((hf.ins hnd hbd 4 rfl).trans (Jp some hg)) c (Lib.frozen_of_heap hb 0)) ?_;refine⟨_,hf.skip _,⟨?_,by simpa [upd] using hJ.d0,by simpa [upd] using hJ.d1,by simpa [upd] using hJ.d7,by simpa [upd] using hJ.v0,by simpa [upd] using hJ.v1,by simpa [upd] using hJ.v2,by simpa [upd] using hJ.v7⟩⟩;have:=hap.ou (fun b hb=>⟨(HS.out b hb).1,(HS.out b hb).2.2.1⟩) hbo
      simpa [hl6,hg] using this
    ·intro L a w' hL hI
     obtain⟨V,hf,hJ⟩:=hI;have ha:=hf.eq;have hA:=HAA.out;have hap:=hJ.ap;rw [hL 3 gR,hL 4 gR,hL 6 gR,hL 7 gR] at hap;have hto:∀k,tv6.ownBlock=some k→¬(k=w.heap.size∨(Value.slice oa6 O.length oc6).ownBlock=some k):=fun k hk e=>by
      rcases e with e|e
      ·have:=(HTR6.out.lt k hk).1;omega
      ·obtain⟨css,ho1,_⟩:=HOW6.out
       rcases sU HTR6.out ho1 gR with e2|e2
       ·rw [hk] at e2;cases e2
       ·exact e2 (hk.trans e.symm)
     have hbt1:=hap.gx.heap HT6.out (fun e=>by rcases e with e|e;omega;have:=HDO.out _ e;omega);have HJN:Hid (JS wc.heap.size (w.heap.size+1) w.heap.size S [] (O++[.mk yk yt yn yh yu yf yo ys]) w'):=ab ⟨_,_,hbt1,hap.bo1,Aj HTR6.out hap.gx hto,hap.a2 rfl rfl⟩;have HGN:Hid (Gx (fun k=>k=w.heap.size+1∨k=w.heap.size) wc w'):=ab (HG6.out.to hap.gx (fun k hk e=>by
      rcases e with e|e
      ·exact .inr e
      ·have:=HDO.out k e;omega))
     clear hJ hap hbt1 hto;subst ha;subst hA;simp only [mW];clear hf HAA hbd hsz e3 e7;go_wp2
     go_roundw
     case rel =>
      have hq:Value.int IntKind.i64 ((i:Int)+1)=Value.int IntKind.i64 ((i+1:Nat):Int):=rfl;have hj:=HJN.out;refine⟨i+1,[],O++[.mk yk yt yn yh yu yf yo ys],hq,HI2.out,?_,HGN.out,HR2,HT2.out,HL2.out⟩;exact hj
     case measure=>simp [intOf];omega
theorem vu {P:Program} {w:World} {ops:Array Oper} {rest:List Oper} {o:Oper} {a:Act} {Q:Exit→Act→World→Prop} (hw:Region.wanted o (yielded ops a.tmps)=true) (base:Nat) (e:TypeId) (s x:Operand) (t:TypeId)
  (ho:o.op=.call { callee:=.builtin .append,args:=#[s,x],argTypes:=#[t,t] })
  {i:TypeInfo} {z:Value} {size bytes:Nat} (ht:P.underlying t=some (.slice e)) (hinf:P.info? e=some i∧i.zero=some z∧i.size=size∧i.bytes=bytes)
  (hzs:z.cells.size=size) (hsz:0<size)
  {v:Value} {n:Nat} {xs:List Value} (hs:a.eval s=v) (hown:w.ownsRow base e size v n xs)
  {B:Nat} {A:Option Addr} {m c:Nat} {news:List Value} (hx:a.eval x=.slice A m c) (hr:Sl w B A size m news) (h1:∀u∈news,u.oneCell'=true)
  (hn:n≤10000000) (hm:m≤10000000) (hb:bytes≤1000) (hB:base≤w.heap.size)
  (h:∀v' w',w'.ownsRow base e size v' (n+m) (xs++news)→w.grownBy w' v.ownBlock→Below base w w'→xj w v v'→wpList P ops Q rest (a.put o.dst v') w') :
  wpList P ops Q (o::rest) a w:=by
 have h2:=lJ (o:={ o with guard:=none }) base e rfl s x t ho ht hinf hzs hsz hs hown hx hr h1 hn hm hb hB h;unfold wpList at h2 ⊢;rw [Jl (lg rfl)] at h2;rw [Jl hw];exact h2
theorem yJ:∀a b:List Sn,tsum (a++b)=tsum a+tsum b
 | [],b=>by simp [tsum]
 | x::a,b=>by simp only [JW,tsum,yJ a b];omega
theorem yE (t:Str):tsum (lO [] t)=t.length:=by
 unfold lO;split
 ·rename_i h;subst h;rfl
 ·rfl
theorem zU:∀(n:Nat) (r t:Str),r.length≤n→tsum (topL t r)≤t.length+r.length
 | _,[],t,_=>by rw [zt,yE];omega
 | 0,_::_,_,h=>by simp at h
 | n+1,c::r,t,h=>by
  simp only [Jr] at h ⊢;rw [vM];split
  ·rename_i x r2 he
   have h1:r2.length≤r.length∧x.kind≠0:=by
    exact eF
   rw [yJ,yE];simp only [tsum];rw [Jo h1.2];have:=zU n r2 [] gN
   simp only [J0] at this;omega
  ·have h3:=(o9 three c r).length_le
   have:=zU n (nxtM three (c::r)).2 (t++[(nxtM three (c::r)).1]) gN
   rw [JA] at this;simp only [List.length_singleton] at this;omega
theorem IC (s:Str):tsum (nn s)≤s.length:=by
 have:=zU s.length s [] (Ju _)
 rw [oz];simpa [topL] using this
theorem own_lit0 (w:World):(w.alloc (.cells #[] 44)).ownsRow w.heap.size 44 18 (.slice (some ⟨w.heap.size,0,none⟩) 0 0) 0 [] :=
 ⟨rfl,.inr ⟨w.heap.size,0,#[],rfl,Ju _,heap_alloc_new _ _,Ju _,by decide,rfl,rfl⟩⟩
end Go.Proofs.YtdcnncgpomcaaaaGreatDoor
