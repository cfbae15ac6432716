/- Snippets in memory: what a value of eighteen cells is read as. -/
import Derived.Test.YtbgcjpefocdkkaaGreatSm1
import Derived.Test.YtbgcjpefocdkkaaGreatSm2
import Derived.Test.YtbgcjpefocdkkaaGreatSm11
import Derived.Test.YtbgcjpefocdkkaaGreatSm3
import Derived.Test.YtbgcjpefocdkkaaGreatSm4
set_option maxRecDepth 100000
namespace Go.Proofs.YtbgcjpefocdkkaaGreat
open Go.RowKit
theorem fcells_one' (fs:List Fm):∀u∈fcells fs,u.oneCell'=true:=by
 intro u hu;simp only [fcells,List.mem_flatMap] at hu;obtain⟨f,_,hf⟩:=hu;simp only [Fm.cells,List.mem_cons,List.not_mem_nil,or_false] at hf;rcases hf with rfl|rfl|rfl|rfl|rfl<;>rfl
def TfV (w:World) (S:Nat→Prop) (cc:List Value) (f:Tf):Prop :=
 ∃(rc:List Value) (fa:Option Addr) (fc:Nat),RxV w S rc f.rx∧SlS w S fa 5 f.fs.length (fcells f.fs)∧cc=rc++[.slice fa f.fs.length fc,.bool f.fold,.bool f.all]
theorem TfV.keep {w w':World} {S:Nat→Prop} (hk:Kept S w w') {c:List Value} {f:Tf} (h:TfV w S c f):TfV w' S c f:=by
 obtain⟨rc,fa,fc,h1,h2,h3⟩:=h;exact⟨rc,fa,fc,h1.keep hk,h2.keep hk,h3⟩
theorem TfV.mono {w:World} {S S':Nat→Prop} (hS:∀b,S b→b<w.heap.size→S' b) {c:List Value} {f:Tf} (h:TfV w S c f):TfV w S' c f:=by
 obtain⟨rc,fa,fc,h1,h2,h3⟩:=h;exact⟨rc,fa,fc,h1.mono hS,h2.mono hS,h3⟩
theorem TfV.len {w:World} {S:Nat→Prop} {c:List Value} {f:Tf} (h:TfV w S c f):c.length=11:=by
 obtain⟨rc,fa,fc,h1,h2,rfl⟩:=h;rw [List.length_append,h1.len];rfl
theorem TfV.one {w:World} {S:Nat→Prop} {c:List Value} {f:Tf} (h:TfV w S c f):∀u∈c,u.oneCell'=true:=by
 obtain⟨rc,fa,fc,h1,h2,rfl⟩:=h;intro u hu;rcases List.mem_append.1 hu with hu|hu
 ·exact h1.one u hu
 ·simp only [List.mem_cons,List.not_mem_nil,or_false] at hu
  rcases hu with rfl|rfl|rfl<;>rfl
theorem TfV.zero (w:World) (S:Nat→Prop):TfV w S (rxc 0 [] false none ([]:List Row).length 0 0 0 false none ([]:List Rx).length 0++[.slice none 0 0,.bool false,.bool false]) tf0 :=
 ⟨_,none,0,RxV.close (SlS.none_ _ _ _ _) ⟨[],SlS.none_ _ _ _ _,.nil⟩,SlS.none_ _ _ _ _,rfl⟩
def snc (k:Int) (t:Str) (n:Int) (h u:Bool) (fc:List Value) (oa:Option Addr) (on oc:Nat) (ka:Option Addr) (kn kc:Nat):List Value :=
 [.int .i64 k,.string ⟨(t).toArray⟩,.int .i64 n,.bool h,.bool u]++fc++[.slice oa on oc,.slice ka kn kc]
mutual
inductive SnV (w:World) (S:Nat→Prop):List Value→Sn→Prop
 | mk {k:Int} {t:Str} {n:Int} {h u:Bool} {f:Tf} {os:List Str} {ks:List Sn} {fc:List Value} {oa ka:Option Addr} {oc kc:Nat} {css:List (List Value)} :
   TfV w S fc f→SlS w S oa 1 os.length (scells os)→SlS w S ka 18 ks.length css.flatten→SnVs w S css ks→SnV w S (snc k t n h u fc oa os.length oc ka ks.length kc) (.mk k t n h u f os ks)
inductive SnVs (w:World) (S:Nat→Prop):List (List Value)→List Sn→Prop
 | nil:SnVs w S [] []
 | cons {c:List Value} {x:Sn} {cs:List (List Value)} {xs:List Sn}:SnV w S c x→SnVs w S cs xs→SnVs w S (c::cs) (x::xs)
end
mutual
theorem SnV.keep {w w':World} {S:Nat→Prop} (hk:Kept S w w'):∀{c:List Value} {x:Sn},SnV w S c x→SnV w' S c x
 | _,_,.mk h0 h1 h2 h3=>.mk (h0.keep hk) (h1.keep hk) (h2.keep hk) (SnVs.keep hk h3)
theorem SnVs.keep {w w':World} {S:Nat→Prop} (hk:Kept S w w'):∀{cs:List (List Value)} {xs:List Sn},SnVs w S cs xs→SnVs w' S cs xs
 | _,_,.nil=>.nil
 | _,_,.cons h1 h2=>.cons (SnV.keep hk h1) (SnVs.keep hk h2)
end
mutual
theorem SnV.mono {w:World} {S S':Nat→Prop} (hS:∀b,S b→b<w.heap.size→S' b):∀{c:List Value} {x:Sn},SnV w S c x→SnV w S' c x
 | _,_,.mk h0 h1 h2 h3=>.mk (h0.mono hS) (h1.mono hS) (h2.mono hS) (SnVs.mono hS h3)
theorem SnVs.mono {w:World} {S S':Nat→Prop} (hS:∀b,S b→b<w.heap.size→S' b):∀{cs:List (List Value)} {xs:List Sn},SnVs w S cs xs→SnVs w S' cs xs
 | _,_,.nil=>.nil
 | _,_,.cons h1 h2=>.cons (SnV.mono hS h1) (SnVs.mono hS h2)
end
theorem SnV.later {w w':World} {S:Nat→Prop} {c:List Value} {x:Sn} (h:SnV w S c x) (hb:Below w.heap.size w w'):SnV w' S c x:=h.keep (Kept.all hb)
theorem SnVs.later {w w':World} {S:Nat→Prop} {c:List (List Value)} {x:List Sn} (h:SnVs w S c x) (hb:Below w.heap.size w w'):SnVs w' S c x:=h.keep (Kept.all hb)
theorem SnV.len {w:World} {S:Nat→Prop} {c:List Value} {x:Sn} (h:SnV w S c x):c.length=18:=by
 cases h with
 | mk h0 h1 h2 h3=>unfold snc;simp [h0.len]
theorem SnVs.length {w:World} {S:Nat→Prop}:∀{cs:List (List Value)} {xs:List Sn},SnVs w S cs xs→cs.length=xs.length
 | _,_,.nil=>rfl
 | _,_,.cons _ h=>by simp [h.length]
theorem SnVs.eights {w:World} {S:Nat→Prop}:∀{cs:List (List Value)} {xs:List Sn},SnVs w S cs xs→∀c∈cs,c.length=18
 | _,_,.nil,c,hc=>by simp at hc
 | _,_,.cons h1 h2,c,hc=>by
  rcases List.mem_cons.1 hc with rfl|hc
  ·exact h1.len
  ·exact h2.eights c hc
theorem SnVs.at_ {w:World} {S:Nat→Prop}:∀{cs:List (List Value)} {xs:List Sn},SnVs w S cs xs→∀{k:Nat} {x:Sn},xs[k]?=some x→∃c,cs[k]?=some c∧SnV w S c x
 | _,_,.nil,k,x,h=>by simp at h
 | _,_,.cons h1 h2,0,x,h=>by simp at h;subst h;exact⟨_,rfl,h1⟩
 | _,_,.cons h1 h2,k+1,x,h=>by simpa using h2.at_ (by simpa using h)
theorem SnVs.append {w:World} {S:Nat→Prop}:∀{cs ds:List (List Value)} {xs ys:List Sn},SnVs w S cs xs→SnVs w S ds ys→SnVs w S (cs++ds) (xs++ys)
 | _,_,_,_,.nil,h=>h
 | _,_,_,_,.cons h1 h2,h=>.cons h1 (h2.append h)
theorem SnV.one {w:World} {S:Nat→Prop} {c:List Value} {x:Sn} (h:SnV w S c x):∀u∈c,u.oneCell'=true:=by
 cases h with
 | mk h0 h1 h2 h3 =>
  intro u hu;unfold snc at hu;rcases List.mem_append.1 hu with hu|hu
  ·rcases List.mem_append.1 hu with hu|hu
   ·simp only [List.mem_cons,List.not_mem_nil,or_false] at hu
    rcases hu with rfl|rfl|rfl|rfl|rfl<;>rfl
   ·exact h0.one u hu
  ·simp only [List.mem_cons,List.not_mem_nil,or_false] at hu
   rcases hu with rfl|rfl<;>rfl
def SnSl (w:World) (S:Nat→Prop) (a:Option Addr) (n:Nat) (xs:List Sn):Prop:=∃css,SlS w S a 18 n css.flatten∧SnVs w S css xs
theorem SnSl.keep {w w':World} {S:Nat→Prop} {a:Option Addr} {n:Nat} {xs:List Sn} (h:SnSl w S a n xs) (hk:Kept S w w'):SnSl w' S a n xs:=by
 obtain⟨css,h1,h2⟩:=h;exact⟨css,h1.keep hk,h2.keep hk⟩
theorem SnSl.later {w w':World} {S:Nat→Prop} {a:Option Addr} {n:Nat} {xs:List Sn} (h:SnSl w S a n xs) (hb:Below w.heap.size w w'):SnSl w' S a n xs:=h.keep (Kept.all hb)
theorem SnSl.mono {w:World} {S S':Nat→Prop} {a:Option Addr} {n:Nat} {xs:List Sn} (h:SnSl w S a n xs) (hS:∀b,S b→b<w.heap.size→S' b):SnSl w S' a n xs:=by
 obtain⟨css,h1,h2⟩:=h;exact⟨css,h1.mono hS,h2.mono hS⟩
theorem SnSl.nil (w:World) (S:Nat→Prop) (a:Option Addr):SnSl w S a 0 []:=⟨[],SlS.none_ _ _ _ _,.nil⟩
theorem flat_len {C:Nat}:∀{cs:List (List Value)},(∀c∈cs,c.length=C)→cs.flatten.length=cs.length*C
 | [],_=>by simp
 | c::cs,h=>by rw [List.flatten_cons,List.length_append,flat_len (fun x hx=>h x (List.mem_cons_of_mem _ hx)),h c (List.mem_cons_self ..),List.length_cons,Nat.succ_mul];omega
theorem SnSl.len {w:World} {S:Nat→Prop} {a:Option Addr} {n:Nat} {xs:List Sn} (h:SnSl w S a n xs):n=xs.length:=by
 obtain⟨css,h1,h2⟩:=h;have h3:=h1.1;rw [flat_len h2.eights,h2.length] at h3;omega
theorem SnSl.at_ {w:World} {S:Nat→Prop} {a:Option Addr} {n:Nat} {xs:List Sn} (h:SnSl w S a n xs) {k:Nat} {x:Sn} (hk:xs[k]?=some x) :
  ∃b o c,a=some ⟨b,o,none⟩∧S b∧b<w.heap.size∧SnV w S c x∧∀(j:Nat) (u:Value),c[j]?=some u→w.cell? ⟨b,o+(k*18+j),none⟩=some u:=by
 have hn:=h.len;obtain⟨css,h1,h2⟩:=h;have hlt:=(List.getElem?_eq_some_iff.1 hk).1;obtain⟨b,o,e1,e2,e3,e4⟩:=h1.2 (by omega);obtain⟨c,hc,hv⟩:=h2.at_ hk;exact⟨b,o,c,e1,e2,e3,hv,fun j u hj=>e4 _ u (flat_at h2.eights hc hj)⟩
structure TfCells (fc:List Value) (f:Tf) (w:World) (S:Nat→Prop) (rk:Int) (rch:Str) (rng:Bool) (rrs:List Row) (rlo rhi:Int) (rlz:Bool) (rks:List Rx) (ra:Option Addr) (rcp:Nat) (rka:Option Addr) (rkc:Nat) (fa:Option Addr) (fcp:Nat):Prop where
 eq:fc=[.int .i64 rk,.string ⟨(rch).toArray⟩,.bool rng,.slice ra rrs.length rcp,.int .i64 rlo,.int .i64 rhi,.bool rlz,.slice rka rks.length rkc,.slice fa f.fs.length fcp,.bool f.fold,.bool f.all]
 rx:f.rx=.mk rk rch rng rrs rlo rhi rlz rks
 rv:RxV w S (rxc rk rch rng ra rrs.length rcp rlo rhi rlz rka rks.length rkc) (.mk rk rch rng rrs rlo rhi rlz rks)
 fv:SlS w S fa 5 f.fs.length (fcells f.fs)
theorem TfV.open_ {w:World} {S:Nat→Prop} {fc:List Value} {f:Tf} (h:TfV w S fc f):∃rk rch rng rrs rlo rhi rlz rks ra rcp rka rkc fa fcp,TfCells fc f w S rk rch rng rrs rlo rhi rlz rks ra rcp rka rkc fa fcp:=by
 obtain⟨rc,fa,fcp,h1,h2,rfl⟩:=h;obtain⟨rx,fs,fd,al⟩:=f;obtain⟨rk,rch,rng,rrs,rlo,rhi,rlz,rks⟩:=rx;have h0:=h1;obtain⟨ra,rcp,rka,rkc,rfl,_,_⟩:=h1.open_;exact⟨rk,rch,rng,rrs,rlo,rhi,rlz,rks,ra,rcp,rka,rkc,fa,fcp,rfl,rfl,h0,h2⟩
theorem SnV.open_ {w:World} {S:Nat→Prop} {cc:List Value} {k:Int} {t:Str} {n:Int} {h u:Bool} {f:Tf} {os:List Str} {ks:List Sn} (hv:SnV w S cc (.mk k t n h u f os ks)) :
  ∃fc oa oc ka kc,cc=snc k t n h u fc oa os.length oc ka ks.length kc∧TfV w S fc f∧SlS w S oa 1 os.length (scells os)∧SnSl w S ka ks.length ks:=by
 cases hv with
 | mk h0 h1 h2 h3=>exact⟨_,_,_,_,_,rfl,h0,h1,_,h2,h3⟩
theorem SnV.close {w:World} {S:Nat→Prop} {k:Int} {t:Str} {n:Int} {h u:Bool} {f:Tf} {os:List Str} {ks:List Sn} {fc:List Value} {oa ka:Option Addr} {oc kc:Nat} (h0:TfV w S fc f) (h1:SlS w S oa 1 os.length (scells os)) (h2:SnSl w S ka ks.length ks) :
  SnV w S (snc k t n h u fc oa os.length oc ka ks.length kc) (.mk k t n h u f os ks):=by
 obtain⟨css,a,b⟩:=h2;exact .mk h0 h1 a b
def OwnN (w:World) (B:Nat) (S:Nat→Prop) (v:Value) (xs:List Sn):Prop :=
 ∃css,w.ownsRow B 40 18 v xs.length css.flatten∧SnVs w (fun b=>S b∧v.ownBlock≠some b) css xs
theorem OwnN.nil (w:World) (B:Nat) (S:Nat→Prop):OwnN w B S (.slice none 0 0) []:=⟨[],World.ownsRow_nil _ _ _ _,.nil⟩
theorem OwnN.later {w w':World} {B:Nat} {S:Nat→Prop} {v:Value} {xs:List Sn} (h:OwnN w B S v xs) (hb:Below w.heap.size w w'):OwnN w' B S v xs:=by
 obtain⟨css,h1,h2⟩:=h;exact⟨css,own_below h1 hb,h2.later hb⟩
theorem OwnN.form {w:World} {B:Nat} {S:Nat→Prop} {v:Value} {xs:List Sn} (h:OwnN w B S v xs):∃(a:Option Addr) (c:Nat),v=.slice a xs.length c:=by
 obtain⟨css,h1,_⟩:=h;exact own_form h1
theorem OwnN.lt {w:World} {B:Nat} {S:Nat→Prop} {v:Value} {xs:List Sn} (h:OwnN w B S v xs):∀k,v.ownBlock=some k→B≤k∧k<w.heap.size:=by
 obtain⟨css,h1,_⟩:=h;exact fun k hk=>h1.lt k hk
end Go.Proofs.YtbgcjpefocdkkaaGreat
set_option maxRecDepth 100000
namespace Go.Proofs.YtbgcjpefocdkkaaGreat
theorem get_mid (P:List Row) (x:Row) (S:List Row):(P++x::S)[P.length]?=some x:=by
 rw [List.getElem?_append_right (Nat.le_refl _),Nat.sub_self];rfl
theorem set_mid (P:List Row) (x y:Row) (S:List Row):(P++x::S).set P.length y=P++y::S:=by
 rw [List.set_append_right _ _ (Nat.le_refl _),Nat.sub_self];rfl
theorem swapL_app (P Q S:List Row) (x y:Row) (i j:Nat) (hi:i=P.length) (hj:j=P.length+1+Q.length):swapL (P++x::(Q++y::S)) i j=P++y::(Q++x::S):=by
 subst hi hj;have h2:P++x::(Q++y::S)=(P++x::Q)++y::S:=by simp
 have hl:(P++x::Q).length=P.length+1+Q.length:=by simp;omega
 have g1:(P++x::(Q++y::S))[P.length]?=some x:=get_mid _ _ _;have g2:(P++x::(Q++y::S))[P.length+1+Q.length]?=some y:=by rw [h2,←hl];exact get_mid _ _ _
 rw [swapL_eq g1 g2,set_mid];have h3:P++y::(Q++y::S)=(P++y::Q)++y::S:=by simp
 have hl2:(P++y::Q).length=P.length+1+Q.length:=by simp;omega
 rw [h3,←hl2,set_mid];simp
theorem swapL_comm' {rs:List Row} {i j:Nat} (h:i≠j):swapL rs i j=swapL rs j i:=by
 unfold swapL;cases h1:rs[i]? with
 | none=>cases h2:rs[j]?<;>rfl
 | some x =>
  cases h2:rs[j]? with
  | none=>rfl
  | some y=>exact List.set_comm _ _ h
theorem fold_swap (a b:Nat):∀(X Y P Q S:List Row) (i:Nat),X.length=Y.length→a+i=P.length→b+i=P.length+X.length+Q.length →
  (List.range' i X.length).foldl (fun l k=>swapL l (a+k) (b+k)) (P++(X++(Q++(Y++S))))=P++(Y++(Q++(X++S)))
 | [],[],P,Q,S,i,_,_,_=>by simp
 | [],_::_,_,_,_,_,h,_,_=>by simp at h
 | _::_,[],_,_,_,_,h,_,_=>by simp at h
 | x::X,y::Y,P,Q,S,i,hl,ha,hb=>by
  simp only [List.length_cons] at hl hb;rw [List.length_cons,List.range'_succ,List.foldl_cons];have h1:P++(x::X++(Q++(y::Y++S)))=P++x::((X++Q)++y::(Y++S)):=by simp
  rw [h1,swapL_app P (X++Q) (Y++S) x y (a+i) (b+i) ha (by rw [List.length_append];omega)];have h2:P++y::((X++Q)++x::(Y++S))=(P++[y])++(X++((Q++[x])++(Y++S))):=by simp
  rw [h2,fold_swap a b X Y (P++[y]) (Q++[x]) S (i+1) (by omega) (by simp;omega) (by simp;omega)];simp
theorem swapN_app (X Y P Q S:List Row) (a b n:Nat) (hl:X.length=Y.length) (ha:a=P.length) (hb:b=P.length+X.length+Q.length) (hn:n=X.length) :
  swapN (P++(X++(Q++(Y++S)))) a b n=P++(Y++(Q++(X++S))):=by
 subst hn;exact fold_swap a b X Y P Q S 0 hl (by omega) (by omega)
theorem split_at (l:List Row) {n:Nat} (h:n≤l.length):∃a b,l=a++b∧a.length=n∧b.length=l.length-n :=
 ⟨l.take n,l.drop n,(List.take_append_drop n l).symm,by rw [List.length_take];omega,by rw [List.length_drop]⟩
theorem rotL_app:∀(k:Nat) (P A B S:List Row) (m i j:Nat),m=P.length+A.length→i=A.length→j=B.length→0<i→0<j→i+j≤k →
  rotL k (P++(A++(B++S))) m i j=P++(B++(A++S))
 | 0,P,A,B,S,m,i,j,_,_,_,h1,_,h=>by omega
 | k+1,P,A,B,S,m,i,j,hm,hi,hj,h1,h2,hk=>by
  simp only [rotL];by_cases hij:i=j
  ·rw [if_pos hij]
   have:=swapN_app A B P [] S (m-i) m i (by omega) (by omega) (by simp;omega) hi
   simpa using this
  ·rw [if_neg hij]
   by_cases hlt:j<i
   ·rw [if_pos hlt]
    obtain⟨A1,A2,rfl,l1,l2⟩:=split_at A (n:=j) (by omega);rw [List.length_append] at hm hi;have e1:P++(A1++A2++(B++S))=P++(A1++(A2++(B++S))):=by simp
    rw [e1,swapN_app A1 B P A2 S (m-i) m j (by omega) (by omega) (by omega) l1.symm];have e2:P++(B++(A2++(A1++S)))=(P++B)++(A2++(A1++S)):=by simp
    rw [e2,rotL_app k (P++B) A2 A1 S m (i-j) j (by simp;omega) (by omega) (by omega) (by omega) h2 (by omega)];simp
   ·rw [if_neg hlt]
    obtain⟨B1,B2,rfl,l1,l2⟩:=split_at B (n:=j-i) (by omega);rw [List.length_append] at hj l2;have e1:P++(A++(B1++B2++S))=P++(A++(B1++(B2++S))):=by simp
    rw [e1,swapN_app A B2 P B1 S (m-i) (m+j-i) i (by omega) (by omega) (by omega) hi];have e2:P++(B2++(B1++(A++S)))=P++(B2++(B1++(A++S))):=rfl;rw [rotL_app k P B2 B1 (A++S) m i (j-i) (by omega) (by omega) (by omega) h1 (by omega) (by omega)];simp
theorem upSw_app (x:Row):∀(B P S:List Row) (a n:Nat),a=P.length→n=B.length→upSw (P++x::(B++S)) a n=P++(B++x::S)
 | [],P,S,a,n,_,hn=>by simp at hn;subst hn;simp [upSw]
 | b::B,P,S,a,n,ha,hn=>by
  subst hn;have ih:=upSw_app x B (P++[b]) S (a+1) B.length (by simp;omega) rfl;unfold upSw at ih ⊢;rw [List.length_cons,List.range'_succ,List.foldl_cons];have h1:=swapL_app P [] (B++S) x b a (a+1) ha (by simp;omega);rw [List.nil_append,List.nil_append] at h1;rw [show P++x::(b::B++S)=P++x::b::(B++S) by simp,h1];simpa using ih
theorem dnSw_app (x:Row):∀(n:Nat) (B P S:List Row) (m:Nat),n=B.length→m=P.length+B.length→dnSw n (P++(B++x::S)) m=P++x::(B++S)
 | 0,B,P,S,m,hn,_=>by
  have hB:B=[]:=List.eq_nil_of_length_eq_zero hn.symm;subst hB;simp [dnSw]
 | n+1,B,P,S,m,hn,hm=>by
  have hne:B≠[]:=by rintro rfl;simp at hn
  obtain⟨C,b,rfl⟩:∃C b,B=C++[b]:=⟨B.dropLast,B.getLast hne,(List.dropLast_concat_getLast hne).symm⟩;simp only [List.length_append,List.length_cons,List.length_nil] at hn hm;simp only [dnSw];have h1:=swapL_app (P++C) [] S b x (m-1) m (by simp;omega) (by simp;omega);rw [List.nil_append,List.nil_append] at h1;rw [swapL_comm' (by omega),show P++(C++[b]++x::S)=P++C++b::x::S by simp,h1];have ih:=dnSw_app x n C P (b::S) (m-1) (by omega) (by omega);rw [show P++C++x::b::S=P++(C++x::b::S) by simp,ih];simp
end Go.Proofs.YtbgcjpefocdkkaaGreat
namespace Go.Proofs.YtbgcjpefocdkkaaGreat
theorem cmpR_lt {a b:Row}:cmpR a b<0↔Op.bytesLess a.1 b.1=true∨(a.1=b.1∧Op.bytesLess a.2 b.2=true):=by
 unfold cmpR;rcases cmpS_cases a.1 b.1 with⟨h1,h2⟩|⟨h1,h2⟩|⟨h1,h2⟩
 ·rw [h1];simp [h2]
 ·rw [h1,if_pos rfl]
  have hn:Op.bytesLess a.1 b.1=false:=by rw [h2];exact less_irrefl _
  rcases cmpS_cases a.2 b.2 with⟨g1,g2⟩|⟨g1,g2⟩|⟨g1,g2⟩
  ·rw [g1];simp [h2,g2]
  ·rw [g1];simp [hn,g2,less_irrefl]
  ·rw [g1];simp [hn,less_asymm g2]
 ·rw [h1,if_neg (by decide)]
  have hn:=less_asymm h2;have hne:a.1≠b.1:=by intro e;rw [e,less_irrefl] at h2;cases h2
  simp [hn,hne]
def ltR (a b:Row):Prop:=cmpR a b<0
def leR (a b:Row):Prop:=¬ltR b a
instance (a b:Row):Decidable (ltR a b):=inferInstanceAs (Decidable (_<_))
theorem ltR_irrefl (a:Row):¬ltR a a:=by unfold ltR;rw [cmpR_lt];simp [less_irrefl]
theorem ltR_trans {a b c:Row} (h1:ltR a b) (h2:ltR b c):ltR a c:=by
 unfold ltR at *;rw [cmpR_lt] at *;rcases h1 with h1|⟨e1,h1⟩<;>rcases h2 with h2|⟨e2,h2⟩
 ·exact .inl (less_trans h1 h2)
 ·exact .inl (e2▸h1)
 ·exact .inl (e1▸h2)
 ·exact .inr ⟨e1.trans e2,less_trans h1 h2⟩
theorem ltR_total (a b:Row):ltR a b∨a=b∨ltR b a:=by
 unfold ltR;rw [cmpR_lt,cmpR_lt];obtain⟨a1,a2⟩:=a;obtain⟨b1,b2⟩:=b;rcases less_total a1 b1 with h|rfl|h
 ·exact .inl (.inl h)
 ·rcases less_total a2 b2 with h|rfl|h
  ·exact .inl (.inr ⟨rfl,h⟩)
  ·exact .inr (.inl rfl)
  ·exact .inr (.inr (.inr ⟨rfl,h⟩))
 ·exact .inr (.inr (.inl h))
theorem leR_refl (a:Row):leR a a:=ltR_irrefl a
theorem leR_of_lt {a b:Row} (h:ltR a b):leR a b:=fun h2=>ltR_irrefl a (ltR_trans h h2)
theorem leR_trans {a b c:Row} (h1:leR a b) (h2:leR b c):leR a c:=fun h=>by
 rcases ltR_total b a with h3|rfl|h3
 ·exact h1 h3
 ·exact h2 h
 ·exact h2 (ltR_trans h h3)
theorem leR_total (a b:Row):leR a b∨leR b a:=by
 rcases ltR_total a b with h|rfl|h
 ·exact .inl (leR_of_lt h)
 ·exact .inl (leR_refl a)
 ·exact .inr (leR_of_lt h)
abbrev Srt (l:List Row):Prop:=l.Pairwise leR
theorem srt_get {l:List Row} (h:Srt l) {i j:Nat} {x y:Row} (hij:i≤j) (hi:l[i]?=some x) (hj:l[j]?=some y):leR x y:=by
 rcases Nat.eq_or_lt_of_le hij with rfl|hlt
 ·rw [hi] at hj;injection hj with hj;subst hj;exact leR_refl _
 ·obtain⟨hi',rfl⟩:=List.getElem?_eq_some_iff.1 hi
  obtain⟨hj',rfl⟩:=List.getElem?_eq_some_iff.1 hj;exact List.pairwise_iff_getElem.1 h i j hi' hj' hlt
theorem bs_spec (p:Nat→Bool):∀(k i j:Nat),i≤j→j-i≤k→(∀x y,i≤x→x≤y→y<j→p y=true→p x=true) →
  (∀x,i≤x→x<bs p k i j→p x=true)∧(∀x,bs p k i j≤x→x<j→p x=false)
 | 0,i,j,h,hk,_=>by
  simp only [bs];exact⟨fun x h1 h2=>by omega,fun x h1 h2=>by omega⟩
 | k+1,i,j,h,hk,hm=>by
  simp only [bs];by_cases hlt:i<j
  ·rw [if_pos hlt]
   generalize hH:(i+j) / 2=H
   have hHb:i≤H∧H<j:=by omega
   cases hp:p H with
   | true =>
    rw [if_pos rfl];obtain⟨g1,g2⟩:=bs_spec p k (H+1) j (by omega) (by omega) (fun x y a b c d=>hm x y (by omega) b c d);refine⟨fun x h1 h2=>?_,g2⟩;by_cases hx:x≤H
    ·exact hm x H h1 hx hHb.2 hp
    ·exact g1 x (by omega) h2
   | false =>
    rw [if_neg (by simp)];obtain⟨g1,g2⟩:=bs_spec p k i H hHb.1 (by omega) (fun x y a b c d=>hm x y a b (by omega) d);have hbd:=bs_bd p k i H hHb.1;refine⟨g1,fun x h1 h2=>?_⟩;by_cases hx:x<H
    ·exact g2 x h1 hx
    ·cases hq:p x with
     | false=>rfl
     | true=>rw [hm H x hHb.1 (by omega) h2 hq] at hp;cases hp
  ·rw [if_neg hlt]
   exact⟨fun x h1 h2=>by omega,fun x h1 h2=>by omega⟩
theorem get_seg (P B S:List Row) {t:Nat} (h:t<B.length):(P++(B++S))[P.length+t]?=B[t]?:=by
 rw [List.getElem?_append_right (by omega),Nat.add_sub_cancel_left,List.getElem?_append_left h]
theorem srt_app {l r:List Row}:Srt (l++r)↔Srt l∧Srt r∧∀x∈l,∀y∈r,leR x y:=List.pairwise_append
end Go.Proofs.YtbgcjpefocdkkaaGreat
namespace Go.Proofs.YtbgcjpefocdkkaaGreat
theorem ltAt_seg {rs:List Row} {i j:Nat} {x y:Row} (h1:rs[i]?=some x) (h2:rs[j]?=some y):ltAt rs i j=true↔ltR x y:=by
 rw [ltAt_eq h1 h2,decide_eq_true_eq];rfl
theorem sym_one (P B S:List Row) (x:Row) (a b:Nat) (ha:a=P.length) (hb:b=a+1+B.length) (hs:Srt B) :
  ∃M,upSw (P++([x]++(B++S))) a (bs (fun h=>ltAt (P++([x]++(B++S))) h a) b (a+1) b-1-a)=P++(M++S)∧M.Perm ([x]++B)∧Srt M:=by
 obtain⟨rs,hrs⟩:∃rs,P++([x]++(B++S))=rs:=⟨_,rfl⟩;rw [hrs];have hx:rs[a]?=some x:=by rw [←hrs,ha];exact get_mid _ _ _
 have hget:∀t,t<B.length→rs[a+1+t]?=B[t]?:=fun t ht=>by
  rw [←hrs,show P++([x]++(B++S))=(P++[x])++(B++S) by simp];have:=get_seg (P++[x]) B S ht
  rw [←this,List.length_append];simp [ha]
 have hval:∀t,t<B.length→∃y,B[t]?=some y:=fun t ht=>⟨_,List.getElem?_eq_getElem ht⟩
 have hp:∀t y,B[t]?=some y→(ltAt rs (a+1+t) a=true↔ltR y x):=fun t y hy=>by
  have ht:=(List.getElem?_eq_some_iff.1 hy).1;exact ltAt_seg (by rw [hget t ht];exact hy) hx
 have hbd:=bs_bd (fun h=>ltAt rs h a) b (a+1) b (by omega);obtain⟨g1,g2⟩:=bs_spec (fun h=>ltAt rs h a) b (a+1) b (by omega) (by omega) (fun u v h1 h2 h3 h4=>by
  obtain⟨yu,hu⟩:=hval (u-(a+1)) (by omega);obtain⟨yv,hv⟩:=hval (v-(a+1)) (by omega);have q1:=hp _ _ hu;have q2:=hp _ _ hv;rw [show a+1+(u-(a+1))=u by omega] at q1;rw [show a+1+(v-(a+1))=v by omega] at q2;rw [q1];have hle:=srt_get hs (by omega:u-(a+1)≤v-(a+1)) hu hv;have hlt:=q2.1 h4;rcases ltR_total yu x with h|h|h
  ·exact h
  ·rw [h] at hle;exact absurd hlt hle
  ·exact absurd (ltR_trans hlt h) hle)
 generalize bs (fun h=>ltAt rs h a) b (a+1) b=s at *
 obtain⟨B1,B2,rfl,l1,l2⟩:=split_at B (n:=s-1-a) (by omega);rw [List.length_append] at hb hval hget;refine⟨B1++x::B2,?_,?_,?_⟩
 ·rw [←hrs]
  have:=upSw_app x B1 P (B2++S) a (s-1-a) ha l1.symm
  simpa using this
 ·simp
 ·obtain⟨h1,h2,h3⟩:=srt_app.1 hs
  have k1:∀y∈B1,leR y x:=fun y hy=>by
   obtain⟨t,ht⟩:=List.getElem?_of_mem hy;have htl:=(List.getElem?_eq_some_iff.1 ht).1;exact leR_of_lt ((hp t y (by rw [List.getElem?_append_left htl];exact ht)).1 (g1 _ (by omega) (by omega)))
  have k2:∀y∈B2,leR x y:=fun y hy=>by
   obtain⟨t,ht⟩:=List.getElem?_of_mem hy;have htl:=(List.getElem?_eq_some_iff.1 ht).1;intro hlt;have:=(hp (B1.length+t) y (by rw [List.getElem?_append_right (by omega),Nat.add_sub_cancel_left];exact ht)).2 hlt
   rw [g2 _ (by omega) (by omega)] at this;cases this
  rw [srt_app];refine⟨h1,List.pairwise_cons.2 ⟨k2,h2⟩,fun y hy z hz=>?_⟩;rcases List.mem_cons.1 hz with rfl|hz
  ·exact k1 y hy
  ·exact h3 y hy z hz
theorem sym_last (P A S:List Row) (x:Row) (a m:Nat) (ha:a=P.length) (hm:m=a+A.length) (hs:Srt A) :
  ∃M,dnSw (m-bs (fun h=>!ltAt (P++(A++([x]++S))) m h) m a m) (P++(A++([x]++S))) m=P++(M++S)∧M.Perm (A++[x])∧Srt M:=by
 obtain⟨rs,hrs⟩:∃rs,P++(A++([x]++S))=rs:=⟨_,rfl⟩;rw [hrs];have hx:rs[m]?=some x:=by
  rw [←hrs,show P++(A++([x]++S))=(P++A)++x::S by simp,show m=(P++A).length by simp;omega];exact get_mid _ _ _
 have hget:∀t,t<A.length→rs[a+t]?=A[t]?:=fun t ht=>by rw [←hrs,ha];exact get_seg P A _ ht
 have hval:∀t,t<A.length→∃y,A[t]?=some y:=fun t ht=>⟨_,List.getElem?_eq_getElem ht⟩
 have hp:∀t y,A[t]?=some y→((!ltAt rs m (a+t))=true↔leR y x):=fun t y hy=>by
  have ht:=(List.getElem?_eq_some_iff.1 hy).1;have:=ltAt_seg hx (show rs[a+t]?=some y by rw [hget t ht];exact hy)
  unfold leR;rw [←this];simp
 have hbd:=bs_bd (fun h=>!ltAt rs m h) m a m (by omega);obtain⟨g1,g2⟩:=bs_spec (fun h=>!ltAt rs m h) m a m (by omega) (by omega) (fun u v h1 h2 h3 h4=>by
  obtain⟨yu,hu⟩:=hval (u-a) (by omega);obtain⟨yv,hv⟩:=hval (v-a) (by omega);have q1:=hp _ _ hu;have q2:=hp _ _ hv;rw [show a+(u-a)=u by omega] at q1;rw [show a+(v-a)=v by omega] at q2;rw [q1];exact leR_trans (srt_get hs (by omega:u-a≤v-a) hu hv) (q2.1 h4))
 generalize bs (fun h=>!ltAt rs m h) m a m=s at *
 obtain⟨A1,A2,rfl,l1,l2⟩:=split_at A (n:=s-a) (by omega);rw [List.length_append] at hm hval hget l2;refine⟨A1++x::A2,?_,?_,?_⟩
 ·rw [←hrs]
  have:=dnSw_app x (m-s) A2 (P++A1) S m (by omega) (by simp;omega)
  simpa using this
 ·have:=List.perm_middle (l₁:=A1) (l₂:=A2) (a:=x)
  exact this.trans ((List.perm_append_singleton x (A1++A2)).symm)
 ·obtain⟨h1,h2,h3⟩:=srt_app.1 hs
  have k1:∀y∈A1,leR y x:=fun y hy=>by
   obtain⟨t,ht⟩:=List.getElem?_of_mem hy;have htl:=(List.getElem?_eq_some_iff.1 ht).1;exact(hp t y (by rw [List.getElem?_append_left htl];exact ht)).1 (g1 _ (by omega) (by omega))
  have k2:∀y∈A2,leR x y:=fun y hy=>by
   obtain⟨t,ht⟩:=List.getElem?_of_mem hy;have htl:=(List.getElem?_eq_some_iff.1 ht).1;have hb:=g2 (a+(A1.length+t)) (by omega) (by omega);have hq:=hp (A1.length+t) y (by rw [List.getElem?_append_right (by omega),Nat.add_sub_cancel_left];exact ht);rw [hb] at hq;exact(leR_total x y).resolve_right (fun h=>by have:=hq.2 h;cases this)
  rw [srt_app];refine⟨h1,List.pairwise_cons.2 ⟨k2,h2⟩,fun y hy z hz=>?_⟩;rcases List.mem_cons.1 hz with rfl|hz
  ·exact k1 y hy
  ·exact h3 y hy z hz
end Go.Proofs.YtbgcjpefocdkkaaGreat
namespace Go.Proofs.YtbgcjpefocdkkaaGreat
theorem nil_of_len {l:List Row} (h:l.length=0):l=[]:=List.eq_nil_of_length_eq_zero h
theorem symM_sorted:∀(f:Nat) (P A B S:List Row) (a m b:Nat),a=P.length→m=a+A.length→b=m+B.length→0<A.length→0<B.length→A.length+B.length≤f→Srt A→Srt B →
  ∃M,symM f (P++(A++(B++S))) a m b=P++(M++S)∧M.Perm (A++B)∧Srt M
 | 0,P,A,B,S,a,m,b,_,_,_,h1,h2,h,_,_=>by omega
 | f+1,P,A,B,S,a,m,b,ha,hm,hb,h1,h2,hf,hA,hB=>by
  by_cases c1:m=a+1
  ·match A,hm,hA with
   | [x],hm,_ =>
    subst c1;rw [symM_one];exact sym_one P B S x a b ha hb hB
   | [],hm,_=>simp at h1
   | _::_::_,hm,_=>simp at hm;omega
  by_cases c2:b=m+1
  ·match B,hb,hB with
   | [x],hb,_ =>
    subst c2;rw [symM_last c1];exact sym_last P A S x a m ha hm hA
   | [],hb,_=>simp at h2
   | _::_::_,hb,_=>simp at hb;omega
  rw [symM_gen c1 c2];obtain⟨rs,hrs⟩:∃rs,P++(A++(B++S))=rs:=⟨_,rfl⟩;rw [hrs];obtain⟨Mi,hMi⟩:∃M,(a+b) / 2=M:=⟨_,rfl⟩;obtain⟨LO,hLO⟩:∃LO,sLo a m b=LO:=⟨_,rfl⟩;obtain⟨HI,hHI⟩:∃HI,sHi a m b=HI:=⟨_,rfl⟩;rw [hMi,hLO,hHI];have hlohi:a≤LO∧LO≤HI∧HI≤Mi∧HI≤m∧Mi+m≤LO+b∧(LO=a∨LO=Mi+m-b)∧(HI=m∨HI=Mi):=by
   unfold sLo at hLO;unfold sHi at hHI;rw [hMi] at hLO hHI;by_cases hc:Mi<m
   ·rw [if_pos hc] at hLO hHI;omega
   ·rw [if_neg hc] at hLO hHI;omega
  obtain⟨q1,q2,q3,q4,q5,q6,q7⟩:=hlohi;have gA:∀c,a≤c→c<m→∃x,A[c-a]?=some x∧rs[c]?=some x:=fun c u v=>by
   obtain⟨x,hx⟩:∃x,A[c-a]?=some x:=⟨_,List.getElem?_eq_getElem (by omega)⟩;refine⟨x,hx,?_⟩;rw [←hrs,←hx];have:=get_seg P A (B++S) (t:=c-a) (by omega)
   rw [show P.length+(c-a)=c by omega] at this;exact this
  have gB:∀c,m≤c→c<b→∃x,B[c-m]?=some x∧rs[c]?=some x:=fun c u v=>by
   obtain⟨x,hx⟩:∃x,B[c-m]?=some x:=⟨_,List.getElem?_eq_getElem (by omega)⟩;refine⟨x,hx,?_⟩;rw [←hrs,←hx,show P++(A++(B++S))=(P++A)++(B++S) by simp];have:=get_seg (P++A) B S (t:=c-m) (by omega)
   rw [show (P++A).length+(c-m)=c by simp;omega] at this;exact this
  have hp:∀c x y,LO≤c→c<HI→A[c-a]?=some x→B[Mi+m-1-c-m]?=some y→((!ltAt rs (Mi+m-1-c) c)=true↔leR x y):=fun c x y u v hx hy=>by
   obtain⟨x',hx1,hx2⟩:=gA c (by omega) (by omega);obtain⟨y',hy1,hy2⟩:=gB (Mi+m-1-c) (by omega) (by omega);obtain rfl:=Option.some.inj (hx.symm.trans hx1);obtain rfl:=Option.some.inj (hy.symm.trans hy1);have:=ltAt_seg hy2 hx2
   unfold leR;rw [←this];simp
  have hbd:=bs_bd (fun c=>!ltAt rs (Mi+m-1-c) c) b LO HI q2;obtain⟨g1,g2⟩:=bs_spec (fun c=>!ltAt rs (Mi+m-1-c) c) b LO HI q2 (by omega) (fun u v k1 k2 k3 k4=>by
   obtain⟨xu,hxu,_⟩:=gA u (by omega) (by omega);obtain⟨xv,hxv,_⟩:=gA v (by omega) (by omega);obtain⟨yu,hyu,_⟩:=gB (Mi+m-1-u) (by omega) (by omega);obtain⟨yv,hyv,_⟩:=gB (Mi+m-1-v) (by omega) (by omega);rw [hp u xu yu k1 (by omega) hxu hyu];have:=(hp v xv yv (by omega) k3 hxv hyv).1 k4
   exact leR_trans (leR_trans (srt_get hA (by omega) hxu hxv) this) (srt_get hB (by omega) hyv hyu))
  generalize bs (fun c=>!ltAt rs (Mi+m-1-c) c) b LO HI=s at *
  obtain⟨E,hE⟩:∃E,Mi+m-s=E:=⟨_,rfl⟩;rw [hE];obtain⟨A1,A2,rfl,l1,l2⟩:=split_at A (n:=s-a) (by omega);obtain⟨B1,B2,rfl,l3,l4⟩:=split_at B (n:=E-m) (by omega);simp only [List.length_append] at hm hb h1 h2 hf l2 l4;obtain⟨sA1,sA2,sA⟩:=srt_app.1 hA;obtain⟨sB1,sB2,sB⟩:=srt_app.1 hB;have hcross:∀x∈A1++B1,∀y∈A2++B2,leR x y:=by
   intro x hx y hy;rcases List.mem_append.1 hx with hx|hx<;>rcases List.mem_append.1 hy with hy|hy
   ·exact sA x hx y hy
   ·obtain⟨t,ht⟩:=List.getElem?_of_mem hx
    obtain⟨v,hv⟩:=List.getElem?_of_mem hy;have htl:=(List.getElem?_eq_some_iff.1 ht).1;have hvl:=(List.getElem?_eq_some_iff.1 hv).1;have hLs:LO<s:=by omega
    obtain⟨x',hx1,_⟩:=gA (s-1) (by omega) (by omega);obtain⟨y',hy1,_⟩:=gB (Mi+m-1-(s-1)) (by omega) (by omega);have:=(hp (s-1) x' y' (by omega) (by omega) hx1 hy1).1 (g1 (s-1) (by omega) (by omega))
    exact leR_trans (leR_trans (srt_get hA (show t≤s-1-a by omega) (by rw [List.getElem?_append_left htl];exact ht) hx1) this)
     (srt_get hB (show Mi+m-1-(s-1)-m≤B1.length+v by omega) hy1 (by rw [List.getElem?_append_right (by omega),Nat.add_sub_cancel_left];exact hv))
   ·obtain⟨t,ht⟩:=List.getElem?_of_mem hx
    obtain⟨v,hv⟩:=List.getElem?_of_mem hy;have htl:=(List.getElem?_eq_some_iff.1 ht).1;have hvl:=(List.getElem?_eq_some_iff.1 hv).1;have hsH:s<HI:=by omega
    obtain⟨x',hx1,_⟩:=gA s (by omega) (by omega);obtain⟨y',hy1,_⟩:=gB (Mi+m-1-s) (by omega) (by omega);have hn:=g2 s (Nat.le_refl _) hsH;have hq:=hp s x' y' hbd.1 hsH hx1 hy1;have hle:leR y' x':=(leR_total x' y').resolve_left (fun h=>by have:=hq.2 h;rw [hn] at this;cases this);exact leR_trans (leR_trans (srt_get hB (show t≤Mi+m-1-s-m by omega) (by rw [List.getElem?_append_left htl];exact ht) hy1) hle)
     (srt_get hA (show s-a≤A1.length+v by omega) hx1 (by rw [List.getElem?_append_right (by omega),Nat.add_sub_cancel_left];exact hv))
   ·exact sB x hx y hy
  have hr1:(if s<m∧m<E then rotL (E-s) rs m (m-s) (E-m) else rs)=P++(A1++(B1++(A2++(B2++S)))):=by
   by_cases hc:s<m∧m<E
   ·rw [if_pos hc,←hrs]
    have:=rotL_app (E-s) (P++A1) A2 B1 (B2++S) m (m-s) (E-m) (by simp;omega) (by omega) (by omega) (by omega) (by omega) (by omega)
    simpa using this
   ·rw [if_neg hc,←hrs]
    by_cases hs:s<m
    ·have:B1=[]:=nil_of_len (by omega)
     subst this;simp
    ·have:A2=[]:=nil_of_len (by omega)
     subst this;simp
  rw [hr1];have hr2:∃M1,(if a<s∧s<Mi then symM f (P++(A1++(B1++(A2++(B2++S))))) a s Mi else P++(A1++(B1++(A2++(B2++S)))))=P++(M1++(A2++(B2++S)))∧M1.Perm (A1++B1)∧Srt M1:=by
   by_cases hc:a<s∧s<Mi
   ·rw [if_pos hc]
    exact symM_sorted f P A1 B1 (A2++(B2++S)) a s Mi ha (by omega) (by omega) (by omega) (by omega) (by omega) sA1 sB1
   ·rw [if_neg hc]
    by_cases hs:a<s
    ·have:B1=[]:=nil_of_len (by omega)
     subst this;exact⟨A1,by simp,by simp,sA1⟩
    ·have:A1=[]:=nil_of_len (by omega)
     subst this;exact⟨B1,by simp,by simp,sB1⟩
  obtain⟨M1,e1,p1,s1⟩:=hr2;unfold symT;rw [e1];have hl1:M1.length=Mi-a:=by rw [p1.length_eq,List.length_append];omega
  have hr3:∃M2,(if Mi<E∧E<b then symM f (P++(M1++(A2++(B2++S)))) Mi E b else P++(M1++(A2++(B2++S))))=P++(M1++(M2++S))∧M2.Perm (A2++B2)∧Srt M2:=by
   by_cases hc:Mi<E∧E<b
   ·rw [if_pos hc]
    obtain⟨M2,e2,p2,s2⟩:=symM_sorted f (P++M1) A2 B2 S Mi E b (by simp;omega) (by omega) (by omega) (by omega) (by omega) (by omega) sA2 sB2;exact⟨M2,by simpa using e2,p2,s2⟩
   ·rw [if_neg hc]
    by_cases hs:Mi<E
    ·have:B2=[]:=nil_of_len (by omega)
     subst this;exact⟨A2,by simp,by simp,sA2⟩
    ·have:A2=[]:=nil_of_len (by omega)
     subst this;exact⟨B2,by simp,by simp,sB2⟩
  obtain⟨M2,e2,p2,s2⟩:=hr3;refine⟨M1++M2,by rw [e2];simp,?_,?_⟩
  ·refine(p1.append p2).trans ?_
   have h1:((A1++B1)++(A2++B2)).Perm ((A1++A2)++(B1++B2)):=by
    rw [List.append_assoc,List.append_assoc];refine List.Perm.append_left A1 ?_;rw [←List.append_assoc,←List.append_assoc];exact List.Perm.append_right B2 List.perm_append_comm
   exact h1
  ·rw [srt_app]
   exact⟨s1,s2,fun x hx y hy=>hcross x (p1.mem_iff.1 hx) y (p2.mem_iff.1 hy)⟩
end Go.Proofs.YtbgcjpefocdkkaaGreat
namespace Go.Proofs.YtbgcjpefocdkkaaGreat
theorem insIn_self (a:Nat) (rs:List Row):insIn a a rs=rs:=by
 cases a with
 | zero=>rfl
 | succ j =>
  simp only [insIn];split
  ·rw [if_neg (by omega)]
  ·rfl
theorem srt_snoc {A:List Row} {x:Row} (h:Srt A) (hx:∀y∈A,leR y x):Srt (A++[x]):=by
 refine List.pairwise_append.2 ⟨h,List.pairwise_singleton _ _,fun y hy z hz=>?_⟩;rw [List.mem_singleton] at hz;subst hz;exact hx y hy
theorem insIn_app (P:List Row) (x:Row):∀(n:Nat) (A S:List Row) (a j:Nat),n=A.length→a=P.length→j=a+A.length→Srt A →
  ∃M,insIn a j (P++(A++x::S))=P++(M++S)∧M.Perm (A++[x])∧Srt M
 | 0,A,S,a,j,hn,ha,hj,hA=>by
  obtain rfl:=nil_of_len hn.symm;obtain rfl:j=a:=by simpa using hj
  exact⟨[x],by rw [insIn_self];simp,by simp,List.pairwise_singleton _ _⟩
 | n+1,A,S,a,j,hn,ha,hj,hA=>by
  rcases snoc_cases A with rfl|⟨B,y,rfl⟩
  ·simp at hn
  simp only [List.length_append,List.length_singleton] at hn hj;obtain⟨j,rfl⟩:∃j',j=j'+1:=⟨a+B.length,by omega⟩;obtain⟨hB,_,hy⟩:=List.pairwise_append.1 hA;have hy:∀z∈B,leR z y:=fun z hz=>hy z hz y (by simp)
  have e1:P++((B++[y])++x::S)=(P++B)++y::([]++x::S):=by simp
  have hl:(P++B).length=j:=by rw [List.length_append];omega
  have g1:((P++B)++y::([]++x::S))[j]?=some y:=by rw [←hl];exact get_mid _ _ _
  have g2:((P++B)++y::([]++x::S))[j+1]?=some x:=by
   rw [show (P++B)++y::([]++x::S)=(P++B++[y])++x::S by simp,show j+1=(P++B++[y]).length by rw [List.length_append,hl];rfl];exact get_mid _ _ _
  rw [e1];simp only [insIn,g1,g2];by_cases hc:cmpR x y<0
  ·rw [if_pos ⟨by omega,hc⟩,swapL_comm' (by omega),swapL_app (P++B) [] S y x j (j+1) hl.symm (by rw [hl];simp)]
   obtain⟨M,h1,h2,h3⟩:=insIn_app P x n B (y::S) a j (by omega) ha (by omega) hB;refine⟨M++[y],?_,?_,?_⟩
   ·rw [show (P++B)++x::([]++y::S)=P++(B++x::y::S) by simp,h1];simp
   ·have:=h2.append_right [y]
    refine this.trans ?_;rw [List.append_assoc,List.append_assoc];exact List.Perm.append_left B (List.Perm.swap _ _ _)
   ·refine srt_snoc h3 (fun z hz=>?_)
    have hz:=h2.mem_iff.1 hz;rw [List.mem_append,List.mem_singleton] at hz;rcases hz with hz|rfl
    ·exact hy z hz
    ·exact leR_of_lt hc
  ·rw [if_neg (by intro h;exact hc h.2)]
   refine⟨B++[y]++[x],by simp,.refl _,srt_snoc hA (fun z hz=>?_)⟩;rw [List.mem_append,List.mem_singleton] at hz;rcases hz with hz|rfl
   ·exact leR_trans (hy z hz) hc
   ·exact hc
theorem insOut_app (P:List Row):∀(B A S:List Row) (a k i:Nat),k=B.length→a=P.length→i=a+A.length→Srt A →
  ∃M,insOut a k i (P++(A++(B++S)))=P++(M++S)∧M.Perm (A++B)∧Srt M
 | [],A,S,a,k,i,hk,ha,hi,hA=>by
  subst hk;exact⟨A,by simp [insOut],by simp,hA⟩
 | x::B,A,S,a,k,i,hk,ha,hi,hA=>by
  subst hk;obtain⟨M,h1,h2,h3⟩:=insIn_app P x A.length A (B++S) a i rfl ha hi hA;have hl:M.length=A.length+1:=by rw [h2.length_eq];simp
  obtain⟨M2,g1,g2,g3⟩:=insOut_app P B M S a B.length (i+1) rfl ha (by omega) h3;refine⟨M2,?_,?_,g3⟩
  ·simp only [List.length_cons,insOut,List.cons_append];rw [h1,g1]
  ·refine g2.trans ((h2.append_right B).trans ?_)
   simp
inductive Blk (s:Nat):List Row→Prop
 | last {l:List Row}:l.length<s→Srt l→Blk s l
 | cons {A l:List Row}:A.length=s→Srt A→Blk s l→Blk s (A++l)
theorem Blk.take {s:Nat} {l:List Row} (h:Blk s l) (hl:s≤l.length):∃A T,l=A++T∧A.length=s∧Srt A∧Blk s T:=by
 cases h with
 | last h1 _=>omega
 | cons h1 h2 h3=>exact⟨_,_,rfl,h1,h2,h3⟩
theorem Blk.short {s:Nat} {l:List Row} (h:Blk s l) (hl:l.length<s):Srt l:=by
 cases h with
 | last _ h2=>exact h2
 | cons h1 h2 h3=>rw [List.length_append] at hl;omega
theorem Blk.whole {s:Nat} {l:List Row} (h:Blk s l) (hl:l.length≤s):Srt l:=by
 rcases Nat.eq_or_lt_of_le hl with e|e
 ·obtain⟨A,T,rfl,h1,h2,h3⟩:=h.take (by omega)
  obtain rfl:T=[]:=nil_of_len (by rw [List.length_append] at e;omega);simpa using h2
 ·exact h.short e
theorem stA_app:∀(k:Nat) (P S:List Row) (a n:Nat),a=P.length→n=a+S.length→n<a+k→∃M,stA k (P++S) a n=P++M∧M.Perm S∧Blk 20 M
 | 0,P,S,a,n,_,_,h=>by omega
 | k+1,P,S,a,n,ha,hn,hk=>by
  simp only [stA];by_cases hc:a+20≤n
  ·rw [if_pos hc]
   obtain⟨A,T,rfl,hA,hT⟩:=split_at S (n:=20) (by omega);match A,hA,hn,hT with
   | x::A,hA,hn,hT =>
    simp only [List.length_cons] at hA;obtain⟨M,h1,h2,h3⟩:=insOut_app P A [x] T a (a+20-(a+1)) (a+1) (by omega) ha rfl (List.pairwise_singleton _ _);have hl:M.length=20:=by rw [h2.length_eq];simp;omega
    obtain⟨M2,g1,g2,g3⟩:=stA_app k (P++M) T (a+20) n (by rw [List.length_append];omega) (by simp at hn;omega) (by omega);refine⟨M++M2,?_,?_,.cons hl h3 g3⟩
    ·rw [show P++((x::A)++T)=P++([x]++(A++T)) by simp,h1,←List.append_assoc,g1,List.append_assoc]
    ·exact(h2.append_right M2).trans (g2.append_left _)
   | [],hA,_,_=>simp at hA
  ·rw [if_neg hc]
   match S,hn with
   | [],hn =>
    obtain rfl:n=a:=by simpa using hn
    refine⟨[],?_,.refl _,.last (by simp) List.Pairwise.nil⟩;rw [show n-(n+1)=0 by omega];rfl
   | x::S,hn =>
    simp only [List.length_cons] at hn;obtain⟨M,h1,h2,h3⟩:=insOut_app P S [x] [] a (n-(a+1)) (a+1) (by omega) ha rfl (List.pairwise_singleton _ _);have hl:M.length=S.length+1:=by rw [h2.length_eq];simp
    refine⟨M,?_,h2,.last (by omega) h3⟩;rw [List.append_nil,List.append_nil] at h1;exact h1
theorem stB_app (s:Nat) (hs:0<s):∀(k:Nat) (P S:List Row) (a n:Nat),a=P.length→n=a+S.length→n<a+k→Blk s S→∃M,stB k (P++S) a s n=P++M∧M.Perm S∧Blk (2*s) M
 | 0,P,S,a,n,_,_,h,_=>by omega
 | k+1,P,S,a,n,ha,hn,hk,hB=>by
  simp only [stB];by_cases hc:a+2*s≤n
  ·rw [if_pos hc]
   obtain⟨A,T,rfl,hA,hsA,hT⟩:=hB.take (by omega);rw [List.length_append] at hn;obtain⟨B,T,rfl,hB2,hsB,hT2⟩:=hT.take (by omega);rw [List.length_append] at hn;obtain⟨M,h1,h2,h3⟩:=symM_sorted (2*s) P A B T a (a+s) (a+2*s) ha (by omega) (by omega) (by omega) (by omega) (by omega) hsA hsB;have hl:M.length=2*s:=by rw [h2.length_eq,List.length_append];omega
   obtain⟨M2,g1,g2,g3⟩:=stB_app s hs k (P++M) T (a+2*s) n (by rw [List.length_append];omega) (by omega) (by omega) hT2;refine⟨M++M2,?_,?_,.cons hl h3 g3⟩
   ·rw [h1,←List.append_assoc,g1,List.append_assoc]
   ·rw [←List.append_assoc];exact(h2.append_right M2).trans (g2.append_left _)
  ·rw [if_neg hc]
   by_cases hd:a+s<n
   ·rw [if_pos hd]
    obtain⟨A,T,rfl,hA,hsA,hT⟩:=hB.take (by omega);rw [List.length_append] at hn;obtain⟨M,h1,h2,h3⟩:=symM_sorted (n-a) P A T [] a (a+s) n ha (by omega) (by omega) (by omega) (by omega) (by omega) hsA (hT.short (by omega));have hl:M.length=n-a:=by rw [h2.length_eq,List.length_append];omega
    rw [List.append_nil,List.append_nil] at h1;exact⟨M,h1,h2,.last (by omega) h3⟩
   ·rw [if_neg hd]
    exact⟨S,rfl,.refl _,.last (by omega) (hB.whole (by omega))⟩
theorem stC_app:∀(k:Nat) (S:List Row) (s n:Nat),0<s→n=S.length→n<s+k→Blk s S→(stC k S s n).Perm S∧Srt (stC k S s n)
 | 0,S,s,n,_,hn,hk,hB=>⟨.refl _,hB.whole (by omega)⟩
 | k+1,S,s,n,hs,hn,hk,hB=>by
  simp only [stC];by_cases hc:s<n
  ·rw [if_pos hc]
   obtain⟨M,h1,h2,h3⟩:=stB_app s hs (n+1) [] S 0 n rfl (by omega) (by omega) hB;rw [List.nil_append,List.nil_append] at h1;rw [h1];obtain⟨g1,g2⟩:=stC_app k M (2*s) n (by omega) (by rw [h2.length_eq];exact hn) (by omega) h3;exact⟨g1.trans h2,g2⟩
  ·rw [if_neg hc]
   exact⟨.refl _,hB.whole (by omega)⟩
theorem stL_sorted (rs:List Row):(stL rs).Perm rs∧Srt (stL rs):=by
 obtain⟨M,h1,h2,h3⟩:=stA_app (rs.length+1) [] rs 0 rs.length rfl (by simp) (by omega);rw [List.nil_append,List.nil_append] at h1;unfold stL;rw [h1];obtain⟨g1,g2⟩:=stC_app (rs.length+1) M 20 rs.length (by omega) (by rw [h2.length_eq]) (by omega) h3;exact⟨g1.trans h2,g2⟩
end Go.Proofs.YtbgcjpefocdkkaaGreat
