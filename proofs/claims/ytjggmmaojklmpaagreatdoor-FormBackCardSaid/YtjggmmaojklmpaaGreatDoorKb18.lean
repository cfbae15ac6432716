/- rxrun's parts in memory: a tree whose groups are numbered. -/
import Derived.Test.YtjggmmaojklmpaaGreatDoorKb17
set_option maxRecDepth 100000
set_option maxHeartbeats 4000000
namespace Go.Proofs.YtjggmmaojklmpaaGreatDoor
open Go.RowKit
def ptc (k:Int) (c:Str) (ng:Bool) (ra:Option Addr) (rn rc:Nat) (lo hi:Int) (lz:Bool) (ka:Option Addr) (kn kc:Nat) (pa:Option Addr) (pn pc:Nat) (g h:Nat):List Value :=
 [.int .i64 k,.string ⟨c.toArray⟩,.bool ng,.slice ra rn rc,.int .i64 lo,.int .i64 hi,.bool lz,.slice ka kn kc,.slice pa pn pc,.int .i64 (g:Int),.int .i64 (h:Int)]
def own5 (k:Int):Nat:=if k=5 then 1 else 0
mutual
inductive PtV (w:World) (S:Nat→Prop):List Value→Rx→Nat→Prop
 | mk {k:Int} {c:Str} {ng:Bool} {rs:List (Str × Str)} {lo hi:Int} {lz:Bool} {ks:List Rx} {ra ka pa:Option Addr} {rc kn kc pc g:Nat} {css:List (List Value)} :
   SlS w S ra 2 rs.length (jN rs)→SlS w S pa 11 ks.length css.flatten→ks.length≤pc→PtVs w S css ks (g+own5 k) →
   PtV w S (ptc k c ng ra rs.length rc lo hi lz ka kn kc pa ks.length pc g (g+own5 k+Rx.groupsL ks)) (.mk k c ng rs lo hi lz ks) g
inductive PtVs (w:World) (S:Nat→Prop):List (List Value)→List Rx→Nat→Prop
 | nil {g:Nat}:PtVs w S [] [] g
 | cons {c:List Value} {x:Rx} {cs:List (List Value)} {xs:List Rx} {g:Nat}:PtV w S c x g→PtVs w S cs xs (g+x.groups)→PtVs w S (c::cs) (x::xs) g
end
mutual
theorem PtV.keep {w w':World} {S:Nat→Prop} (hk:Kept S w w'):∀{c:List Value} {x:Rx} {g:Nat},PtV w S c x g→PtV w' S c x g
 | _,_,_,.mk h1 h2 hc h3=>.mk (h1.keep hk) (h2.keep hk) hc (PtVs.keep hk h3)
theorem PtVs.keep {w w':World} {S:Nat→Prop} (hk:Kept S w w'):∀{cs:List (List Value)} {xs:List Rx} {g:Nat},PtVs w S cs xs g→PtVs w' S cs xs g
 | _,_,_,.nil=>.nil
 | _,_,_,.cons h1 h2=>.cons (PtV.keep hk h1) (PtVs.keep hk h2)
end
mutual
theorem PtV.mono {w:World} {S S':Nat→Prop} (hS:∀b,S b→b<w.heap.size→S' b):∀{c:List Value} {x:Rx} {g:Nat},PtV w S c x g→PtV w S' c x g
 | _,_,_,.mk h1 h2 hc h3=>.mk (h1.mono hS) (h2.mono hS) hc (PtVs.mono hS h3)
theorem PtVs.mono {w:World} {S S':Nat→Prop} (hS:∀b,S b→b<w.heap.size→S' b):∀{cs:List (List Value)} {xs:List Rx} {g:Nat},PtVs w S cs xs g→PtVs w S' cs xs g
 | _,_,_,.nil=>.nil
 | _,_,_,.cons h1 h2=>.cons (PtV.mono hS h1) (PtVs.mono hS h2)
end
theorem PtV.later {w w':World} {S:Nat→Prop} {c:List Value} {x:Rx} {g:Nat} (h:PtV w S c x g) (hb:Below w.heap.size w w'):PtV w' S c x g:=h.keep (Kept.all hb)
theorem PtV.len {w:World} {S:Nat→Prop} {c:List Value} {x:Rx} {g:Nat} (h:PtV w S c x g):c.length=11:=by cases h;rfl
theorem PtV.one {w:World} {S:Nat→Prop} {c:List Value} {x:Rx} {g:Nat} (h:PtV w S c x g):∀u∈c,u.oneCell'=true:=by
 cases h;intro u hu;simp only [ptc,DF,DY,or_false] at hu
 rcases hu with rfl|rfl|rfl|rfl|rfl|rfl|rfl|rfl|rfl|rfl|rfl<;>rfl
theorem PtVs.length {w:World} {S:Nat→Prop}:∀{cs:List (List Value)} {xs:List Rx} {g:Nat},PtVs w S cs xs g→cs.length=xs.length
 | _,_,_,.nil=>rfl
 | _,_,_,.cons _ h=>by simp [h.length]
theorem PtVs.elevens {w:World} {S:Nat→Prop}:∀{cs:List (List Value)} {xs:List Rx} {g:Nat},PtVs w S cs xs g→∀c∈cs,c.length=11
 | _,_,_,.nil,c,hc=>by simp at hc
 | _,_,_,.cons h1 h2,c,hc=>by
  rcases DF.1 hc with rfl|hc
  ·exact h1.len
  ·exact h2.elevens c hc
theorem PtVs.snoc {w:World} {S:Nat→Prop} {c:List Value} {x:Rx}:∀{cs:List (List Value)} {xs:List Rx} {g:Nat},PtVs w S cs xs g→PtV w S c x (g+Rx.groupsL xs)→PtVs w S (cs++[c]) (xs++[x]) g
 | _,_,_,.nil,h=>.cons (by simpa [Rx.groupsL] using h) .nil
 | _,_,_,.cons h1 h2,h=>.cons h1 (h2.snoc (by simpa [Rx.groupsL,Eb] using h))
def PtSl (w:World) (S:Nat→Prop) (a:Option Addr) (n:Nat) (xs:List Rx) (g:Nat):Prop:=∃css,SlS w S a 11 n css.flatten∧PtVs w S css xs g
theorem PtSl.keep {w w':World} {S:Nat→Prop} {a:Option Addr} {n:Nat} {xs:List Rx} {g:Nat} (h:PtSl w S a n xs g) (hk:Kept S w w'):PtSl w' S a n xs g:=by
 obtain⟨css,h1,h2⟩:=h;exact⟨css,h1.keep hk,h2.keep hk⟩
theorem PtSl.later {w w':World} {S:Nat→Prop} {a:Option Addr} {n:Nat} {xs:List Rx} {g:Nat} (h:PtSl w S a n xs g) (hb:Below w.heap.size w w'):PtSl w' S a n xs g:=h.keep (Kept.all hb)
theorem PtSl.head {w:World} {S:Nat→Prop} {a:Option Addr} {n:Nat} {x:Rx} {xs:List Rx} {g:Nat} (h:PtSl w S a (n+1) (x::xs) g) :
  ∃b o c,a=some ⟨b,o,none⟩∧S b∧b<w.heap.size∧PtV w S c x g∧(∀(j:Nat) (u:Value),c[j]?=some u→w.cell? ⟨b,o+j,none⟩=some u)∧PtSl w S (some ⟨b,o+11,none⟩) n xs (g+x.groups):=by
 obtain⟨css,h1,h2⟩:=h;cases h2 with
 | @cons c _ cs _ _ hv hvs =>
  obtain⟨b,o,e1,e2,e3,e4⟩:=h1.2 fR;have hl:=hv.len;have hlen:=h1.1;rw [List.flatten_cons,DE,hl] at hlen;refine⟨b,o,c,e1,e2,e3,hv,fun j u hj=>e4 j u ?_,cs,⟨by omega,fun _=>⟨b,o+11,rfl,e2,e3,fun j u hj=>?_⟩⟩,hvs⟩
  ·rw [List.flatten_cons,DG (Dw.1 hj).1];exact hj
  ·have:=e4 (11+j) u (by rw [List.flatten_cons,DJ fR,hl];simpa using hj)
   rw [show o+11+j=o+(11+j) by omega];exact this
theorem PtSl.len {w:World} {S:Nat→Prop} {a:Option Addr} {n:Nat} {xs:List Rx} {g:Nat} (h:PtSl w S a n xs g):n=xs.length:=by
 obtain⟨css,h1,h2⟩:=h;have h4:∀{cs:List (List Value)},(∀c∈cs,c.length=11)→cs.flatten.length=cs.length*11:=by
  intro cs;induction cs with
  | nil=>intro _;rfl
  | cons c cs ih=>exact dF
 have h3:=h1.1;rw [h4 h2.elevens,h2.length] at h3;omega
theorem PtSl.nil (w:World) (S:Nat→Prop) (a:Option Addr) (g:Nat):PtSl w S a 0 [] g:=⟨[],SlS.none_ _ _ _ _,.nil⟩
theorem PtSl.at_ {w:World} {S:Nat→Prop} {a:Option Addr} {n:Nat}:∀{xs:List Rx} {g k:Nat} {x:Rx},PtSl w S a n xs g→xs[k]?=some x →
  ∃b o c,a=some ⟨b,o,none⟩∧S b∧b<w.heap.size∧PtV w S c x (g+Rx.groupsL (xs.take k))∧∀(j:Nat) (u:Value),c[j]?=some u→w.cell? ⟨b,o+(k*11+j),none⟩=some u:=by
 intro xs g k x hps hk;have hn:=hps.len;obtain⟨css,h1,h2⟩:=hps;have hat:∀{cs:List (List Value)} {xs:List Rx} {g k:Nat} {x:Rx},PtVs w S cs xs g→xs[k]?=some x→∃c,cs[k]?=some c∧PtV w S c x (g+Rx.groupsL (xs.take k)):=by
  intro cs xs;induction xs generalizing cs with
  | nil=>intro g k x _ h;simp at h
  | cons y r ih =>
   intro g k x hv h;cases hv with
   | @cons c _ cs _ _ hv hvs =>
    cases k with
    | zero=>simp at h;subst h;exact⟨c,rfl,by simpa [Rx.groupsL] using hv⟩
    | succ k =>
     obtain⟨c',e1,e2⟩:=ih hvs gT;exact⟨c',by simpa using e1,by simpa [Rx.groupsL,Eb] using e2⟩
 obtain⟨c,hc,hv⟩:=hat h2 hk;have hlt:=(Dw.1 hk).1;obtain⟨b,o,e1,e2,e3,e4⟩:=h1.2 fR;exact⟨b,o,c,e1,e2,e3,hv,fun j u hj=>e4 _ u (qu h2.elevens hc hj)⟩
theorem PtV.open_ {w:World} {S:Nat→Prop} {cc:List Value} {k:Int} {c:Str} {ng:Bool} {rs:List (Str × Str)} {lo hi:Int} {lz:Bool} {ks:List Rx} {g:Nat} (h:PtV w S cc (.mk k c ng rs lo hi lz ks) g) :
  ∃ra rc ka kn kc pa pc,cc=ptc k c ng ra rs.length rc lo hi lz ka kn kc pa ks.length pc g (g+own5 k+Rx.groupsL ks)∧SlS w S ra 2 rs.length (jN rs)∧PtSl w S pa ks.length ks (g+own5 k)∧ks.length≤pc:=by
 cases h with
 | mk h1 h2 hc h3=>exact⟨_,_,_,_,_,_,_,rfl,h1,⟨_,h2,h3⟩,hc⟩
def jV (ps:List (Int × Int)):List Value:=ps.flatMap fun p=>[.int .i64 p.1,.int .i64 p.2]
theorem ko (ps:List (Int × Int)):(jV ps).length=ps.length*2:=by
 induction ps with
 | nil=>rfl
 | cons r rs ih=>simp only [jV,DD,DE] at *;rw [ih];simp;omega
theorem lf (a b:List (Int × Int)):jV (a++b)=jV a++jV b:=by simp [jV]
theorem pz {ps:List (Int × Int)} {k:Nat} {p:Int × Int} (h:ps[k]?=some p):(jV ps)[k*2]?=some (.int .i64 p.1)∧(jV ps)[k*2+1]?=some (.int .i64 p.2):=by
 induction ps generalizing k with
 | nil=>simp at h
 | cons g rs ih =>
  cases k with
  | zero=>simp at h;subst h;simp [jV]
  | succ k =>
   simp only [List.getElem?_cons_succ] at h;obtain⟨h1,h2⟩:=ih h;simp only [jV,DD] at h1 h2 ⊢;exact cN
theorem qj:∀(ps:List (Int × Int)) (k:Nat) (v:Int × Int),k<ps.length→((jV ps).set (k*2) (.int .i64 v.1)).set (k*2+1) (.int .i64 v.2)=jV (ps.set k v)
 | [],_,_,h=>by simp at h
 | p::ps,0,v,_=>by simp [jV]
 | p::ps,k+1,v,h=>by
  have ih:=qj ps k v gT;simp only [jV,DD,List.set_cons_succ] at ih ⊢;rw [show (k+1)*2=k*2+2 by omega,show k*2+2+1=k*2+1+2 by omega];simp only [D5,D4,List.set_cons_succ];rw [ih]
def nU (l:List Nat):List Value:=l.map fun(n:Nat)=>.int .i64 (n:Int)
theorem vZ {l:List Nat} {k:Nat} (h:k<l.length):(nU l)[k]?=some (.int .i64 ((l.getD k 0:Nat):Int)):=by
 rw [List.getD_eq_getElem?_getD];simp [nU,h]
theorem jY {w:World} {b o:Nat} {k:Int} {c:Str} {ng:Bool} {ra:Option Addr} {rn rc:Nat} {lo hi:Int} {lz:Bool} {ka:Option Addr} {kn kc:Nat} {pa:Option Addr} {pn pc g h:Nat}
  (hc:∀(j:Nat) (u:Value),(ptc k c ng ra rn rc lo hi lz ka kn kc pa pn pc g h)[j]?=some u→w.cell? ⟨b,o+j,none⟩=some u) :
  w.cell? ⟨b,o,none⟩=some (.int .i64 k)∧w.cell? ⟨b,o+1,none⟩=some (.string ⟨c.toArray⟩)∧w.cell? ⟨b,o+2,none⟩=some (.bool ng)∧w.cell? ⟨b,o+3,none⟩=some (.slice ra rn rc)∧w.cell? ⟨b,o+4,none⟩=some (.int .i64 lo) ∧
  w.cell? ⟨b,o+5,none⟩=some (.int .i64 hi)∧w.cell? ⟨b,o+6,none⟩=some (.bool lz)∧w.cell? ⟨b,o+7,none⟩=some (.slice ka kn kc)∧w.cell? ⟨b,o+8,none⟩=some (.slice pa pn pc)∧w.cell? ⟨b,o+9,none⟩=some (.int .i64 (g:Int))∧w.cell? ⟨b,o+10,none⟩=some (.int .i64 (h:Int)) :=
 ⟨hc 0 _ rfl,hc 1 _ rfl,hc 2 _ rfl,hc 3 _ rfl,hc 4 _ rfl,hc 5 _ rfl,hc 6 _ rfl,hc 7 _ rfl,hc 8 _ rfl,hc 9 _ rfl,hc 10 _ rfl⟩
theorem oE:∀(ks:List Rx) (i:Nat) (x:Rx),ks[i]?=some x→Rx.groupsL (ks.take (i+1))=Rx.groupsL (ks.take i)+x.groups∧Rx.groupsL (ks.take i)+x.groups≤Rx.groupsL ks
 | [],i,x,h=>by simp at h
 | y::r,0,x,h=>by simp at h;subst h;simp [Rx.groupsL]
 | y::r,i+1,x,h=>by
  obtain⟨h1,h2⟩:=oE r i x gT;simp only [List.take_succ_cons,Rx.groupsL] at *;rw [h1];exact⟨by omega,by omega⟩
structure Inv (C:Rc) (n:Nat) (F:Nat) (E:Int→Prop) (st:Rst):Prop where
 len:st.ps.length=n
 sp:∀v∈st.ps,v=(-1,-1)∨∃a b:Nat,a≤b∧b≤C.cs.length∧v=((C.offs.getD a 0:Int),(C.offs.getD b 0:Int))
 en:E st.en
 fu:st.fuel≤F
section
variable {C:Rc} {n F:Nat} {E:Int→Prop}
def KOk (C:Rc) (n F:Nat) (E:Int→Prop) (k:Nat) (f:Rk):Prop:=∀e st,k≤e→e≤C.cs.length→Inv C n F E st→Inv C n F E (f e st).2
theorem KOk.le {k k':Nat} {f:Rk} (h:KOk C n F E k f) (hk:k≤k'):KOk C n F E k' f:=fun e st h1 h2 h3=>h e st fR h2 h3
theorem xy {P:Rst→Prop} {a:Bool × Rst} {h:Rst→Bool × Rst} (ha:P a.2) (hh:∀s,P s→P (h s).2):P (orE a h).2:=by
 unfold orE;split
 ·exact ha
 ·exact hh _ ha
theorem Inv.burn {st:Rst} (h:Inv C n F E st):Inv C n F E (kE st):=⟨h.len,h.sp,h.en,by have:=h.fu;simp only [kE];omega⟩
theorem Inv.none {st:Rst} (h:Inv C n F E st) {lo hi:Nat} (h1:lo≤hi) (h2:hi≤n):Inv C n F E { st with ps:=kP st.ps lo hi }:=by
 refine⟨?_,fun v hv=>?_,h.en,h.fu⟩
 ·have:=h.len;simp only [kP,DE,DT,List.length_replicate,D3];omega
 ·simp only [kP,DZ,List.mem_replicate] at hv
  rcases hv with(hv|hv)|hv
  ·exact h.sp v (List.mem_of_mem_take hv)
  ·exact .inl hv.2
  ·exact h.sp v (List.mem_of_mem_drop hv)
theorem Inv.back {st s0:Rst} (h:Inv C n F E st) (h0:Inv C n F E s0) {lo hi:Nat} (h1:lo≤hi) (h2:hi≤n):Inv C n F E { st with ps:=o8 st.ps s0.ps lo hi }:=by
 refine⟨?_,fun v hv=>?_,h.en,h.fu⟩
 ·have:=h.len;have:=h0.len;simp only [o8,DE,DT,D3];omega
 ·simp only [o8,DZ] at hv
  rcases hv with(hv|hv)|hv
  ·exact h.sp v (List.mem_of_mem_take hv)
  ·exact h0.sp v (List.mem_of_mem_take (List.mem_of_mem_drop hv))
  ·exact h.sp v (List.mem_of_mem_drop hv)
theorem Inv.set {st:Rst} (h:Inv C n F E st) (g:Nat) {v:Int × Int} (hv:v=(-1,-1)∨∃a b:Nat,a≤b∧b≤C.cs.length∧v=((C.offs.getD a 0:Int),(C.offs.getD b 0:Int))):Inv C n F E { st with ps:=sy st.ps g v }:=by
 refine⟨by simpa [sy] using h.len,fun u hu=>?_,h.en,h.fu⟩;rcases List.mem_or_eq_of_mem_set hu with hu|rfl
 ·exact h.sp u hu
 ·exact hv
theorem Inv.was {st:Rst} (h:Inv C n F E st) (g:Nat):st.ps.getD g (-1,-1)=(-1,-1)∨∃a b:Nat,a≤b∧b≤C.cs.length∧st.ps.getD g (-1,-1)=((C.offs.getD a 0:Int),(C.offs.getD b 0:Int)):=by
 rw [List.getD_eq_getElem?_getD];cases hg:st.ps[g]? with
 | none=>exact .inl rfl
 | some v=>exact h.sp v (DL hg)
theorem grpK_ok {g k:Nat} {f:Rk} (h:KOk C n F E k f):KOk C n F E k (grpK C g k f):=fun e st h1 h2 h3=>by
 have hs:=h3.set g (v:=((C.offs.getD k 0:Int),(C.offs.getD e 0:Int))) (.inr ⟨k,e,h1,h2,rfl⟩);have hr:=h e _ h1 h2 hs;unfold grpK undoR;split
 ·exact hr
 ·exact hr.set g (h3.was g)
theorem vo {tk:Nat→Rk→Rst→Bool × Rst} {mn mx:Int} {lz:Bool} {lo hi:Nat} {f:Rk} (h1:lo≤hi) (h2:hi≤n)
  (htk:∀k f st,k≤C.cs.length→KOk C n F E k f→Inv C n F E st→Inv C n F E (tk k f st).2) :
  ∀(N k times:Nat) (st:Rst),k≤C.cs.length→KOk C n F E k f→Inv C n F E st→Inv C n F E (lV tk mn mx lz lo hi f N k times st).2
 | 0,_,_,_,_,_,h=>h
 | N+1,k,times,st,hk,hf,h=>by
  unfold lV;refine xy (P:=Inv C n F E) ?_ fun s1 i1=>?_
  ·split
   ·exact hf _ _ (Dv _) hk h
   ·exact h
  ·refine xy (P:=Inv C n F E) ?_ fun s2 i2=>?_
   ·split
    ·have ht:=htk k (fun e s2=>if k<e∨(times:Int)<mn then lV tk mn mx lz lo hi f N e (times+1) s2 else(false,s2)) { s1 with ps:=kP s1.ps lo hi } hk (fun e st h3 h4 h5=>by
      dsimp only
      split
      ·exact vo h1 h2 htk N e (times+1) st h4 (hf.le h3) h5
      ·exact h5) (i1.none h1 h2)
     unfold xw;split
     ·exact ht
     ·exact ht.back i1 h1 h2
    ·exact i1
   ·split
    ·exact hf _ _ (Dv _) hk i2
    ·exact i2
mutual
theorem rB:∀(x:Rx) (g k:Nat) (f:Rk) (st:Rst),g+x.groups≤n→k≤C.cs.length→KOk C n F E k f→Inv C n F E st→Inv C n F E (tryM C x g k f st).2
 | .mk kd c ng rs lo hi lz ks,g,k,f,st,hg,hk,hf,h=>by
  have hgl:g+Rx.groupsL ks≤n∧(kd=5→g+1+Rx.groupsL ks≤n):=by
   simp only [Rx.groups] at hg;by_cases h5:kd=5
   ·rw [Dr h5] at hg;exact⟨by omega,fun _=>by omega⟩
   ·rw [Du h5] at hg;exact⟨by omega,fun e=>absurd e h5⟩
  unfold tryM;split
  ·exact h
  split
  ·exact Bd ks g k f st hgl.1 hk hf h
  split
  ·exact BH ks g k f st hgl.1 hk hf h
  split
  ·exact vo fR hgl.1 (fun k f st a b c=>uq ks g k f st hgl.1 a b c) _ _ _ _ hk hf h
  split
  ·exact⟨h.len,h.sp,h.en,h.fu⟩
  split
  ·rename_i h5;exact uq ks (g+1) k _ _ (hgl.2 h5) hk (grpK_ok hf) h.burn
  split
  ·exact uq ks g k f _ hgl.1 hk hf h.burn
  split
  ·split
   ·rename_i hh;exact hf _ _ fR fR h.burn
   ·exact h.burn
  split
  ·exact hf _ _ fR hk h.burn
  ·exact h.burn
theorem uq:∀(ks:List Rx) (g k:Nat) (f:Rk) (st:Rst),g+Rx.groupsL ks≤n→k≤C.cs.length→KOk C n F E k f→Inv C n F E st→Inv C n F E (lE C ks g k f st).2
 | [],_,_,_,_,_,_,_,h=>h
 | x::r,g,k,f,st,hg,hk,hf,h=>by
  simp only [Rx.groupsL] at hg;unfold lE;exact rB x g k f st fR hk hf h
theorem Bd:∀(ks:List Rx) (g k:Nat) (f:Rk) (st:Rst),g+Rx.groupsL ks≤n→k≤C.cs.length→KOk C n F E k f→Inv C n F E st→Inv C n F E (seqM C ks g k f st).2
 | [],_,k,f,st,_,hk,hf,h=>hf k st (Dv _) hk h
 | x::r,g,k,f,st,hg,hk,hf,h=>by
  simp only [Rx.groupsL] at hg;unfold seqM;exact rB x g k _ st fR hk (fun e s h1 h2 h3=>Bd r (g+x.groups) e f s fR h2 (hf.le h1) h3) h
theorem BH:∀(ks:List Rx) (g k:Nat) (f:Rk) (st:Rst),g+Rx.groupsL ks≤n→k≤C.cs.length→KOk C n F E k f→Inv C n F E st→Inv C n F E (altM C ks g k f st).2
 | [],_,_,_,_,_,_,_,h=>h
 | x::r,g,k,f,st,hg,hk,hf,h=>by
  simp only [Rx.groupsL] at hg;unfold altM;exact xy (P:=Inv C n F E) (rB x g k f st fR hk hf h) fun s hs=>BH r (g+x.groups) k f s fR hk hf hs
end
end
theorem sg:∀(k:Nat) (l:Str),l.length≤k→(kO k l).flatten=l
 | 0,l,h=>by have:l=[]:=Ds fR;subst this;rfl
 | k+1,[],_=>rfl
 | k+1,c::r,h=>by
  have hr:r.takeWhile jE++r.dropWhile jE=r:=DR;have hl:(r.dropWhile jE).length≤k:=by
   have:=DQ List.length hr
   rw [DE] at this;simp only [Dx] at h;omega
  simp only [kO,List.flatten_cons];rw [sg k _ hl,D5,hr]
theorem pm (s:Str):(jL s).flatten=s:=sg _ _ (Dv _)
theorem tC:∀(k:Nat) (l:Str),∀c∈kO k l,0<c.length
 | 0,_,c,h=>by simp [kO] at h
 | k+1,[],c,h=>by simp [kO] at h
 | k+1,d::r,c,h=>by
  simp only [kO,DF] at h;rcases h with rfl|h
  ·simp
  ·exact tC k _ c h
theorem tt (s:Str):∀c∈jL s,0<c.length:=tC _ _
theorem mt:∀(cs:List Str) (a:Nat),(mQ cs a).length=cs.length+1
 | [],_=>rfl
 | c::r,a=>by simp [mQ,mt r]
theorem uT:∀(cs:List Str) (a k:Nat),k≤cs.length→(mQ cs a)[k]?=some (a+(cs.take k).flatten.length)
 | [],a,k,h=>by
  have:k=0:=gT
  subst this;simp [mQ]
 | c::r,a,0,_=>by simp [mQ]
 | c::r,a,k+1,h=>by
  simp only [mQ,List.getElem?_cons_succ,List.take_succ_cons,List.flatten_cons,DE];rw [uT r (a+c.length) k gT];congr 1;omega
theorem mK (cs:List Str) (k:Nat) (h:k≤cs.length):(mQ cs 0).getD k 0=(cs.take k).flatten.length:=by
 rw [List.getD_eq_getElem?_getD,uT cs 0 k h];simp
theorem ow (cs:List Str) {i j:Nat} (h:i≤j):(cs.take i).flatten.length≤(cs.take j).flatten.length:=by
 have e:cs.take j=cs.take i++(cs.take j).drop i:=by
  conv=>lhs;rw [←List.take_append_drop i (cs.take j)]
  rw [List.take_take,Nat.min_eq_left h]
 rw [e];simp
theorem wx (cs:List Str) (hp:∀c∈cs,0<c.length) {i j:Nat} (h:i<j) (hj:j≤cs.length):(cs.take i).flatten.length<(cs.take j).flatten.length:=by
 have h1:(cs.take (i+1)).flatten.length=(cs.take i).flatten.length+(cs[i]' fR).length:=by
  rw [List.take_succ_eq_append_getElem fR,List.flatten_append,DE];simp
 have h2:=ow cs (show i+1≤j by omega);have h3:=hp _ (List.getElem_mem (show i<cs.length by omega));omega
theorem uv (s:Str) {k:Nat} (h:k≤(jL s).length):(mQ (jL s) 0).getD k 0≤s.length:=by
 rw [mK _ _ h];have:=ow (jL s) h
 rw [List.take_length,pm] at this;exact this
theorem vR (s:Str):(jL s).length≤s.length:=by
 have h:∀cs:List Str,(∀c∈cs,0<c.length)→cs.length≤cs.flatten.length:=by
  intro cs;induction cs with
  | nil=>intro _;simp
  | cons c r ih=>intro h;have h1:=ih (fun x hx=>h x (DI _ hx));have h2:=h c (DH ..);rw [List.flatten_cons,DE,Dx];omega
 have:=h _ (tt s);rw [pm] at this;exact this
theorem char_le (s:Str):∀c∈jL s,c.length≤s.length:=fun c hc=>by
 have h:∀cs:List Str,c∈cs→c.length≤cs.flatten.length:=by
  intro cs;induction cs with
  | nil=>intro h;simp at h
  | cons d r ih =>
   intro h;rcases DF.1 h with rfl|h
   ·simp
   ·have:=ih h;rw [List.flatten_cons,DE];omega
 have:=h _ hc;rw [pm] at this;exact this
def wj (c:UInt8):UInt8:=if 65≤c.toNat∧c.toNat≤90 then c+32 else c
def qE (c:UInt8):UInt8:=if 97≤c.toNat∧c.toNat≤122 then c-32 else c
theorem foldS_eq (l:Str):sU l=l.map wj:=rfl
theorem Cu (l:Str):zN l=l.map qE:=rfl
theorem yM (f:UInt8→UInt8) (l:Str) (k:Nat) (hk:k<l.length) (h:f l[k]=l[k]):(l.take k).map f++l.drop k=(l.take (k+1)).map f++l.drop (k+1):=by
 rw [←sF f l k hk,h];refine(List.ext_getElem? fun i=>?_)
 rw [List.getElem?_set];split
 ·rename_i e;subst e
  have e1:((l.take k).map f).length=k:=by simp;omega
  split
  ·rw [DJ fR,e1,List.getElem?_drop];simp
  ·rename_i h2;rw [DE,D3,e1] at h2;omega
 ·rfl
theorem add32 (x:UInt8) (h:x.toNat≤90):(((x.toNat:Int)+32):Int)=((x+32).toNat:Int):=by
 rw [UInt8.toNat_add];simp;omega
theorem sub32 (x:UInt8) (h:97≤x.toNat) (h2:x.toNat≤122):(((x.toNat:Int)-32):Int)=((x-32).toNat:Int):=by
 rw [UInt8.toNat_sub];simp;omega
theorem uz (l:Str) (w:World) (hs:l.length≤1000000) :
  Calls Tryz.prog 166 #[.string ⟨l.toArray⟩] w fun e w'=>e=.returned (.string ⟨(sU l).toArray⟩)∧Below w.heap.size w w':=by
 rw [foldS_eq];obtain⟨cap,w0,hcv,hrow,hb0,hsz⟩:=BRow.made (P:=Tryz.prog) w (src:=9) (dst:=48) l Tryz.underlying9 Tryz.underlying48 Tryz.underlying5;have HZ:=ab hsz;clear hsz;have hsz0:w.heap.size<w0.heap.size:=by have:=HZ.out;omega
 go_enter Tryz.func166,Tryz.ntmps166
 go_wp2_with (fail)
 go_loopw [10] (fun q wr=>∃k:Nat,k≤l.length∧q=.int .i64 k∧BRow wr w.heap.size ((l.take k).map wj++l.drop k)∧Below w.heap.size w wr∧w.heap.size<wr.heap.size) (fun q _=>l.length-(intOf q).toNat)
 case atStart=>exact dm
 case round =>
  obtain⟨k,hk,rfl,hr,hb,hlt⟩:=hrel;by_cases h2:k<l.length
  ·have hc:=hr.cell (j:=k) (c:=l[k]) (by rw [DJ fY,List.getElem?_drop,DS,DT,show k+(k-min k l.length)=k by omega,Dt h2])
   have hf:=hr.free (j:=k) fY;have h256:=po l[k];by_cases hl:65≤l[k].toNat∧l[k].toNat≤90
   ·obtain⟨hl1,hl2⟩:=hl
    have HS:=hr.set (j:=k) (wj l[k]);rw [sF wj l k h2] at HS;have hfe:wj l[k]=l[k]+32:=by unfold wj;rw [Dr ⟨hl1,hl2⟩]
    rw [hfe] at HS;have HS':=ab HS;clear HS hfe;generalize hx:l[k]=x at *
    have Hx:=ab hx;clear hx;go_wp2_with (fail)
    go_roundw
    case rel=>exact⟨k+1,by omega,by go_num,by have h:=HS'.out;rw [←add32 x hl2] at h;exact h,hb.setCell (p:=⟨w.heap.size,k,none⟩) (Dv _) _,by simp [World.setCell];omega⟩
    case measure=>simp [intOf];omega
   ·have HM:=ab (yM wj l k h2 (by unfold wj;rw [Du hl]))
    have hr':=hr;rw [HM.out] at hr';have HR:=ab hr';clear hr hr';rcases(show l[k].toNat<65∨(65≤l[k].toNat∧90<l[k].toNat) by omega) with hl3|⟨hl3,hl4⟩
    ·exact bN
    ·exact bN
  ·exact cB
theorem CP (l:Str) (w:World) (hs:l.length≤1000000) :
  Calls Tryz.prog 171 #[.string ⟨l.toArray⟩] w fun e w'=>e=.returned (.string ⟨(zN l).toArray⟩)∧Below w.heap.size w w':=by
 rw [Cu];obtain⟨cap,w0,hcv,hrow,hb0,hsz⟩:=BRow.made (P:=Tryz.prog) w (src:=9) (dst:=48) l Tryz.underlying9 Tryz.underlying48 Tryz.underlying5;have HZ:=ab hsz;clear hsz;have hsz0:w.heap.size<w0.heap.size:=by have:=HZ.out;omega
 go_enter Tryz.func171,Tryz.ntmps171
 go_wp2_with (fail)
 go_loopw [10] (fun q wr=>∃k:Nat,k≤l.length∧q=.int .i64 k∧BRow wr w.heap.size ((l.take k).map qE++l.drop k)∧Below w.heap.size w wr∧w.heap.size<wr.heap.size) (fun q _=>l.length-(intOf q).toNat)
 case atStart=>exact dm
 case round =>
  obtain⟨k,hk,rfl,hr,hb,hlt⟩:=hrel;by_cases h2:k<l.length
  ·have hc:=hr.cell (j:=k) (c:=l[k]) (by rw [DJ fY,List.getElem?_drop,DS,DT,show k+(k-min k l.length)=k by omega,Dt h2])
   have hf:=hr.free (j:=k) fY;have h256:=po l[k];by_cases hl:97≤l[k].toNat∧l[k].toNat≤122
   ·obtain⟨hl1,hl2⟩:=hl
    have HS:=hr.set (j:=k) (qE l[k]);rw [sF qE l k h2] at HS;have hfe:qE l[k]=l[k]-32:=by unfold qE;rw [Dr ⟨hl1,hl2⟩]
    rw [hfe] at HS;have HS':=ab HS;clear HS hfe;generalize hx:l[k]=x at *
    have Hx:=ab hx;clear hx;go_wp2_with (fail)
    go_roundw
    case rel=>exact⟨k+1,by omega,by go_num,by have h:=HS'.out;rw [←sub32 x hl1 hl2] at h;exact h,hb.setCell (p:=⟨w.heap.size,k,none⟩) (Dv _) _,by simp [World.setCell];omega⟩
    case measure=>simp [intOf];omega
   ·have HM:=ab (yM qE l k h2 (by unfold qE;rw [Du hl]))
    have hr':=hr;rw [HM.out] at hr';have HR:=ab hr';clear hr hr';rcases(show l[k].toNat<97∨(97≤l[k].toNat∧122<l[k].toNat) by omega) with hl3|⟨hl3,hl4⟩
    ·exact bN
    ·exact bN
  ·exact cB
theorem In_any (a:Option Addr) (n c:Nat) (rs:List (Str × Str)) (d:Str) (w:World) (h:Sl w w.heap.size a 2 n (jN rs)) (hn:n≤100000000) :
  Calls Tryz.prog 170 #[.slice a n c,.string ⟨d.toArray⟩] w fun e w'=>e=.returned (.bool (inS' rs d))∧Below w.heap.size w w':=by
 obtain rfl:=h.row_len;generalize hR:inS' rs d=R
 have HR:=ab hR;clear hR;have HR0:Hid (inS' (rs.drop 0) d=R):=HR;have HSl:=ab h;clear HR h;go_enter Tryz.func170,Tryz.ntmps170
 go_wp2
 go_loopw [9] (fun q wr=>∃k:Nat,k≤rs.length∧q=.int .i64 k∧Below w.heap.size w wr∧Hid (inS' (rs.drop k) d=R)) (fun q _=>rs.length-(intOf q).toNat)
 case atStart=>exact⟨0,by omega,rfl,Below.refl _ _,HR0⟩
 case round =>
  obtain⟨k,hk,rfl,hb,HF⟩:=hrel;clear HR0;have hB:=hb.size;cases hd:rs.drop k with
  | nil =>
   have h2:rs.length≤k:=gm;have HE:Hid (R=false):=ab gC;clear hd HF;go_wp2
   go_ret
   exact⟨jG HE.out.symm,hb⟩
  | cons r0 r =>
   obtain⟨h2,h3,hr⟩:=jO hd;obtain⟨b,o,rfl,hbB,c0,c1⟩:=(HSl.out.keep hb).row h3;obtain⟨f,t⟩:=r0;have HF':Hid (((leS f d&&leS d t)||inS' (rs.drop (k+1)) d)=R):=ab (by rw [←HF.out,hd,hr];rfl);simp only at c0 c1
   clear hd HF hr h3;have hb2:=hb.alloc hB (.cells #[.string ⟨f.toArray⟩,.string ⟨t.toArray⟩] 62);cases h4:leS f d with
   | false =>
    have H4:=ab h4;go_wp2
    go_roundw
    case rel=>exact⟨k+1,by omega,by go_num,hb2,ab (by rw [←HF'.out,H4.out];rfl)⟩
    case measure=>simp [intOf];omega
   | true =>
    cases h5:leS d t with
    | false =>
     have H4:=ab h4;have H5:=ab h5;go_wp2
     go_roundw
     case rel=>exact⟨k+1,by omega,by go_num,hb2,ab (by rw [←HF'.out,H4.out,H5.out];rfl)⟩
     case measure=>simp [intOf];omega
    | true =>
     have HE:Hid (R=true):=ab (by rw [←HF'.out,h4,h5];rfl);go_wp2
     go_ret
     exact⟨jG HE.out.symm,hb2⟩
theorem In_eq {a:Option Addr} {n c:Nat} {rs:List (Str × Str)} {d:Str} {b:Bool} (w:World) (e:inS' rs d=b) (h:Sl w w.heap.size a 2 n (jN rs)) (hn:n≤100000000) :
  Calls Tryz.prog 170 #[.slice a n c,.string ⟨d.toArray⟩] w fun e w'=>e=.returned (.bool b)∧Below w.heap.size w w':=e▸In_any a n c rs d w h hn
theorem Has_any (a:Option Addr) (n c:Nat) (rs:List (Str × Str)) (ng fold:Bool) (d:Str) (w:World) (h:Sl w w.heap.size a 2 n (jN rs)) (hn:n≤100000000) (hd:d.length≤1000000) :
  Calls Tryz.prog 167 #[.slice a n c,.bool ng,.bool fold,.string ⟨d.toArray⟩] w fun e w'=>e=.returned (.bool (hasS rs ng fold d))∧Below w.heap.size w w':=by
 generalize hR:hasS rs ng fold d=R
 have HR:=ab hR;clear hR;obtain⟨p,hp⟩:∃p,inS' rs d=p:=⟨_,rfl⟩;have H1:=ab (fun w (h:Sl w w.heap.size a 2 n (jN rs))=>In_eq (a:=a) (c:=c) w hp h hn);have H:=ab h;cases fold with
 | false =>
  have HE:Hid (R=(p != ng)):=ab (by rw [←HR.out];unfold hasS;rw [hp];cases p<;>cases ng<;>rfl);clear h HR hp;go_enter Tryz.func167,Tryz.ntmps167
  go_wp2_with (go_at_call 170;refine(H1.out _ H.out).mono ?_;rintro e w1 ⟨rfl,hb1⟩)
  go_ret
  exact⟨jG (by rw [HE.out];cases p<;>cases ng<;>rfl),hb1⟩
 | true =>
  obtain⟨q,hq⟩:∃q,inS' rs (sU d)=q:=⟨_,rfl⟩;obtain⟨u,hu⟩:∃u,inS' rs (zN d)=u:=⟨_,rfl⟩;have H2:=ab (fun w (h:Sl w w.heap.size a 2 n (jN rs))=>In_eq (a:=a) (c:=c) w hq h hn);have H3:=ab (fun w (h:Sl w w.heap.size a 2 n (jN rs))=>In_eq (a:=a) (c:=c) w hu h hn);have HE:Hid (R=((p||(q||u)) != ng)):=ab (by rw [←HR.out];unfold hasS;rw [hp,hq,hu];simp);clear h HR hp hq hu;cases p with
  | true =>
   go_enter Tryz.func167,Tryz.ntmps167
   go_wp2_with (go_at_call 170;refine(H1.out _ H.out).mono ?_;rintro e w1 ⟨rfl,hb1⟩)
   go_ret
   exact⟨jG (by rw [HE.out];cases ng<;>rfl),hb1⟩
  | false =>
   cases q with
   | true =>
    go_enter Tryz.func167,Tryz.ntmps167
    go_wp2_with (go_at_call 170;refine(H1.out _ H.out).mono ?_)
    rintro e w1 ⟨rfl,hb1⟩;go_wp2_with (go_at_call 166;refine(uz d _ hd).mono ?_)
    rintro e w2 ⟨rfl,hb2⟩;go_wp2_with (go_at_call 170;refine(H2.out _ ((H.out.keep (bel2 hb1 hb2)).mono (bel2 hb1 hb2).size)).mono ?_)
    rintro e w3 ⟨rfl,hb3⟩;go_wp2
    go_ret
    exact⟨jG (by rw [HE.out];cases ng<;>rfl),bel2 (bel2 hb1 hb2) hb3⟩
   | false =>
    go_enter Tryz.func167,Tryz.ntmps167
    go_wp2_with (go_at_call 170;refine(H1.out _ H.out).mono ?_)
    rintro e w1 ⟨rfl,hb1⟩;go_wp2_with (go_at_call 166;refine(uz d _ hd).mono ?_)
    rintro e w2 ⟨rfl,hb2⟩;go_wp2_with (go_at_call 170;refine(H2.out _ ((H.out.keep (bel2 hb1 hb2)).mono (bel2 hb1 hb2).size)).mono ?_)
    rintro e w3 ⟨rfl,hb3⟩;have hb13:=bel2 (bel2 hb1 hb2) hb3;go_wp2_with (go_at_call 171;refine(CP d _ hd).mono ?_)
    rintro e w4 ⟨rfl,hb4⟩;go_wp2_with (go_at_call 170;refine(H3.out _ ((H.out.keep (bel2 hb13 hb4)).mono (bel2 hb13 hb4).size)).mono ?_)
    rintro e w5 ⟨rfl,hb5⟩;go_wp2
    go_ret
    exact⟨jG (by rw [HE.out];cases u<;>cases ng<;>rfl),bel2 (bel2 hb13 hb4) hb5⟩
def PlRel (l:Str) (R:List Nat) (w:World) (v q:Value) (wr:World):Prop :=
 ∃(i k:Nat) (ps:List Nat),i≤l.length∧l.length-i≤k∧q=.int .i64 i∧Below w.heap.size w wr∧wr.ownsRow w.heap.size 3 1 v ps.length (nU ps)∧ps.length≤i+1∧Hid (ps++(mQ (kO k (l.drop i)) i).drop 1=R)
theorem BN:(Tryz.prog.info? 3).map (fun i=>(i.zero,i.size,i.bytes))=some (some (.int .i64 0),1,8):=by kernel_rfl
theorem tL (l:Str) (w:World) (hs:l.length≤1000000) :
  Calls Tryz.prog 104 #[.string ⟨l.toArray⟩] w fun e w'=>∃a c,e=.returned (.slice a ((jL l).length+1) c)∧SlS w' (fun b=>w.heap.size≤b) a 1 ((jL l).length+1) (nU (mQ (jL l) 0))∧Below w.heap.size w w':=by
 obtain⟨R,hR⟩:∃R,mQ (jL l) 0=R:=⟨_,rfl⟩;have hRl:(jL l).length+1=R.length:=by rw [←hR,mt]
 rw [hR,hRl];have HR:Hid ([0]++(mQ (kO l.length (l.drop 0)) 0).drop 1=R):=ab (by rw [←hR];unfold jL;rw [DO];cases kO l.length l<;>rfl);obtain⟨ir,hir⟩:=info_parts BN;have hL0:=World.ownsRow_lit (e:=3) (size:=1) (base:=w.heap.size) w #[.int .i64 0] 1 (Dv _) (by simp [maxLen]) rfl;have HL0:=ab hL0;clear hR hRl hL0;go_enter Tryz.func104,Tryz.ntmps104
 go_wp2
 go_loopw [3,4] (fun v q wr=>PlRel l R w v q wr) (fun _ q _=>l.length-(intOf q).toNat)
 case atStart=>exact⟨0,l.length,[0],by omega,by omega,rfl,(Below.refl _ _).alloc (Dv _) _,HL0.out,by simp,HR⟩
 case round =>
  obtain⟨i,k,ps,hi,hk,rfl,hb,hown,hps,HF⟩:=hrel;have hB:=hb.size;clear HR HL0;cases hd:l.drop i with
  | nil =>
   have h2:=kN hd;have HE:Hid (ps=R):=ab (by rw [←HF.out,hd];cases k<;>simp [kO,mQ]);exact dg
  | cons c r =>
   obtain⟨h1,h2,h3,h4⟩:=vT l i c r hd;obtain⟨k,rfl⟩:∃k',k=k'+1:=⟨k-1,by have:=DQ List.length hd;simp at this;omega⟩;have hil:i<l.length:=by have:=DQ List.length hd;simp at this;omega
   have hsp:nF l i=i+(c::r.takeWhile jE).length:=by
    unfold nF;rw [(kh hd).2.2];simp;omega
   have HE:Hid ((ps++[nF l i])++(mQ (kO k (l.drop (nF l i))) (nF l i)).drop 1=R):=ab (by
    rw [←HF.out,hd,h4];simp only [kO,mQ,List.drop_succ_cons,DO,←hsp];have:∀(cs:List Str) (a:Nat),mQ cs a=a::(mQ cs a).drop 1:=fun cs a=>by cases cs<;>rfl
    rw [D6,Ec,←this])
   obtain⟨e,he⟩:∃e,nF l i=e:=⟨_,rfl⟩;rw [he] at h1 h2 h3 h4 HE;have HEN:=ab (he▸xT l i wr fR fR:Calls Tryz.prog 74 #[.string ⟨l.toArray⟩,.int .i64 i] wr fun x w'=>x=.returned (.int .i64 (e:Int))∧wr=w');have hb1:Below wr.heap.size wr (wr.alloc (.cells #[.int .i64 (e:Int)] 3)):=(Below.refl _ _).alloc (Dv _) _;have HO1:=ab (jP hown hb1);have HSL:=ab (Sl.lit (n:=1) (sz:=1) (heap_alloc_new wr (.cells #[.int .i64 (e:Int)] 3)) rfl);have hz1:w.heap.size≤(wr.alloc (.cells #[.int .i64 (e:Int)] 3)).heap.size:=by rw [D0];omega
   have hbw1:=hb.alloc hB (.cells #[.int .i64 (e:Int)] 3);clear hd h4 he HF hown hsp h3;go_wp2_with (first|(go_at_call 74;refine HEN.out.mono ?_;rintro x w1 ⟨rfl,rfl⟩)|(at_builtin;refine kf w.heap.size 3 rfl _ _ 119 rfl Tryz.underlying119 hir rfl fU rfl HO1.out rfl HSL.out gd fR fR fU hz1 ?_))
   intro v1 w4 ho4 hg4 hb4 hmv;have hb4':=hbw1.trans hb4;have ho5:w4.ownsRow w.heap.size 3 1 v1 (ps++[e]).length (nU (ps++[e])):=by
    rw [show nU (ps++[e])=nU ps++[.int .i64 (e:Int)] by simp [nU],DE];exact ho4
   clear ho4 hg4 hmv;go_wp2
   go_roundw
   case rel=>exact⟨e,k,ps++[e],h1,by omega,rfl,hb4',ho5,by simp;omega,HE⟩
   case measure=>simp [intOf];omega
section
variable {P:Program} {md:Region.Mode} {ops:Array Oper} {C:World→Prop}
def sd (P:Program) (md:Region.Mode) (ops:Array Oper) (C:World→Prop) (n:Nat) (L:Array Bool→Act→Prop):Nat→Array Bool→Act→Prop
 | 0,l,a=>L l a
 | m+1,l,a=>Region.ready md ops l≠[]∧∀i∈Region.ready md ops l,i<n∧qOp P ops C i (sd P md ops C n L m (l.setIfInBounds i true)) a
theorem sf {n g:Nat} {L:Array Bool→Act→Prop} {Q:Exit→Act→World→Prop} (hL:∀l a w,C w→L l a→wpAny P md ops Q g l a w) :
  ∀(m:Nat) (l:Array Bool) (a:Act) (w:World),C w→sd P md ops C n L m l a→wpAny P md ops Q (m+g) l a w
 | 0,l,a,w,hw,h=>by rw [Nat.zero_add];exact hL l a w hw h
 | m+1,l,a,w,hw,h=>by
  rw [show m+1+g=(m+g)+1 by omega];exact⟨fun e=>absurd e h.1,fun i hi=>wpOp_of_qOp hw (fun a' w' hw' hk=>sf hL m _ a' w' hw' hk) (h.2 i hi).2⟩
theorem uH {n i:Nat} {o:Oper} {v:Value} {L:Array Bool→Act→Prop} (hi:ops[i]?=some o) (hsel:∀(j:Nat) (o:Oper) cs b,ops[j]?=some o→o.op≠.select cs b)
  (hs:Region.sinkB md ops n=true) (hc:Region.chainB md ops n=true) (hn:n<ops.size) (hin:i<n) (hL:∀l a,L l a→∀j∈Region.ready md ops l,n≤j) :
  ∀(m:Nat) (l:Array Bool) (a:Act),HeadInv md ops n l →
   (∀j p,ops[j]?=some p→j≠i→l.getD j true=false→(∀e∈p.after,Region.binds md e=true→e.on≠i)→o.apart ops p=true) →
   i∈Region.ready md ops l→YieldsIn P ops C o v a→sd P md ops C n L m (l.setIfInBounds i true) (a.put o.dst v)→sd P md ops C n L (m+1) l a:=by
 intro m;induction m with
 | zero =>
  intro l a inv _ hr hy H;have hun:=(mem_ready.1 hr).1;refine⟨fun e=>(by rw [e] at hr;cases hr),fun j hj=>?_⟩;have hjn:j<n:=Nat.lt_of_not_le fun h=>tail_waits hs hc hn inv _ i rfl hin hun j h hj
  refine⟨hjn,?_⟩;by_cases e:j=i
  ·subst e;exact hy.qOp hi H
  ·exact absurd (hL _ _ H j (ready_mono hj e)) fR
 | succ m ih =>
  intro l a inv hfree hr hy H;have hun:=(mem_ready.1 hr).1;refine⟨fun e=>(by rw [e] at hr;cases hr),fun j hj=>?_⟩;have hjn:j<n:=Nat.lt_of_not_le fun h=>tail_waits hs hc hn inv _ i rfl hin hun j h hj
  refine⟨hjn,?_⟩;by_cases e:j=i
  ·subst e;exact hy.qOp hi H
  ·have h1:=(H.2 j (ready_mono hj e)).2
   obtain⟨hju,p,hp,hall⟩:=mem_ready.1 hj;have hnot:∀x∈p.after,Region.binds md x=true→x.on≠i:=fun x hx hb hxi=>by
    have:=hall x hx hb
    rw [hxi,getD_both hun] at this;cases this
   have h2:=qOp_put hp (hfree j p hp e hju hnot) (fun cs b=>hsel i o cs b hi) (fun cs b=>hsel j p cs b hp) hy h1;refine qOp_mono (fun a' h3=>ih (l.setIfInBounds j true) a' (inv.set hj hjn) (fun k ok hk hki hkl hno=>hfree k ok hk hki ?_ hno) (ready_mono hr (Ne.symm e)) h3.1 ?_) h2
   ·by_cases hjk:j=k
    ·subst hjk;exact hju
    ·rw [getD_set_ne true hjk] at hkl;exact hkl
   ·rw [Array.setIfInBounds_comm _ _ e];exact h3.2
theorem sx {n g:Nat} {Lq:Act→Prop} (hsel:Region.noSelect ops=true) (hs:Region.sinkB md ops n=true) (hc:Region.chainB md ops n=true) (hn:n<ops.size) :
  ∀(r:List Oper) (k:Nat) (l:Array Bool) (a:Act),(∀j,j<r.length→r[j]?=ops[k+j]?)→k+r.length=n→HeadInv md ops n l→Region.lexHead md ops g r.length k l=true→wpQuiet P ops C Lq r a →
  sd P md ops C n (fun l' a'=>Region.seqB md ops g n l'=true∧Lq a') r.length l a
 | [],k,l,a,_,hk,_,hB,h=>by
  have e:k=n:=by simpa using hk
  subst e;exact⟨by simpa [Region.lexHead] using hB,h⟩
 | o::r,k,l,a,hr,hk,inv,hB,h=>by
  have h0:ops[k]?=some o:=by simpa using (hr 0 fX).symm
  simp only [Dx,Region.lexHead,Dy] at hB;obtain⟨⟨hrd,hf⟩,hB'⟩:=hB;have hkn:k<n:=by simp only [Dx] at hk;omega
  have hrd':k∈Region.ready md ops l:=by simpa using hrd
  have hq:qOp P ops C k (wpQuiet P ops C Lq r) a:=by unfold qOp;simp only [h0];exact h
  obtain⟨v,hy,hK⟩:=yieldsIn_of_qOp h0 hq;exact uH h0 (Region.noSelect_spec hsel) hs hc hn hkn (fun _ _ hL=>seqB_ready hL.1) r.length l a inv (Region.free_spec h0 hf) hrd' hy
   (sx hsel hs hc hn r (k+1) _ _ (fun j hj=>by have:=hr (j+1) fY;simpa [Eb,Nat.add_comm 1 j] using this) (by simp only [Dx] at hk;omega) (inv.set hrd' hkn) hB' hK)
end
theorem mX {P:Program} {id:Nat} {Q:Exit→Act→World→Prop} {a:Act} {w:World} {l:List Oper} (n:Nat) (hm:P.follows .mixedOrders=true) (hB:Region.lexTailB .any l.toArray n=true)
  (h:wpQuiet P l.toArray (fun w'=>∃x:ExtOf w,w'=x.val) (fun a'=>∀x:ExtOf w,wpList P l.toArray Q (l.drop n) a' x.val) (l.take n) a):(Code.region id l.toArray true).wp P Q a w:=by
 simp only [Region.lexTailB,Dy,Dp] at hB;obtain⟨⟨⟨⟨hsel,hn⟩,hs⟩,hc⟩,hlex⟩:=hB;have hn':n<l.length:=by simpa using hn
 have htl:(l.take n).length=n:=by simp;omega
 have hdl:(l.drop n).length=l.toArray.size-n:=fX;have inv0:HeadInv .any l.toArray n (Array.replicate l.toArray.size false) :=
  ⟨by simp,fun j oj _ hl=>(by rw [getD_replicate_false] at hl;cases hl),fun t _ ht=>getD_in (by simpa using ht) (getD_replicate_false _ _)⟩
 have H:=sx (md:=.any) (g:=l.toArray.size-n) hsel hs hc hn (l.take n) 0 _ a (fun j hj=>by
  have hj':j<n:=by rw [htl] at hj;exact hj
  simp [hj']) (by simpa using htl) inv0 (by rw [htl];exact hlex) h
 refine wp_region_any hm ?_;have:=sf (Q:=Q) (g:=l.toArray.size-n) (fun l' a' w' hw hL=>by
  obtain⟨x,rfl⟩:=hw;have:=wpAny_of_seq (md:=.any) (Q':=Q) (l.drop n) n l' a' x.val (fun j=>by simp [List.getElem?_drop]) (by rw [hdl];exact hL.1) (hL.2 x)
  rwa [hdl] at this) _ _ _ w.drew ⟨⟨w.drew,(Below.refl _ _).drew⟩,rfl⟩ H
 rw [htl,show n+(l.toArray.size-n)=l.toArray.size by omega] at this;exact this
def l6 (s:Str) (a b:Nat):Str:=(s.drop a).take (b-a)
def oZ (s:Str) (v:Int × Int):Str:=if v.1<0 then [] else l6 s v.1.toNat v.2.toNat
abbrev Mt:=Nat × Nat × List (Int × Int)
def pY (s:Str) (offs:List Nat) (m:Mt):List Str:=l6 s (offs.getD m.1 0) (offs.getD m.2.1 0)::m.2.2.map (oZ s)
def putM (ps:List Str):List Fm→Str→Str
 | [],out=>out
 | f::r,out=>putM ps r (if out.length≤65536 then out++qF [f] ps else out)
def goM (s:Str) (offs:List Nat) (fs:List Fm):List Mt→Nat→Str→Option (Nat × Str)
 | [],at_,out=>some (at_,out)
 | m::r,at_,out =>
  if 65536<(putM (pY s offs m) fs (out++l6 s at_ (offs.getD m.1 0))).length then none
  else goM s offs fs r (offs.getD m.2.1 0) (putM (pY s offs m) fs (out++l6 s at_ (offs.getD m.1 0)))
def mq (x:Rx) (fold all:Bool) (s:Str) (fuel:Int):List Mt × Rst :=
 if all=true then allM (rcM fold s) x ((rcM fold s).offs.length+1) 0 (o4 x.groups fuel)
 else((od (rcM fold s) x ((rcM fold s).offs.length+1) 0 (o4 x.groups fuel)).1.toList,(od (rcM fold s) x ((rcM fold s).offs.length+1) 0 (o4 x.groups fuel)).2)
def madeM (fs:List Fm) (s:Str) (offs:List Nat) (ms:List Mt) (left:Nat):Str × Int × Int :=
 if ms=[] then(s,(left:Int),0) else
 match goM s offs fs ms 0 [] with
 | none=>([],0,4)
 | some (at_,out)=>if 65536<out.length+(s.length-at_) then([],0,4) else(out++s.drop at_,(left:Int),0)
def BW (x:Rx) (fs:List Fm) (fold all:Bool) (s:Str) (fuel:Int):Str × Int × Int :=
 if (mayB x&&oW fs)=false then([],0,10)
 else if (mq x fold all s fuel).2.out=true then([],0,9)
 else madeM fs s (rcM fold s).offs (mq x fold all s fuel).1 (mq x fold all s fuel).2.fuel
theorem aw19a:BW (.mk 2 [97] false [] 0 0 false []) [⟨2,0,1,[],[]⟩] false false [98,97,98] 100=([98,65,98],98,0):=by decide +kernel
theorem aw19b:BW (.mk 2 [98] false [] 0 0 false []) [⟨0,0,0,[120],[]⟩] false true [97,98,98] 100=([97,120,120],96,0):=by decide +kernel
theorem yF (s:Str) (u v:Int) (w:World) (h:(u=-1∧v=-1)∨∃a b:Nat,a≤b∧b≤s.length∧u=a∧v=b) :
  Calls Tryz.prog 31 #[.string ⟨s.toArray⟩,.agg #[.int .i64 u,.int .i64 v]] w fun e w'=>e=.returned (.string ⟨(oZ s (u,v)).toArray⟩)∧Below w.heap.size w w':=by
 have hb:Below w.heap.size w (w.alloc (.cells #[.int .i64 u,.int .i64 v] 67)):=(Below.refl _ _).alloc (Dv _) _;obtain⟨m,hm⟩:∃m,oZ s (u,v)=m:=⟨_,rfl⟩;rw [hm];have HM:=ab hm;have HB:=ab hb;clear hm hb;rcases h with⟨rfl,rfl⟩|⟨a,b,hab,hbl,rfl,rfl⟩
 ·go_enter Tryz.func31,Tryz.ntmps31
  go_wp2
  go_ret
  exact⟨by rw [←HM.out];rfl,HB.out⟩
 ·have ha:¬(a:Int)<0:=fR
  go_enter Tryz.func31,Tryz.ntmps31
  go_wp2
  go_ret
  refine⟨?_,HB.out⟩;rw [←HM.out];unfold oZ l6;rw [Du (show ¬(a:Int)<0 by omega)];simp
def Spans (C:Rc) (ps:List (Int × Int)):Prop:=∀v∈ps,v=(-1,-1)∨∃a b:Nat,a≤b∧b≤C.cs.length∧v=((C.offs.getD a 0:Int),(C.offs.getD b 0:Int))
theorem zb (fold:Bool) (s:Str):(rcM fold s).offs.length=(jL s).length+1:=mt _ _
theorem one_in (C:Rc) (x:Rx) {k:Nat} (hk:k≤C.cs.length) (st:Rst) {e:Nat} {ps:List (Int × Int)} (h:(oneM C x k st).1=some (e,ps)):k≤e∧e≤C.cs.length∧Spans C ps:=by
 have hi:Inv C x.groups st.fuel (fun en=>en=-1∨∃e:Nat,en=(e:Int)∧k≤e∧e≤C.cs.length) (tryM C x 0 k (fun e s=>(true,{ s with en:=(e:Int) })) { st with ps:=List.replicate x.groups (-1,-1),en:=-1 }).2 :=
  rB x 0 k _ _ fR hk (fun e s h1 h2 h3=>⟨h3.len,h3.sp,.inr ⟨e,rfl,h1,h2⟩,h3.fu⟩) ⟨by simp,fun v hv=>.inl (List.mem_replicate.1 hv).2,.inl rfl,Dv _⟩
 unfold oneM at h;simp only at h
 split at h
 ·cases h
 ·rename_i hn
  injection h with h
  injection h with h1 h2
  rcases hi.en with h3|⟨e',h3,h4,h5⟩
  ·exact absurd (.inl (by rw [h3];decide)) hn
  ·rw [h3] at h1
   simp at h1
   subst h1;subst h2;exact⟨h4,h5,hi.sp⟩
theorem xm (C:Rc) (x:Rx) (hC:C.offs.length=C.cs.length+1):∀(N k:Nat) (st:Rst) {a b:Nat} {ps:List (Int × Int)},(od C x N k st).1=some (a,b,ps)→k≤a∧a≤b∧b≤C.cs.length∧Spans C ps
 | 0,_,_,_,_,_,h=>by simp [od] at h
 | N+1,k,st,a,b,ps,h=>by
  unfold od at h;by_cases h1:k<C.offs.length∧st.out=false
  ·rw [Dr h1] at h
   simp only at h
   cases hc:(oneM C x k st).1 with
   | none =>
    rw [hc] at h;obtain⟨h5,h6⟩:=xm C x hC N (k+1) _ h;exact⟨by omega,h6⟩
   | some q =>
    obtain⟨e,qs⟩:=q;rw [hc] at h;injection h with h
    injection h with h2 h3
    injection h3 with h3 h4
    subst h2;subst h3;subst h4;obtain⟨h5,h6⟩:=one_in C x fR st hc;exact⟨Dv _,h5,h6⟩
  ·rw [Du h1] at h;cases h
def Chain (C:Rc):Nat→List Mt→Prop
 | _,[]=>True
 | k,m::r=>k≤m.1∧m.1≤m.2.1∧m.2.1≤C.cs.length∧Spans C m.2.2∧Chain C (if m.1=m.2.1 then m.2.1+1 else m.2.1) r
theorem wi (C:Rc) (x:Rx) (hC:C.offs.length=C.cs.length+1):∀(N k:Nat) (st:Rst),Chain C k (allM C x N k st).1
 | 0,_,_=>by simp [allM,Chain]
 | N+1,k,st=>by
  unfold allM;by_cases h1:k<C.offs.length
  ·rw [Dr h1]
   simp only
   cases hc:(od C x (C.offs.length+1) k st).1 with
   | none=>simp [Chain]
   | some q =>
    obtain⟨a,b,ps⟩:=q;have h2:=xm C x hC _ _ _ hc;simp only
    split
    ·simp [Chain]
    ·exact⟨h2.1,h2.2.1,h2.2.2.1,h2.2.2.2,wi C x hC N _ _⟩
  ·rw [Du h1];simp [Chain]
theorem rq (x:Rx) (fold all:Bool) (s:Str) (z:Int):Chain (rcM fold s) 0 (mq x fold all s z).1:=by
 unfold mq;cases all with
 | true=>rw [Dr rfl];exact wi (rcM fold s) x (zb fold s) _ _ _
 | false =>
  rw [Du fU];cases hc:(od (rcM fold s) x ((rcM fold s).offs.length+1) 0 (o4 x.groups z)).1 with
  | none=>simp [Chain]
  | some q =>
   obtain⟨a,b,ps⟩:=q;have h2:=xm (rcM fold s) x (zb fold s) _ _ _ hc;exact⟨h2.1,h2.2.1,h2.2.2.1,h2.2.2.2,trivial⟩
theorem Chain.at_ {C:Rc}:∀{ms:List Mt} {j k:Nat} {m:Mt},Chain C j ms→ms[k]?=some m→j≤m.1∧m.1≤m.2.1∧m.2.1≤C.cs.length∧Spans C m.2.2∧∀m',ms[k+1]?=some m'→m.2.1≤m'.1
 | [],_,_,_,_,h=>by simp at h
 | q::r,j,0,m,hc,h=>by
  simp at h;subst h
  obtain⟨h1,h2,h3,h4,h5⟩:=hc;refine⟨h1,h2,h3,h4,fun m' h6=>?_⟩;cases r with
  | nil=>simp at h6
  | cons q' r =>
   simp at h6;subst h6
   have:=h5.1
   split at this<;>omega
 | q::r,j,k+1,m,hc,h=>by
  obtain⟨h1,h2,h3,h4,h5⟩:=hc;obtain⟨h6,h7⟩:=h5.at_ (k:=k) gT;refine⟨?_,h7.1,h7.2.1,h7.2.2.1,fun m' hm'=>h7.2.2.2 m' (by simpa using hm')⟩;split at h6<;>omega
theorem Chain.len {C:Rc}:∀{ms:List Mt} {j:Nat},Chain C j ms→ms≠[]→ms.length+j≤C.cs.length+1
 | [],_,_,h=>absurd rfl h
 | [m],j,hc,_=>by
  obtain⟨h1,h2,h3,_⟩:=hc;simp only [Dx,DP];omega
 | m::q::r,j,hc,_=>by
  obtain⟨h1,h2,h3,_,h5⟩:=hc;have h6:=h5.len fX;simp only [Dx] at h6 ⊢;split at h6<;>omega
theorem si {s:Str} {a b:Nat} (h:a≤b) (hb:b≤(jL s).length):(mQ (jL s) 0).getD a 0≤(mQ (jL s) 0).getD b 0:=by
 rw [mK _ a fR,mK _ b hb];exact ow _ h
theorem Spans.took {fold:Bool} {s:Str} {ps:List (Int × Int)} (h:Spans (rcM fold s) ps) {v:Int × Int} (hv:v∈ps):(v.1=-1∧v.2=-1)∨∃a b:Nat,a≤b∧b≤s.length∧v.1=a∧v.2=b:=by
 rcases h v hv with h|⟨a,b,h1,h2,h3⟩
 ·exact .inl ⟨by rw [h],by rw [h]⟩
 ·exact .inr ⟨_,_,si h1 h2,uv s h2,by rw [h3];rfl,by rw [h3];rfl⟩
theorem zG (s:Str) (a b:Nat):(l6 s a b).length≤s.length:=by
 unfold l6;rw [DT,D3];omega
theorem C0 (s:Str) (offs:List Nat) (m:Mt):∀p∈pY s offs m,p.length≤s.length:=by
 intro p hp;unfold pY at hp;rcases DF.1 hp with rfl|hp
 ·exact zG _ _ _
 ·obtain⟨v,_,rfl⟩:=List.mem_map.1 hp
  unfold oZ;split
  ·simp
  ·exact zG _ _ _
def ApRel (fs:List Fm) (ps:List Str) (g m:Nat) (_w0 w:World) (R:Str) (q:Value) (wr:World):Prop :=
 ∃(k:Nat) (acc:Str),k≤fs.length∧q=.int .i64 k∧Bld w.heap.size g acc wr∧Below w.heap.size w wr∧Hid (acc.length≤k*m)∧Hid (acc++(fs.drop k).flatMap (mv ps)=R)
theorem CZ (a a':Option Addr) (c n' c' m:Nat) (fs:List Fm) (ps:List Str) (w:World) (h:Sl w w.heap.size a 5 fs.length (kT fs)) (h':Sl w w.heap.size a' 1 n' (kS ps))
  (hf:∀f∈fs,f.thn.length≤m∧f.els.length≤m) (hp:∀p∈ps,p.length≤m) (hm:m≤10000) (hn:fs.length≤1000) (_hn':n'≤1000000) :
  Calls Tryz.prog 32 #[.slice a fs.length c,.slice a' n' c'] w fun e w'=>e=.returned (.string ⟨(qF fs ps).toArray⟩)∧Below w.heap.size w w':=by
 have HSl:=ab h;have HSp:=ab h';have Hn':=ab h'.str_len;by_cases hmay:oW fs=true
 ·have HA:Hid (qF fs ps=fs.flatMap (mv ps)):=ab (Dr hmay)
  rw [HA.out];obtain⟨R,hR⟩:∃R,R=fs.flatMap (mv ps):=⟨_,rfl⟩;rw [←hR];have HR:=ab hR;have HF:=ab hf;have HP:=ab hp;have HM:=ab (pR _ _ hmay);clear hR hf hp h h';go_enter Tryz.func32,Tryz.ntmps32
  go_wp2_with (go_at_call 21;refine(tS _ _ _ fs _ HSl.out fR).mono ?_;rintro e w0 ⟨rfl,hb0⟩)
  have hB0:=hb0.size;go_loopw [14] (fun q wr=>ApRel fs ps w0.heap.size m w0 w R q wr) (fun q _=>fs.length-(intOf q).toNat)
  case atStart=>exact dW
  case round =>
   obtain⟨k,acc,hk,rfl,hbl,hb,HL,HRR⟩:=hrel;clear HR;have hB:=hb.size;have hacc:acc.length≤10000000:=Dz HL.out (Nat.mul_le_mul (show k≤1000 by omega) hm);cases hd:fs.drop k with
   | nil =>
    have h2:fs.length≤k:=gm;have HR:Hid (R=acc):=ab (by rw [←HRR.out,hd];simp);clear hd HRR;go_wp2_with (go_at_call 25;refine(nw _ _ _ _ hbl hB).mono ?_;rintro e w1 ⟨rfl,hb1⟩)
    go_ret
    exact⟨kQ HR.out.symm,hb.trans hb1⟩
   | cons f r =>
    obtain⟨h2,h3,hr⟩:=jO hd;have HR:Hid (R=acc++(mv ps f++r.flatMap (mv ps))):=ab (by rw [←HRR.out,hd];rfl);have Hr:=ab hr;have hmem:=DL h3;have hmf:=HM.out f hmem;obtain⟨b,o,rfl,hbB,c0,c1,c2,c3,c4⟩:=(HSl.out.keep hb).fm h3;obtain⟨z1,z2⟩:=HF.out f hmem;have HPL:=ab (wc HP.out z1 z2);obtain⟨n0,n1⟩:=yi hmf;have hkind:=sk hmf;clear hd HRR hr h3 hmem hmf;obtain⟨kind,fn,cse,thn,els⟩:=f;replace z1:thn.length≤m:=z1;replace z2:els.length≤m:=z2;obtain⟨fn,rfl⟩:=Int.eq_ofNat_of_zero_le n0;by_cases hlt:fn<ps.length
    ·obtain⟨p,hp⟩:∃p,ps[fn]?=some p:=⟨_,Dt hlt⟩
     have HPO:Hid (nY ps (fn:Int)=p):=ab (by simp [nY,List.getD_eq_getElem?_getD,hp]);have hpl:=HP.out p (DL hp);obtain⟨b',o',ha',hbb,p0⟩:=(HSp.out.keep hb).str hp;have hbb':b'<wr.heap.size:=fR;subst ha';have hlt':fn<n':=by have:=Hn'.out;omega
     clear hp hlt;rcases hkind with hkind|hkind|hkind|hkind|hkind|hkind
     ·exact fw
     ·simp only at hkind;subst hkind
      have HPV:Hid (mv ps ⟨1,(fn:Int),cse,thn,els⟩=p):=ab ig;exact bw
     ·simp only at hkind;subst hkind
      have htl:=pj (p) cse;have HPV:Hid (mv ps ⟨2,(fn:Int),cse,thn,els⟩=(turn (p) cse).1):=ab ig;go_wp2_with (first|(go_at_call 60;refine(zo _ _ _ gY).mono ?_;rintro e w1 ⟨rfl,hb1⟩;have hz1:=hb1.size;simp only [D0] at hz1)|(go_at_call 35;refine(jU w.heap.size _ acc _ _ ((hbl.alloc _).below hb1) fR gY fR).mono ?_;rintro e w2 ⟨rfl,hbl2,hfr2⟩))
      go_roundw
      case rel =>
       refine⟨k+1,acc++(turn (p) cse).1,by omega,by go_num,hbl2,?_,ab ?_,ab ?_⟩
       ·exact dP
       ·exact eN
       ·exact eZ
      case measure=>simp [intOf];omega
     ·simp only at hkind;subst hkind
      by_cases hp0:p=[]
      ·have HPV:Hid (mv ps ⟨3,(fn:Int),cse,thn,els⟩=els):=ab gM
       exact fp
      ·have HPV:Hid (mv ps ⟨3,(fn:Int),cse,thn,els⟩=thn):=ab gM
       exact fI
     ·simp only at hkind;subst hkind
      by_cases hp0:p=[]
      ·have HPV:Hid (mv ps ⟨4,(fn:Int),cse,thn,els⟩=els):=ab gM
       exact fp
      ·have HPV:Hid (mv ps ⟨4,(fn:Int),cse,thn,els⟩=p):=ab gM
       have he:List.isEmpty (p)=false:=by simpa using hp0
       have HP0:=ab hp0;clear hp0;exact bw
     ·simp only at hkind;subst hkind
      by_cases hp0:p=[]
      ·have HPV:Hid (mv ps ⟨5,(fn:Int),cse,thn,els⟩=els):=ab gM
       exact fp
      ·have HPV:Hid (mv ps ⟨5,(fn:Int),cse,thn,els⟩=thn):=ab gM
       exact fI
    ·have HPO:Hid (nY ps (fn:Int)=[]):=ab (by simp [nY,List.getD_eq_getElem?_getD,List.getElem?_eq_none (by omega:ps.length≤fn)])
     have hlt':n'≤fn:=by have:=Hn'.out;omega
     have hpl:([]:Str).length≤m:=fX;clear hlt;rcases hkind with hkind|hkind|hkind|hkind|hkind|hkind
     ·exact fw
     ·simp only at hkind;subst hkind
      have HPV:Hid (mv ps ⟨1,(fn:Int),cse,thn,els⟩=([]:Str)):=ab ig;go_wp2_with (go_at_call 35;refine(jU w.heap.size _ acc _ _ gU fR gY jf).mono ?_;rintro e w2 ⟨rfl,hbl2,hfr2⟩)
      go_roundw
      case rel =>
       refine⟨k+1,acc++([]:Str),by omega,by go_num,hbl2,?_,ab ?_,ab ?_⟩
       ·exact eX
       ·exact eN
       ·exact eZ
      case measure=>simp [intOf];omega
     ·simp only at hkind;subst hkind
      have htl:=pj (([]:Str)) cse;have HPV:Hid (mv ps ⟨2,(fn:Int),cse,thn,els⟩=(turn (([]:Str)) cse).1):=ab ig;go_wp2_with (first|(go_at_call 60;refine(zo _ _ _ gY).mono ?_;rintro e w1 ⟨rfl,hb1⟩;have hz1:=hb1.size;simp only [D0] at hz1)|(go_at_call 35;refine(jU w.heap.size _ acc _ _ ((hbl.alloc _).below hb1) fR gY fR).mono ?_;rintro e w2 ⟨rfl,hbl2,hfr2⟩))
      go_roundw
      case rel =>
       refine⟨k+1,acc++(turn (([]:Str)) cse).1,by omega,by go_num,hbl2,?_,ab ?_,ab ?_⟩
       ·exact dP
       ·exact eN
       ·exact eZ
      case measure=>simp [intOf];omega
     ·simp only at hkind;subst hkind
      have HPV:Hid (mv ps ⟨3,(fn:Int),cse,thn,els⟩=els):=ab i6;exact ay
     ·simp only at hkind;subst hkind
      have HPV:Hid (mv ps ⟨4,(fn:Int),cse,thn,els⟩=els):=ab i6;exact ay
     ·simp only at hkind;subst hkind
      have HPV:Hid (mv ps ⟨5,(fn:Int),cse,thn,els⟩=els):=ab i6;exact ay
 ·have HA:Hid (qF fs ps=[]):=ab (Du hmay)
  rw [HA.out];have hm':oW fs=false:=by simpa using hmay
  clear hmay;go_enter Tryz.func32,Tryz.ntmps32
  go_wp2_with (go_at_call 21;refine(tS _ _ _ fs _ HSl.out fR).mono ?_;rintro e w0 ⟨rfl,hb0⟩)
  go_ret
  exact⟨rfl,hb0⟩
end Go.Proofs.YtjggmmaojklmpaaGreatDoor
