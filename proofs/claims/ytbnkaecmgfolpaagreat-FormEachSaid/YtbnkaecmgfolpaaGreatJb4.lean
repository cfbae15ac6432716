/- rxrun's parts in memory: a tree whose groups are numbered. -/
import Derived.Test.YtbnkaecmgfolpaaGreatJb3
import Derived.Shelf.Abstract
set_option maxRecDepth 100000
set_option maxHeartbeats 4000000
namespace Go.Proofs.YtbnkaecmgfolpaaGreat
open Go.RowKit
def ptc (k:Int) (c:Str) (ng:Bool) (ra:Option Addr) (rn rc:Nat) (lo hi:Int) (lz:Bool) (ka:Option Addr) (kn kc:Nat) (pa:Option Addr) (pn pc:Nat) (g h:Nat):List Value :=
 [.int .i64 k,.string ⟨c.toArray⟩,.bool ng,.slice ra rn rc,.int .i64 lo,.int .i64 hi,.bool lz,.slice ka kn kc,.slice pa pn pc,.int .i64 (g:Int),.int .i64 (h:Int)]
def own5 (k:Int):Nat:=if k=5 then 1 else 0
mutual
inductive PtV (w:World) (S:Nat→Prop):List Value→Rx→Nat→Prop
 | mk {k:Int} {c:Str} {ng:Bool} {rs:List (Str × Str)} {lo hi:Int} {lz:Bool} {ks:List Rx} {ra ka pa:Option Addr} {rc kn kc pc g:Nat} {css:List (List Value)} :
   SlS w S ra 2 rs.length (gR rs)→SlS w S pa 11 ks.length css.flatten→ks.length≤pc→PtVs w S css ks (g+own5 k) →
   PtV w S (ptc k c ng ra rs.length rc lo hi lz ka kn kc pa ks.length pc g (g+own5 k+Rx.groupsL ks)) (.mk k c ng rs lo hi lz ks) g
inductive PtVs (w:World) (S:Nat→Prop):List (List Value)→List Rx→Nat→Prop
 | nil {g:Nat}:PtVs w S [] [] g
 | cons {c:List Value} {x:Rx} {cs:List (List Value)} {xs:List Rx} {g:Nat}:PtV w S c x g→PtVs w S cs xs (g+x.groups)→PtVs w S (c::cs) (x::xs) g
end
mutual
theorem PtV.keep {w w':World} {S:Nat→Prop} (hk:Kept S w w'):∀{c:List Value} {x:Rx} {g:Nat},PtV w S c x g→PtV w' S c x g
 | _,_,_,.mk h1 h2 hc h3=>.mk (h1.keep hk) (h2.keep hk) hc (PtVs.keep hk h3)
theorem PtVs.keep {w w':World} {S:Nat→Prop} (hk:Kept S w w'):∀{cs:List (List Value)} {xs:List Rx} {g:Nat},PtVs w S cs xs g→PtVs w' S cs xs g
 | _,_,_,.nil=>.nil
 | _,_,_,.cons h1 h2=>.cons (PtV.keep hk h1) (PtVs.keep hk h2)
end
mutual
theorem PtV.mono {w:World} {S S':Nat→Prop} (hS:∀b,S b→b<w.heap.size→S' b):∀{c:List Value} {x:Rx} {g:Nat},PtV w S c x g→PtV w S' c x g
 | _,_,_,.mk h1 h2 hc h3=>.mk (h1.mono hS) (h2.mono hS) hc (PtVs.mono hS h3)
theorem PtVs.mono {w:World} {S S':Nat→Prop} (hS:∀b,S b→b<w.heap.size→S' b):∀{cs:List (List Value)} {xs:List Rx} {g:Nat},PtVs w S cs xs g→PtVs w S' cs xs g
 | _,_,_,.nil=>.nil
 | _,_,_,.cons h1 h2=>.cons (PtV.mono hS h1) (PtVs.mono hS h2)
end
theorem PtV.later {w w':World} {S:Nat→Prop} {c:List Value} {x:Rx} {g:Nat} (h:PtV w S c x g) (hb:Below w.heap.size w w'):PtV w' S c x g:=h.keep (Kept.all hb)
theorem PtV.len {w:World} {S:Nat→Prop} {c:List Value} {x:Rx} {g:Nat} (h:PtV w S c x g):c.length=11:=by cases h;rfl
theorem PtV.one {w:World} {S:Nat→Prop} {c:List Value} {x:Rx} {g:Nat} (h:PtV w S c x g):∀u∈c,u.oneCell'=true:=by
 cases h;intro u hu;simp only [ptc,xo,xC,or_false] at hu
 rcases hu with rfl|rfl|rfl|rfl|rfl|rfl|rfl|rfl|rfl|rfl|rfl<;>rfl
theorem PtVs.length {w:World} {S:Nat→Prop}:∀{cs:List (List Value)} {xs:List Rx} {g:Nat},PtVs w S cs xs g→cs.length=xs.length
 | _,_,_,.nil=>rfl
 | _,_,_,.cons _ h=>by simp [h.length]
theorem PtVs.elevens {w:World} {S:Nat→Prop}:∀{cs:List (List Value)} {xs:List Rx} {g:Nat},PtVs w S cs xs g→∀c∈cs,c.length=11
 | _,_,_,.nil,c,hc=>by simp at hc
 | _,_,_,.cons h1 h2,c,hc=>by
  rcases xo.1 hc with rfl|hc
  ·exact h1.len
  ·exact h2.elevens c hc
theorem PtVs.snoc {w:World} {S:Nat→Prop} {c:List Value} {x:Rx}:∀{cs:List (List Value)} {xs:List Rx} {g:Nat},PtVs w S cs xs g→PtV w S c x (g+Rx.groupsL xs)→PtVs w S (cs++[c]) (xs++[x]) g
 | _,_,_,.nil,h=>.cons (by simpa [Rx.groupsL] using h) .nil
 | _,_,_,.cons h1 h2,h=>.cons h1 (h2.snoc (by simpa [Rx.groupsL,xP] using h))
def PtSl (w:World) (S:Nat→Prop) (a:Option Addr) (n:Nat) (xs:List Rx) (g:Nat):Prop:=∃css,SlS w S a 11 n css.flatten∧PtVs w S css xs g
theorem PtSl.keep {w w':World} {S:Nat→Prop} {a:Option Addr} {n:Nat} {xs:List Rx} {g:Nat} (h:PtSl w S a n xs g) (hk:Kept S w w'):PtSl w' S a n xs g:=by
 obtain⟨css,h1,h2⟩:=h;exact⟨css,h1.keep hk,h2.keep hk⟩
theorem PtSl.later {w w':World} {S:Nat→Prop} {a:Option Addr} {n:Nat} {xs:List Rx} {g:Nat} (h:PtSl w S a n xs g) (hb:Below w.heap.size w w'):PtSl w' S a n xs g:=h.keep (Kept.all hb)
theorem PtSl.head {w:World} {S:Nat→Prop} {a:Option Addr} {n:Nat} {x:Rx} {xs:List Rx} {g:Nat} (h:PtSl w S a (n+1) (x::xs) g) :
  ∃b o c,a=some ⟨b,o,none⟩∧S b∧b<w.heap.size∧PtV w S c x g∧(∀(j:Nat) (u:Value),c[j]?=some u→w.cell? ⟨b,o+j,none⟩=some u)∧PtSl w S (some ⟨b,o+11,none⟩) n xs (g+x.groups):=by
 obtain⟨css,h1,h2⟩:=h;cases h2 with
 | @cons c _ cs _ _ hv hvs =>
  obtain⟨b,o,e1,e2,e3,e4⟩:=h1.2 eu;have hl:=hv.len;have hlen:=h1.1;rw [List.flatten_cons,xm,hl] at hlen;refine⟨b,o,c,e1,e2,e3,hv,fun j u hj=>e4 j u ?_,cs,⟨by omega,fun _=>⟨b,o+11,rfl,e2,e3,fun j u hj=>?_⟩⟩,hvs⟩
  ·rw [List.flatten_cons,xp (wZ.1 hj).1];exact hj
  ·have:=e4 (11+j) u (by rw [List.flatten_cons,xx eu,hl];simpa using hj)
   rw [show o+11+j=o+(11+j) by omega];exact this
theorem PtSl.len {w:World} {S:Nat→Prop} {a:Option Addr} {n:Nat} {xs:List Rx} {g:Nat} (h:PtSl w S a n xs g):n=xs.length:=by
 obtain⟨css,h1,h2⟩:=h;have h4:∀{cs:List (List Value)},(∀c∈cs,c.length=11)→cs.flatten.length=cs.length*11:=by
  intro cs;induction cs with
  | nil=>intro _;rfl
  | cons c cs ih=>exact cE
 have h3:=h1.1;rw [h4 h2.elevens,h2.length] at h3;omega
theorem PtSl.nil (w:World) (S:Nat→Prop) (a:Option Addr) (g:Nat):PtSl w S a 0 [] g:=⟨[],SlS.none_ _ _ _ _,.nil⟩
theorem PtSl.at_ {w:World} {S:Nat→Prop} {a:Option Addr} {n:Nat}:∀{xs:List Rx} {g k:Nat} {x:Rx},PtSl w S a n xs g→xs[k]?=some x →
  ∃b o c,a=some ⟨b,o,none⟩∧S b∧b<w.heap.size∧PtV w S c x (g+Rx.groupsL (xs.take k))∧∀(j:Nat) (u:Value),c[j]?=some u→w.cell? ⟨b,o+(k*11+j),none⟩=some u:=by
 intro xs g k x hps hk;have hn:=hps.len;obtain⟨css,h1,h2⟩:=hps;have hat:∀{cs:List (List Value)} {xs:List Rx} {g k:Nat} {x:Rx},PtVs w S cs xs g→xs[k]?=some x→∃c,cs[k]?=some c∧PtV w S c x (g+Rx.groupsL (xs.take k)):=by
  intro cs xs;induction xs generalizing cs with
  | nil=>intro g k x _ h;simp at h
  | cons y r ih =>
   intro g k x hv h;cases hv with
   | @cons c _ cs _ _ hv hvs =>
    cases k with
    | zero=>simp at h;subst h;exact⟨c,rfl,by simpa [Rx.groupsL] using hv⟩
    | succ k =>
     obtain⟨c',e1,e2⟩:=ih hvs eV;exact⟨c',by simpa using e1,by simpa [Rx.groupsL,xP] using e2⟩
 obtain⟨c,hc,hv⟩:=hat h2 hk;have hlt:=(wZ.1 hk).1;obtain⟨b,o,e1,e2,e3,e4⟩:=h1.2 eu;exact⟨b,o,c,e1,e2,e3,hv,fun j u hj=>e4 _ u (mK h2.elevens hc hj)⟩
theorem PtV.open_ {w:World} {S:Nat→Prop} {cc:List Value} {k:Int} {c:Str} {ng:Bool} {rs:List (Str × Str)} {lo hi:Int} {lz:Bool} {ks:List Rx} {g:Nat} (h:PtV w S cc (.mk k c ng rs lo hi lz ks) g) :
  ∃ra rc ka kn kc pa pc,cc=ptc k c ng ra rs.length rc lo hi lz ka kn kc pa ks.length pc g (g+own5 k+Rx.groupsL ks)∧SlS w S ra 2 rs.length (gR rs)∧PtSl w S pa ks.length ks (g+own5 k)∧ks.length≤pc:=by
 cases h with
 | mk h1 h2 hc h3=>exact⟨_,_,_,_,_,_,_,rfl,h1,⟨_,h2,h3⟩,hc⟩
def gV (ps:List (Int × Int)):List Value:=ps.flatMap fun p=>[.int .i64 p.1,.int .i64 p.2]
theorem ik (ps:List (Int × Int)):(gV ps).length=ps.length*2:=by
 induction ps with
 | nil=>rfl
 | cons r rs ih=>simp only [gV,xj,xm] at *;rw [ih];simp;omega
theorem iR (a b:List (Int × Int)):gV (a++b)=gV a++gV b:=by simp [gV]
theorem l5 {ps:List (Int × Int)} {k:Nat} {p:Int × Int} (h:ps[k]?=some p):(gV ps)[k*2]?=some (.int .i64 p.1)∧(gV ps)[k*2+1]?=some (.int .i64 p.2):=by
 induction ps generalizing k with
 | nil=>simp at h
 | cons g rs ih =>
  cases k with
  | zero=>simp at h;subst h;simp [gV]
  | succ k =>
   simp only [List.getElem?_cons_succ] at h;obtain⟨h1,h2⟩:=ih h;simp only [gV,xj] at h1 h2 ⊢;exact bx
theorem mV:∀(ps:List (Int × Int)) (k:Nat) (v:Int × Int),k<ps.length→((gV ps).set (k*2) (.int .i64 v.1)).set (k*2+1) (.int .i64 v.2)=gV (ps.set k v)
 | [],_,_,h=>by simp at h
 | p::ps,0,v,_=>by simp [gV]
 | p::ps,k+1,v,h=>by
  have ih:=mV ps k v eV;simp only [gV,xj,List.set_cons_succ] at ih ⊢;rw [show (k+1)*2=k*2+2 by omega,show k*2+2+1=k*2+1+2 by omega];simp only [xQ,xO,List.set_cons_succ];rw [ih]
def kT (l:List Nat):List Value:=l.map fun(n:Nat)=>.int .i64 (n:Int)
theorem qJ {l:List Nat} {k:Nat} (h:k<l.length):(kT l)[k]?=some (.int .i64 ((l.getD k 0:Nat):Int)):=by
 rw [List.getD_eq_getElem?_getD];simp [kT,h]
theorem gZ {w:World} {b o:Nat} {k:Int} {c:Str} {ng:Bool} {ra:Option Addr} {rn rc:Nat} {lo hi:Int} {lz:Bool} {ka:Option Addr} {kn kc:Nat} {pa:Option Addr} {pn pc g h:Nat}
  (hc:∀(j:Nat) (u:Value),(ptc k c ng ra rn rc lo hi lz ka kn kc pa pn pc g h)[j]?=some u→w.cell? ⟨b,o+j,none⟩=some u) :
  w.cell? ⟨b,o,none⟩=some (.int .i64 k)∧w.cell? ⟨b,o+1,none⟩=some (.string ⟨c.toArray⟩)∧w.cell? ⟨b,o+2,none⟩=some (.bool ng)∧w.cell? ⟨b,o+3,none⟩=some (.slice ra rn rc)∧w.cell? ⟨b,o+4,none⟩=some (.int .i64 lo) ∧
  w.cell? ⟨b,o+5,none⟩=some (.int .i64 hi)∧w.cell? ⟨b,o+6,none⟩=some (.bool lz)∧w.cell? ⟨b,o+7,none⟩=some (.slice ka kn kc)∧w.cell? ⟨b,o+8,none⟩=some (.slice pa pn pc)∧w.cell? ⟨b,o+9,none⟩=some (.int .i64 (g:Int))∧w.cell? ⟨b,o+10,none⟩=some (.int .i64 (h:Int)) :=
 ⟨hc 0 _ rfl,hc 1 _ rfl,hc 2 _ rfl,hc 3 _ rfl,hc 4 _ rfl,hc 5 _ rfl,hc 6 _ rfl,hc 7 _ rfl,hc 8 _ rfl,hc 9 _ rfl,hc 10 _ rfl⟩
theorem lh:∀(ks:List Rx) (i:Nat) (x:Rx),ks[i]?=some x→Rx.groupsL (ks.take (i+1))=Rx.groupsL (ks.take i)+x.groups∧Rx.groupsL (ks.take i)+x.groups≤Rx.groupsL ks
 | [],i,x,h=>by simp at h
 | y::r,0,x,h=>by simp at h;subst h;simp [Rx.groupsL]
 | y::r,i+1,x,h=>by
  obtain⟨h1,h2⟩:=lh r i x eV;simp only [List.take_succ_cons,Rx.groupsL] at *;rw [h1];exact⟨by omega,by omega⟩
structure Inv (C:Rc) (n:Nat) (F:Nat) (E:Int→Prop) (st:Rst):Prop where
 len:st.ps.length=n
 sp:∀v∈st.ps,v=(-1,-1)∨∃a b:Nat,a≤b∧b≤C.cs.length∧v=((C.offs.getD a 0:Int),(C.offs.getD b 0:Int))
 en:E st.en
 fu:st.fuel≤F
section
variable {C:Rc} {n F:Nat} {E:Int→Prop}
def KOk (C:Rc) (n F:Nat) (E:Int→Prop) (k:Nat) (f:Rk):Prop:=∀e st,k≤e→e≤C.cs.length→Inv C n F E st→Inv C n F E (f e st).2
theorem KOk.le {k k':Nat} {f:Rk} (h:KOk C n F E k f) (hk:k≤k'):KOk C n F E k' f:=fun e st h1 h2 h3=>h e st eu h2 h3
theorem rO {P:Rst→Prop} {a:Bool × Rst} {h:Rst→Bool × Rst} (ha:P a.2) (hh:∀s,P s→P (h s).2):P (orE a h).2:=by
 unfold orE;split
 ·exact ha
 ·exact hh _ ha
theorem Inv.burn {st:Rst} (h:Inv C n F E st):Inv C n F E (iC st):=⟨h.len,h.sp,h.en,by have:=h.fu;simp only [iC];omega⟩
theorem Inv.none {st:Rst} (h:Inv C n F E st) {lo hi:Nat} (h1:lo≤hi) (h2:hi≤n):Inv C n F E { st with ps:=iJ st.ps lo hi }:=by
 refine⟨?_,fun v hv=>?_,h.en,h.fu⟩
 ·have:=h.len;simp only [iJ,xm,xF,List.length_replicate,xN];omega
 ·simp only [iJ,xD,List.mem_replicate] at hv
  rcases hv with(hv|hv)|hv
  ·exact h.sp v (List.mem_of_mem_take hv)
  ·exact .inl hv.2
  ·exact h.sp v (List.mem_of_mem_drop hv)
theorem Inv.back {st s0:Rst} (h:Inv C n F E st) (h0:Inv C n F E s0) {lo hi:Nat} (h1:lo≤hi) (h2:hi≤n):Inv C n F E { st with ps:=lP st.ps s0.ps lo hi }:=by
 refine⟨?_,fun v hv=>?_,h.en,h.fu⟩
 ·have:=h.len;have:=h0.len;simp only [lP,xm,xF,xN];omega
 ·simp only [lP,xD] at hv
  rcases hv with(hv|hv)|hv
  ·exact h.sp v (List.mem_of_mem_take hv)
  ·exact h0.sp v (List.mem_of_mem_take (List.mem_of_mem_drop hv))
  ·exact h.sp v (List.mem_of_mem_drop hv)
theorem Inv.set {st:Rst} (h:Inv C n F E st) (g:Nat) {v:Int × Int} (hv:v=(-1,-1)∨∃a b:Nat,a≤b∧b≤C.cs.length∧v=((C.offs.getD a 0:Int),(C.offs.getD b 0:Int))):Inv C n F E { st with ps:=oi st.ps g v }:=by
 refine⟨by simpa [oi] using h.len,fun u hu=>?_,h.en,h.fu⟩;rcases List.mem_or_eq_of_mem_set hu with hu|rfl
 ·exact h.sp u hu
 ·exact hv
theorem Inv.was {st:Rst} (h:Inv C n F E st) (g:Nat):st.ps.getD g (-1,-1)=(-1,-1)∨∃a b:Nat,a≤b∧b≤C.cs.length∧st.ps.getD g (-1,-1)=((C.offs.getD a 0:Int),(C.offs.getD b 0:Int)):=by
 rw [List.getD_eq_getElem?_getD];cases hg:st.ps[g]? with
 | none=>exact .inl rfl
 | some v=>exact h.sp v (xA hg)
theorem grpK_ok {g k:Nat} {f:Rk} (h:KOk C n F E k f):KOk C n F E k (grpK C g k f):=fun e st h1 h2 h3=>by
 have hs:=h3.set g (v:=((C.offs.getD k 0:Int),(C.offs.getD e 0:Int))) (.inr ⟨k,e,h1,h2,rfl⟩);have hr:=h e _ h1 h2 hs;unfold grpK undoR;split
 ·exact hr
 ·exact hr.set g (h3.was g)
theorem qt {tk:Nat→Rk→Rst→Bool × Rst} {mn mx:Int} {lz:Bool} {lo hi:Nat} {f:Rk} (h1:lo≤hi) (h2:hi≤n)
  (htk:∀k f st,k≤C.cs.length→KOk C n F E k f→Inv C n F E st→Inv C n F E (tk k f st).2) :
  ∀(N k times:Nat) (st:Rst),k≤C.cs.length→KOk C n F E k f→Inv C n F E st→Inv C n F E (jz tk mn mx lz lo hi f N k times st).2
 | 0,_,_,_,_,_,h=>h
 | N+1,k,times,st,hk,hf,h=>by
  unfold jz;refine rO (P:=Inv C n F E) ?_ fun s1 i1=>?_
  ·split
   ·exact hf _ _ (wY _) hk h
   ·exact h
  ·refine rO (P:=Inv C n F E) ?_ fun s2 i2=>?_
   ·split
    ·have ht:=htk k (fun e s2=>if k<e∨(times:Int)<mn then jz tk mn mx lz lo hi f N e (times+1) s2 else(false,s2)) { s1 with ps:=iJ s1.ps lo hi } hk (fun e st h3 h4 h5=>by
      dsimp only
      split
      ·exact qt h1 h2 htk N e (times+1) st h4 (hf.le h3) h5
      ·exact h5) (i1.none h1 h2)
     unfold sd;split
     ·exact ht
     ·exact ht.back i1 h1 h2
    ·exact i1
   ·split
    ·exact hf _ _ (wY _) hk i2
    ·exact i2
mutual
theorem ox:∀(x:Rx) (g k:Nat) (f:Rk) (st:Rst),g+x.groups≤n→k≤C.cs.length→KOk C n F E k f→Inv C n F E st→Inv C n F E (tryM C x g k f st).2
 | .mk kd c ng rs lo hi lz ks,g,k,f,st,hg,hk,hf,h=>by
  have hgl:g+Rx.groupsL ks≤n∧(kd=5→g+1+Rx.groupsL ks≤n):=by
   simp only [Rx.groups] at hg;by_cases h5:kd=5
   ·rw [wU h5] at hg;exact⟨by omega,fun _=>by omega⟩
   ·rw [wX h5] at hg;exact⟨by omega,fun e=>absurd e h5⟩
  unfold tryM;split
  ·exact h
  split
  ·exact wC ks g k f st hgl.1 hk hf h
  split
  ·exact wF ks g k f st hgl.1 hk hf h
  split
  ·exact qt eu hgl.1 (fun k f st a b c=>pR ks g k f st hgl.1 a b c) _ _ _ _ hk hf h
  split
  ·exact⟨h.len,h.sp,h.en,h.fu⟩
  split
  ·rename_i h5;exact pR ks (g+1) k _ _ (hgl.2 h5) hk (grpK_ok hf) h.burn
  split
  ·exact pR ks g k f _ hgl.1 hk hf h.burn
  split
  ·split
   ·rename_i hh;exact hf _ _ eu eu h.burn
   ·exact h.burn
  split
  ·exact hf _ _ eu hk h.burn
  ·exact h.burn
theorem pR:∀(ks:List Rx) (g k:Nat) (f:Rk) (st:Rst),g+Rx.groupsL ks≤n→k≤C.cs.length→KOk C n F E k f→Inv C n F E st→Inv C n F E (ji C ks g k f st).2
 | [],_,_,_,_,_,_,_,h=>h
 | x::r,g,k,f,st,hg,hk,hf,h=>by
  simp only [Rx.groupsL] at hg;unfold ji;exact ox x g k f st eu hk hf h
theorem wC:∀(ks:List Rx) (g k:Nat) (f:Rk) (st:Rst),g+Rx.groupsL ks≤n→k≤C.cs.length→KOk C n F E k f→Inv C n F E st→Inv C n F E (seqM C ks g k f st).2
 | [],_,k,f,st,_,hk,hf,h=>hf k st (wY _) hk h
 | x::r,g,k,f,st,hg,hk,hf,h=>by
  simp only [Rx.groupsL] at hg;unfold seqM;exact ox x g k _ st eu hk (fun e s h1 h2 h3=>wC r (g+x.groups) e f s eu h2 (hf.le h1) h3) h
theorem wF:∀(ks:List Rx) (g k:Nat) (f:Rk) (st:Rst),g+Rx.groupsL ks≤n→k≤C.cs.length→KOk C n F E k f→Inv C n F E st→Inv C n F E (altM C ks g k f st).2
 | [],_,_,_,_,_,_,_,h=>h
 | x::r,g,k,f,st,hg,hk,hf,h=>by
  simp only [Rx.groupsL] at hg;unfold altM;exact rO (P:=Inv C n F E) (ox x g k f st eu hk hf h) fun s hs=>wF r (g+x.groups) k f s eu hk hf hs
end
end
structure Rn where
 r:Nat
 t:Nat
 B:Nat
 tp:List Value
 ca:Option Addr
 cc:Nat
 oa:Option Addr
 oc:Nat
 pa:Option Addr
 pc:Nat
 C:Rc
 n:Nat
 S:Nat→Prop
def Rn.pv (R:Rn):Value:=.slice R.pa R.n R.pc
def Rn.X (R:Rn) (k:Nat):Prop:=k=R.r∨k=R.t∨R.pv.ownBlock=some k
def Rn.cells (R:Rn) (st:Rst):List Value :=
 R.tp++[.bool R.C.fold,.slice R.ca R.C.cs.length R.cc,.slice R.oa (R.C.cs.length+1) R.oc,.slice R.pa R.n R.pc,.int .i64 (st.fuel:Int),.bool st.out]
structure RnOk (R:Rn):Prop where
 tp:R.tp.length=11
 one:∀u∈R.tp,u.oneCell'=true
 cs:R.C.cs.length≤1000000
 ch:∀c∈R.C.cs,c.length≤1000000
 of:R.C.offs.length=R.C.cs.length+1
 ov:∀o∈R.C.offs,o≤1000000
 rt:R.r≠R.t
 pr:R.pv.ownBlock≠some R.r
 pt:R.pv.ownBlock≠some R.t
 sr:∀b,R.S b→¬R.X b
 n:R.n≤1000
structure RunI (R:Rn) (w:World) (st:Rst):Prop where
 box:w.heap[R.r]?=some (.cells (R.cells st).toArray 146 (0,0))
 tb:w.heap[R.t]?=some (.cells #[.int .i64 st.en] 3 (0,0))
 ps:w.ownsRow R.B 69 2 R.pv R.n (gV st.ps)
 ch:SlS w R.S R.ca 1 R.C.cs.length (i6 R.C.cs)
 of:SlS w R.S R.oa 1 (R.C.cs.length+1) (kT R.C.offs)
 fu:st.fuel≤20000
abbrev Fx (R:Rn) (w w':World):Prop:=Gx R.X w w'
theorem Fx.kept {R:Rn} (ok:RnOk R) {w w':World} (h:Fx R w w'):Kept R.S w w':=Gx.kept h ok.sr
theorem Fx.trans {R:Rn} {a b c:World} (h:Fx R a b) (k:Fx R b c):Fx R a c:=Gx.to h k (fun _ _ e=>e)
theorem RunI.len {R:Rn} {w:World} {st:Rst} (h:RunI R w st):st.ps.length=R.n:=by have:=h.ps.1;rw [ik] at this;omega
theorem jB {w w':World} {B:Nat} {e:TypeId} {sz n:Nat} {v:Value} {xs:List Value} (h:w.ownsRow B e sz v n xs) (hb:Below w.heap.size w w'):w'.ownsRow B e sz v n xs :=
 mE (X:=fun _=>False) h (Gx.of_below hb) (fun _ _ h=>h)
theorem RunI.later {R:Rn} {w w':World} {st:Rst} (h:RunI R w st) (hb:Below w.heap.size w w'):RunI R w' st :=
 ⟨(hb.block _ (gI h.box)).trans h.box,(hb.block _ (gI h.tb)).trans h.tb,jB h.ps hb,h.ch.keep (Kept.all hb),h.of.keep (Kept.all hb),h.fu⟩
theorem RunI.lt {R:Rn} {w:World} {st:Rst} (h:RunI R w st):∀k,R.X k→k<w.heap.size:=by
 rintro k (rfl|rfl|e)
 ·exact gI h.box
 ·exact gI h.tb
 ·exact(h.ps.lt k e).2
theorem uu {R:Rn} (ok:RnOk R) (st:Rst) (j:Nat):(R.cells st)[11+j]?=[Value.bool R.C.fold,.slice R.ca R.C.cs.length R.cc,.slice R.oa (R.C.cs.length+1) R.oc,.slice R.pa R.n R.pc,.int .i64 (st.fuel:Int),.bool st.out][j]?:=by
 have:=ok.tp
 unfold Rn.cells;rw [xx eu];congr 1;omega
section
variable {R:Rn} {w:World} {st:Rst}
theorem RunI.cell (ok:RnOk R) (h:RunI R w st) (j:Nat) {u:Value} (hj:[Value.bool R.C.fold,.slice R.ca R.C.cs.length R.cc,.slice R.oa (R.C.cs.length+1) R.oc,.slice R.pa R.n R.pc,.int .i64 (st.fuel:Int),.bool st.out][j]?=some u):w.cell? ⟨R.r,11+j,none⟩=some u:=by
 rw [xe h.box];simpa using (uu ok st j).trans hj
theorem RunI.c11 (ok:RnOk R) (h:RunI R w st):w.cell? ⟨R.r,11,none⟩=some (.bool R.C.fold):=h.cell ok 0 rfl
theorem RunI.c12 (ok:RnOk R) (h:RunI R w st):w.cell? ⟨R.r,12,none⟩=some (.slice R.ca R.C.cs.length R.cc):=h.cell ok 1 rfl
theorem RunI.c13 (ok:RnOk R) (h:RunI R w st):w.cell? ⟨R.r,13,none⟩=some (.slice R.oa (R.C.cs.length+1) R.oc):=h.cell ok 2 rfl
theorem RunI.c14 (ok:RnOk R) (h:RunI R w st):w.cell? ⟨R.r,14,none⟩=some (.slice R.pa R.n R.pc):=h.cell ok 3 rfl
theorem RunI.c15 (ok:RnOk R) (h:RunI R w st):w.cell? ⟨R.r,15,none⟩=some (.int .i64 (st.fuel:Int)):=h.cell ok 4 rfl
theorem RunI.c16 (ok:RnOk R) (h:RunI R w st):w.cell? ⟨R.r,16,none⟩=some (.bool st.out):=h.cell ok 5 rfl
theorem RunI.free (h:RunI R w st) (j:Nat):w.frozen? ⟨R.r,j,none⟩=false:=by
 simp only [World.frozen?,h.box];simp
theorem RunI.setR (ok:RnOk R) (h:RunI R w st) {st':Rst} {j:Nat} {u:Value} (hc:(R.cells st).set j u=R.cells st') (e1:st'.ps=st.ps) (e2:st'.en=st.en) (e3:st'.fuel≤st.fuel):RunI R (w.setCell ⟨R.r,j,none⟩ u) st':=by
 have hk:Kept R.S w (w.setCell ⟨R.r,j,none⟩ u):=⟨by simp [World.setCell],fun b hb _=>heap_setCell_other w _ b u (fun e=>ok.sr b hb (.inl e))⟩;refine⟨?_,?_,?_,h.ch.keep hk,h.of.keep hk,by have:=h.fu;omega⟩
 ·rw [heap_setCell_same _ _ _ _ _ _ h.box,←hc];simp
 ·rw [e2];exact(heap_setCell_other w _ R.t u (fun e=>ok.rt e.symm)).trans h.tb
 ·rw [e1];exact mE (X:=fun k=>k=R.r) h.ps (Gx.set w u rfl) (fun k hk e=>ok.pr (by rw [hk,e]))
theorem RunI.burnW (ok:RnOk R) (h:RunI R w st) (hf:st.fuel≠0):RunI R (w.setCell ⟨R.r,15,none⟩ (.int .i64 ((st.fuel:Int)-1))) (iC st):=by
 refine h.setR ok ?_ rfl rfl (by simp only [iC];omega);have h11:=ok.tp;unfold Rn.cells iC;rw [List.set_append_right _ _ eu,h11];simp only [show 15-11=4 from rfl,List.set_cons_succ,List.set_cons_zero];rw [show ((st.fuel-1:Nat):Int)=(st.fuel:Int)-1 by omega]
theorem RunI.outW (ok:RnOk R) (h:RunI R w st):RunI R (w.setCell ⟨R.r,16,none⟩ (.bool true)) { st with out:=true }:=by
 refine h.setR ok ?_ rfl rfl (wY _);have h11:=ok.tp;unfold Rn.cells;rw [List.set_append_right _ _ eu,h11];rfl
theorem Fx.setR (w:World) (a:Addr) (ha:a.block=R.r) (u:Value):Fx R w (w.setCell a u):=Gx.set w u (.inl ha)
theorem RunI.char (h:RunI R w st) {k:Nat} (hk:k<R.C.cs.length):∃b o,R.ca=some ⟨b,o,none⟩∧w.cell? ⟨b,o+k,none⟩=some (.string ⟨(R.C.cs.getD k []).toArray⟩):=by
 obtain⟨b,o,e1,_,_,e4⟩:=h.ch.2 eu;exact⟨b,o,e1,e4 k _ (by rw [List.getD_eq_getElem?_getD];simp [i6,hk])⟩
theorem RunI.off (ok:RnOk R) (h:RunI R w st) {k:Nat} (hk:k≤R.C.cs.length):∃b o,R.oa=some ⟨b,o,none⟩∧w.cell? ⟨b,o+k,none⟩=some (.int .i64 ((R.C.offs.getD k 0:Nat):Int)):=by
 obtain⟨b,o,e1,_,_,e4⟩:=h.of.2 eu;exact⟨b,o,e1,e4 k _ (qJ (by rw [ok.of];omega))⟩
theorem RunI.row (h:RunI R w st) (hn:0<R.n):∃g,R.pa=some ⟨g,0,none⟩:=by
 rcases h.ps.2 with⟨_,h0⟩|⟨g,cap,cur,hv,_⟩
 ·omega
 ·injection hv with hv _ _;exact⟨g,hv⟩
theorem RunI.part (h:RunI R w st) {g b:Nat} (hg:g<R.n) (hp:R.pa=some ⟨b,0,none⟩) :
  w.cell? ⟨b,g*2,none⟩=some (.int .i64 (st.ps.getD g (-1,-1)).1)∧w.cell? ⟨b,g*2+1,none⟩=some (.int .i64 (st.ps.getD g (-1,-1)).2)∧w.frozen? ⟨b,g*2,none⟩=false∧w.frozen? ⟨b,g*2+1,none⟩=false:=by
 have hps:=h.ps;unfold Rn.pv at hps;rw [hp] at hps;have hl:=h.len;obtain⟨c1,c2⟩:=l5 (wW (show g<st.ps.length by omega));have e:st.ps.getD g (-1,-1)=st.ps[g]' eu:=by rw [List.getD_eq_getElem?_getD,wW eu];rfl
 rw [e];exact⟨(hps.cellAt _ eu).trans c1,(hps.cellAt _ eu).trans c2,hps.frozenAt _,hps.frozenAt _⟩
theorem RunI.setP (ok:RnOk R) (h:RunI R w st) {g b:Nat} (hg:g<R.n) (hp:R.pa=some ⟨b,0,none⟩) (v:Int × Int) :
  RunI R ((w.setCell ⟨b,g*2,none⟩ (.int .i64 v.1)).setCell ⟨b,g*2+1,none⟩ (.int .i64 v.2)) { st with ps:=oi st.ps g v }∧Fx R w ((w.setCell ⟨b,g*2,none⟩ (.int .i64 v.1)).setCell ⟨b,g*2+1,none⟩ (.int .i64 v.2)):=by
 have hps:=h.ps;have hl:=h.len;have hb:R.pv.ownBlock=some b:=by unfold Rn.pv;rw [hp];rfl
 have hfx:Fx R w ((w.setCell ⟨b,g*2,none⟩ (.int .i64 v.1)).setCell ⟨b,g*2+1,none⟩ (.int .i64 v.2)) :=
  Fx.trans (R:=R) (Gx.set w (a:=⟨b,g*2,none⟩) _ (.inr (.inr hb))) (Gx.set _ (a:=⟨b,g*2+1,none⟩) _ (.inr (.inr hb)))
 have hk:=Fx.kept ok hfx;refine⟨⟨?_,?_,?_,h.ch.keep hk,h.of.keep hk,h.fu⟩,hfx⟩
 ·rw [heap_setCell_other _ _ _ _ (fun e=>ok.pr (by rw [hb,e])),heap_setCell_other _ _ _ _ (fun e=>ok.pr (by rw [hb,e]))];exact h.box
 ·rw [heap_setCell_other _ _ _ _ (fun e=>ok.pt (by rw [hb,e])),heap_setCell_other _ _ _ _ (fun e=>ok.pt (by rw [hb,e]))];exact h.tb
 ·unfold Rn.pv at hps ⊢
  rw [hp] at hps ⊢;have:=((hps.stored (g*2) (.int .i64 v.1)).1.stored (g*2+1) (.int .i64 v.2)).1
  rwa [mV _ _ _ eu] at this
end
def KW (R:Rn) (w0:World) (k0:Nat) (fv:Value) (f:Rk):Prop :=
 ∃(j:FuncId) (caps:Array Value),fv=.func (.func j) #[] caps∧Enters Tryz.prog j∧∀(w:World) (st:Rst) (e:Nat),Fx R w0 w→RunI R w st→k0≤e→e≤R.C.cs.length →
  Calls Tryz.prog j (#[.int .i64 (e:Int)]++caps) w fun x w'=>x=.returned (.bool (f e st).1)∧RunI R w' (f e st).2∧Fx R w w'
theorem KW.later {R:Rn} {w0 w1:World} {k0 k1:Nat} {fv:Value} {f:Rk} (h:KW R w0 k0 fv f) (hx:Fx R w0 w1) (hk:k0≤k1):KW R w1 k1 fv f:=by
 obtain⟨j,caps,e,he,hc⟩:=h;exact⟨j,caps,e,he,fun w st e h1 h2 h3 h4=>hc w st e (hx.trans h1) h2 eu h4⟩
def iH (R:Rn) (q:Bool × Rst) (w:World) (x:Ending) (w':World):Prop:=x=.returned (.bool q.1)∧RunI R w' q.2∧Fx R w w'
def upB (c:UInt8):UInt8:=if 97≤c.toNat∧c.toNat≤122 then c-32 else c
def lowB (c:UInt8):UInt8:=if 65≤c.toNat∧c.toNat≤90 then c+32 else c
def mg (c:UInt8):Bool:=decide ((97≤c.toNat∧c.toNat≤122)∨(65≤c.toNat∧c.toNat≤90)∨(48≤c.toNat∧c.toNat≤57)∨128≤c.toNat)
def kw (small:Bool):Bool→Str→Str→Str
 | _,[],acc=>acc
 | pw,c::r,acc=>if mg c=true then(if pw=true then kw small true r (acc++[c]) else if small=true∧acc=[] then kw small true r (acc++[lowB c]) else kw small true r (acc++[upB c])) else kw small false r acc
def capB:Str→Str
 | []=>[]
 | c::r=>upB c::r
def turn (s:Str) (way:Int):Str × Int :=
 if way=1 then(s.map upB,0) else if way=2 then(s.map lowB,0) else if way=3 then(capB s,0) else if way=4 then(kw true false s [],0) else if way=5 then(kw false false s [],0) else([],2)
def n1:Str:=[117,112,99,97,115,101]
def n2:Str:=[100,111,119,110,99,97,115,101]
def n3:Str:=[99,97,112,105,116,97,108,105,122,101]
def n4:Str:=[99,97,109,101,108,99,97,115,101]
def n5:Str:=[112,97,115,99,97,108,99,97,115,101]
def kS (way:Int):Str:=if way=1 then n1 else if way=2 then n2 else if way=3 then n3 else if way=4 then n4 else if way=5 then n5 else []
def lT (s:Str):Int:=if s=n1 then 1 else if s=n2 then 2 else if s=n3 then 3 else if s=n4 then 4 else if s=n5 then 5 else 0
theorem jp (small:Bool):∀(s:Str) (pw:Bool) (acc:Str),(kw small pw s acc).length≤s.length+acc.length
 | [],pw,acc=>by simp [kw]
 | c::r,pw,acc=>by
  have h1:=jp small r true (acc++[c]);have h2:=jp small r true (acc++[lowB c]);have h3:=jp small r true (acc++[upB c]);have h4:=jp small r false acc;simp only [kw,xg,xm,xR] at *
  (repeat' split)<;>omega
theorem lW (s:Str) (way:Int):(turn s way).1.length≤s.length:=by
 unfold turn;have h1:=jp true s false [];have h2:=jp false s false []
 (repeat' split)<;>simp_all
 cases s<;>simp [capB]
theorem upB_nat (c:UInt8):(upB c).toNat=if 97≤c.toNat∧c.toNat≤122 then c.toNat-32 else c.toNat:=by
 unfold upB;split
 ·rename_i h
  rw [UInt8.toNat_sub_of_le _ _ (by rw [UInt8.le_iff_toNat_le];have:(32:UInt8).toNat=32:=rfl;omega)];rfl
 ·rfl
theorem lowB_nat (c:UInt8):(lowB c).toNat=if 65≤c.toNat∧c.toNat≤90 then c.toNat+32 else c.toNat:=by
 unfold lowB;split
 ·rename_i h
  rw [UInt8.toNat_add];have:(32:UInt8).toNat=32:=rfl;omega
 ·rfl
theorem oE {c:Int} (h1:c<256):(UInt8.ofNat c.toNat).toNat=c.toNat:=by
 rw [UInt8.toNat_ofNat'];omega
theorem vL {s:Str} {k:Int} (h1:1≤k) (h5:k≤5) (h:kS k=s):lT s=k:=by
 have hk:k=1∨k=2∨k=3∨k=4∨k=5:=eu;subst h;rcases hk with rfl|rfl|rfl|rfl|rfl<;>decide
theorem tI {s:Str} (h:∀j:Int,1≤j→j<6→kS j≠s):lT s=0:=by
 unfold lT;rw [wX (fun e=>h 1 eu eu e.symm),wX (fun e=>h 2 eu eu e.symm),wX (fun e=>h 3 eu eu e.symm),wX (fun e=>h 4 eu eu e.symm),wX (fun e=>h 5 eu eu e.symm)]
theorem l7 (c:Int) (w:World) (h0:0≤c) (h1:c<256) :
  Calls Tryz.prog 88 #[.int .u8 c] w fun e w'=>e=.returned (.int .u8 (upB (UInt8.ofNat c.toNat)).toNat)∧w=w':=by
 obtain⟨R,hR⟩:∃R:Nat,R=(upB (UInt8.ofNat c.toNat)).toNat:=⟨_,rfl⟩;rw [←hR];rw [upB_nat,oE h1] at hR;have HR:=ab hR;clear hR;go_enter Tryz.func88,Tryz.ntmps88
 exact cG
theorem qA (c:Int) (w:World) (h0:0≤c) (h1:c<256) :
  Calls Tryz.prog 89 #[.int .u8 c] w fun e w'=>e=.returned (.int .u8 (lowB (UInt8.ofNat c.toNat)).toNat)∧w=w':=by
 obtain⟨R,hR⟩:∃R:Nat,R=(lowB (UInt8.ofNat c.toNat)).toNat:=⟨_,rfl⟩;rw [←hR];rw [lowB_nat,oE h1] at hR;have HR:=ab hR;clear hR;go_enter Tryz.func89,Tryz.ntmps89
 exact cG
theorem l6 (c:Int) (w:World) (h0:0≤c) (h1:c<256) :
  Calls Tryz.prog 125 #[.int .u8 c] w fun e w'=>e=.returned (.bool (mg (UInt8.ofNat c.toNat)))∧w=w':=by
 obtain⟨R,hR⟩:∃R:Bool,R=mg (UInt8.ofNat c.toNat):=⟨_,rfl⟩;rw [←hR];rw [mg,oE h1] at hR;have HR:=ab hR;clear hR;go_enter Tryz.func125,Tryz.ntmps125
 go_wp2
 all_goals
  go_ret
  refine⟨gX ?_,rfl⟩;rw [HR.out,Bool.eq_iff_iff];simp;try omega
theorem pB (n:Int) (w:World) :
  Calls Tryz.prog 118 #[.int .i64 n] w fun e w'=>e=.returned (.string ⟨(kS n).toArray⟩)∧Below w.heap.size w w':=by
 by_cases h:1≤n∧n≤5
 ·obtain⟨h1,h2⟩:=h
  have hn:n=1∨n=2∨n=3∨n=4∨n=5:=eu;rcases hn with rfl|rfl|rfl|rfl|rfl
  all_goals
   go_enter Tryz.func118,Tryz.ntmps118
   go_wp2
   go_ret
   exact⟨rfl,(Below.refl _ _).alloc (wY _) _⟩
 ·have hz:kS n=[]:=by
   unfold kS;rw [wX eu,wX eu,wX eu,wX eu,wX eu]
  rw [hz];go_enter Tryz.func118,Tryz.ntmps118
  go_wp2
  all_goals
   first
   | (go_ret;exact⟨rfl,Below.refl _ _⟩)
   | (exfalso;omega)
theorem Way_any (s:Str) (w:World) :
  Calls Tryz.prog 138 #[.string ⟨s.toArray⟩] w fun e w'=>e=.returned (.int .i64 (lT s))∧Below w.heap.size w w':=by
 generalize hR:lT s=R
 have HR:=ab hR;clear hR;go_enter Tryz.func138,Tryz.ntmps138
 go_wp2
 go_loopw [3] (fun q wr=>∃k:Int,1≤k∧k≤6∧q=.int .i64 k∧Below w.heap.size w wr∧Hid (∀j:Int,1≤j→j<k→kS j≠s)) (fun q _=>(6-intOf q).toNat)
 case atStart=>exact⟨1,by omega,by omega,rfl,Below.refl _ _,ab fun j h1 h2=>by omega⟩
 case round =>
  obtain⟨k,hk1,hk6,rfl,hb,HM⟩:=hrel;by_cases h5:k≤5
  ·by_cases hq:kS k=s
   ·have hbq:(kS k==s)=true:=by simp [hq]
    have Hq:=ab hq;clear hq;go_wp2_with (go_at_call 118;refine(pB _ _).mono ?_;rintro e w1 ⟨rfl,hb1⟩)
    go_ret
    exact⟨ke (by rw [←HR.out,vL hk1 h5 Hq.out]),hb.trans (hb1.mono hb.size)⟩
   ·have hbq:(kS k==s)=false:=by simp [hq]
    have Hq:=ab hq;clear hq;go_wp2_with (go_at_call 118;refine(pB _ _).mono ?_;rintro e w1 ⟨rfl,hb1⟩)
    go_roundw
    case rel =>
     refine⟨k+1,by omega,by omega,rfl,hb.trans (hb1.mono hb.size),ab fun j h1 h2=>?_⟩;by_cases hj:j=k
     ·subst hj;exact Hq.out
     ·exact HM.out j h1 eu
    case measure=>simp [intOf];omega
  ·go_wp2
   go_ret
   have:k=6:=eu
   subst this;exact⟨ke (by rw [←HR.out,tI HM.out]),hb⟩
theorem tM (l:Str) (small:Bool) (w:World) (hs:l.length≤1000000) :
  Calls Tryz.prog 90 #[.string ⟨l.toArray⟩,.bool small] w fun e w'=>e=.returned (.string ⟨(kw small false l []).toArray⟩)∧Below w.heap.size w w':=by
 generalize hR:kw small false l []=R
 have HR:=ab hR;clear hR;have HR0:Hid (kw small false (l.drop 0) []=R):=HR;clear HR;go_enter Tryz.func90,Tryz.ntmps90
 go_wp2
 go_loopw [6] (fun q wr=>∃(i:Nat) (acc:Str) (pw:Bool),i≤l.length∧q=.int .i64 i∧Bld w.heap.size w.heap.size acc wr∧Below w.heap.size w wr∧acc.length≤i∧Hid ((i=0→pw=false)∧(0<i→∀x,l[i-1]?=some x→mg x=pw))∧Hid (kw small pw (l.drop i) acc=R)) (fun q _=>l.length-(intOf q).toNat)
 case atStart=>exact⟨0,[],false,by omega,rfl,Bld.fresh _ _ (wY _),(Below.refl _ _).alloc (wY _) _,by simp,ab ⟨fun _=>rfl,fun h=>by omega⟩,HR0⟩
 case round =>
  obtain⟨i,acc,pw,hi,rfl,hbl,hb,hacc,HP,HF⟩:=hrel;clear HR0;have hB:=hb.size;cases hd:l.drop i with
  | nil =>
   have h2:=jg hd;have HF':Hid (kw small pw [] acc=R):=ab eW;clear hd HF;go_wp2_with (go_at_call 59;refine(pl _ _ _ _ hbl hB).mono ?_;rintro e w1 ⟨rfl,hb1⟩)
   go_ret
   exact⟨rP (by rw [←HF'.out];rfl),hb.trans hb1⟩
  | cons c r =>
   obtain⟨h2,h3,hr⟩:=iv hd;have HF':Hid (kw small pw (c::r) acc=R):=ab eW;have Hr:=ab hr;have hc256:=nS c;clear hd HF hr;by_cases hw:mg c=true
   ·have HW:=ab hw
    by_cases hpw:pw=true
    ·have hi0:0<i:=by
      rcases Nat.eq_zero_or_pos i with h|h
      ·have:=HP.out.1 h;rw [this] at hpw;cases hpw
      ·exact h
     obtain⟨x,hx⟩:∃x,l[i-1]?=some x:=⟨l[i-1],wW eu⟩;have hxw:mg x=true:=by rw [HP.out.2 hi0 x hx,hpw]
     have hx3:∀h:i-1<l.length,l[i-1]'h=x:=fun h=>by rw [wW h] at hx;injection hx
     have hx256:=nS x;have hgt:decide ((0:Int)<i)=true:=by simp;omega
     subst hpw;clear hx;go_wp2_with (first|(go_at_call 125;refine(l6 _ _ eu eu).mono ?_;rintro e w1 ⟨rfl,rfl⟩)|(go_at_call 126;refine(jR w.heap.size _ acc _ _ hbl eu hB eu eu).mono ?_))
     rintro e w2 ⟨rfl,hbl2,hfr2⟩;rw [u8_back] at hbl2;clear hw hxw hx3;have hB3:=hbl2.lt;go_wp2_with fail
     go_roundw
     case rel =>
      refine⟨i+1,acc++[c],true,by omega,by go_num,hbl2,hb.trans (hfr2.below hB eB),?_,ab ⟨fun h=>by omega,fun _ x hx=>?_⟩,?_⟩
      ·exact eh
      ·exact dC
      ·refine ab ?_
       rw [Hr.out,←HF'.out];conv=>rhs;unfold kw;rw [wU HW.out,wU rfl]
     case measure=>simp [intOf];omega
    ·have hpf:pw=false:=by simpa using hpw
     subst hpf;clear hpw;rcases Nat.eq_zero_or_pos i with hi0|hi0
     ·have hgt:i≤0:=eu
      have HI0:=ab hi0;clear hi0;exact au
     ·obtain⟨x,hx⟩:∃x,l[i-1]?=some x:=⟨l[i-1],wW eu⟩
      have hxw:mg x=false:=HP.out.2 hi0 x hx;have hx3:∀h:i-1<l.length,l[i-1]'h=x:=fun h=>by rw [wW h] at hx;injection hx
      have hx256:=nS x;have hgt:decide ((0:Int)<i)=true:=by simp;omega
      clear hx;exact au
   ·have hw':mg c=false:=by simpa using hw
    have HW:=ab hw';have hbl2:=hbl;have hfr2:Fr w.heap.size [w.heap.size] [5] wr wr:=Fr.refl _ _ _ _;clear hw;go_wp2_with (go_at_call 125;refine(l6 _ _ eu eu).mono ?_;rintro e w1 ⟨rfl,rfl⟩)
    go_roundw
    case rel =>
     refine⟨i+1,acc,false,by omega,by go_num,hbl2,hb,by omega,ab ⟨fun h=>by omega,fun _ x hx=>?_⟩,?_⟩
     ·rw [show i+1-1=i from rfl,wW h2,h3] at hx
      injection hx with hx;subst hx;exact HW.out
     ·refine ab ?_
      rw [Hr.out,←HF'.out];conv=>rhs;unfold kw;rw [wX (by rw [HW.out];simp)]
    case measure=>simp [intOf];omega
theorem nJ (f:UInt8→UInt8) (l:Str) (k:Nat) (hk:k<l.length):((l.take k).map f++l.drop k).set k (f l[k])=(l.take (k+1)).map f++l.drop (k+1):=by
 apply List.ext_getElem?
 intro i;have e1:((l.take k).map f).length=k:=by simp;omega
 have e2:((l.take (k+1)).map f).length=k+1:=by simp;omega
 rw [List.getElem?_set];by_cases h:k=i
 ·subst h
  rw [wU rfl,wU eC,xp eu,List.getElem?_map,List.getElem?_take_of_lt eu,wW hk];rfl
 ·rw [wX h]
  by_cases h2:i<k
  ·rw [xp eu,xp eu,List.getElem?_map,List.getElem?_map,List.getElem?_take_of_lt h2,List.getElem?_take_of_lt eu]
  ·rw [xx eu,xx eu,e1,e2,List.getElem?_drop,List.getElem?_drop]
   congr 1;omega
theorem Turn_up (l:Str) (w:World) (hs:l.length≤1000000) :
  Calls Tryz.prog 58 #[.string ⟨l.toArray⟩,.int .i64 1] w fun e w'=>e=.returned (.tuple #[.string ⟨(l.map upB).toArray⟩,.int .i64 0])∧Below w.heap.size w w':=by
 obtain⟨cap,w0,hcv,hrow,hb0,hsz⟩:=BRow.made (P:=Tryz.prog) w (src:=9) (dst:=67) l Tryz.underlying9 Tryz.underlying67 Tryz.underlying5;have HZ:=ab hsz;clear hsz;have hsz0:w.heap.size<w0.heap.size:=by have:=HZ.out;omega
 go_enter Tryz.func58,Tryz.ntmps58
 go_wp2_with (fail)
 go_loopw [18] (fun q wr=>∃k:Nat,k≤l.length∧q=.int .i64 k∧BRow wr w.heap.size ((l.take k).map upB++l.drop k)∧Below w.heap.size w wr∧w.heap.size<wr.heap.size) (fun q _=>l.length-(intOf q).toNat)
 case atStart=>exact cq
 case round =>
  obtain⟨k,hk,rfl,hr,hb,hlt⟩:=hrel;by_cases h2:k<l.length
  ·have hc:=hr.cell (j:=k) (c:=l[k]) (by rw [xx eC,List.getElem?_drop,xS,xF,show k+(k-min k l.length)=k by omega,wW h2])
   have hf:=hr.free (j:=k) eC;have h256:=nS l[k];have HS:=hr.set (j:=k) (upB l[k]);rw [nJ upB l k h2] at HS;have HS':=ab HS;clear HS;generalize hx:l[k]=x at *
   have Hx:=ab hx;clear hx;go_wp2_with (go_at_call 88;refine(l7 _ _ eu eu).mono ?_;rintro e w1 ⟨rfl,rfl⟩)
   exact ce
  ·exact bN
theorem vI (l:Str) (w:World) (hs:l.length≤1000000) :
  Calls Tryz.prog 58 #[.string ⟨l.toArray⟩,.int .i64 2] w fun e w'=>e=.returned (.tuple #[.string ⟨(l.map lowB).toArray⟩,.int .i64 0])∧Below w.heap.size w w':=by
 obtain⟨cap,w0,hcv,hrow,hb0,hsz⟩:=BRow.made (P:=Tryz.prog) w (src:=9) (dst:=67) l Tryz.underlying9 Tryz.underlying67 Tryz.underlying5;have HZ:=ab hsz;clear hsz;have hsz0:w.heap.size<w0.heap.size:=by have:=HZ.out;omega
 go_enter Tryz.func58,Tryz.ntmps58
 go_wp2_with (fail)
 go_loopw [33] (fun q wr=>∃k:Nat,k≤l.length∧q=.int .i64 k∧BRow wr w.heap.size ((l.take k).map lowB++l.drop k)∧Below w.heap.size w wr∧w.heap.size<wr.heap.size) (fun q _=>l.length-(intOf q).toNat)
 case atStart=>exact cq
 case round =>
  obtain⟨k,hk,rfl,hr,hb,hlt⟩:=hrel;by_cases h2:k<l.length
  ·have hc:=hr.cell (j:=k) (c:=l[k]) (by rw [xx eC,List.getElem?_drop,xS,xF,show k+(k-min k l.length)=k by omega,wW h2])
   have hf:=hr.free (j:=k) eC;have h256:=nS l[k];have HS:=hr.set (j:=k) (lowB l[k]);rw [nJ lowB l k h2] at HS;have HS':=ab HS;clear HS;generalize hx:l[k]=x at *
   have Hx:=ab hx;clear hx;go_wp2_with (go_at_call 89;refine(qA _ _ eu eu).mono ?_;rintro e w1 ⟨rfl,rfl⟩)
   exact ce
  ·exact bN
theorem Turn_cap (l:Str) (w:World) (hs:l.length≤1000000) :
  Calls Tryz.prog 58 #[.string ⟨l.toArray⟩,.int .i64 3] w fun e w'=>e=.returned (.tuple #[.string ⟨(capB l).toArray⟩,.int .i64 0])∧Below w.heap.size w w':=by
 obtain⟨cap,w0,hcv,hrow,hb0,hsz⟩:=BRow.made (P:=Tryz.prog) w (src:=9) (dst:=67) l Tryz.underlying9 Tryz.underlying67 Tryz.underlying5;have HZ:=ab hsz;clear hsz;have hsz0:w.heap.size<w0.heap.size:=by have:=HZ.out;omega
 cases l with
 | nil =>
  have hcv2:=hrow.back (P:=Tryz.prog) (src:=67) (dst:=9) Tryz.underlying67 Tryz.underlying5 Tryz.underlying9 cap;simp only [xR] at hcv hcv2;go_enter Tryz.func58,Tryz.ntmps58
  go_wp2_with (fail)
  go_ret2
  exact⟨rfl,hb0⟩
 | cons c r =>
  have hc:=hrow.cell (j:=0) (c:=c) rfl;have hf:=hrow.free (j:=0) eB;have h256:=nS c;have HS:=hrow.set (j:=0) (upB c);have hcv2:=HS.back (P:=Tryz.prog) (src:=67) (dst:=9) Tryz.underlying67 Tryz.underlying5 Tryz.underlying9 cap;simp only [List.set_cons_zero,xg] at hcv2;clear HS;go_enter Tryz.func58,Tryz.ntmps58
  go_wp2_with (go_at_call 88;refine(l7 _ _ eu eu).mono ?_;rintro e w1 ⟨rfl,rfl⟩)
  go_ret2
  exact⟨rfl,hb0.setCell (p:=⟨w.heap.size,0,none⟩) (wY _) _⟩
theorem sS (l:Str) (way:Int) (w:World) (hs:l.length≤1000000) :
  Calls Tryz.prog 58 #[.string ⟨l.toArray⟩,.int .i64 way] w fun e w'=>e=.returned (.tuple #[.string ⟨((turn l way).1).toArray⟩,.int .i64 (turn l way).2])∧Below w.heap.size w w':=by
 by_cases h1:way=1
 ·subst h1;exact Turn_up l w hs
 by_cases h2:way=2
 ·subst h2;exact vI l w hs
 by_cases h3:way=3
 ·subst h3;exact Turn_cap l w hs
 obtain⟨cap,w0,hcv,hrow,hb0,hsz⟩:=BRow.made (P:=Tryz.prog) w (src:=9) (dst:=67) l Tryz.underlying9 Tryz.underlying67 Tryz.underlying5;have HZ:=ab hsz;clear hsz;by_cases h4:way=4
 ·subst h4
  exact cj
 by_cases h5:way=5
 ·subst h5
  exact cj
 have hT:turn l way=([],2):=by unfold turn;rw [wX h1,wX h2,wX h3,wX h4,wX h5]
 rw [hT];have e1:(way==1)=false:=by simpa using h1
 have e2:(way==2)=false:=by simpa using h2
 have e3:(way==3)=false:=by simpa using h3
 have e4:(way==4)=false:=by simpa using h4
 have e5:(way==5)=false:=by simpa using h5
 clear h1 h2 h3 h4 h5 hT;go_enter Tryz.func58,Tryz.ntmps58
 go_wp2_with (fail)
 go_ret2
 exact⟨rfl,hb0⟩
theorem oA:∀(k:Nat) (l:Str),l.length≤k→(iI k l).flatten=l
 | 0,l,h=>by have:l=[]:=wV eu;subst this;rfl
 | k+1,[],_=>rfl
 | k+1,c::r,h=>by
  have hr:r.takeWhile gU++r.dropWhile gU=r:=xL;have hl:(r.dropWhile gU).length≤k:=by
   have:=xM List.length hr
   rw [xm] at this;simp only [xg] at h;omega
  simp only [iI,List.flatten_cons];rw [oA k _ hl,xQ,hr]
theorem iX (s:Str):(gM s).flatten=s:=oA _ _ (wY _)
theorem oW:∀(k:Nat) (l:Str),∀c∈iI k l,0<c.length
 | 0,_,c,h=>by simp [iI] at h
 | k+1,[],c,h=>by simp [iI] at h
 | k+1,d::r,c,h=>by
  simp only [iI,xo] at h;rcases h with rfl|h
  ·simp
  ·exact oW k _ c h
theorem pf (s:Str):∀c∈gM s,0<c.length:=oW _ _
theorem jK:∀(cs:List Str) (a:Nat),(iY cs a).length=cs.length+1
 | [],_=>rfl
 | c::r,a=>by simp [iY,jK r]
theorem qU:∀(cs:List Str) (a k:Nat),k≤cs.length→(iY cs a)[k]?=some (a+(cs.take k).flatten.length)
 | [],a,k,h=>by
  have:k=0:=eV
  subst this;simp [iY]
 | c::r,a,0,_=>by simp [iY]
 | c::r,a,k+1,h=>by
  simp only [iY,List.getElem?_cons_succ,List.take_succ_cons,List.flatten_cons,xm];rw [qU r (a+c.length) k eV];congr 1;omega
theorem iZ (cs:List Str) (k:Nat) (h:k≤cs.length):(iY cs 0).getD k 0=(cs.take k).flatten.length:=by
 rw [List.getD_eq_getElem?_getD,qU cs 0 k h];simp
theorem kY (cs:List Str) {i j:Nat} (h:i≤j):(cs.take i).flatten.length≤(cs.take j).flatten.length:=by
 have e:cs.take j=cs.take i++(cs.take j).drop i:=by
  conv=>lhs;rw [←List.take_append_drop i (cs.take j)]
  rw [List.take_take,Nat.min_eq_left h]
 rw [e];simp
theorem ri (cs:List Str) (hp:∀c∈cs,0<c.length) {i j:Nat} (h:i<j) (hj:j≤cs.length):(cs.take i).flatten.length<(cs.take j).flatten.length:=by
 have h1:(cs.take (i+1)).flatten.length=(cs.take i).flatten.length+(cs[i]' eu).length:=by
  rw [List.take_succ_eq_append_getElem eu,List.flatten_append,xm];simp
 have h2:=kY cs (show i+1≤j by omega);have h3:=hp _ (List.getElem_mem (show i<cs.length by omega));omega
theorem tY (cs:List Str) {i j:Nat} (h:i≤j):(cs.flatten.drop (cs.take i).flatten.length).take ((cs.take j).flatten.length-(cs.take i).flatten.length)=((cs.drop i).take (j-i)).flatten:=by
 have e1:cs.flatten.drop (cs.take i).flatten.length=(cs.drop i).flatten:=by
  conv=>lhs;rw [←List.take_append_drop i cs]
  rw [List.flatten_append];rw [List.take_append_drop i cs];simp
 have e2:(cs.take j).flatten.length-(cs.take i).flatten.length=((cs.drop i).take (j-i)).flatten.length:=by
  have e:cs.take j=cs.take i++(cs.drop i).take (j-i):=by
   conv=>lhs;rw [show j=i+(j-i) by omega,List.take_add]
  rw [e,List.flatten_append,xm];omega
 rw [e1,e2];conv=>lhs;arg 2;rw [←List.take_append_drop (j-i) (cs.drop i)]
 rw [List.flatten_append];simp
theorem pz (s:Str) {k:Nat} (h:k≤(gM s).length):(iY (gM s) 0).getD k 0≤s.length:=by
 rw [iZ _ _ h];have:=kY (gM s) h
 rw [List.take_length,iX] at this;exact this
theorem kW (s:Str):(gM s).length≤s.length:=by
 have h:∀cs:List Str,(∀c∈cs,0<c.length)→cs.length≤cs.flatten.length:=by
  intro cs;induction cs with
  | nil=>intro _;simp
  | cons c r ih=>intro h;have h1:=ih (fun x hx=>h x (xw _ hx));have h2:=h c (xt ..);rw [List.flatten_cons,xm,xg];omega
 have:=h _ (pf s);rw [iX] at this;exact this
theorem wi (s:Str):∀c∈gM s,c.length≤s.length:=fun c hc=>by
 have h:∀cs:List Str,c∈cs→c.length≤cs.flatten.length:=by
  intro cs;induction cs with
  | nil=>intro h;simp at h
  | cons d r ih =>
   intro h;rcases xo.1 h with rfl|h
   ·simp
   ·have:=ih h;rw [List.flatten_cons,xm];omega
 have:=h _ hc;rw [iX] at this;exact this
end Go.Proofs.YtbnkaecmgfolpaaGreat
