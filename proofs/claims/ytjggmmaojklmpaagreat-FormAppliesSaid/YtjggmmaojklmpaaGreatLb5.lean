/- rxrun's parts in memory: a tree whose groups are numbered. -/
import Derived.Test.YtjggmmaojklmpaaGreatLb4
set_option maxRecDepth 100000
set_option maxHeartbeats 4000000
namespace Go.Proofs.YtjggmmaojklmpaaGreat
open Go.RowKit
def ptc (k:Int) (c:Str) (ng:Bool) (ra:Option Addr) (rn rc:Nat) (lo hi:Int) (lz:Bool) (ka:Option Addr) (kn kc:Nat) (pa:Option Addr) (pn pc:Nat) (g h:Nat):List Value :=
 [.int .i64 k,.string ⟨c.toArray⟩,.bool ng,.slice ra rn rc,.int .i64 lo,.int .i64 hi,.bool lz,.slice ka kn kc,.slice pa pn pc,.int .i64 (g:Int),.int .i64 (h:Int)]
def own5 (k:Int):Nat:=if k=5 then 1 else 0
mutual
inductive PtV (w:World) (S:Nat→Prop):List Value→Rx→Nat→Prop
 | mk {k:Int} {c:Str} {ng:Bool} {rs:List (Str × Str)} {lo hi:Int} {lz:Bool} {ks:List Rx} {ra ka pa:Option Addr} {rc kn kc pc g:Nat} {css:List (List Value)} :
   SlS w S ra 2 rs.length (jX rs)→SlS w S pa 11 ks.length css.flatten→ks.length≤pc→PtVs w S css ks (g+own5 k) →
   PtV w S (ptc k c ng ra rs.length rc lo hi lz ka kn kc pa ks.length pc g (g+own5 k+Rx.groupsL ks)) (.mk k c ng rs lo hi lz ks) g
inductive PtVs (w:World) (S:Nat→Prop):List (List Value)→List Rx→Nat→Prop
 | nil {g:Nat}:PtVs w S [] [] g
 | cons {c:List Value} {x:Rx} {cs:List (List Value)} {xs:List Rx} {g:Nat}:PtV w S c x g→PtVs w S cs xs (g+x.groups)→PtVs w S (c::cs) (x::xs) g
end
mutual
theorem PtV.keep {w w':World} {S:Nat→Prop} (hk:Kept S w w'):∀{c:List Value} {x:Rx} {g:Nat},PtV w S c x g→PtV w' S c x g
 | _,_,_,.mk h1 h2 hc h3=>.mk (h1.keep hk) (h2.keep hk) hc (PtVs.keep hk h3)
theorem PtVs.keep {w w':World} {S:Nat→Prop} (hk:Kept S w w'):∀{cs:List (List Value)} {xs:List Rx} {g:Nat},PtVs w S cs xs g→PtVs w' S cs xs g
 | _,_,_,.nil=>.nil
 | _,_,_,.cons h1 h2=>.cons (PtV.keep hk h1) (PtVs.keep hk h2)
end
mutual
theorem PtV.mono {w:World} {S S':Nat→Prop} (hS:∀b,S b→b<w.heap.size→S' b):∀{c:List Value} {x:Rx} {g:Nat},PtV w S c x g→PtV w S' c x g
 | _,_,_,.mk h1 h2 hc h3=>.mk (h1.mono hS) (h2.mono hS) hc (PtVs.mono hS h3)
theorem PtVs.mono {w:World} {S S':Nat→Prop} (hS:∀b,S b→b<w.heap.size→S' b):∀{cs:List (List Value)} {xs:List Rx} {g:Nat},PtVs w S cs xs g→PtVs w S' cs xs g
 | _,_,_,.nil=>.nil
 | _,_,_,.cons h1 h2=>.cons (PtV.mono hS h1) (PtVs.mono hS h2)
end
theorem PtV.later {w w':World} {S:Nat→Prop} {c:List Value} {x:Rx} {g:Nat} (h:PtV w S c x g) (hb:Below w.heap.size w w'):PtV w' S c x g:=h.keep (Kept.all hb)
theorem PtV.len {w:World} {S:Nat→Prop} {c:List Value} {x:Rx} {g:Nat} (h:PtV w S c x g):c.length=11:=by cases h;rfl
theorem PtV.one {w:World} {S:Nat→Prop} {c:List Value} {x:Rx} {g:Nat} (h:PtV w S c x g):∀u∈c,u.oneCell'=true:=by
 cases h;intro u hu;simp only [ptc,Cz,CH,or_false] at hu
 rcases hu with rfl|rfl|rfl|rfl|rfl|rfl|rfl|rfl|rfl|rfl|rfl<;>rfl
theorem PtVs.length {w:World} {S:Nat→Prop}:∀{cs:List (List Value)} {xs:List Rx} {g:Nat},PtVs w S cs xs g→cs.length=xs.length
 | _,_,_,.nil=>rfl
 | _,_,_,.cons _ h=>by simp [h.length]
theorem PtVs.elevens {w:World} {S:Nat→Prop}:∀{cs:List (List Value)} {xs:List Rx} {g:Nat},PtVs w S cs xs g→∀c∈cs,c.length=11
 | _,_,_,.nil,c,hc=>by simp at hc
 | _,_,_,.cons h1 h2,c,hc=>by
  rcases Cz.1 hc with rfl|hc
  ·exact h1.len
  ·exact h2.elevens c hc
theorem PtVs.snoc {w:World} {S:Nat→Prop} {c:List Value} {x:Rx}:∀{cs:List (List Value)} {xs:List Rx} {g:Nat},PtVs w S cs xs g→PtV w S c x (g+Rx.groupsL xs)→PtVs w S (cs++[c]) (xs++[x]) g
 | _,_,_,.nil,h=>.cons (by simpa [Rx.groupsL] using h) .nil
 | _,_,_,.cons h1 h2,h=>.cons h1 (h2.snoc (by simpa [Rx.groupsL,CY] using h))
def PtSl (w:World) (S:Nat→Prop) (a:Option Addr) (n:Nat) (xs:List Rx) (g:Nat):Prop:=∃css,SlS w S a 11 n css.flatten∧PtVs w S css xs g
theorem PtSl.keep {w w':World} {S:Nat→Prop} {a:Option Addr} {n:Nat} {xs:List Rx} {g:Nat} (h:PtSl w S a n xs g) (hk:Kept S w w'):PtSl w' S a n xs g:=by
 obtain⟨css,h1,h2⟩:=h;exact⟨css,h1.keep hk,h2.keep hk⟩
theorem PtSl.later {w w':World} {S:Nat→Prop} {a:Option Addr} {n:Nat} {xs:List Rx} {g:Nat} (h:PtSl w S a n xs g) (hb:Below w.heap.size w w'):PtSl w' S a n xs g:=h.keep (Kept.all hb)
theorem PtSl.head {w:World} {S:Nat→Prop} {a:Option Addr} {n:Nat} {x:Rx} {xs:List Rx} {g:Nat} (h:PtSl w S a (n+1) (x::xs) g) :
  ∃b o c,a=some ⟨b,o,none⟩∧S b∧b<w.heap.size∧PtV w S c x g∧(∀(j:Nat) (u:Value),c[j]?=some u→w.cell? ⟨b,o+j,none⟩=some u)∧PtSl w S (some ⟨b,o+11,none⟩) n xs (g+x.groups):=by
 obtain⟨css,h1,h2⟩:=h;cases h2 with
 | @cons c _ cs _ _ hv hvs =>
  obtain⟨b,o,e1,e2,e3,e4⟩:=h1.2 gu;have hl:=hv.len;have hlen:=h1.1;rw [List.flatten_cons,Cy,hl] at hlen;refine⟨b,o,c,e1,e2,e3,hv,fun j u hj=>e4 j u ?_,cs,⟨by omega,fun _=>⟨b,o+11,rfl,e2,e3,fun j u hj=>?_⟩⟩,hvs⟩
  ·rw [List.flatten_cons,CA (Cq.1 hj).1];exact hj
  ·have:=e4 (11+j) u (by rw [List.flatten_cons,CD gu,hl];simpa using hj)
   rw [show o+11+j=o+(11+j) by omega];exact this
theorem PtSl.len {w:World} {S:Nat→Prop} {a:Option Addr} {n:Nat} {xs:List Rx} {g:Nat} (h:PtSl w S a n xs g):n=xs.length:=by
 obtain⟨css,h1,h2⟩:=h;have h4:∀{cs:List (List Value)},(∀c∈cs,c.length=11)→cs.flatten.length=cs.length*11:=by
  intro cs;induction cs with
  | nil=>intro _;rfl
  | cons c cs ih=>exact dv
 have h3:=h1.1;rw [h4 h2.elevens,h2.length] at h3;omega
theorem PtSl.nil (w:World) (S:Nat→Prop) (a:Option Addr) (g:Nat):PtSl w S a 0 [] g:=⟨[],SlS.none_ _ _ _ _,.nil⟩
theorem PtSl.at_ {w:World} {S:Nat→Prop} {a:Option Addr} {n:Nat}:∀{xs:List Rx} {g k:Nat} {x:Rx},PtSl w S a n xs g→xs[k]?=some x →
  ∃b o c,a=some ⟨b,o,none⟩∧S b∧b<w.heap.size∧PtV w S c x (g+Rx.groupsL (xs.take k))∧∀(j:Nat) (u:Value),c[j]?=some u→w.cell? ⟨b,o+(k*11+j),none⟩=some u:=by
 intro xs g k x hps hk;have hn:=hps.len;obtain⟨css,h1,h2⟩:=hps;have hat:∀{cs:List (List Value)} {xs:List Rx} {g k:Nat} {x:Rx},PtVs w S cs xs g→xs[k]?=some x→∃c,cs[k]?=some c∧PtV w S c x (g+Rx.groupsL (xs.take k)):=by
  intro cs xs;induction xs generalizing cs with
  | nil=>intro g k x _ h;simp at h
  | cons y r ih =>
   intro g k x hv h;cases hv with
   | @cons c _ cs _ _ hv hvs =>
    cases k with
    | zero=>simp at h;subst h;exact⟨c,rfl,by simpa [Rx.groupsL] using hv⟩
    | succ k =>
     obtain⟨c',e1,e2⟩:=ih hvs ik;exact⟨c',by simpa using e1,by simpa [Rx.groupsL,CY] using e2⟩
 obtain⟨c,hc,hv⟩:=hat h2 hk;have hlt:=(Cq.1 hk).1;obtain⟨b,o,e1,e2,e3,e4⟩:=h1.2 gu;exact⟨b,o,c,e1,e2,e3,hv,fun j u hj=>e4 _ u (mw h2.elevens hc hj)⟩
theorem PtV.open_ {w:World} {S:Nat→Prop} {cc:List Value} {k:Int} {c:Str} {ng:Bool} {rs:List (Str × Str)} {lo hi:Int} {lz:Bool} {ks:List Rx} {g:Nat} (h:PtV w S cc (.mk k c ng rs lo hi lz ks) g) :
  ∃ra rc ka kn kc pa pc,cc=ptc k c ng ra rs.length rc lo hi lz ka kn kc pa ks.length pc g (g+own5 k+Rx.groupsL ks)∧SlS w S ra 2 rs.length (jX rs)∧PtSl w S pa ks.length ks (g+own5 k)∧ks.length≤pc:=by
 cases h with
 | mk h1 h2 hc h3=>exact⟨_,_,_,_,_,_,_,rfl,h1,⟨_,h2,h3⟩,hc⟩
def jV (ps:List (Int × Int)):List Value:=ps.flatMap fun p=>[.int .i64 p.1,.int .i64 p.2]
theorem kC (ps:List (Int × Int)):(jV ps).length=ps.length*2:=by
 induction ps with
 | nil=>rfl
 | cons r rs ih=>simp only [jV,Cx,Cy] at *;rw [ih];simp;omega
theorem kY (a b:List (Int × Int)):jV (a++b)=jV a++jV b:=by simp [jV]
theorem oK {ps:List (Int × Int)} {k:Nat} {p:Int × Int} (h:ps[k]?=some p):(jV ps)[k*2]?=some (.int .i64 p.1)∧(jV ps)[k*2+1]?=some (.int .i64 p.2):=by
 induction ps generalizing k with
 | nil=>simp at h
 | cons g rs ih =>
  cases k with
  | zero=>simp at h;subst h;simp [jV]
  | succ k =>
   simp only [List.getElem?_cons_succ] at h;obtain⟨h1,h2⟩:=ih h;simp only [jV,Cx] at h1 h2 ⊢;exact cL
theorem oP:∀(ps:List (Int × Int)) (k:Nat) (v:Int × Int),k<ps.length→((jV ps).set (k*2) (.int .i64 v.1)).set (k*2+1) (.int .i64 v.2)=jV (ps.set k v)
 | [],_,_,h=>by simp at h
 | p::ps,0,v,_=>by simp [jV]
 | p::ps,k+1,v,h=>by
  have ih:=oP ps k v ik;simp only [jV,Cx,List.set_cons_succ] at ih ⊢;rw [show (k+1)*2=k*2+2 by omega,show k*2+2+1=k*2+1+2 by omega];simp only [CZ,CT,List.set_cons_succ];rw [ih]
def mg (l:List Nat):List Value:=l.map fun(n:Nat)=>.int .i64 (n:Int)
theorem rA {l:List Nat} {k:Nat} (h:k<l.length):(mg l)[k]?=some (.int .i64 ((l.getD k 0:Nat):Int)):=by
 rw [List.getD_eq_getElem?_getD];simp [mg,h]
theorem kf {w:World} {b o:Nat} {k:Int} {c:Str} {ng:Bool} {ra:Option Addr} {rn rc:Nat} {lo hi:Int} {lz:Bool} {ka:Option Addr} {kn kc:Nat} {pa:Option Addr} {pn pc g h:Nat}
  (hc:∀(j:Nat) (u:Value),(ptc k c ng ra rn rc lo hi lz ka kn kc pa pn pc g h)[j]?=some u→w.cell? ⟨b,o+j,none⟩=some u) :
  w.cell? ⟨b,o,none⟩=some (.int .i64 k)∧w.cell? ⟨b,o+1,none⟩=some (.string ⟨c.toArray⟩)∧w.cell? ⟨b,o+2,none⟩=some (.bool ng)∧w.cell? ⟨b,o+3,none⟩=some (.slice ra rn rc)∧w.cell? ⟨b,o+4,none⟩=some (.int .i64 lo) ∧
  w.cell? ⟨b,o+5,none⟩=some (.int .i64 hi)∧w.cell? ⟨b,o+6,none⟩=some (.bool lz)∧w.cell? ⟨b,o+7,none⟩=some (.slice ka kn kc)∧w.cell? ⟨b,o+8,none⟩=some (.slice pa pn pc)∧w.cell? ⟨b,o+9,none⟩=some (.int .i64 (g:Int))∧w.cell? ⟨b,o+10,none⟩=some (.int .i64 (h:Int)) :=
 ⟨hc 0 _ rfl,hc 1 _ rfl,hc 2 _ rfl,hc 3 _ rfl,hc 4 _ rfl,hc 5 _ rfl,hc 6 _ rfl,hc 7 _ rfl,hc 8 _ rfl,hc 9 _ rfl,hc 10 _ rfl⟩
theorem ox:∀(ks:List Rx) (i:Nat) (x:Rx),ks[i]?=some x→Rx.groupsL (ks.take (i+1))=Rx.groupsL (ks.take i)+x.groups∧Rx.groupsL (ks.take i)+x.groups≤Rx.groupsL ks
 | [],i,x,h=>by simp at h
 | y::r,0,x,h=>by simp at h;subst h;simp [Rx.groupsL]
 | y::r,i+1,x,h=>by
  obtain⟨h1,h2⟩:=ox r i x ik;simp only [List.take_succ_cons,Rx.groupsL] at *;rw [h1];exact⟨by omega,by omega⟩
theorem rh:∀(k:Nat) (l:Str),l.length≤k→(kN k l).flatten=l
 | 0,l,h=>by have:l=[]:=Cm gu;subst this;rfl
 | k+1,[],_=>rfl
 | k+1,c::r,h=>by
  have hr:r.takeWhile j0++r.dropWhile j0=r:=CQ;have hl:(r.dropWhile j0).length≤k:=by
   have:=CR List.length hr
   rw [Cy] at this;simp only [Cr] at h;omega
  simp only [kN,List.flatten_cons];rw [rh k _ hl,CZ,hr]
theorem pl (s:Str):(kh s).flatten=s:=rh _ _ (Cp _)
theorem th:∀(k:Nat) (l:Str),∀c∈kN k l,0<c.length
 | 0,_,c,h=>by simp [kN] at h
 | k+1,[],c,h=>by simp [kN] at h
 | k+1,d::r,c,h=>by
  simp only [kN,Cz] at h;rcases h with rfl|h
  ·simp
  ·exact th k _ c h
theorem sU (s:Str):∀c∈kh s,0<c.length:=th _ _
theorem lH:∀(cs:List Str) (a:Nat),(lP cs a).length=cs.length+1
 | [],_=>rfl
 | c::r,a=>by simp [lP,lH r]
theorem uI:∀(cs:List Str) (a k:Nat),k≤cs.length→(lP cs a)[k]?=some (a+(cs.take k).flatten.length)
 | [],a,k,h=>by
  have:k=0:=ik
  subst this;simp [lP]
 | c::r,a,0,_=>by simp [lP]
 | c::r,a,k+1,h=>by
  simp only [lP,List.getElem?_cons_succ,List.take_succ_cons,List.flatten_cons,Cy];rw [uI r (a+c.length) k ik];congr 1;omega
theorem mL (cs:List Str) (k:Nat) (h:k≤cs.length):(lP cs 0).getD k 0=(cs.take k).flatten.length:=by
 rw [List.getD_eq_getElem?_getD,uI cs 0 k h];simp
theorem oz (cs:List Str) {i j:Nat} (h:i≤j):(cs.take i).flatten.length≤(cs.take j).flatten.length:=by
 have e:cs.take j=cs.take i++(cs.take j).drop i:=by
  conv=>lhs;rw [←List.take_append_drop i (cs.take j)]
  rw [List.take_take,Nat.min_eq_left h]
 rw [e];simp
theorem vI (cs:List Str) (hp:∀c∈cs,0<c.length) {i j:Nat} (h:i<j) (hj:j≤cs.length):(cs.take i).flatten.length<(cs.take j).flatten.length:=by
 have h1:(cs.take (i+1)).flatten.length=(cs.take i).flatten.length+(cs[i]' gu).length:=by
  rw [List.take_succ_eq_append_getElem gu,List.flatten_append,Cy];simp
 have h2:=oz cs (show i+1≤j by omega);have h3:=hp _ (List.getElem_mem (show i<cs.length by omega));omega
theorem qQ (s:Str) {k:Nat} (h:k≤(kh s).length):(lP (kh s) 0).getD k 0≤s.length:=by
 rw [mL _ _ h];have:=oz (kh s) h
 rw [List.take_length,pl] at this;exact this
theorem pZ (s:Str):(kh s).length≤s.length:=by
 have h:∀cs:List Str,(∀c∈cs,0<c.length)→cs.length≤cs.flatten.length:=by
  intro cs;induction cs with
  | nil=>intro _;simp
  | cons c r ih=>intro h;have h1:=ih (fun x hx=>h x (CC _ hx));have h2:=h c (CB ..);rw [List.flatten_cons,Cy,Cr];omega
 have:=h _ (sU s);rw [pl] at this;exact this
theorem char_le (s:Str):∀c∈kh s,c.length≤s.length:=fun c hc=>by
 have h:∀cs:List Str,c∈cs→c.length≤cs.flatten.length:=by
  intro cs;induction cs with
  | nil=>intro h;simp at h
  | cons d r ih =>
   intro h;rcases Cz.1 h with rfl|h
   ·simp
   ·have:=ih h;rw [List.flatten_cons,Cy];omega
 have:=h _ hc;rw [pl] at this;exact this
def tB (c:UInt8):UInt8:=if 65≤c.toNat∧c.toNat≤90 then c+32 else c
def qd (c:UInt8):UInt8:=if 97≤c.toNat∧c.toNat≤122 then c-32 else c
theorem xF (l:Str):o4 l=l.map tB:=rfl
theorem uB (l:Str):sG l=l.map qd:=rfl
theorem xU (f:UInt8→UInt8) (l:Str) (k:Nat) (hk:k<l.length) (h:f l[k]=l[k]):(l.take k).map f++l.drop k=(l.take (k+1)).map f++l.drop (k+1):=by
 rw [←pq f l k hk,h];refine(List.ext_getElem? fun i=>?_)
 rw [List.getElem?_set];split
 ·rename_i e;subst e
  have e1:((l.take k).map f).length=k:=by simp;omega
  split
  ·rw [CD gu,e1,List.getElem?_drop];simp
  ·rename_i h2;rw [Cy,CS,e1] at h2;omega
 ·rfl
theorem add32 (x:UInt8) (h:x.toNat≤90):(((x.toNat:Int)+32):Int)=((x+32).toNat:Int):=by
 rw [UInt8.toNat_add];simp;omega
theorem sub32 (x:UInt8) (h:97≤x.toNat) (h2:x.toNat≤122):(((x.toNat:Int)-32):Int)=((x-32).toNat:Int):=by
 rw [UInt8.toNat_sub];simp;omega
theorem tZ (l:Str) (w:World) (hs:l.length≤1000000) :
  Calls Tryz.prog 180 #[.string ⟨l.toArray⟩] w fun e w'=>e=.returned (.string ⟨(o4 l).toArray⟩)∧Below w.heap.size w w':=by
 rw [xF];obtain⟨cap,w0,hcv,hrow,hb0,hsz⟩:=BRow.made (P:=Tryz.prog) w (src:=9) (dst:=46) l Tryz.underlying9 Tryz.underlying46 Tryz.underlying5;have HZ:=ab hsz;clear hsz;have hsz0:w.heap.size<w0.heap.size:=by have:=HZ.out;omega
 go_enter Tryz.func180,Tryz.ntmps180
 go_wp2_with (fail)
 go_loopw [10] (fun q wr=>∃k:Nat,k≤l.length∧q=.int .i64 k∧BRow wr w.heap.size ((l.take k).map tB++l.drop k)∧Below w.heap.size w wr∧w.heap.size<wr.heap.size) (fun q _=>l.length-(intOf q).toNat)
 case atStart=>exact b7
 case round =>
  exact aH
theorem AV (l:Str) (w:World) (hs:l.length≤1000000) :
  Calls Tryz.prog 191 #[.string ⟨l.toArray⟩] w fun e w'=>e=.returned (.string ⟨(sG l).toArray⟩)∧Below w.heap.size w w':=by
 rw [uB];obtain⟨cap,w0,hcv,hrow,hb0,hsz⟩:=BRow.made (P:=Tryz.prog) w (src:=9) (dst:=46) l Tryz.underlying9 Tryz.underlying46 Tryz.underlying5;have HZ:=ab hsz;clear hsz;have hsz0:w.heap.size<w0.heap.size:=by have:=HZ.out;omega
 go_enter Tryz.func191,Tryz.ntmps191
 go_wp2_with (fail)
 go_loopw [10] (fun q wr=>∃k:Nat,k≤l.length∧q=.int .i64 k∧BRow wr w.heap.size ((l.take k).map qd++l.drop k)∧Below w.heap.size w wr∧w.heap.size<wr.heap.size) (fun q _=>l.length-(intOf q).toNat)
 case atStart=>exact b7
 case round =>
  exact aG
theorem In_any (a:Option Addr) (n c:Nat) (rs:List (Str × Str)) (d:Str) (w:World) (h:Sl w w.heap.size a 2 n (jX rs)) (hn:n≤100000000) :
  Calls Tryz.prog 190 #[.slice a n c,.string ⟨d.toArray⟩] w fun e w'=>e=.returned (.bool (inS' rs d))∧Below w.heap.size w w':=by
 obtain rfl:=h.row_len;generalize hR:inS' rs d=R
 have HR:=ab hR;clear hR;have HR0:Hid (inS' (rs.drop 0) d=R):=HR;have HSl:=ab h;clear HR h;go_enter Tryz.func190,Tryz.ntmps190
 go_wp2
 go_loopw [9] (fun q wr=>∃k:Nat,k≤rs.length∧q=.int .i64 k∧Below w.heap.size w wr∧Hid (inS' (rs.drop k) d=R)) (fun q _=>rs.length-(intOf q).toNat)
 case atStart=>exact⟨0,by omega,rfl,Below.refl _ _,HR0⟩
 case round =>
  obtain⟨k,hk,rfl,hb,HF⟩:=hrel;clear HR0;have hB:=hb.size;cases hd:rs.drop k with
  | nil =>
   have h2:rs.length≤k:=gU;have HE:Hid (R=false):=ab gY;clear hd HF;go_wp2
   go_ret
   exact⟨jU HE.out.symm,hb⟩
  | cons r0 r =>
   obtain⟨h2,h3,hr⟩:=j6 hd;obtain⟨b,o,rfl,hbB,c0,c1⟩:=(HSl.out.keep hb).row h3;obtain⟨f,t⟩:=r0;have HF':Hid (((leS f d&&leS d t)||inS' (rs.drop (k+1)) d)=R):=ab (by rw [←HF.out,hd,hr];rfl);simp only at c0 c1
   clear hd HF hr h3;have hb2:=hb.alloc hB (.cells #[.string ⟨f.toArray⟩,.string ⟨t.toArray⟩] 72);cases h4:leS f d with
   | false =>
    have H4:=ab h4;go_wp2
    go_roundw
    case rel=>exact⟨k+1,by omega,by go_num,hb2,ab (by rw [←HF'.out,H4.out];rfl)⟩
    case measure=>simp [intOf];omega
   | true =>
    cases h5:leS d t with
    | false =>
     have H4:=ab h4;have H5:=ab h5;go_wp2
     go_roundw
     case rel=>exact⟨k+1,by omega,by go_num,hb2,ab (by rw [←HF'.out,H4.out,H5.out];rfl)⟩
     case measure=>simp [intOf];omega
    | true =>
     have HE:Hid (R=true):=ab (by rw [←HF'.out,h4,h5];rfl);go_wp2
     go_ret
     exact⟨jU HE.out.symm,hb2⟩
theorem In_eq {a:Option Addr} {n c:Nat} {rs:List (Str × Str)} {d:Str} {b:Bool} (w:World) (e:inS' rs d=b) (h:Sl w w.heap.size a 2 n (jX rs)) (hn:n≤100000000) :
  Calls Tryz.prog 190 #[.slice a n c,.string ⟨d.toArray⟩] w fun e w'=>e=.returned (.bool b)∧Below w.heap.size w w':=e▸In_any a n c rs d w h hn
theorem Has_any (a:Option Addr) (n c:Nat) (rs:List (Str × Str)) (ng fold:Bool) (d:Str) (w:World) (h:Sl w w.heap.size a 2 n (jX rs)) (hn:n≤100000000) (hd:d.length≤1000000) :
  Calls Tryz.prog 181 #[.slice a n c,.bool ng,.bool fold,.string ⟨d.toArray⟩] w fun e w'=>e=.returned (.bool (hasS rs ng fold d))∧Below w.heap.size w w':=by
 generalize hR:hasS rs ng fold d=R
 have HR:=ab hR;clear hR;obtain⟨p,hp⟩:∃p,inS' rs d=p:=⟨_,rfl⟩;have H1:=ab (fun w (h:Sl w w.heap.size a 2 n (jX rs))=>In_eq (a:=a) (c:=c) w hp h hn);have H:=ab h;cases fold with
 | false =>
  have HE:Hid (R=(p != ng)):=ab jf;clear h HR hp;go_enter Tryz.func181,Tryz.ntmps181
  go_wp2_with (go_at_call 190;refine(H1.out _ H.out).mono ?_;rintro e w1 ⟨rfl,hb1⟩)
  go_ret
  exact⟨jU iL,hb1⟩
 | true =>
  obtain⟨q,hq⟩:∃q,inS' rs (o4 d)=q:=⟨_,rfl⟩;obtain⟨u,hu⟩:∃u,inS' rs (sG d)=u:=⟨_,rfl⟩;have H2:=ab (fun w (h:Sl w w.heap.size a 2 n (jX rs))=>In_eq (a:=a) (c:=c) w hq h hn);have H3:=ab (fun w (h:Sl w w.heap.size a 2 n (jX rs))=>In_eq (a:=a) (c:=c) w hu h hn);have HE:Hid (R=((p||(q||u)) != ng)):=ab (by rw [←HR.out];unfold hasS;rw [hp,hq,hu];simp);clear h HR hp hq hu;cases p with
  | true =>
   go_enter Tryz.func181,Tryz.ntmps181
   go_wp2_with (go_at_call 190;refine(H1.out _ H.out).mono ?_;rintro e w1 ⟨rfl,hb1⟩)
   go_ret
   exact⟨jU (by rw [HE.out];cases ng<;>rfl),hb1⟩
  | false =>
   cases q with
   | true =>
    go_enter Tryz.func181,Tryz.ntmps181
    go_wp2_with (go_at_call 190;refine(H1.out _ H.out).mono ?_)
    rintro e w1 ⟨rfl,hb1⟩;go_wp2_with (go_at_call 180;refine(tZ d _ hd).mono ?_)
    rintro e w2 ⟨rfl,hb2⟩;go_wp2_with (go_at_call 190;refine(H2.out _ ((H.out.keep (bel2 hb1 hb2)).mono (bel2 hb1 hb2).size)).mono ?_)
    rintro e w3 ⟨rfl,hb3⟩;go_wp2
    go_ret
    exact⟨jU (by rw [HE.out];cases ng<;>rfl),bel2 (bel2 hb1 hb2) hb3⟩
   | false =>
    go_enter Tryz.func181,Tryz.ntmps181
    go_wp2_with (go_at_call 190;refine(H1.out _ H.out).mono ?_)
    rintro e w1 ⟨rfl,hb1⟩;go_wp2_with (go_at_call 180;refine(tZ d _ hd).mono ?_)
    rintro e w2 ⟨rfl,hb2⟩;go_wp2_with (go_at_call 190;refine(H2.out _ ((H.out.keep (bel2 hb1 hb2)).mono (bel2 hb1 hb2).size)).mono ?_)
    rintro e w3 ⟨rfl,hb3⟩;have hb13:=bel2 (bel2 hb1 hb2) hb3;go_wp2_with (go_at_call 191;refine(AV d _ hd).mono ?_)
    rintro e w4 ⟨rfl,hb4⟩;go_wp2_with (go_at_call 190;refine(H3.out _ ((H.out.keep (bel2 hb13 hb4)).mono (bel2 hb13 hb4).size)).mono ?_)
    rintro e w5 ⟨rfl,hb5⟩;go_wp2
    go_ret
    exact⟨jU (by rw [HE.out];cases u<;>cases ng<;>rfl),bel2 (bel2 hb13 hb4) hb5⟩
def PlRel (l:Str) (R:List Nat) (w:World) (v q:Value) (wr:World):Prop :=
 ∃(i k:Nat) (ps:List Nat),i≤l.length∧l.length-i≤k∧q=.int .i64 i∧Below w.heap.size w wr∧wr.ownsRow w.heap.size 3 1 v ps.length (mg ps)∧ps.length≤i+1∧Hid (ps++(lP (kN k (l.drop i)) i).drop 1=R)
theorem vE:(Tryz.prog.info? 3).map (fun i=>(i.zero,i.size,i.bytes))=some (some (.int .i64 0),1,8):=by kernel_rfl
theorem sS (l:Str) (w:World) (hs:l.length≤1000000) :
  Calls Tryz.prog 94 #[.string ⟨l.toArray⟩] w fun e w'=>∃a c,e=.returned (.slice a ((kh l).length+1) c)∧SlS w' (fun b=>w.heap.size≤b) a 1 ((kh l).length+1) (mg (lP (kh l) 0))∧Below w.heap.size w w':=by
 obtain⟨R,hR⟩:∃R,lP (kh l) 0=R:=⟨_,rfl⟩;have hRl:(kh l).length+1=R.length:=by rw [←hR,lH]
 rw [hR,hRl];have HR:Hid ([0]++(lP (kN l.length (l.drop 0)) 0).drop 1=R):=ab (by rw [←hR];unfold kh;rw [C0];cases kN l.length l<;>rfl);obtain⟨ir,hir⟩:=info_parts vE;have hL0:=World.ownsRow_lit (e:=3) (size:=1) (base:=w.heap.size) w #[.int .i64 0] 1 (Cp _) jx rfl;have HL0:=ab hL0;clear hR hRl hL0;go_enter Tryz.func94,Tryz.ntmps94
 go_wp2
 go_loopw [3,4] (fun v q wr=>PlRel l R w v q wr) (fun _ q _=>l.length-(intOf q).toNat)
 case atStart=>exact⟨0,l.length,[0],by omega,by omega,rfl,(Below.refl _ _).alloc (Cp _) _,HL0.out,by simp,HR⟩
 case round =>
  obtain⟨i,k,ps,hi,hk,rfl,hb,hown,hps,HF⟩:=hrel;have hB:=hb.size;clear HR HL0;cases hd:l.drop i with
  | nil =>
   have h2:=ll hd;have HE:Hid (ps=R):=ab (by rw [←HF.out,hd];cases k<;>simp [kN,lP]);exact cY
  | cons c r =>
   obtain⟨h1,h2,h3,h4⟩:=uU l i c r hd;obtain⟨k,rfl⟩:∃k',k=k'+1:=⟨k-1,by have:=CR List.length hd;simp at this;omega⟩;have hil:i<l.length:=by have:=CR List.length hd;simp at this;omega
   have hsp:nG l i=i+(c::r.takeWhile j0).length:=by
    unfold nG;rw [(ky hd).2.2];simp;omega
   have HE:Hid ((ps++[nG l i])++(lP (kN k (l.drop (nG l i))) (nG l i)).drop 1=R):=ab (by
    rw [←HF.out,hd,h4];simp only [kN,lP,List.drop_succ_cons,C0,←hsp];have:∀(cs:List Str) (a:Nat),lP cs a=a::(lP cs a).drop 1:=fun cs a=>by cases cs<;>rfl
    rw [CU,List.singleton_append,←this])
   obtain⟨e,he⟩:∃e,nG l i=e:=⟨_,rfl⟩;rw [he] at h1 h2 h3 h4 HE;have HEN:=ab (he▸ww l i wr gu gu:Calls Tryz.prog 73 #[.string ⟨l.toArray⟩,.int .i64 i] wr fun x w'=>x=.returned (.int .i64 (e:Int))∧wr=w');have hb1:Below wr.heap.size wr (wr.alloc (.cells #[.int .i64 (e:Int)] 3)):=(Below.refl _ _).alloc (Cp _) _;have HO1:=ab (jZ hown hb1);have HSL:=ab (Sl.lit (n:=1) (sz:=1) (heap_alloc_new wr (.cells #[.int .i64 (e:Int)] 3)) rfl);have hz1:w.heap.size≤(wr.alloc (.cells #[.int .i64 (e:Int)] 3)).heap.size:=by rw [CL];omega
   have hbw1:=hb.alloc hB (.cells #[.int .i64 (e:Int)] 3);clear hd h4 he HF hown hsp h3;go_wp2_with (first|(go_at_call 73;refine HEN.out.mono ?_;rintro x w1 ⟨rfl,rfl⟩)|(at_builtin;refine ke w.heap.size 3 rfl _ _ 90 rfl Tryz.underlying90 hir rfl gD rfl HO1.out rfl HSL.out gG gu gu gD hz1 ?_))
   intro v1 w4 ho4 hg4 hb4 hmv;have hb4':=hbw1.trans hb4;have ho5:w4.ownsRow w.heap.size 3 1 v1 (ps++[e]).length (mg (ps++[e])):=by
    rw [show mg (ps++[e])=mg ps++[.int .i64 (e:Int)] by simp [mg],Cy];exact ho4
   clear ho4 hg4 hmv;go_wp2
   go_roundw
   case rel=>exact⟨e,k,ps++[e],h1,by omega,rfl,hb4',ho5,by simp;omega,HE⟩
   case measure=>simp [intOf];omega
theorem rL (l:Str) (w:World) (hs:l.length≤1000000) :
  Calls Tryz.prog 172 #[.string ⟨l.toArray⟩] w fun e w'=>e=.returned (.string ⟨(o4 l).toArray⟩)∧Below w.heap.size w w':=by
 rw [xF];obtain⟨cap,w0,hcv,hrow,hb0,hsz⟩:=BRow.made (P:=Tryz.prog) w (src:=9) (dst:=46) l Tryz.underlying9 Tryz.underlying46 Tryz.underlying5;have HZ:=ab hsz;clear hsz;have hsz0:w.heap.size<w0.heap.size:=by have:=HZ.out;omega
 go_enter Tryz.func172,Tryz.ntmps172
 go_wp2_with (fail)
 go_loopw [4] (fun q wr=>∃k:Nat,k≤l.length∧q=.int .i64 k∧BRow wr w.heap.size ((l.take k).map tB++l.drop k)∧Below w.heap.size w wr∧w.heap.size<wr.heap.size) (fun q _=>l.length-(intOf q).toNat)
 case atStart=>exact b7
 case round =>
  exact aH
theorem yM (l:Str) (w:World) (hs:l.length≤1000000) :
  Calls Tryz.prog 193 #[.string ⟨l.toArray⟩] w fun e w'=>e=.returned (.string ⟨(sG l).toArray⟩)∧Below w.heap.size w w':=by
 rw [uB];obtain⟨cap,w0,hcv,hrow,hb0,hsz⟩:=BRow.made (P:=Tryz.prog) w (src:=9) (dst:=46) l Tryz.underlying9 Tryz.underlying46 Tryz.underlying5;have HZ:=ab hsz;clear hsz;have hsz0:w.heap.size<w0.heap.size:=by have:=HZ.out;omega
 go_enter Tryz.func193,Tryz.ntmps193
 go_wp2_with (fail)
 go_loopw [4] (fun q wr=>∃k:Nat,k≤l.length∧q=.int .i64 k∧BRow wr w.heap.size ((l.take k).map qd++l.drop k)∧Below w.heap.size w wr∧w.heap.size<wr.heap.size) (fun q _=>l.length-(intOf q).toNat)
 case atStart=>exact b7
 case round =>
  exact aG
theorem InV_any (a:Option Addr) (n c:Nat) (rs:List (Str × Str)) (d:Str) (w:World) (h:Sl w w.heap.size a 2 n (jX rs)) (hn:n≤100000000) :
  Calls Tryz.prog 192 #[.slice a n c,.string ⟨d.toArray⟩] w fun e w'=>e=.returned (.bool (inS' rs d))∧w=w':=by
 obtain rfl:=h.row_len;generalize hR:inS' rs d=R
 have HR:=ab hR;clear hR;have HR0:Hid (inS' (rs.drop 0) d=R):=HR;have HSl:=ab h;clear HR h;go_enter Tryz.func192,Tryz.ntmps192
 go_wp2
 go_loopw [5] (fun q wr=>∃k:Nat,k≤rs.length∧q=.int .i64 k∧w=wr∧Hid (inS' (rs.drop k) d=R)) (fun q _=>rs.length-(intOf q).toNat)
 case atStart=>exact⟨0,by omega,rfl,rfl,HR0⟩
 case round =>
  obtain⟨k,hk,rfl,rfl,HF⟩:=hrel;clear HR0;cases hd:rs.drop k with
  | nil =>
   have h2:rs.length≤k:=gU;have HE:Hid (R=false):=ab gY;clear hd HF;go_wp2
   go_ret
   exact⟨jU HE.out.symm,rfl⟩
  | cons r0 r =>
   obtain⟨h2,h3,hr⟩:=j6 hd;obtain⟨b,o,rfl,hbB,c0,c1⟩:=HSl.out.row h3;obtain⟨f,t⟩:=r0;have HF':Hid (((leS f d&&leS d t)||inS' (rs.drop (k+1)) d)=R):=ab (by rw [←HF.out,hd,hr];rfl);simp only at c0 c1
   clear hd HF hr h3;cases h4:leS f d with
   | false =>
    have H4:=ab h4;go_wp2
    go_roundw
    case rel=>exact⟨k+1,by omega,by go_num,trivial,ab (by rw [←HF'.out,H4.out];rfl)⟩
    case measure=>simp [intOf];omega
   | true =>
    cases h5:leS d t with
    | false =>
     have H4:=ab h4;have H5:=ab h5;go_wp2
     go_roundw
     case rel=>exact⟨k+1,by omega,by go_num,trivial,ab (by rw [←HF'.out,H4.out,H5.out];rfl)⟩
     case measure=>simp [intOf];omega
    | true =>
     have HE:Hid (R=true):=ab (by rw [←HF'.out,h4,h5];rfl);go_wp2
     go_ret
     exact⟨jU HE.out.symm,rfl⟩
theorem AZ {a:Option Addr} {n c:Nat} {rs:List (Str × Str)} {d:Str} {b:Bool} (w:World) (e:inS' rs d=b) (h:Sl w w.heap.size a 2 n (jX rs)) (hn:n≤100000000) :
  Calls Tryz.prog 192 #[.slice a n c,.string ⟨d.toArray⟩] w fun e w'=>e=.returned (.bool b)∧w=w':=e▸InV_any a n c rs d w h hn
theorem HasV_any (a:Option Addr) (n c:Nat) (rs:List (Str × Str)) (ng fold:Bool) (d:Str) (w:World) (h:Sl w w.heap.size a 2 n (jX rs)) (hn:n≤100000000) (hd:d.length≤1000000) :
  Calls Tryz.prog 184 #[.slice a n c,.bool ng,.bool fold,.string ⟨d.toArray⟩] w fun e w'=>e=.returned (.bool (hasS rs ng fold d))∧Below w.heap.size w w':=by
 generalize hR:hasS rs ng fold d=R
 have HR:=ab hR;clear hR;obtain⟨p,hp⟩:∃p,inS' rs d=p:=⟨_,rfl⟩;have H1:=ab (fun w (h:Sl w w.heap.size a 2 n (jX rs))=>AZ (a:=a) (c:=c) w hp h hn);have H:=ab h;cases fold with
 | false =>
  have HE:Hid (R=(p != ng)):=ab jf;clear h HR hp;go_enter Tryz.func184,Tryz.ntmps184
  go_wp2_with (go_at_call 192;refine(H1.out _ H.out).mono ?_;rintro e w1 ⟨rfl,rfl⟩)
  go_ret
  exact⟨jU iL,Below.refl _ _⟩
 | true =>
  obtain⟨q,hq⟩:∃q,inS' rs (o4 d)=q:=⟨_,rfl⟩;obtain⟨u,hu⟩:∃u,inS' rs (sG d)=u:=⟨_,rfl⟩;have H2:=ab (fun w (h:Sl w w.heap.size a 2 n (jX rs))=>AZ (a:=a) (c:=c) w hq h hn);have H3:=ab (fun w (h:Sl w w.heap.size a 2 n (jX rs))=>AZ (a:=a) (c:=c) w hu h hn);have HE:Hid (R=((p||(q||u)) != ng)):=ab (by rw [←HR.out];unfold hasS;rw [hp,hq,hu];simp);clear h HR hp hq hu;cases q with
  | true =>
   go_enter Tryz.func184,Tryz.ntmps184
   go_wp2_with (go_at_call 192;refine(H1.out _ H.out).mono ?_)
   rintro e w1 ⟨rfl,rfl⟩;go_wp2_with (go_at_call 172;refine(rL d _ hd).mono ?_)
   rintro e w2 ⟨rfl,hb2⟩;go_wp2_with (go_at_call 192;refine(H2.out _ ((H.out.keep hb2).mono hb2.size)).mono ?_)
   rintro e w3 ⟨rfl,rfl⟩;go_wp2
   go_ret
   exact⟨jU iL,hb2⟩
  | false =>
   go_enter Tryz.func184,Tryz.ntmps184
   go_wp2_with (go_at_call 192;refine(H1.out _ H.out).mono ?_)
   rintro e w1 ⟨rfl,rfl⟩;go_wp2_with (go_at_call 172;refine(rL d _ hd).mono ?_)
   rintro e w2 ⟨rfl,hb2⟩;go_wp2_with (go_at_call 192;refine(H2.out _ ((H.out.keep hb2).mono hb2.size)).mono ?_)
   rintro e w3 ⟨rfl,rfl⟩;go_wp2_with (go_at_call 193;refine(yM d _ hd).mono ?_)
   rintro e w4 ⟨rfl,hb4⟩;go_wp2_with (go_at_call 192;refine(H3.out _ ((H.out.keep (bel2 hb2 hb4)).mono (bel2 hb2 hb4).size)).mono ?_)
   rintro e w5 ⟨rfl,rfl⟩;cases u with
   | true =>
    exact eC
   | false =>
    exact eC
def letV (c:UInt8):Bool:=decide (65≤c.toNat∧c.toNat≤90)||decide (97≤c.toNat∧c.toNat≤122)
def digV (c:UInt8):Bool:=decide (48≤c.toNat∧c.toNat≤57)
theorem LetV_any (c:UInt8) (w:World):Calls Tryz.prog 189 #[.int .u8 c.toNat] w fun e w'=>e=.returned (.bool (letV c))∧w=w':=by
 go_enter Tryz.func189,Tryz.ntmps189
 go_wp2
 all_goals (go_ret;refine⟨jU ?_,rfl⟩;unfold letV;rw [Bool.eq_iff_iff];simp only [CG,Cj];first|omega|(simp;omega)|skip)
theorem DigV_any (c:UInt8) (w:World):Calls Tryz.prog 121 #[.int .u8 c.toNat] w fun e w'=>e=.returned (.bool (digV c))∧w=w':=by
 go_enter Tryz.func121,Tryz.ntmps121
 go_wp2
 all_goals (go_ret;refine⟨jU ?_,rfl⟩;unfold digV;rw [Bool.eq_iff_iff];simp only [Cj];first|omega|(simp;omega)|skip)
theorem LetV_eq {c:UInt8} {b:Bool} (e:letV c=b) (w:World):Calls Tryz.prog 189 #[.int .u8 c.toNat] w fun e w'=>e=.returned (.bool b)∧w=w':=e▸LetV_any c w
theorem DigV_eq {c:UInt8} {b:Bool} (e:digV c=b) (w:World):Calls Tryz.prog 121 #[.int .u8 c.toNat] w fun e w'=>e=.returned (.bool b)∧w=w':=e▸DigV_any c w
theorem wordV_eq (b:UInt8):lG [b]=(letV b||(digV b||decide (b.toNat=95))):=by
 unfold lG letV digV;rw [Bool.eq_iff_iff];simp only [CG,Cj];omega
theorem uO (c:Str) (w:World) (hs:c.length≤100000000):Calls Tryz.prog 183 #[.string ⟨c.toArray⟩] w fun e w'=>e=.returned (.bool (lG c))∧w=w':=by
 match c,hs with
 | [],_ =>
  go_enter Tryz.func183,Tryz.ntmps183
  exact cw
 | b::d::r,hs =>
  go_enter Tryz.func183,Tryz.ntmps183
  exact cw
 | [b],_ =>
  generalize hR:lG [b]=R
  have HR:=ab hR;clear hR;have HR2:Hid ((letV b||(digV b||decide (b.toNat=95)))=R):=ab (by rw [←wordV_eq];exact HR.out);clear HR;obtain⟨l,hl⟩:∃l,letV b=l:=⟨_,rfl⟩;obtain⟨g,hg⟩:∃g,digV b=g:=⟨_,rfl⟩;rw [hl,hg] at HR2;have HL:=ab (fun w=>LetV_eq hl w);have HD:=ab (fun w=>DigV_eq hg w);clear hl hg;cases l with
  | true =>
   exact cA
  | false =>
   cases g with
   | true =>
    exact cA
   | false =>
    go_enter Tryz.func183,Tryz.ntmps183
    go_wp2_with (first|(go_at_call 189;refine(HL.out _).mono ?_;rintro e w1 ⟨rfl,rfl⟩)|(go_at_call 121;refine(HD.out _).mono ?_;rintro e w1 ⟨rfl,rfl⟩))
    all_goals (go_ret;refine⟨jU ?_,rfl⟩;rw [←HR2.out];simp only [Bool.false_or];rw [Bool.eq_iff_iff,Ci,Cj];exact⟨fun h=>by omega,fun h=>by omega⟩)
theorem any_no2 (ks:List Rx):(!anyK ks [0,1])=ks.all fun x=>decide (x.kind≠0∧x.kind≠1):=by
 induction ks with
 | nil=>rfl
 | cons x r ih =>
  exact dY
theorem any_no1 (ks:List Rx):(!anyK ks [1])=ks.all fun x=>decide (x.kind≠1):=by
 induction ks with
 | nil=>rfl
 | cons x r ih =>
  exact dY
theorem wx {S:Nat→Prop} {xa:Option Addr} {xc m:Nat} {xs:List Rx} {zs:List Int} {a:Option Addr} {n c:Nat} {b:Bool} (w:World) (h0:anyK xs zs=b)
  (hx:RxSl w S xa m xs) (hxn:xs.length≤100000000) (h:Sl w w.heap.size a 1 n (n9 zs)) (hn:n≤100000000) :
  Calls Tryz.prog 125 #[.slice xa m xc,.slice a n c] w fun e w'=>e=.returned (.bool b)∧Below w.heap.size w w':=by
 obtain rfl:=hx.len;subst h0;exact some_any S xa xc xs zs a n c w hx hxn h hn
theorem fields_0 (S:Nat→Prop) (c:Str) (ng:Bool) (ra:Option Addr) (rs:List (Str × Str)) (rc:Nat) (lo hi:Int) (lz:Bool) (ka:Option Addr) (ks:List Rx) (kc:Nat) (w:World)
  (hx:RxSl w S ka ks.length ks) (hsm:(Rx.mk 0 c ng rs lo hi lz ks).small1) :
  Calls Tryz.prog 91 #[.agg #[.int .i64 0,.string ⟨c.toArray⟩,.bool ng,.slice ra rs.length rc,.int .i64 lo,.int .i64 hi,.bool lz,.slice ka ks.length kc]] w fun e w'=>e=.returned (.bool (kw (.mk 0 c ng rs lo hi lz ks)))∧Below w.heap.size w w':=by
 generalize hR:kw (.mk 0 c ng rs lo hi lz ks)=R
 have HR:=ab hR;clear hR;have HS:Hid (R=(lT c ng rs.length lo hi lz&&decide (ks.length≠1)&&!anyK ks [0,1])):=ab (by rw [←HR.out,←lE 0 c ng rs lo hi lz ks,any_no2];rfl);obtain⟨s1,s2,s3,s4⟩:=hsm;clear HR s3;cases hbv:lT c ng rs.length lo hi lz with
 | false =>
  exact aF
 | true =>
  have HB:=ab hbv;have HR:Hid (R=(decide (ks.length≠1)&&!anyK ks [0,1])):=ab iA;clear hbv;obtain⟨b,hab⟩:∃b,anyK ks [0,1]=b:=⟨_,rfl⟩;have HA:=ab hab;rw [hab] at HR;clear hab;rcases ks with _|⟨x,_|⟨y,ks⟩⟩
  ·have HR2:Hid (R=!b):=ab (by rw [HR.out];simp)
   go_enter Tryz.func91,Tryz.ntmps91
   go_wp2_with (first|(((go_at_call 122;refine(ma _ HB.out).mono ?_;rintro e w1 ⟨rfl,hb1,hc1⟩;have hq7:=hc1 ⟨w.heap.size,7,none⟩ (.slice ka (0) kc) gF));have HX1:=ab ((hx.later ((Below.refl _ _).alloc (Cp _) _)).later hb1))|(go_at_call 125;refine(wx (zs:=[0,1]) _ HA.out (HX1.out.later ((Below.refl _ _).alloc (Cp _) _)) iC (Sl.lit (n:=2) (heap_alloc_new w1 (.cells #[.int .i64 0,.int .i64 1] 3)) rfl) gD).mono ?_;rintro e w2 ⟨rfl,hb2⟩))
   exact bP
  ·have HR2:Hid (R=false):=ab it
   exact fi
  ·have HR2:Hid (R=!b):=ab (by rw [HR.out];simp)
   simp only [Cr] at s4;go_enter Tryz.func91,Tryz.ntmps91
   go_wp2_with (first|(((go_at_call 122;refine(ma _ HB.out).mono ?_;rintro e w1 ⟨rfl,hb1,hc1⟩;have hq7:=hc1 ⟨w.heap.size,7,none⟩ (.slice ka (ks.length+1+1) kc) gF));have HX1:=ab ((hx.later ((Below.refl _ _).alloc (Cp _) _)).later hb1))|(go_at_call 125;refine(wx (zs:=[0,1]) _ HA.out (HX1.out.later ((Below.refl _ _).alloc (Cp _) _)) iC (Sl.lit (n:=2) (heap_alloc_new w1 (.cells #[.int .i64 0,.int .i64 1] 3)) rfl) gD).mono ?_;rintro e w2 ⟨rfl,hb2⟩))
   exact bP
theorem fields_1 (S:Nat→Prop) (c:Str) (ng:Bool) (ra:Option Addr) (rs:List (Str × Str)) (rc:Nat) (lo hi:Int) (lz:Bool) (ka:Option Addr) (ks:List Rx) (kc:Nat) (w:World)
  (hx:RxSl w S ka ks.length ks) (hsm:(Rx.mk 1 c ng rs lo hi lz ks).small1) :
  Calls Tryz.prog 91 #[.agg #[.int .i64 1,.string ⟨c.toArray⟩,.bool ng,.slice ra rs.length rc,.int .i64 lo,.int .i64 hi,.bool lz,.slice ka ks.length kc]] w fun e w'=>e=.returned (.bool (kw (.mk 1 c ng rs lo hi lz ks)))∧Below w.heap.size w w':=by
 generalize hR:kw (.mk 1 c ng rs lo hi lz ks)=R
 have HR:=ab hR;clear hR;have HS:Hid (R=(lT c ng rs.length lo hi lz&&decide (1<ks.length)&&!anyK ks [1])):=ab (by rw [←HR.out,←lE 1 c ng rs lo hi lz ks,any_no1];rfl);obtain⟨s1,s2,s3,s4⟩:=hsm;clear HR s3;cases hbv:lT c ng rs.length lo hi lz with
 | false =>
  exact aF
 | true =>
  have HB:=ab hbv;have HR:Hid (R=(decide (1<ks.length)&&!anyK ks [1])):=ab iA;clear hbv;obtain⟨b,hab⟩:∃b,anyK ks [1]=b:=⟨_,rfl⟩;have HA:=ab hab;rw [hab] at HR;clear hab;rcases ks with _|⟨x,_|⟨y,ks⟩⟩
  ·have HR2:Hid (R=false):=ab it
   exact fh
  ·have HR2:Hid (R=false):=ab it
   exact fi
  ·have HR2:Hid (R=!b):=ab (by rw [HR.out];simp)
   simp only [Cr] at s4;go_enter Tryz.func91,Tryz.ntmps91
   go_wp2_with (first|(((go_at_call 122;refine(ma _ HB.out).mono ?_;rintro e w1 ⟨rfl,hb1,hc1⟩;have hq7:=hc1 ⟨w.heap.size,7,none⟩ (.slice ka (ks.length+1+1) kc) gF));have HX1:=ab ((hx.later ((Below.refl _ _).alloc (Cp _) _)).later hb1))|(go_at_call 125;refine(wx (zs:=[1]) _ HA.out (HX1.out.later ((Below.refl _ _).alloc (Cp _) _)) iC (Sl.lit (n:=1) (heap_alloc_new w1 (.cells #[.int .i64 1] 3)) rfl) gD).mono ?_;rintro e w2 ⟨rfl,hb2⟩))
   exact bP
def oneB (ks:List Rx):Bool:=match ks with|[x]=>repB x.kind|_=>false
theorem xw {k:Int} {b:Bool} (w:World) (h:repB k=b):Calls Tryz.prog 124 #[.int .i64 k] w fun e w'=>e=.returned (.bool b)∧w=w':=by
 subst h;exact vO k w
theorem fields_7 (S:Nat→Prop) (c:Str) (ng:Bool) (ra:Option Addr) (rs:List (Str × Str)) (rc:Nat) (lo hi:Int) (lz:Bool) (ka:Option Addr) (ks:List Rx) (kc:Nat) (w:World)
  (hx:RxSl w S ka ks.length ks) (hsm:(Rx.mk 7 c ng rs lo hi lz ks).small1) :
  Calls Tryz.prog 91 #[.agg #[.int .i64 7,.string ⟨c.toArray⟩,.bool ng,.slice ra rs.length rc,.int .i64 lo,.int .i64 hi,.bool lz,.slice ka ks.length kc]] w fun e w'=>e=.returned (.bool (kw (.mk 7 c ng rs lo hi lz ks)))∧Below w.heap.size w w':=by
 generalize hR:kw (.mk 7 c ng rs lo hi lz ks)=R
 have HR:=ab hR;clear hR;have HS:Hid (R=(lT c ng rs.length 0 0 false&&oneB ks&&decide (0≤lo∧lo≤255∧(hi=-1∨lo≤hi∧hi≤255)))):=ab (by rw [←HR.out,←lE 7 c ng rs 0 0 false ks];rfl);obtain⟨s1,s2,s3,s4⟩:=hsm;clear HR s3;cases hbv:lT c ng rs.length 0 0 false with
 | false =>
  have HB:=ab hbv;have HR:Hid (R=false):=ab iA;clear hbv;go_enter Tryz.func91,Tryz.ntmps91
  go_wp2
  go_quiet (fail)
  go_wp2_with (go_at_call 122;refine(ma _ HB.out).mono ?_;rintro e w1 ⟨rfl,hb1,hc1⟩;have hq7:=hc1 ⟨w.heap.size,7,none⟩ (.slice ka (ks.length) kc) (by simp [go_sem]))
  go_ret
  exact⟨jU HR.out.symm,((((below_drewN ((Below.refl w.heap.size w).alloc (Cp _) _) _).setCell gF _).setCell gF _).setCell gF _).trans (hb1.mono jF)⟩
 | true =>
  have HB:=ab hbv;have HR:Hid (R=(oneB ks&&decide (0≤lo∧lo≤255∧(hi=-1∨lo≤hi∧hi≤255)))):=ab iA;clear hbv;rcases ks with _|⟨x,_|⟨y,ks⟩⟩
  ·have HR2:Hid (R=false):=ab it
   go_enter Tryz.func91,Tryz.ntmps91
   go_wp2
   go_quiet (fail)
   go_wp2_with (go_at_call 122;refine(ma _ HB.out).mono ?_;rintro e w1 ⟨rfl,hb1,hc1⟩;have hq7:=hc1 ⟨w.heap.size,7,none⟩ (.slice ka (0) kc) (by simp [go_sem]))
   exact cJ
  ·obtain⟨xk,xc,xn,xr,xl,xh,xz,xs⟩:=x
   obtain⟨b,o,_,_,_,_,rfl,_,hbB,_,_,_,q0,_⟩:=hx.cells (m:=0) rfl;simp only [Nat.zero_mul,Nat.add_zero] at q0;obtain⟨rb,hrb⟩:∃rb,repB xk=rb:=⟨_,rfl⟩;have HRB:=ab hrb;have HR2:Hid (R=(rb&&decide (0≤lo∧lo≤255∧(hi=-1∨lo≤hi∧hi≤255)))):=ab (by rw [HR.out,←HRB.out];rfl);clear hrb;cases rb
   all_goals
    go_enter Tryz.func91,Tryz.ntmps91
    go_wp2
    go_quiet (fail)
    go_wp2_with (first|(go_at_call 122;refine(ma _ HB.out).mono ?_;rintro e w1 ⟨rfl,hb1,hc1⟩;have hq7:=hc1 ⟨w.heap.size,7,none⟩ (.slice (some ⟨b,o,none⟩) 1 kc) (by simp [go_sem]);have hq0:w1.cell? ⟨b,o,none⟩=some (.int .i64 xk):=hc1 _ _ (by simp [go_sem,World.cell?_alloc_lt,hbB,q0]))|(go_at_call 124;refine(xw _ HRB.out).mono ?_;rintro e w2 ⟨rfl,rfl⟩))
    all_goals
     go_ret
     refine⟨jU ?_,((((below_drewN ((Below.refl w.heap.size w).alloc (Cp _) _) _).setCell gF _).setCell gF _).setCell gF _).trans (hb1.mono jF)⟩;rw [HR2.out];first|rfl|(rw [CE,Bool.eq_iff_iff];simp;omega)
  ·have HR2:Hid (R=false):=ab it
   go_enter Tryz.func91,Tryz.ntmps91
   go_wp2
   go_quiet (fail)
   go_wp2_with (go_at_call 122;refine(ma _ HB.out).mono ?_;rintro e w1 ⟨rfl,hb1,hc1⟩;have hq7:=hc1 ⟨w.heap.size,7,none⟩ (.slice ka (ks.length+1+1) kc) (by simp [go_sem]))
   exact cJ
theorem zJ (S:Nat→Prop) (K:Int) (c:Str) (ng:Bool) (ra:Option Addr) (rs:List (Str × Str)) (rc:Nat) (lo hi:Int) (lz:Bool) (ka:Option Addr) (ks:List Rx) (kc:Nat) (w:World)
  (hr:SlS w S ra 2 rs.length (jX rs)) (hx:RxSl w S ka ks.length ks) (hsm:(Rx.mk K c ng rs lo hi lz ks).small1) :
  Calls Tryz.prog 91 #[.agg #[.int .i64 K,.string ⟨c.toArray⟩,.bool ng,.slice ra rs.length rc,.int .i64 lo,.int .i64 hi,.bool lz,.slice ka ks.length kc]] w fun e w'=>e=.returned (.bool (kw (.mk K c ng rs lo hi lz ks)))∧Below w.heap.size w w':=by
 by_cases h0:K=0
 ·subst h0;exact fields_0 S c ng ra rs rc lo hi lz ka ks kc w hx hsm
 by_cases h1:K=1
 ·subst h1;exact fields_1 S c ng ra rs rc lo hi lz ka ks kc w hx hsm
 by_cases h2:K=2
 ·subst h2;exact fields_2 c ng ra rs rc lo hi lz ka ks kc w hsm
 by_cases h4:K=4
 ·subst h4;exact fields_4 c ng ra rs rc lo hi lz ka ks kc w hr.sl hsm
 by_cases h7:K=7
 ·subst h7;exact fields_7 S c ng ra rs rc lo hi lz ka ks kc w hx hsm
 by_cases h5:K=5∨K=6
 ·exact zm K h5 c ng ra rs rc lo hi lz ka ks kc w hsm
 by_cases h3:K=3∨K=8∨K=9∨K=10∨K=11
 ·exact wP K h3 c ng ra rs rc lo hi lz ka ks kc w hsm
 ·exact wu K gu c ng ra rs.length rs rc lo hi lz ka ks.length ks kc w
theorem rI (ks:List Rx):Rx.deepL ks≤Rx.partsL ks:=by
 induction ks with
 | nil=>simp [Rx.deepL]
 | cons x r ih=>have:=Rx.deep_parts x;simp only [Rx.deepL,Rx.partsL];omega
theorem tX (ks:List Rx):Rx.groupsL ks≤Rx.partsL ks:=by
 induction ks with
 | nil=>simp [Rx.groupsL]
 | cons x r ih=>have:=Rx.groups_parts x;simp only [Rx.groupsL,Rx.partsL];omega
def xP (ks:List Rx) (f:List Rx→Nat) (op:Nat→Nat→Nat) (R:Nat) (w:World) (t q:Value) (wr:World):Prop :=
 ∃(k d:Nat),k≤ks.length∧q=.int .i64 k∧t=.int .i64 d∧d≤100000000∧Below w.heap.size w wr∧Hid (op d (f (ks.drop k))=R)
theorem mh (S:Nat→Prop):∀(N:Nat) (x:Rx),x.parts≤N→x.parts≤1000000→∀(cc:List Value) (w:World),RxV w S cc x →
  Calls Tryz.prog 107 #[.agg cc.toArray] w fun e w'=>e=.returned (.int .i64 x.groups)∧Below w.heap.size w w'
 | 0,x,h,_,_,_,_=>by have:=Rx.parts_pos x;omega
 | N+1,.mk k c ng rs lo hi lz ks,h,hm,cc,w,hv=>by
  obtain⟨ra,rc,ka,kc,rfl,hrs,hx⟩:=hv.open_;simp only [Rx.parts] at h hm;have hlen:=Rx.len_parts ks;have hdl:=tX ks;have ih:=fun(y:Rx) (hy:y.parts≤Rx.partsL ks)=>mh S N y gu gu
  have IH:=ab ih;obtain⟨w0,hw0⟩:∃w0,w0=w.alloc (.cells #[.int .i64 k,.string ⟨c.toArray⟩,.bool ng,.slice ra rs.length rc,.int .i64 lo,.int .i64 hi,.bool lz,.slice ka ks.length kc] 25):=⟨_,rfl⟩;have hb0:Below w.heap.size w w0:=by rw [hw0];exact(Below.refl _ _).alloc (Cp _) _
  have HX:=ab (hx.later hb0);have Z0:Hid (w0.cell? ⟨w.heap.size,0,none⟩=some (.int .i64 k)):=ab jH;have Z7:Hid (w0.cell? ⟨w.heap.size,7,none⟩=some (.slice ka ks.length kc)):=ab jH;obtain⟨R,hR⟩:∃R,(Rx.mk k c ng rs lo hi lz ks).groups=R:=⟨_,rfl⟩;have hR6:R≤1000000:=by have:=Rx.groups_parts (.mk k c ng rs lo hi lz ks);simp only [Rx.parts] at this;omega
  have HR1:Hid ((if k=5 then 1 else 0)+Rx.groupsL (ks.drop 0)=R):=ab hR;rw [hR];clear hR hx hv hrs ih hdl;unfold rxc;by_cases hk5:k=5
  ·have HR0:Hid (1+Rx.groupsL (ks.drop 0)=R):=ab (by rw [←HR1.out,Cl hk5])
   have e5:(k==5)=true:=by simpa using hk5
   clear hk5 HR1;go_enter Tryz.func107,Tryz.ntmps107
   go_wp2
   rw [←hw0];clear hw0;go_loopw [3,4] (fun t q wr=>xP ks Rx.groupsL (·+·) R w0 t q wr) (fun _ q _=>ks.length-(intOf q).toNat)
   case atStart=>exact⟨0,1,by omega,rfl,rfl,by omega,Below.refl _ _,HR0⟩
   case round =>
    exact aY
  ·have HR0:Hid (0+Rx.groupsL (ks.drop 0)=R):=ab (by rw [←HR1.out,Co hk5])
   have e5:(k==5)=false:=by simpa using hk5
   clear hk5 HR1;go_enter Tryz.func107,Tryz.ntmps107
   go_wp2
   rw [←hw0];clear hw0;go_loopw [3,4] (fun t q wr=>xP ks Rx.groupsL (·+·) R w0 t q wr) (fun _ q _=>ks.length-(intOf q).toNat)
   case atStart=>exact⟨0,0,by omega,rfl,rfl,by omega,Below.refl _ _,HR0⟩
   case round =>
    exact aY
def oG:Nat→Str→List Nat
 | i,[]=>[i]
 | i,c::r=>if j0 c=true then oG (i+1) r else i::oG (i+1) r
theorem tG:∀(k:Nat) (r:Str) (i:Nat),r.length≤k→oG i r=lP (kN k (r.dropWhile j0)) (i+(r.takeWhile j0).length)
 | k,[],i,_=>by cases k<;>rfl
 | 0,c::r,i,h=>by simp at h
 | k+1,c::r,i,h=>by
  simp only [Cr] at h;unfold oG;cases hc:j0 c with
  | true =>
   rw [Cl rfl,tG (k+1) r (i+1) gu,List.dropWhile_cons,Cl hc,List.takeWhile_cons,Cl hc,Cr,show i+1+(r.takeWhile j0).length=i+((r.takeWhile j0).length+1) by omega]
  | false =>
   rw [Co gD,tG k r (i+1) gu,List.dropWhile_cons,Co (by rw [hc];decide),List.takeWhile_cons,Co (by rw [hc];decide)];simp only [kN,lP,CW,Nat.add_zero,Cr];rw [show i+1+(r.takeWhile j0).length=i+((r.takeWhile j0).length+1) by omega]
theorem Bw (c:UInt8) (r:Str):0::oG 1 r=lP (kh (c::r)) 0:=by
 unfold kh;simp only [Cr,kN,lP];rw [tG r.length r 1 (Cp _),show 0+((r.takeWhile j0).length+1)=1+(r.takeWhile j0).length by omega]
theorem uH (c:UInt8) {b:Bool} (w:World) (h:j0 c=b):Calls Tryz.prog 82 #[.int .u8 c.toNat] w fun e w'=>e=.returned (.bool (!b))∧w=w':=by
 exact de
def PlRelV (l:Str) (R:List Nat) (w:World) (v q:Value) (wr:World):Prop :=
 ∃(i:Nat) (ps:List Nat),q=.int .i64 i∧Below w.heap.size w wr∧wr.ownsRow w.heap.size 3 1 v ps.length (mg ps)∧ps.length≤i∧1≤i ∧
  ((i≤l.length∧Hid (ps++oG i (l.drop i)=R))∨(i=l.length+1∧Hid (ps=R)))
theorem xo (l:Str) (w:World) (hs:l.length≤1000000) :
  Calls Tryz.prog 70 #[.string ⟨l.toArray⟩] w fun e w'=>∃a c,e=.returned (.slice a ((kh l).length+1) c)∧SlS w' (fun b=>w.heap.size≤b) a 1 ((kh l).length+1) (mg (lP (kh l) 0))∧Below w.heap.size w w':=by
 obtain⟨R,hR⟩:∃R,lP (kh l) 0=R:=⟨_,rfl⟩;have hRl:(kh l).length+1=R.length:=by rw [←hR,lH]
 rw [hR,hRl];have HR:Hid ((1≤l.length∧Hid ([0]++oG 1 (l.drop 1)=R))∨(1=l.length+1∧Hid ([0]=R))):=ab (by
  rw [←hR];cases l with
  | nil=>exact .inr ⟨rfl,ab rfl⟩
  | cons c r=>exact .inl ⟨by simp,ab (Bw c r)⟩)
 obtain⟨ir,hir⟩:=info_parts vE;have HL0:=ab (World.ownsRow_lit (e:=3) (size:=1) (base:=w.heap.size) w #[.int .i64 0] 1 (Cp _) jx rfl);clear hR hRl;go_enter Tryz.func70,Tryz.ntmps70
 go_wp2
 go_loopw [3,4] (fun v q wr=>PlRelV l R w v q wr) (fun _ q _=>l.length+1-(intOf q).toNat)
 case atStart=>exact⟨1,[0],rfl,(Below.refl _ _).alloc (Cp _) _,HL0.out,by simp,Cp _,HR.out⟩
 case round =>
  obtain⟨i,ps,rfl,hb,hown,hps,hi1,HF⟩:=hrel;have hB:=hb.size;clear HR HL0;rcases HF with⟨hi,HF⟩|⟨hi,HF⟩
  ·by_cases hil:i=l.length
   ·subst hil
    have HE:Hid (ps++[l.length]=R):=ab (by rw [←HF.out,List.drop_length];rfl);clear HF;go_wp2_with (at_builtin;refine kz w.heap.size 3 rfl _ _ 90 rfl Tryz.underlying90 hir rfl gD rfl hown rfl gZ rfl gG gu gD hB ?_)
    intro v1 w1 ho1 hg1 hb1 hne1;go_wp2
    go_roundw
    case rel=>exact⟨l.length+1,ps++[l.length],by go_num,hb.trans (hb1.mono (Cp _)),by simpa [mg] using ho1,by simp;omega,by omega,.inr ⟨rfl,HE⟩⟩
    case measure=>simp [intOf]<;>omega
   ·have hlt:i<l.length:=gu
    have hne:((i:Int)==l.length)=false:=by rw [CM];omega
    cases hd:l.drop i with
    | nil=>have:=ll hd;omega
    | cons c r =>
     obtain⟨_,h3,hr⟩:=ky hd;cases hc:j0 c with
     | true =>
      have HE:Hid (ps++oG (i+1) (l.drop (i+1))=R):=ab (by
        rw [←HF.out,hd,hr]
        conv=>rhs;unfold oG
        rw [Cl hc])
      clear hd HF hr hil;go_wp2_with (go_at_call 82;refine(uH c _ hc).mono ?_;rintro e w1 ⟨rfl,rfl⟩)
      go_roundw
      case rel=>exact⟨i+1,ps,by go_num,hb,hown,by omega,by omega,.inl ⟨by omega,HE⟩⟩
      case measure=>simp [intOf]<;>omega
     | false =>
      have HE:Hid ((ps++[i])++oG (i+1) (l.drop (i+1))=R):=ab (by
       rw [←HF.out,hd,hr,CU];conv=>rhs;unfold oG
       rw [Co (by rw [hc];decide)];rfl)
      clear hd HF hr hil;go_wp2_with (first|(go_at_call 82;refine(uH c _ hc).mono ?_;rintro e w1 ⟨rfl,rfl⟩)|(at_builtin;refine kz w.heap.size 3 rfl _ _ 90 rfl Tryz.underlying90 hir rfl gD rfl hown rfl gZ rfl gG gu gD hB ?_))
      intro v1 w1 ho1 hg1 hb1 hne1;go_wp2
      go_roundw
      case rel=>exact⟨i+1,ps++[i],by go_num,hb.trans (hb1.mono (Cp _)),by simpa [mg] using ho1,by simp;omega,by omega,.inl ⟨by omega,HE⟩⟩
      case measure=>simp [intOf]<;>omega
  ·obtain⟨va,vc,rfl⟩:=j7 hown
   have h2:l.length<i:=gu;have HE:=HF;have HOW:=ab hown;clear HF hi hown;go_wp2
   go_ret
   exact⟨va,vc,by rw [HE.out];rfl,by rw [←HE.out];exact mQ HOW.out,hb⟩
end Go.Proofs.YtjggmmaojklmpaaGreat
