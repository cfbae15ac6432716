/- The reference's on, whole -/
import Derived.Test.YtjggmmaojklmpaaGreatLb8
import Derived.Deep.WholeRow
set_option maxRecDepth 100000
set_option maxHeartbeats 4000000
namespace Go.Proofs.YtjggmmaojklmpaaGreat
open Go.RowKit
theorem AnsE.res {R:Vn} {w:World} {r:Ro} {e:Ending} {w':World} (h:AnsE R w r e w'):ResV R w r e w':=by
 obtain⟨_,_,_,rfl,h2⟩:=h;exact h2
theorem Au {R:Vn} {n i:Nat} {K:List Nx} (hK:FitK R n i K):∀(ks:List Rx) (g:Nat),Rx.wfL ks=true→Rx.smallL ks→Rx.partsL ks≤1000000→g+Rx.groupsL ks≤n→FitK R n i (seqN ks g K)
 | [],_,_,_,_,_=>hK
 | y::ks,g,h1,h2,h3,h4=>by
  simp only [Rx.wfL,Cs] at h1;simp only [Rx.smallL] at h2;simp only [Rx.partsL] at h3;simp only [Rx.groupsL] at h4;intro k hk;rcases Cz.1 hk with rfl|hk
  ·exact⟨.inl rfl,Nat.zero_le _,fun _=>⟨h1.1,h2.1,by show y.parts≤1000000;omega,by show g+y.groups≤n;omega⟩,(fun h=>by cases h),(fun h=>by cases h)⟩
  ·exact Au hK ks _ h1.2 h2.2 gu gu k hk
theorem on_all {R:Vn} (ok:VnOk R) {n:Nat} (hn:n≤1000000):∀N,OnC R n N
 | 0=>fun _ _ _ _ _ h=>by cases h
 | N+1=>by
  have HO:=on_all ok hn N;have HT:=time_any ok hn HO;have HB:=As ok hn HO;have HR:=rep_any HO HT;intro K i ps fu r hm hi hps hK w sv a c' hs hr hp;have hcs:=ok.cs;cases K with
  | nil =>
   have hsv:sv=.pointer none:=hs;subst hsv;have e:r=(some (i,ps),fu,false):=(Option.some.inj hm).symm;subst e;exact on_nil hps hr hp
  | cons k K =>
   obtain⟨kk,x,g,many,fr⟩:=k;have hf:=hK _ (CB ..);have hK':FitK R n i K:=fun k hk=>hK k (CC _ hk)
   have hs0:=hs;obtain⟨b,cc,rv,rfl,hS,hb,hc8,hx,hrest⟩:=hs;obtain⟨rp,rfl⟩:=hrest.ptr;have hrl:=hr.lt;by_cases h1:kk=1
   ·subst h1
    have hm':onR R.C N K i (mG ps g ((R.C.offs.getD fr 0:Int),(R.C.offs.getD i 0:Int))) fu=some r:=hm;obtain⟨z0,z9,z11,z12⟩:=nx_cells hb hc8;have hfr:fr≤i:=hf.fr;obtain⟨ob,oo,hoa,o1⟩:=hr.off ok (show fr≤R.C.cs.length by omega);obtain⟨ob',oo',hoa',o2⟩:=hr.off ok hi;rw [hoa] at hoa';injection hoa' with hoa'
    injection hoa' with e1 e2
    subst e1;subst e2;have y1:=hr.c1;rw [hoa] at y1;have hgn:g<n:=hf.g1 rfl;refine(show Calls Tryz.prog 108 #[.pointer (some ⟨R.r,0,none⟩),.pointer (some ⟨b,0,none⟩),.int .i64 (i:Int),.slice a n c'] w (AnsE R w r) from on_end hn hi hfr hgn hps z0 z9 z11 z12 y1 o1 o2 hp (ab fun W a1 c1 hW hown=>?_)).mono fun e w' h=>h.res
    have hsl:SlS W R.S a1 2 n (jV (mG ps g ((R.C.offs.getD fr 0:Int),(R.C.offs.getD i 0:Int)))):=(mQ hown).mono fun b hb _=>hr.new hb
    exact(HO K i _ fu r hm' hi (by unfold mG;rw [List.length_set];exact hps) hK' W _ a1 c1 (hrest.later hW) (hr.later hW) hsl).mono fun e w' h=>(h.back (Gx.of_below hW)).open
   obtain⟨hwf,hsm,hpt,hgr⟩:=hf.x0 h1;have hnd:NodeV R n i ⟨kk,x,g,many,fr⟩:=⟨h1,hwf,hsm,hpt,hgr⟩;have hxv:=hx h1;obtain⟨xk,c,ng,rs,lo,xh,lz,ks⟩:=x;obtain⟨ra,rc,ka,kc,rfl,hrs,hks⟩:=hxv.open_;by_cases h2:kk=2
   ·subst h2
    obtain⟨h7,hmany⟩:=hf.x2 rfl;simp only [Rx.kind,Rx.lo] at h7 hmany;have hfr:fr≤i:=hf.fr;by_cases hst:lo<(many:Int)∧i=fr
    ·obtain⟨h3,rfl⟩:=hst
     have e:r=(none,fu,false):=by
      have:(if lo<(many:Int)∧i=i then some (none,fu,false) else repL (onR R.C N) ⟨2,.mk xk c ng rs lo xh lz ks,g,many,i⟩ K i ps fu)=some r:=hm
      rw [Cl ⟨h3,rfl⟩] at this;exact(Option.some.inj this).symm
     subst e;exact on_stop hs0 h3 hr
    ·have hm':repL (onR R.C N) ⟨2,.mk xk c ng rs lo xh lz ks,g,many,fr⟩ K i ps fu=some r:=by
      have:(if lo<(many:Int)∧i=fr then some (none,fu,false) else repL (onR R.C N) ⟨2,.mk xk c ng rs lo xh lz ks,g,many,fr⟩ K i ps fu)=some r:=hm
      rwa [Co hst] at this
     refine(show Calls Tryz.prog 108 #[.pointer (some ⟨R.r,0,none⟩),.pointer (some ⟨b,0,none⟩),.int .i64 (i:Int),.slice a n c'] w (AnsE R w r) from on_time (ndc hb) ?_ (ab fun W hW=>?_)).mono fun e w' h=>h.res
     ·by_cases h3:lo<(many:Int)
      ·exact .inr ⟨CO h3,by rw [CM];intro e;exact hst ⟨h3,by omega⟩⟩
      ·exact .inl (CP h3)
     ·refine(HR _ K i ps fu r hm' hi hps hK' hnd ⟨h7,?_⟩ W _ a c' (hs0.later hW) (hr.later hW) (hp.keep (Kept.all hW))).mono fun e w' h=>(h.back (Gx.of_below hW)).open
      show (many:Int)≤lo+i
      by_cases h3:lo<(many:Int)
      ·have:i≠fr:=fun e=>hst ⟨h3,e⟩
       omega
      ·omega
   have h0:kk=0:=by have:=hf.kd;simp only at this;omega
   subst h0;simp only [Rx.wf,Cs] at hwf;have hsl1:=(show Rx.small (.mk xk c ng rs lo xh lz ks) from hsm).2;by_cases k0:xk=0
   ·subst k0
    have hm':onR R.C N (seqN ks g K) i ps fu=some r:=hm;have hgr0:g+Rx.groupsL ks≤n:=by simp only [Rx.groups] at hgr;rw [Co gD] at hgr;omega
    refine(show Calls Tryz.prog 108 #[.pointer (some ⟨R.r,0,none⟩),.pointer (some ⟨b,0,none⟩),.int .i64 (i:Int),.slice a n c'] w (AnsE R w r) from on_seq (fun b h9=>hr.new h9) (ndc hb) hrest hks hxv hpt gu (ab fun W v hW hv=>?_)).mono fun e w' h=>h.res
    exact(HO _ i ps fu r hm' hi hps (Au hK' ks g hwf.2 hsl1 (by simp only [Rx.parts] at hpt;omega) hgr0) W v a c' hv (hr.later hW) (hp.keep (Kept.all hW))).mono fun e w' h=>(h.back (Gx.of_below hW)).open
   by_cases k1:xk=1
   ·subst k1
    have hm':altL (onR R.C N) ks g K i ps fu=some r:=hm;have hgr0:g+Rx.groupsL ks≤n:=by simp only [Rx.groups] at hgr;rw [Co gD] at hgr;omega
    refine(show Calls Tryz.prog 108 #[.pointer (some ⟨R.r,0,none⟩),.pointer (some ⟨b,0,none⟩),.int .i64 (i:Int),.slice a n c'] w (AnsE R w r) from on_alt hr hS hb hrest hks hpt gu hm' (ab fun m y fu2 q hy hq W v hW hrW hv=>?_)).mono fun e w' h=>h.res
    refine HO _ i ps fu2 q hq hi hps ?_ W v a c' hv hrW (hp.keep hW.kept);have hmem:=CF hy;have hgl:=mO ks (m+1);rw [nQ hy] at hgl;intro k hk;rcases Cz.1 hk with rfl|hk
    ·exact⟨.inl rfl,Nat.zero_le _,fun _=>⟨tT hwf.2 hmem,lK hsl1 hmem,by have:=Rx.parts_mem hmem;simp only [Rx.parts] at hpt;show y.parts≤1000000;omega,by show g+Rx.groupsL (ks.take m)+y.groups≤n;omega⟩,(fun h=>by cases h),(fun h=>by cases h)⟩
    ·exact hK' k hk
   by_cases k7:xk=7
   ·subst k7
    have hm':repL (onR R.C N) (nx0 (.mk 7 c ng rs lo xh lz ks) g) K i ps fu=some r:=hm;obtain⟨y,hky,_,hlo0,_⟩:=wf7 (show (Rx.mk 7 c ng rs lo xh lz ks).wf=true by simp only [Rx.wf,Cs];exact hwf);refine(show Calls Tryz.prog 108 #[.pointer (some ⟨R.r,0,none⟩),.pointer (some ⟨b,0,none⟩),.int .i64 (i:Int),.slice a n c'] w (AnsE R w r) from on_rep rfl (ndc hb) (ab fun W hW=>?_) (ab fun W6 hW6=>?_)).mono fun e w' h=>h.res
    ·have q:=ndc (hW.node hS hb)
     exact⟨q.c1,q.c2,q.c3,q.c4,q.c5,q.c6,q.c7,q.c8,q.c9,q.c12⟩
    ·have hb6:Below w.heap.size w W6:=by rw [hW6];exact((Below.refl _ _).alloc (Cp _) _).drew
     have hs6:StkV W6 R.S (nx0 (.mk 7 c ng rs lo xh lz ks) g::K) (.pointer (some ⟨w.heap.size,0,none⟩)):=by
      rw [hW6];exact(StkV.push (nx0 (.mk 7 c ng rs lo xh lz ks) g) (rxc 7 c ng ra rs.length rc lo xh lz ka ks.length kc) hrest jz (hr.new (Cp _)) rfl (fun _=>hxv)).later (Below.refl _ _).drew
     exact(HR _ K i ps fu r hm' hi hps hK' ⟨(by decide:(0:Int)≠1),hnd.wf,hnd.sm,hnd.pt,hnd.gr⟩ ⟨rfl,by show ((0:Nat):Int)≤lo+i;omega⟩ W6 _ a c' hs6 (hr.later hb6) (hp.keep (Kept.all hb6))).mono fun e w' h=>(h.back (Gx.of_below hb6)).open
   ·have hm':nZ R.C (onR R.C N) ⟨0,.mk xk c ng rs lo xh lz ks,g,many,fr⟩ K i ps fu=some r:=by
     rw [←hm];simp only [onR,Rx.kind,k0,k1,k7,↓reduceIte];rfl
    refine(show Calls Tryz.prog 108 #[.pointer (some ⟨R.r,0,none⟩),.pointer (some ⟨b,0,none⟩),.int .i64 (i:Int),.slice a n c'] w (AnsE R w r) from on_leaf (ndc hb) (by rw [CM];exact k0) (by rw [CM];exact k1) (by rw [CM];exact k7) (ab ?_)).mono fun e w' h=>h.res
    exact(HB _ K i ps fu r hm' hi hps hK' hnd ⟨k0,k1,k7⟩ w _ a c' hs0 hr hp).mono fun e w' h=>h.open
def qj:Str→Nat→Nat→Option (Nat × Str)
 | [],k,n=>if 0<k then some (n,[]) else none
 | c::r,k,n=>if 48≤c.toNat∧c.toNat≤57 then(if k=4 then none else qj r (k+1) (10*n+(c.toNat-48))) else if 0<k then some (n,c::r) else none
def pQ (r:Str):Option (Nat × Str):=qj r 0 0
def n8 (r these:Str):Bool:=match r with|[]=>false|c::_=>these.contains c
def four:Str:=[36,125,92,47]
def five:Str:=[36,125,92,47,58]
def kt (one:Int):Str→Str→Option (Str × Str)
 | [],_=>none
 | [c],t=>if c.toNat=one.toNat then some (t,[c]) else none
 | c::d::r,t=>if c.toNat=one.toNat then some (t,c::d::r) else if c.toNat=92∧five.contains d=true then kt one r (t++[d]) else kt one (d::r) (t++[c])
structure Fm where
 kind:Int
 n:Int
 cse:Int
 thn:Str
 els:Str
deriving DecidableEq
def lR (d:UInt8):Bool:=decide (d.toNat≠125)
def lO (r:Str) (n:Nat):Option (Fm × Str) :=
 match r with
 | []=>none
 | c::r' =>
  if c.toNat=47 then
   (match r'.dropWhile lR with
    | []=>none
    | _::r2=>if pz (r'.takeWhile lR)=0 then none else some (⟨2,n,pz (r'.takeWhile lR),[],[]⟩,r2))
  else if c.toNat=43 then
   (match kt 125 r' [] with
    | some (t,_::r2)=>some (⟨3,n,0,t,[]⟩,r2)
    | _=>none)
  else if c.toNat=63 then
   (match kt 58 r' [] with
    | some (t,_::r2) =>
     (match kt 125 r2 [] with
     | some (u,_::r3)=>some (⟨5,n,0,t,u⟩,r3)
     | _=>none)
    | _=>none)
  else if c.toNat=45 then
   (match kt 125 r' [] with
    | some (t,_::r2)=>some (⟨4,n,0,[],t⟩,r2)
    | _=>none)
  else
   (match kt 125 (c::r') [] with
    | some (t,_::r2)=>some (⟨4,n,0,[],t⟩,r2)
    | _=>none)
def partC (n:Nat):Str→Option (Fm × Str)
 | []=>none
 | d::r3=>if d.toNat=125 then some (⟨1,n,0,[],[]⟩,r3) else if d.toNat=58 then lO r3 n else none
def partB:Str→Option (Fm × Str)
 | []=>none
 | c::r1=>if c.toNat=123 then(match pQ r1 with|none=>none|some p=>partC p.1 p.2) else none
def pj (r:Str):Option (Fm × Str) :=
 match pQ r with
 | some p=>some (⟨1,p.1,0,[],[]⟩,p.2)
 | none=>partB r
theorem lS (one:Int):∀(r t:Str) {u s:Str},kt one r t=some (u,s)→∃c s',s=c::s'∧c.toNat=one.toNat
 | [],t,u,s,h=>by simp [kt] at h
 | [c],t,u,s,h=>by
  simp only [kt] at h;split at h
  ·rename_i hc;simp at h;exact⟨c,[],h.2.symm,hc⟩
  ·cases h
 | c::d::r,t,u,s,h=>by
  simp only [kt] at h;split at h
  ·rename_i hc;simp at h;exact⟨c,d::r,h.2.symm,hc⟩
  ·split at h
   ·exact lS one r _ h
   ·exact lS one (d::r) _ h
theorem xY:∀(r:Str) (k n:Nat) {m:Nat} {s:Str},qj r k n=some (m,s)→s.length≤r.length∧(k=0→s.length<r.length)
 | [],k,n,m,s,h=>by
  simp only [qj] at h;exact dN
 | c::r,k,n,m,s,h=>by
  simp only [qj] at h;split at h
  ·split at h
   ·cases h
   ·have:=xY r (k+1) _ h;simp;omega
  ·exact dN
theorem xC {r:Str} {m:Nat} {s:Str} (h:pQ r=some (m,s)):s.length<r.length:=(xY r 0 0 h).2 rfl
theorem nk (one:Int):∀(r t:Str) {u s:Str},kt one r t=some (u,s)→s.length≤r.length
 | [],t,u,s,h=>by simp [kt] at h
 | [c],t,u,s,h=>by
  simp only [kt] at h;split at h
  ·simp at h;rw [←h.2];simp
  ·cases h
 | c::d::r,t,u,s,h=>by
  simp only [kt] at h;split at h
  ·simp at h;rw [←h.2];simp
  ·split at h
   ·have:=nk one r _ h;simp;omega
   ·have:=nk one (d::r) _ h;simp at *;omega
theorem wX {r:Str} {n:Nat} {f:Fm} {s:Str} (h:lO r n=some (f,s)):s.length<r.length:=by
 cases r with
 | nil=>cases h
 | cons c r =>
  simp only [lO] at h;split at h
  ·have h1:=CR List.length (CQ (p:=lR) (l:=r))
   split at h
   ·cases h
   ·rename_i heq
    split at h
    ·cases h
    ·injection h with h;injection h with _ h;subst h
     rw [heq] at h1;simp at h1 ⊢;omega
  ·split at h
   ·exact cB
   ·split at h
    ·split at h
     ·rename_i heq
      have h1:=nk _ _ _ heq;split at h
      ·rename_i heq2
       have h2:=nk _ _ _ heq2;exact fN
      ·cases h
     ·cases h
    ·split at h
     ·exact cB
     ·exact cB
theorem rE {r:Str} {f:Fm} {s:Str} (h:pj r=some (f,s)):s.length<r.length:=by
 unfold pj at h;split at h
 ·rename_i p heq
  obtain⟨m,s'⟩:=p;have:=xC heq
  injection h with h;injection h with _ h;subst h;exact this
 ·cases r with
  | nil=>cases h
  | cons c r =>
   simp only [partB] at h;split at h
   ·split at h
    ·cases h
    ·rename_i p heq
     obtain⟨m,s'⟩:=p;have h1:=xC heq;cases s' with
     | nil=>cases h
     | cons d r3 =>
      simp only [partC] at h;split at h
      ·exact fN
      ·split at h
       ·have:=wX h;simp at *;omega
       ·cases h
   ·cases h
def na (tx:Str) (fs:List Fm):List Fm:=if tx=[] then fs else fs++[⟨0,0,0,tx,[]⟩]
def rB:Nat→Str→Str→List Fm→Option (List Fm × Str)
 | 0,_,_,_=>none
 | _+1,[],_,_=>none
 | k+1,c::r,tx,fs =>
  if c.toNat=47 then some (na tx fs,c::r)
  else if c.toNat=36 then
   (match pj r with
    | some p=>rB k p.2 [] (na tx fs++[p.1])
    | none=>rB k r (tx++[c]) fs)
  else if c.toNat=92∧n8 r four=true then rB k (r.drop 1) (tx++r.take 1) fs
  else rB k r (tx++[c]) fs
theorem nw:∀(k k':Nat) (r tx:Str) (fs:List Fm),r.length<k→r.length<k'→rB k r tx fs=rB k' r tx fs
 | 0,_,_,_,_,h,_=>by omega
 | _+1,0,_,_,_,_,h=>by omega
 | k+1,k'+1,[],tx,fs,_,_=>rfl
 | k+1,k'+1,c::r,tx,fs,h,h'=>by
  simp only [Cr] at h h';have hd:(r.drop 1).length≤r.length:=gF;simp only [rB];rw [nw k k' r (tx++[c]) fs gu gu,nw k k' (r.drop 1) (tx++r.take 1) fs gu gu];cases hp:pj r with
  | none=>rfl
  | some p =>
   have hl:=rE (f:=p.1) (s:=p.2) hp;simp only [];rw [nw k k' p.2 [] _ gu gu]
def mU (r tx:Str) (fs:List Fm):Option (List Fm × Str):=rB (r.length+1) r tx fs
theorem mI (c:UInt8) (r tx:Str) (fs:List Fm):mU (c::r) tx fs =
  if c.toNat=47 then some (na tx fs,c::r)
  else if c.toNat=36 then
   (match pj r with
    | some p=>mU p.2 [] (na tx fs++[p.1])
    | none=>mU r (tx++[c]) fs)
  else if c.toNat=92∧n8 r four=true then mU (r.drop 1) (tx++r.take 1) fs
  else mU r (tx++[c]) fs:=by
 have hd:(r.drop 1).length≤r.length:=gF;simp only [mU,rB,Cr];rw [nw (r.length+1) ((r.drop 1).length+1) (r.drop 1) (tx++r.take 1) fs gu gu];cases hp:pj r with
 | none=>rfl
 | some p =>
  have hl:=rE (f:=p.1) (s:=p.2) hp;simp only [];rw [nw (r.length+1) (p.2.length+1) p.2 [] _ gu gu]
def Fm.cells (f:Fm):List Value:=[.int .i64 f.kind,.int .i64 f.n,.int .i64 f.cse,.string ⟨(f.thn).toArray⟩,.string ⟨(f.els).toArray⟩]
def lA (fs:List Fm):List Value:=fs.flatMap Fm.cells
theorem pI (fs:List Fm):(lA fs).length=fs.length*5:=by
 induction fs with
 | nil=>rfl
 | cons f fs ih=>simp only [lA,Cx,Cy] at *;rw [ih];simp [Fm.cells];omega
theorem oA {fs:List Fm} {k:Nat} {f:Fm} (h:fs[k]?=some f) (j:Nat) (hj:j<5):(lA fs)[k*5+j]?=f.cells[j]?:=by
 induction fs generalizing k with
 | nil=>simp at h
 | cons g fs ih =>
  cases k with
  | zero =>
   simp at h;subst h
   simp only [lA,Cx,Nat.zero_mul,Nat.zero_add];rw [CA (by simp [Fm.cells];omega)]
  | succ k =>
   simp only [List.getElem?_cons_succ] at h;simp only [lA,Cx];rw [CD (by simp [Fm.cells];omega)];rw [show (k+1)*5+j-g.cells.length=k*5+j by simp [Fm.cells];omega];exact ih h
theorem Sl.fm {w:World} {B:Nat} {a:Option Addr} {n:Nat} {fs:List Fm} (h:Sl w B a 5 n (lA fs)) {k:Nat} {f:Fm} (hk:fs[k]?=some f) :
  ∃b o,a=some ⟨b,o,none⟩∧b<B∧w.cell? ⟨b,o+k*5,none⟩=some (.int .i64 f.kind)∧w.cell? ⟨b,o+k*5+1,none⟩=some (.int .i64 f.n)∧w.cell? ⟨b,o+k*5+2,none⟩=some (.int .i64 f.cse) ∧
   w.cell? ⟨b,o+k*5+3,none⟩=some (.string ⟨(f.thn).toArray⟩)∧w.cell? ⟨b,o+k*5+4,none⟩=some (.string ⟨(f.els).toArray⟩):=by
 have hlt:=(Cq.1 hk).1;have hn:n=fs.length:=by have:=h.1;rw [pI] at this;omega
 obtain⟨b,o,h1,h2,h3⟩:=h.2 gu;refine⟨b,o,h1,h2,?_,?_,?_,?_,?_⟩
 ·exact h3 (k*5+0) _ (oA hk 0 gu)
 ·exact h3 (k*5+1) _ (oA hk 1 gu)
 ·exact h3 (k*5+2) _ (oA hk 2 gu)
 ·exact h3 (k*5+3) _ (oA hk 3 gu)
 ·exact h3 (k*5+4) _ (oA hk 4 gu)
def ly (f:Fm) (n way thn els:Bool):Bool:=(n||decide (f.n=0))&&(way||decide (f.cse=0))&&(thn||decide (f.thn=[]))&&(els||decide (f.els=[]))
def mayF (f:Fm):Bool :=
 decide (0≤f.n∧f.n≤9999) &&
 (if f.kind=0 then ly f false false true false&&decide (f.thn≠[])
  else if f.kind=1 then ly f true false false false
  else if f.kind=2 then ly f true true false false&&decide (mM f.cse≠[])
  else if f.kind=3 then ly f true false true false
  else if f.kind=4 then ly f true false false true
  else if f.kind=5 then ly f true false true true
  else false)
def mayL:Bool→List Fm→Bool
 | _,[]=>true
 | pt,f::r=>mayF f&&!(decide (f.kind=0)&&pt)&&mayL (decide (f.kind=0)) r
def oe (fs:List Fm):Bool:=mayL false fs
theorem Sl.fs_len {w:World} {B:Nat} {a:Option Addr} {n:Nat} {fs:List Fm} (h:Sl w B a 5 n (lA fs)):n=fs.length:=by
 have:=h.1;rw [pI] at this;omega
theorem Ag:Tryz.prog.underlying 55=some (.struct (Tryz.prog.fieldsOf 55)):=by kernel_rfl
theorem pJ (f:Fm) (b1 b2 b3 b4:Bool) (w:World) :
  Calls Tryz.prog 92 #[.agg #[.int .i64 (f).kind,.int .i64 (f).n,.int .i64 (f).cse,.string ⟨((f).thn).toArray⟩,.string ⟨((f).els).toArray⟩],.bool b1,.bool b2,.bool b3,.bool b4] w fun e w'=>e=.returned (.bool (ly f b1 b2 b3 b4))∧Below w.heap.size w w':=by
 generalize hR:ly f b1 b2 b3 b4=R
 have HR:=ab hR;clear hR;cases b1<;>cases b2<;>cases b3<;>cases b4
 all_goals
  go_enter Tryz.func92,Tryz.ntmps92
  go_wp2
  all_goals
   go_ret
   refine⟨jU ?_,(Below.refl _ _).alloc (Cp _) _⟩;rw [←HR.out,Bool.eq_iff_iff];simp [ly, *]
def mP (ps:List Str) (n:Int):Str:=ps.getD n.toNat []
def lg (ps:List Str) (f:Fm):Str :=
 if f.kind=0 then f.thn
 else if f.kind=1 then mP ps f.n
 else if f.kind=2 then(turn (mP ps f.n) f.cse).1
 else if f.kind=4 then(if mP ps f.n=[] then f.els else mP ps f.n)
 else(if mP ps f.n=[] then f.els else f.thn)
def ld (fs:List Fm) (ps:List Str):Str:=if oe fs=true then fs.flatMap (lg ps) else []
theorem qP:∀(pt:Bool) (fs:List Fm),mayL pt fs=true→∀f∈fs,mayF f=true
 | _,[],_,f,hf=>by simp at hf
 | pt,g::r,h,f,hf=>by
  simp only [mayL,Cs] at h;rcases Cz.1 hf with rfl|hf
  ·exact h.1.1
  ·exact qP _ r h.2 f hf
theorem mayF_n {f:Fm} (h:mayF f=true):0≤f.n∧f.n≤9999:=by
 unfold mayF at h;rw [Cs] at h;simpa using h.1
theorem uK {f:Fm} (h:mayF f=true):f.kind=0∨f.kind=1∨f.kind=2∨f.kind=3∨f.kind=4∨f.kind=5:=by
 unfold mayF at h;rw [Cs] at h;have h2:=h.2;by_cases h0:f.kind=0
 ·exact .inl h0
 by_cases h1:f.kind=1
 ·exact .inr (.inl h1)
 by_cases h3:f.kind=2
 ·exact .inr (.inr (.inl h3))
 by_cases h4:f.kind=3
 ·exact .inr (.inr (.inr (.inl h4)))
 by_cases h5:f.kind=4
 ·exact .inr (.inr (.inr (.inr (.inl h5))))
 by_cases h6:f.kind=5
 ·exact .inr (.inr (.inr (.inr (.inr h6))))
 rw [Co h0,Co h1,Co h3,Co h4,Co h5,Co h6] at h2;cases h2
theorem sR {ps:List Str} {m:Nat} (h:∀p∈ps,p.length≤m) (n:Int):(mP ps n).length≤m:=by
 unfold mP;rw [List.getD_eq_getElem?_getD];cases hg:ps[n.toNat]? with
 | none=>simp
 | some p=>exact h p (CF hg)
theorem pL {ps:List Str} {m:Nat} {f:Fm} (h:∀p∈ps,p.length≤m) (h1:f.thn.length≤m) (h2:f.els.length≤m):(lg ps f).length≤m:=by
 have h3:=sR h f.n;have h4:=mS (mP ps f.n) f.cse;unfold lg;(repeat' split)<;>omega
def kZ (s:Str) (a b:Nat):Str:=(s.drop a).take (b-a)
def lZ (s:Str) (v:Int × Int):Str:=if v.1<0 then [] else kZ s v.1.toNat v.2.toNat
abbrev Mt:=Nat × Nat × List (Int × Int)
def lx (s:Str) (offs:List Nat) (m:Mt):List Str:=kZ s (offs.getD m.1 0) (offs.getD m.2.1 0)::m.2.2.map (lZ s)
def putM (ps:List Str):List Fm→Str→Str
 | [],out=>out
 | f::r,out=>putM ps r (if out.length≤65536 then out++ld [f] ps else out)
def goM (s:Str) (offs:List Nat) (fs:List Fm):List Mt→Nat→Str→Option (Nat × Str)
 | [],at_,out=>some (at_,out)
 | m::r,at_,out =>
  if 65536<(putM (lx s offs m) fs (out++kZ s at_ (offs.getD m.1 0))).length then none
  else goM s offs fs r (offs.getD m.2.1 0) (putM (lx s offs m) fs (out++kZ s at_ (offs.getD m.1 0)))
def kQ (x:Rx) (fold all:Bool) (s:Str) (fuel:Int):List Mt × Rst :=
 if all=true then allM (rcM fold s) x ((rcM fold s).offs.length+1) 0 (mB x.groups fuel)
 else((mu (rcM fold s) x ((rcM fold s).offs.length+1) 0 (mB x.groups fuel)).1.toList,(mu (rcM fold s) x ((rcM fold s).offs.length+1) 0 (mB x.groups fuel)).2)
def Bl (fs:List Fm) (s:Str) (offs:List Nat) (ms:List Mt) (left:Nat):Str × Int × Int :=
 if ms=[] then(s,(left:Int),0) else
 match goM s offs fs ms 0 [] with
 | none=>([],0,4)
 | some (at_,out)=>if 65536<out.length+(s.length-at_) then([],0,4) else(out++s.drop at_,(left:Int),0)
def vf (x:Rx) (fs:List Fm) (fold all:Bool) (s:Str) (fuel:Int):Str × Int × Int :=
 if (mayB x&&oe fs)=false then([],0,10)
 else if (kQ x fold all s fuel).2.out=true then([],0,9)
 else Bl fs s (rcM fold s).offs (kQ x fold all s fuel).1 (kQ x fold all s fuel).2.fuel
theorem aw19a:vf (.mk 2 [97] false [] 0 0 false []) [⟨2,0,1,[],[]⟩] false false [98,97,98] 100=([98,65,98],98,0):=by decide +kernel
theorem aw19b:vf (.mk 2 [98] false [] 0 0 false []) [⟨0,0,0,[120],[]⟩] false true [97,98,98] 100=([97,120,120],96,0):=by decide +kernel
def Spans (C:Rc) (ps:List (Int × Int)):Prop:=∀v∈ps,v=(-1,-1)∨∃a b:Nat,a≤b∧b≤C.cs.length∧v=((C.offs.getD a 0:Int),(C.offs.getD b 0:Int))
theorem qZ (fold:Bool) (s:Str):(rcM fold s).offs.length=(kh s).length+1:=lH _ _
theorem one_in (C:Rc) (x:Rx) {k:Nat} (hk:k≤C.cs.length) (st:Rst) {e:Nat} {ps:List (Int × Int)} (h:(oneM C x k st).1=some (e,ps)):k≤e∧e≤C.cs.length∧Spans C ps:=by
 have hi:Inv C x.groups st.fuel (fun en=>en=-1∨∃e:Nat,en=(e:Int)∧k≤e∧e≤C.cs.length) (tryM C x 0 k (fun e s=>(true,{ s with en:=(e:Int) })) { st with ps:=List.replicate x.groups (-1,-1),en:=-1 }).2 :=
  qp x 0 k _ _ gu hk (fun e s h1 h2 h3=>⟨h3.len,h3.sp,.inr ⟨e,rfl,h1,h2⟩,h3.fu⟩) ⟨by simp,fun v hv=>.inl (List.mem_replicate.1 hv).2,.inl rfl,Cp _⟩
 unfold oneM at h;simp only at h
 split at h
 ·cases h
 ·rename_i hn
  injection h with h
  injection h with h1 h2
  rcases hi.en with h3|⟨e',h3,h4,h5⟩
  ·exact absurd (.inl (by rw [h3];decide)) hn
  ·rw [h3] at h1
   simp at h1
   subst h1;subst h2;exact⟨h4,h5,hi.sp⟩
theorem wg (C:Rc) (x:Rx) (hC:C.offs.length=C.cs.length+1):∀(N k:Nat) (st:Rst) {a b:Nat} {ps:List (Int × Int)},(mu C x N k st).1=some (a,b,ps)→k≤a∧a≤b∧b≤C.cs.length∧Spans C ps
 | 0,_,_,_,_,_,h=>by simp [mu] at h
 | N+1,k,st,a,b,ps,h=>by
  unfold mu at h;by_cases h1:k<C.offs.length∧st.out=false
  ·rw [Cl h1] at h
   simp only at h
   cases hc:(oneM C x k st).1 with
   | none =>
    rw [hc] at h;obtain⟨h5,h6⟩:=wg C x hC N (k+1) _ h;exact⟨by omega,h6⟩
   | some q =>
    obtain⟨e,qs⟩:=q;rw [hc] at h;injection h with h
    injection h with h2 h3
    injection h3 with h3 h4
    subst h2;subst h3;subst h4;obtain⟨h5,h6⟩:=one_in C x gu st hc;exact⟨Cp _,h5,h6⟩
  ·rw [Co h1] at h;cases h
def Chain (C:Rc):Nat→List Mt→Prop
 | _,[]=>True
 | k,m::r=>k≤m.1∧m.1≤m.2.1∧m.2.1≤C.cs.length∧Spans C m.2.2∧Chain C (if m.1=m.2.1 then m.2.1+1 else m.2.1) r
theorem vm (C:Rc) (x:Rx) (hC:C.offs.length=C.cs.length+1):∀(N k:Nat) (st:Rst),Chain C k (allM C x N k st).1
 | 0,_,_=>by simp [allM,Chain]
 | N+1,k,st=>by
  unfold allM;by_cases h1:k<C.offs.length
  ·rw [Cl h1]
   simp only
   cases hc:(mu C x (C.offs.length+1) k st).1 with
   | none=>simp [Chain]
   | some q =>
    obtain⟨a,b,ps⟩:=q;have h2:=wg C x hC _ _ _ hc;simp only
    split
    ·simp [Chain]
    ·exact⟨h2.1,h2.2.1,h2.2.2.1,h2.2.2.2,vm C x hC N _ _⟩
  ·rw [Co h1];simp [Chain]
theorem nW (x:Rx) (fold all:Bool) (s:Str) (z:Int):Chain (rcM fold s) 0 (kQ x fold all s z).1:=by
 unfold kQ;cases all with
 | true=>rw [Cl rfl];exact vm (rcM fold s) x (qZ fold s) _ _ _
 | false =>
  rw [Co gD];cases hc:(mu (rcM fold s) x ((rcM fold s).offs.length+1) 0 (mB x.groups z)).1 with
  | none=>simp [Chain]
  | some q =>
   obtain⟨a,b,ps⟩:=q;have h2:=wg (rcM fold s) x (qZ fold s) _ _ _ hc;exact⟨h2.1,h2.2.1,h2.2.2.1,h2.2.2.2,trivial⟩
theorem Chain.at_ {C:Rc}:∀{ms:List Mt} {j k:Nat} {m:Mt},Chain C j ms→ms[k]?=some m→j≤m.1∧m.1≤m.2.1∧m.2.1≤C.cs.length∧Spans C m.2.2∧∀m',ms[k+1]?=some m'→m.2.1≤m'.1
 | [],_,_,_,_,h=>by simp at h
 | q::r,j,0,m,hc,h=>by
  simp at h;subst h
  obtain⟨h1,h2,h3,h4,h5⟩:=hc;refine⟨h1,h2,h3,h4,fun m' h6=>?_⟩;cases r with
  | nil=>simp at h6
  | cons q' r =>
   simp at h6;subst h6
   have:=h5.1
   split at this<;>omega
 | q::r,j,k+1,m,hc,h=>by
  obtain⟨h1,h2,h3,h4,h5⟩:=hc;obtain⟨h6,h7⟩:=h5.at_ (k:=k) ik;refine⟨?_,h7.1,h7.2.1,h7.2.2.1,fun m' hm'=>h7.2.2.2 m' (by simpa using hm')⟩;split at h6<;>omega
theorem Chain.len {C:Rc}:∀{ms:List Mt} {j:Nat},Chain C j ms→ms≠[]→ms.length+j≤C.cs.length+1
 | [],_,_,h=>absurd rfl h
 | [m],j,hc,_=>by
  obtain⟨h1,h2,h3,_⟩:=hc;simp only [Cr,CW];omega
 | m::q::r,j,hc,_=>by
  obtain⟨h1,h2,h3,_,h5⟩:=hc;have h6:=h5.len gF;simp only [Cr] at h6 ⊢;split at h6<;>omega
theorem rl {s:Str} {a b:Nat} (h:a≤b) (hb:b≤(kh s).length):(lP (kh s) 0).getD a 0≤(lP (kh s) 0).getD b 0:=by
 rw [mL _ a gu,mL _ b hb];exact oz _ h
theorem Spans.took {fold:Bool} {s:Str} {ps:List (Int × Int)} (h:Spans (rcM fold s) ps) {v:Int × Int} (hv:v∈ps):(v.1=-1∧v.2=-1)∨∃a b:Nat,a≤b∧b≤s.length∧v.1=a∧v.2=b:=by
 rcases h v hv with h|⟨a,b,h1,h2,h3⟩
 ·exact .inl ⟨by rw [h],by rw [h]⟩
 ·exact .inr ⟨_,_,rl h1 h2,qQ s h2,by rw [h3];rfl,by rw [h3];rfl⟩
theorem xG (s:Str) (a b:Nat):(kZ s a b).length≤s.length:=by
 unfold kZ;rw [CK,CS];omega
theorem xd (s:Str) (offs:List Nat) (m:Mt):∀p∈lx s offs m,p.length≤s.length:=by
 intro p hp;unfold lx at hp;rcases Cz.1 hp with rfl|hp
 ·exact xG _ _ _
 ·obtain⟨v,_,rfl⟩:=List.mem_map.1 hp
  unfold lZ;split
  ·simp
  ·exact xG _ _ _
theorem lC {w:World} {b:Nat} {cs old:Array Value} {t:TypeId} {f:Nat × Nat} (h:w.heap[b]?=some (.cells old t f)):(w.setRow b cs).heap[b]?=some (.cells cs t f):=by
 simp [World.setRow,Array.getElem?_modify,h]
theorem lY {w:World} {b k:Nat} (cs:Array Value) (h:k≠b):(w.setRow b cs).heap[k]?=w.heap[k]?:=by
 simp only [World.setRow,Array.getElem?_modify];rw [Co (Ne.symm h)]
theorem oB (w:World) (b:Nat) (cs:Array Value):(w.setRow b cs).heap.size=w.heap.size:=by simp [World.setRow]
theorem nH {fn:Func} {p u:Tmp} {ty t:TypeId} {tmps:Array Value} {w:World} {b:Nat} {cs:Array Value} {f:Nat × Nat} {fs:Array Field} {n:Nat} {v:Value} (hr:fn.results=#[.cell p ty,.tmp u]) (hu:Tryz.prog.underlying ty=some (.struct fs)) (hi:(Tryz.prog.info? ty).map (·.size)=some n)
  (h:w.heap[b]?=some (.cells cs t f)) (hn:cs.size=n) (hp:tmps.getD p undef=.pointer (some ⟨b,0,none⟩)) (hv:tmps.getD u undef=v):(results fn tmps).run Tryz.prog w=.ok (.tuple #[.agg cs,v]) w:=by
 subst hn;rw [results_cell_tmp hr,hp,hv];exact ef
theorem kE {P:Program} {ops:Array Oper} {rest:List Oper} {o:Oper} {a:Act} {w W:World} {Q:Exit→Act→World→Prop} (hgd:o.guard=none) (ty:TypeId) (x y:Operand) (ho:o.op=.store ty x y)
  (g:Nat) (cells:Array Value) (hx:a.eval x=.pointer (some ⟨g,0,none⟩)) (hy:a.eval y=.agg cells)
  (t:TypeId) (old:Array Value) {n:Nat} (hg:w.heap[g]?=some (.cells old t (0,0))) (hi:(P.info? ty).map (·.size)=some n) (hn:cells.size=n)
  (hold:old.size=n) (h1:∀u∈cells.toList,u.oneCell'=true) (hW:w.setRow g cells=W)
  (h:wpList P ops Q rest (a.put o.dst undef) W):wpList P ops Q (o::rest) a w:=by
 subst hn;subst hW;exact wpList_store_row hgd ty x y ho g cells hx hy t old hg hi hold (Array.all_eq_true_iff_forall_mem.2 (fun v hv=>h1 v (by simpa using hv))) h
theorem kF {P:Program} {ops:Array Oper} {rest:List Oper} {op:Oper} {a:Act} {w:World} {Q:Exit→Act→World→Prop} (hgd:op.guard=none) (ty:TypeId) (x:Operand) (ho:op.op=.load ty x)
  (b o:Nat) (hx:a.eval x=.pointer (some ⟨b,o,none⟩)) (cs:List Value) (d:TypeDesc) (hc:w.rangeAt b o cs)
  (hu:P.underlying ty=some d) (hd:d.isRow=true) (hi:(P.info? ty).map (·.size)=some cs.length)
  (h:wpList P ops Q rest (a.put op.dst (.agg cs.toArray)) w):wpList P ops Q (op::rest) a w:=wpList_load_mid hgd ty x ho b o hx cs d hc hu hd hi h
theorem kJ {w:World} {b:Nat} {cs ds:List Value} {t:TypeId} {f:Nat × Nat} (h:w.heap[b]?=some (.cells (cs++ds).toArray t f)):w.rangeAt b 0 cs:=fun j v hv=>by
 rw [Nat.zero_add,Cv h];have:=(Cq.1 hv).1
 simp [CA this,hv]
theorem Cb:(Tryz.prog.info? 28).map (·.size)=some 11:=by kernel_rfl
theorem lm:Tryz.prog.underlying 28=some (.struct (Tryz.prog.fieldsOf 28)):=by kernel_rfl
theorem rx_size:(Tryz.prog.info? 25).map (·.size)=some 8:=by kernel_rfl
theorem nb:Tryz.prog.underlying 25=some (.struct (Tryz.prog.fieldsOf 25)):=by kernel_rfl
theorem kS:Tryz.prog.underlying 60=some (.struct (Tryz.prog.fieldsOf 60)):=by kernel_rfl
theorem kl:(Tryz.prog.info? 60).map (·.size)=some 3:=by kernel_rfl
def mzV:Value:=.agg #[.int .i64 0,.int .i64 0,.slice none 0 0]
theorem one_len (C:Rc) (x:Rx) {k:Nat} (hk:k≤C.cs.length) (st:Rst) {e:Nat} {ps:List (Int × Int)} (h:(oneM C x k st).1=some (e,ps)):ps.length=x.groups:=by
 have hi:Inv C x.groups st.fuel (fun en=>en=-1∨∃e:Nat,en=(e:Int)∧k≤e∧e≤C.cs.length) (tryM C x 0 k (fun e s=>(true,{ s with en:=(e:Int) })) { st with ps:=List.replicate x.groups (-1,-1),en:=-1 }).2 :=
  qp x 0 k _ _ gu hk (fun e s h1 h2 h3=>⟨h3.len,h3.sp,.inr ⟨e,rfl,h1,h2⟩,h3.fu⟩) ⟨by simp,fun v hv=>.inl (List.mem_replicate.1 hv).2,.inl rfl,Cp _⟩
 unfold oneM at h;simp only at h
 split at h
 ·cases h
 ·injection h with h
  injection h with _ h2
  subst h2;exact hi.len
def AtP (R:Vn) (n k:Nat) (q:Option (Nat × Ps) × Rst) (w:World) (e:Ending) (w':World):Prop :=
 RunV R w' q.2.fuel q.2.out∧Fv R w w'∧match q.1 with
  | none=>e=.returned (.tuple #[mzV,.bool false])
  | some (en,ps)=>∃a c,e=.returned (.tuple #[.agg #[.int .i64 ((R.C.offs.getD k 0:Nat):Int),.int .i64 ((R.C.offs.getD en 0:Nat):Int),.slice a n c],.bool true])∧SlS w' R.S a 2 n (jV ps)∧ps.length=n∧k≤en∧en≤R.C.cs.length
structure TreeV (R:Vn) (n:Nat) (x:Rx) (cc:List Value) (w:World):Prop where
 v:RxV w R.S cc x
 n:x.groups=n
 wf:x.wf=true
 sm:x.small
 pt:x.parts≤1000000
theorem TreeV.keep {R:Vn} {n:Nat} {x:Rx} {cc:List Value} {w w':World} (h:TreeV R n x cc w) (hk:Kept R.S w w'):TreeV R n x cc w':=⟨h.v.keep hk,h.n,h.wf,h.sm,h.pt⟩
theorem RunV.fin {R:Vn} {w w':World} {fu0 fu:Nat} {o0 o:Bool} (h0:RunV R w fu0 o0) (hf:Fv R w w') (hbox:w'.heap[R.r]?=some (.cells (R.cells fu o).toArray 92 (0,0))) (hfu:fu≤20000):RunV R w' fu o:=⟨hbox,h0.ch.keep hf.kept,h0.of.keep hf.kept,hfu,fun b h9=>Cu (h0.dl b h9) hf.size⟩
def Vn.at_ (R:Vn) (b:Nat):Vn:={ R with D:=fun k=>R.D k∨k=b }
theorem VnOk.at_ {R:Vn} (h:VnOk R) (b:Nat):VnOk (R.at_ b):=⟨h.cs,h.ch,h.of,h.ov⟩
theorem Vn.at_S {R:Vn} {b k:Nat} (h:(R.at_ b).S k):R.S k∧k≠b:=⟨⟨h.1,fun e=>h.2 (.inl e)⟩,fun e=>h.2 (.inr e)⟩
theorem Vn.S_at {R:Vn} {b k:Nat} (h:R.S k) (hk:k≠b):(R.at_ b).S k:=⟨h.1,fun e=>e.elim h.2 hk⟩
theorem RunV.at_ {R:Vn} {w W:World} {fu:Nat} {o:Bool} (h:RunV R w fu o) (hb:Below w.heap.size w W) {b:Nat} (h1:w.heap.size≤b) (h2:b<W.heap.size):RunV (R.at_ b) W fu o :=
 ⟨(hb.block _ (jO h.box)).trans h.box,(h.ch.mono fun k hk hl=>Vn.S_at hk gu).keep (Kept.all hb),(h.of.mono fun k hk hl=>Vn.S_at hk gu).keep (Kept.all hb),h.fu,
  fun k hk=>hk.elim (fun e=>Cu (h.dl k e) hb.size) (fun e=>e▸h2)⟩
theorem RunV.un {R:Vn} {w:World} {fu:Nat} {o:Bool} {b:Nat} (h:RunV (R.at_ b) w fu o):RunV R w fu o :=
 ⟨h.box,h.ch.mono fun _ hk _=>(Vn.at_S hk).1,h.of.mono fun _ hk _=>(Vn.at_S hk).1,h.fu,fun k hk=>h.dl k (.inl hk)⟩
theorem gx_rowV (w:World) (b:Nat) (cs:Array Value):Gx (fun k=>k=b) w (w.setRow b cs):=⟨rfl,rfl,rfl,by rw [oB];exact Cp _,fun _ _ hk=>lY _ hk⟩
theorem RunV.row {R:Vn} {w w':World} {fu0 fu:Nat} {o0 o:Bool} (h0:RunV R w fu0 o0) (h:RunV R w' fu o) (hf:Fv R w w') {b:Nat} (hb:w.heap.size≤b) (cs:Array Value):RunV R (w'.setRow b cs) fu o∧Fv R w (w'.setRow b cs):=by
 have hg:Fv R w (w'.setRow b cs):=hf.to (gx_rowV w' b cs) (fun k hk e=>absurd hk (by rw [show k=b from e];omega));have hne:R.r≠b:=by have:=h0.lt;omega
 exact⟨h0.fin hg ((lY cs hne).trans h.box) h.fu,hg⟩
def NnRel (w:World) (n:Nat) (v q:Value) (wr:World):Prop :=
 ∃(j:Nat),j≤n∧q=.int .i64 (j:Int)∧Below w.heap.size w wr∧wr.ownsRow w.heap.size 48 2 v j (jV (List.replicate j (-1,-1)))
theorem px {w:World} {b:Nat} {xk:Int} {c:Str} {ng:Bool} {ra:Option Addr} {rs:List (Str × Str)} {rc:Nat} {lo xh:Int} {lz:Bool} {ka:Option Addr} {ks:List Rx} {kc:Nat} {t:TypeId} {f:Nat × Nat} (h:w.heap[b]?=some (.cells #[.int .i64 xk,.string ⟨c.toArray⟩,.bool ng,.slice ra rs.length rc,.int .i64 lo,.int .i64 xh,.bool lz,.slice ka ks.length kc] t f)):w.cell? ⟨b,0,none⟩=some (.int .i64 xk)∧w.cell? ⟨b,1,none⟩=some (.string ⟨c.toArray⟩)∧w.cell? ⟨b,2,none⟩=some (.bool ng)∧w.cell? ⟨b,3,none⟩=some (.slice ra rs.length rc)∧w.cell? ⟨b,4,none⟩=some (.int .i64 lo)∧w.cell? ⟨b,5,none⟩=some (.int .i64 xh)∧w.cell? ⟨b,6,none⟩=some (.bool lz)∧w.cell? ⟨b,7,none⟩=some (.slice ka ks.length kc):=by
 refine⟨?_,?_,?_,?_,?_,?_,?_,?_⟩<;>(rw [Cv h];rfl)
theorem at_any {R:Vn} (ok:VnOk R) {n:Nat} (hn:n≤1000000) {x:Rx} {cc:List Value} {w:World} {st:Rst} (ho:st.out=false) (h:RunV R w st.fuel false) (hx:TreeV R n x cc w) {k:Nat} (hk:k≤R.C.cs.length) :
  Calls Tryz.prog 71 #[.pointer (some ⟨R.r,0,none⟩),.agg cc.toArray,.int .i64 (k:Int)] w (AtP R n k (oneM R.C x k st) w):=by
 obtain⟨N,r,h1,h2,h3,h4⟩:=one_eq (C:=R.C) (fu:=st.fuel) hx.wf hk st.ps st.en;have hst:(⟨st.ps,st.fuel,false,st.en⟩:Rst)=st:=by rw [←ho]
 rw [hst] at h2 h3 h4;rw [hx.n] at h1;have hin:=fun e ps (h9:(oneM R.C x k st).1=some (e,ps))=>one_in R.C x hk st h9
 have hln:=fun e ps (h9:(oneM R.C x k st).1=some (e,ps))=>(one_len R.C x hk st h9).trans hx.n
 have hcs:=ok.cs;have hrl:=h.lt;obtain⟨xk,c,ng,rs,lo,xh,lz,ks⟩:=x;obtain⟨ra,rc,ka,kc,rfl,_,_⟩:=hx.v.open_;obtain⟨W1,hW1⟩:∃W1,W1=(w.alloc (.cells #[.int .i64 xk,.string ⟨c.toArray⟩,.bool ng,.slice ra rs.length rc,.int .i64 lo,.int .i64 xh,.bool lz,.slice ka ks.length kc] 25)).alloc (.cells #[.int .i64 0,.int .i64 0,.slice none 0 0] 60):=⟨_,rfl⟩;have hb1:Below w.heap.size w W1:=by rw [hW1];exact((Below.refl _ _).alloc (Cp _) _).alloc gF _
 have hz1:W1.heap.size=w.heap.size+2:=by rw [hW1];simp
 have HX1:Hid (W1.heap[w.heap.size]?=some (.cells #[.int .i64 xk,.string ⟨c.toArray⟩,.bool ng,.slice ra rs.length rc,.int .i64 lo,.int .i64 xh,.bool lz,.slice ka ks.length kc] 25 (0,0))):=ab hZ;have HM1:Hid (W1.heap[w.heap.size+1]?=some (.cells #[.int .i64 0,.int .i64 0,.slice none 0 0] 60 (0,0))):=ab gI;have HG:Hid (∀W,Below w.heap.size w W→Calls Tryz.prog 107 #[.agg (rxc xk c ng ra rs.length rc lo xh lz ka ks.length kc).toArray] W fun e w'=>e=.returned (.int .i64 (n:Int))∧Below W.heap.size W w'):=ab fun W hW =>
  (mh R.S _ _ (Cp _) hx.pt _ W (hx.v.later hW)).mono fun e w' h=>by rw [hx.n] at h;exact h
 have hru1:RunV (R.at_ (w.heap.size+1)) W1 st.fuel false:=h.at_ hb1 gu gu;have hxv1:RxV W1 (R.at_ (w.heap.size+1)).S (rxc xk c ng ra rs.length rc lo xh lz ka ks.length kc) (.mk xk c ng rs lo xh lz ks):=(hx.v.mono fun k hk hl=>Vn.S_at hk gu).later hb1;have HC:Hid (∀wr a1 c1,Below W1.heap.size W1 wr→wr.ownsRow W1.heap.size 48 2 (.slice a1 n c1) n (jV (List.replicate n (-1,-1)))→∀W,W=wr.alloc (.cells #[.int .i64 0,.int .i64 xk,.string ⟨c.toArray⟩,.bool ng,.slice ra rs.length rc,.int .i64 lo,.int .i64 xh,.bool lz,.slice ka ks.length kc,.int .i64 0,.int .i64 0,.int .i64 0,.pointer none] 159)→Calls Tryz.prog 108 #[.pointer (some ⟨R.r,0,none⟩),.pointer (some ⟨wr.heap.size,0,none⟩),.int .i64 (k:Int),.slice a1 n c1] W (ResV (R.at_ (w.heap.size+1)) wr r)):=ab fun wr a1 c1 hwr hown W hW=>by
  have hb2:Below wr.heap.size wr W:=by rw [hW];exact(Below.refl _ _).alloc (Cp _) _
  have hzr:=hwr.size;have hsk:StkV W (R.at_ (w.heap.size+1)).S [nx0 (.mk xk c ng rs lo xh lz ks) 0] (.pointer (some ⟨wr.heap.size,0,none⟩)):=StkV.push (nx0 (.mk xk c ng rs lo xh lz ks) 0) (rxc xk c ng ra rs.length rc lo xh lz ka ks.length kc) (K:=[]) (rv:=.pointer none) rfl (by rw [hW];simp [nxc,rxc,nx0]) (hru1.new hzr) rfl (fun _=>hxv1.later hwr);have hsl:SlS W (R.at_ (w.heap.size+1)).S a1 2 n (jV (List.replicate n (-1,-1))):=((mQ hown).keep (Kept.all hb2)).mono fun b hb _=>hru1.new hb
  refine(on_all (ok.at_ (w.heap.size+1)) hn N [nx0 (.mk xk c ng rs lo xh lz ks) 0] k (List.replicate n (-1,-1)) st.fuel r h1 hk gF ?_ W _ a1 c1 hsk ((hru1.later hwr).later hb2) hsl).mono fun e w' h=>h.back (Gx.of_below hb2)
  intro q hq;rcases Cz.1 hq with rfl|hq
  ·exact⟨.inl rfl,Nat.zero_le _,fun _=>⟨hx.wf,hx.sm,hx.pt,by have:=hx.n;simp only [nx0];omega⟩,(fun h=>by cases h),(fun h=>by cases h)⟩
  ·cases hq
 have HIN:=ab hin;have HLN:=ab hln;have H2:=ab h2;have H3:=ab h3;have H4:=ab h4;have HRU:=ab h;have HW1:=ab hW1;have HB1:=ab hb1;have HZ1:=ab hz1;have HOK:=ab ok;have HON:=ab (World.ownsRow_nil W1 W1.heap.size 48 2);obtain⟨ir,hir⟩:=info_parts nB;clear h1 h2 h3 h4 hx h hst hin hln hW1 hb1 hz1 ok ho hru1 hxv1;unfold rxc at HG ⊢;go_enter Tryz.func71,Tryz.ntmps71
 go_upto_region 1 with fail
 rw [←HW1.out];clear HW1;go_wp2
 go_loopw [8,9] (fun v q wr=>NnRel W1 n v q wr) (fun _ q _=>n-(intOf q).toNat)
 case atStart=>exact⟨0,Nat.zero_le _,rfl,Below.refl _ _,HON.out⟩
 case round =>
  obtain⟨j,hj,rfl,hb,hown⟩:=hrel;clear HON;have hbw:=HB1.out.trans (hb.mono HB1.out.size);have hxr:=(hb.block _ (jO HX1.out)).trans HX1.out;obtain⟨p0,p1,p2,p3,p4,p5,p6,p7⟩:=px hxr;have HBW:=ab hbw;have HB:=ab hb;have HOWN:=ab hown;obtain⟨va,vc,rfl⟩:=j7 hown;clear hbw hb hown hxr;by_cases hlt:j<n
  ·have hjn:decide ((j:Int)<(n:Int))=true:=CO gu
   clear HC;go_wp2_with (go_at_call 107;refine(HG.out _ HBW.out).mono ?_)
   rintro e w3 ⟨rfl,hb3⟩;have HO3:=ab (kL HOWN.out hb3);have HB3:=ab (HB.out.trans (hb3.mono HB.out.size));obtain⟨W4,hW4⟩:∃W4,W4=w3.alloc (.cells #[.int .i64 (-1),.int .i64 (-1)] 48):=⟨_,rfl⟩;have hb4:Below w3.heap.size w3 W4:=by rw [hW4];exact(Below.refl _ _).alloc (Cp _) _
   have hz3:=HB3.out.size;have hz4:=hb4.size;have HSL:Hid (Sl W4 W4.heap.size (some ⟨w3.heap.size,0,none⟩) 2 1 [.int .i64 (-1),.int .i64 (-1)]):=ab (by rw [hW4];exact Sl.lit (n:=1) (sz:=2) (heap_alloc_new w3 (.cells #[.int .i64 (-1),.int .i64 (-1)] 48)) rfl);have HO4:=ab (kL HO3.out hb4);have HB4:=ab (bel2 HB3.out hb4);have HW4:=ab hW4;have hsz4:W1.heap.size≤W4.heap.size:=Ct hz3 hz4;clear hb3 p0 p1 p2 p3 p4 p5 p6 p7 HO3 HB3 HOWN HB hb4 hW4 hz4 hz3;go_upto_region 5 with fail
   go_wp2_with (at_builtin;rw [←HW4.out];refine ke W1.heap.size 48 rfl _ _ 49 rfl Tryz.underlying49 hir rfl gD rfl HO4.out rfl HSL.out gG gu gu gD hsz4 ?_)
   intro v1 w5 ho5 hg5 hb5 _;have HO5:Hid (w5.ownsRow W1.heap.size 48 2 v1 (j+1) (jV (List.replicate (j+1) (-1,-1)))):=ab (by
    rw [List.replicate_succ',kY];exact ho5)
   have HB5:=ab (HB4.out.trans hb5);clear ho5 hg5 hb5;go_wp2
   go_roundw
   case rel=>exact⟨j+1,by omega,by go_num,HB5.out,HO5.out⟩
   case measure=>simp [intOf]<;>omega
  ·have e:n=j:=gu
   subst e;have hjn:decide ((n:Int)<(n:Int))=false:=CP gu;go_wp2_with (go_at_call 107;refine(HG.out _ HBW.out).mono ?_)
   rintro e w3 ⟨rfl,hb3⟩;have HO3:=ab (kL HOWN.out hb3);have HB3:=ab (HBW.out.trans (hb3.mono HBW.out.size));have HB31:=ab (HB.out.trans (hb3.mono HB.out.size));have HCC:=ab (HC.out w3 va vc HB31.out HO3.out _ rfl);clear p0 p1 p2 p3 p4 p5 p6 p7 HOWN HB hb3 HC HG HBW;obtain⟨p0,p1,p2,p3,p4,p5,p6,p7⟩:=px ((HB31.out.block _ (jO HX1.out)).trans HX1.out);have hm3:w3.heap[w.heap.size+1]?=some (.cells #[.int .i64 0,.int .i64 0,.slice none 0 0] 60 (0,0)):=(HB31.out.block _ (jO HM1.out)).trans HM1.out;have HM3:=ab hm3;clear hm3 hjn;obtain⟨r1,fu2,o2⟩:=r;have hzz:=HB3.out.size;have hb13:w.heap.size+1≠R.r:=gu;have HF3:Hid (Fv R w w3):=ab (Gx.of_below HB3.out);cases r1 with
   | none =>
    go_wp2_with (go_at_call 108;refine HCC.out.mono ?_)
    rintro e w4 h4;obtain⟨rfl,hr4,hf4⟩:=h4.none_;have HR4:=ab hr4.un;have hf4:Fv R w3 w4:=hf4;have HF4:Hid (Fv R w w4):=ab (HF3.out.trans hf4);have HM4:=ab ((hf4.block _ (jO HM3.out) hb13).trans HM3.out);clear hr4 hf4 h4 HCC HM3 p0 p1 p2 p3 p4 p5 p6 p7;have HRES:=ab (lC (cs:=#[.int .i64 0,.int .i64 0,.slice none 0 0]) HM4.out);go_wp2_with (refine kE rfl 60 (.tmp 6) (.tmp 36) rfl ((w.heap.size+1)) (#[.int .i64 0,.int .i64 0,.slice none 0 0]) rfl rfl 60 _ (HM4.out) (kl) rfl rfl (gG) (W:=(w4.setRow (w.heap.size+1) #[.int .i64 0,.int .i64 0,.slice none 0 0])) (rfl) ?_)
    refine CJ (nH Tryz.results71 kS kl HRES.out rfl rfl rfl) rfl ?_;obtain⟨g1,g2⟩:=HRU.out.row HR4.out HF4.out (Nat.le_succ _) #[.int .i64 0,.int .i64 0,.slice none 0 0];refine⟨by rw [H3.out,H4.out];exact g1,g2,?_⟩;rw [H2.out];rfl
   | some v =>
    obtain⟨en,ps⟩:=v;obtain⟨hen1,hen2,hsp⟩:=HIN.out en ps H2.out;have HPL:Hid (ps.length=n):=ab (HLN.out en ps H2.out);obtain⟨b,o,hoa,o1⟩:=(HRU.out.later HB3.out).off HOK.out hk;obtain⟨b',o',hoa',o2'⟩:=(HRU.out.later HB3.out).off HOK.out hen2;rw [hoa] at hoa';injection hoa' with hoa'
    injection hoa' with ha1 ha2
    subst ha1;subst ha2;have y1:=(HRU.out.later HB3.out).c1;rw [hoa] at y1;obtain⟨ka,hka⟩:∃n,R.C.offs.getD k 0=n:=⟨_,rfl⟩;obtain⟨ea,hea⟩:∃n,R.C.offs.getD en 0=n:=⟨_,rfl⟩;rw [hka] at o1;rw [hea] at o2';have HKA:=ab hka;have HEA:=ab hea;have hob:R.S b:=by
     obtain⟨b9,o9,h9,hS9,_⟩:=(HRU.out.later HB3.out).of.2 gu;rw [hoa] at h9;injection h9 with h9
     injection h9 with h9 _
     rw [h9];exact hS9
    have HOB:=ab hob;have O1:=ab o1;have O2:=ab o2';have Y1:=ab hoa;clear hsp hka hea o1 o2' y1 hoa hob HIN;go_wp2_with (go_at_call 108;refine HCC.out.mono ?_)
    rintro e w4 h4;obtain⟨a9,c9,rfl,h4⟩:=h4.some_;have HR4:=ab h4.1.un;have HS4:Hid (SlS w4 (R.at_ (w.heap.size+1)).S a9 2 ps.length (jV ps)):=ab (by
     obtain⟨a8,c8,e8,h8⟩:=h4.2.2.2 en ps rfl;injection e8 with e8
     injection e8 with e8
     injection e8 with e8
     injection e8 with _ e8
     injection e8 with e8 _
     injection e8 with e8 _ _
     rw [e8];exact h8)
    have hf4:Fv R w3 w4:=h4.2.1;have HF4:Hid (Fv R w w4):=ab (HF3.out.trans hf4);have HM4:=ab ((hf4.block _ (jO HM3.out) hb13).trans HM3.out);have e1:=ExtOf.cell (HR4.out.c1);rw [Y1.out] at e1;have e2:=ExtOf.cell (hf4.kept.cell HOB.out O1.out);have e3:=ExtOf.cell (hf4.kept.cell HOB.out O2.out);have hki:(k:Int)<(R.C.cs.length:Int)+1:=gu;have hei:(en:Int)<(R.C.cs.length:Int)+1:=gu;clear hf4 h4 HCC HM3 p0 p1 p2 p3 p4 p5 p6 p7 O1 O2;go_upto_region 9 with fail
    refine lQ 17 gE gE ?_;simp only [List.take_succ_cons,List.take_zero,List.drop_succ_cons,C0];repeat (go_big_quiet_step ((fail)))
    refine wpQuiet_nil ?_;intro xq;have HM5:=ab ((xq.ext.block _ (jO HM4.out)).trans HM4.out);have HR5:=ab (HR4.out.later xq.ext);have HF5:=ab (HF4.out.trans (Gx.of_below xq.ext));have HS5:=ab (HS4.out.keep (Kept.all xq.ext));have HRES:=ab (lC (cs:=#[.int .i64 (ka:Int),.int .i64 (ea:Int),.slice a9 ps.length c9]) HM5.out);have HXE:=ab xq.ext;clear e1 e2 e3;go_wp2_with (refine kE rfl 60 (.tmp 6) (.tmp 53) rfl ((w.heap.size+1)) (#[.int .i64 (ka:Int),.int .i64 (ea:Int),.slice a9 ps.length c9]) rfl rfl 60 _ (HM5.out) (kl) rfl rfl (gG) (W:=(xq.val.setRow (w.heap.size+1) #[.int .i64 (ka:Int),.int .i64 (ea:Int),.slice a9 ps.length c9])) (rfl) ?_)
    refine CJ (nH Tryz.results71 kS kl HRES.out rfl rfl rfl) rfl ?_;obtain⟨g1,g2⟩:=HRU.out.row HR5.out HF5.out (Nat.le_succ _) #[.int .i64 (ka:Int),.int .i64 (ea:Int),.slice a9 ps.length c9];refine⟨by rw [H3.out,H4.out];exact g1,g2,?_⟩;rw [H2.out];have hk9:Kept (R.at_ (w.heap.size+1)).S xq.val (xq.val.setRow (w.heap.size+1) #[.int .i64 (ka:Int),.int .i64 (ea:Int),.slice a9 ps.length c9]):=⟨by rw [oB];exact Cp _,fun b hb _=>lY _ (Vn.at_S hb).2⟩;have hpl:ps.length=n:=HPL.out;subst hpl;exact⟨a9,c9,by rw [HKA.out,HEA.out];rfl,(HS5.out.keep hk9).mono fun _ hb _=>(Vn.at_S hb).1,rfl,hen1,hen2⟩
def FindVP (R:Vn) (n:Nat) (q:Option (Nat × Nat × Ps) × Rst) (k:Nat) (w:World) (e:Ending) (w':World):Prop :=
 RunV R w' q.2.fuel q.2.out∧Fv R w w'∧match q.1 with
  | none=>e=.returned (.tuple #[mzV,.bool false])
  | some (a,b,ps)=>∃aa c,e=.returned (.tuple #[.agg #[.int .i64 ((R.C.offs.getD a 0:Nat):Int),.int .i64 ((R.C.offs.getD b 0:Nat):Int),.slice aa n c],.bool true])∧SlS w' R.S aa 2 n (jV ps)∧ps.length=n∧k≤a∧a≤b∧b≤R.C.cs.length
theorem TreeV.at_ {R:Vn} {n:Nat} {x:Rx} {cc:List Value} {w W:World} (h:TreeV R n x cc w) (hb:Below w.heap.size w W) {b:Nat} (h1:w.heap.size≤b):TreeV (R.at_ b) n x cc W :=
 ⟨(h.v.mono fun k hk hl=>Vn.S_at hk gu).later hb,h.n,h.wf,h.sm,h.pt⟩
def FdV (R:Vn) (x:Rx) (Q:Option (Nat × Nat × Ps) × Rst) (k0:Nat) (W1:World) (q:Value) (wr:World):Prop :=
 ∃(k N:Nat) (s:Rst),k0≤k∧k≤R.C.cs.length+1∧R.C.cs.length+1-k<N∧q=.int .i64 (k:Int)∧s.out=false∧RunV R wr s.fuel false∧Fv R W1 wr∧Hid (mu R.C x N k s=Q)
theorem uT {R:Vn} (ok:VnOk R) {n:Nat} (hn:n≤1000000) {x:Rx} {cc:List Value} {w:World} {st:Rst} (ho:st.out=false) (h:RunV R w st.fuel false) (hx:TreeV R n x cc w) {k N:Nat} (hk:k≤R.C.cs.length+1) (hN:R.C.cs.length+1-k<N) :
  Calls Tryz.prog 39 #[.pointer (some ⟨R.r,0,none⟩),.agg cc.toArray,.int .i64 (k:Int)] w (FindVP R n (mu R.C x N k st) k w):=by
 obtain⟨Q,hQ⟩:∃Q,mu R.C x N k st=Q:=⟨_,rfl⟩;rw [hQ];have HQ:=ab hQ;have hcs:=ok.cs;have hol:=ok.of;have hrl:=h.lt;obtain⟨X,hX⟩:∃X,X=x:=⟨_,rfl⟩;obtain⟨xk,c,ng,rs,lo,xh,lz,ks⟩:=x;obtain⟨ra,rc,ka,kc,rfl,_,_⟩:=hx.v.open_;rw [←hX] at hx HQ;obtain⟨W1,hW1⟩:∃W1,W1=(w.alloc (.cells #[.int .i64 xk,.string ⟨c.toArray⟩,.bool ng,.slice ra rs.length rc,.int .i64 lo,.int .i64 xh,.bool lz,.slice ka ks.length kc] 25)).alloc (.cells #[.int .i64 0,.int .i64 0,.slice none 0 0] 60):=⟨_,rfl⟩;have hb1:Below w.heap.size w W1:=by rw [hW1];exact((Below.refl _ _).alloc (Cp _) _).alloc gF _
 have hz1:W1.heap.size=w.heap.size+2:=by rw [hW1];simp
 have HX1:Hid (W1.heap[w.heap.size]?=some (.cells #[.int .i64 xk,.string ⟨c.toArray⟩,.bool ng,.slice ra rs.length rc,.int .i64 lo,.int .i64 xh,.bool lz,.slice ka ks.length kc] 25 (0,0))):=ab hZ;have HM1:Hid (W1.heap[w.heap.size+1]?=some (.cells #[.int .i64 0,.int .i64 0,.slice none 0 0] 60 (0,0))):=ab gI;have hru1:RunV (R.at_ (w.heap.size+1)) W1 st.fuel false:=h.at_ hb1 gu gu;have HTV:Hid (∀W,Fv R W1 W→TreeV (R.at_ (w.heap.size+1)) n X (rxc xk c ng ra rs.length rc lo xh lz ka ks.length kc) W):=ab fun W hW=>(hx.at_ hb1 (Nat.le_succ _)).keep (Fv.kept (R:=R.at_ (w.heap.size+1)) hW)
 have HAT:Hid (∀W (s:Rst) i,Fv R W1 W→s.out=false→RunV (R.at_ (w.heap.size+1)) W s.fuel false→i≤R.C.cs.length→Calls Tryz.prog 71 #[.pointer (some ⟨R.r,0,none⟩),.agg (rxc xk c ng ra rs.length rc lo xh lz ka ks.length kc).toArray,.int .i64 (i:Int)] W (AtP (R.at_ (w.heap.size+1)) n i (oneM R.C X i s) W)):=ab fun W s i hW hs hr hi =>
  at_any (ok.at_ (w.heap.size+1)) hn hs hr (HTV.out W hW) hi
 have HRU:=ab h;have HRU1:=ab hru1;have HW1:=ab hW1;have HB1:=ab hb1;have HZ1:=ab hz1;have HST:=ab ho;have hb13:w.heap.size+1≠R.r:=gu;have hb03:w.heap.size≠R.r:=gu;clear hx h hQ hW1 hb1 hz1 hru1 ho hX;unfold rxc at HAT ⊢;go_enter Tryz.func39,Tryz.ntmps39
 go_upto_region 1 with fail
 rw [←HW1.out];clear HW1;go_loopw [2] (fun q wr=>FdV (R.at_ (w.heap.size+1)) X Q k W1 q wr) (fun q _=>R.C.cs.length+1-(intOf q).toNat)
 case atStart=>exact⟨k,N,st,Cp _,hk,hN,rfl,HST.out,HRU1.out,Gx.refl _ _,HQ⟩
 case round =>
  obtain⟨i,M,s,hki,hi,hM,rfl,hso,hrr,hff,HF⟩:=hrel;have hi:i≤R.C.cs.length+1:=hi;have hM:R.C.cs.length+1-i<M:=hM;have hff:Fv R W1 wr:=hff;clear HQ HST HRU1;obtain⟨M,rfl⟩:∃m,M=m+1:=⟨M-1,by omega⟩;have HFF:=ab hff;have HRR:=ab hrr;have HSO:=ab hso;have hzr:=hff.size;have HM2:Hid (wr.heap[w.heap.size+1]?=some (.cells #[.int .i64 0,.int .i64 0,.slice none 0 0] 60 (0,0))):=ab ((hff.block _ (jO HM1.out) hb13).trans HM1.out);have HFW:Hid (Fv R w wr):=ab ((Gx.of_below HB1.out).to hff (fun _ _ h=>h));obtain⟨p0,p1,p2,p3,p4,p5,p6,p7⟩:=px ((hff.block _ (jO HX1.out) hb03).trans HX1.out);have c1:wr.cell? ⟨R.r,1,none⟩=some (.slice R.oa (R.C.cs.length+1) R.oc):=hrr.c1;clear hff hrr hso;by_cases hgo:i≤R.C.cs.length
  ·have hil:(i:Int)<(R.C.cs.length:Int)+1:=gu
   obtain⟨q,hq⟩:∃q,oneM R.C X i s=q:=⟨_,rfl⟩;have hat:=HAT.out wr s i HFF.out HSO.out HRR.out hgo;rw [hq] at hat;have HF2:Hid ((match q.1 with|some (e,ps)=>(some (i,e,ps),q.2)|none=>mu R.C X M (i+1) q.2)=Q):=ab (by
    rw [←HF.out];refine Eq.trans ?_ (Cl (c:=i<R.C.offs.length∧s.out=false) ⟨by omega,HSO.out⟩).symm;rw [←hq];rfl)
   obtain⟨qo,s2⟩:=q;have HAC:=ab hat;clear hq hat HF HAT;go_wp2_with (go_at_call 71;refine HAC.out.mono ?_)
   rintro e w3 ⟨hj3,hg3,hm3⟩;have hg3:Fv R wr w3:=hg3;have HJ3:=ab hj3;have HG3:Hid (Fv R W1 w3):=ab (HFF.out.to hg3 (fun _ _ h=>h));have HM3:=ab ((hg3.block _ (jO HM2.out) hb13).trans HM2.out);have hz3:=hg3.size;have c4:(w3.alloc (.cells #[.int .i64 0,.int .i64 0,.slice none 0 0] 60)).cell? ⟨R.r,4,none⟩=some (.bool s2.out):=jP ((Below.refl _ _).alloc (Cp _) _) _ _ hj3.c4;clear hj3 hg3 p0 p1 p2 p3 p4 p5 p6 p7 c1 HAC;cases qo with
   | none =>
    simp only at hm3
    subst hm3;unfold mzV;cases hs2:s2.out with
    | false =>
     rw [hs2] at c4;have HS2:=ab hs2;clear hs2;go_wp2
     go_roundw
     case rel =>
      refine⟨i+1,M,s2,by omega,by show i+1≤R.C.cs.length+1;omega,by show R.C.cs.length+1-(i+1)<M;omega,by go_num,HS2.out,?_,?_,HF2⟩
      ·have:=HJ3.out.later ((Below.refl _ _).alloc (Cp _) (.cells #[.int .i64 0,.int .i64 0,.slice none 0 0] 60))
       rw [HS2.out] at this;exact this
      ·exact HG3.out.to (Gx.of_below ((Below.refl _ _).alloc (Cp _) _)) (fun _ _ h=>h)
     case measure=>simp [intOf];omega
    | true =>
     rw [hs2] at c4;have hfn:mu R.C X M (i+1) s2=(none,s2):=by
      cases M with
      | zero=>rfl
      | succ M=>exact Co (fun h=>by rw [hs2] at h;cases h.2)
     have HF3:Hid (((none:Option (Nat × Nat × Ps)),s2)=Q):=ab (hfn.symm.trans HF2.out);have HS2:=ab hs2;obtain⟨W4,hW4⟩:∃W4,W4=w3.alloc (.cells #[.int .i64 0,.int .i64 0,.slice none 0 0] 60):=⟨_,rfl⟩;have hb4:Below w3.heap.size w3 W4:=by rw [hW4];exact(Below.refl _ _).alloc (Cp _) _
     have hl4:W4.heap[w3.heap.size]?=some (.cells #[.int .i64 0,.int .i64 0,.slice none 0 0] 60 (0,0)):=by rw [hW4];exact heap_alloc_new w3 _
     have m0:W4.cell? ⟨w3.heap.size,0,none⟩=some (.int .i64 0):=by rw [Cv hl4];rfl
     have m1:W4.cell? ⟨w3.heap.size,1,none⟩=some (.int .i64 0):=by rw [Cv hl4];rfl
     have m2:W4.cell? ⟨w3.heap.size,2,none⟩=some (.slice none 0 0):=by rw [Cv hl4];rfl
     have HM4:=ab ((hb4.block _ (jO HM3.out)).trans HM3.out);have HR4:=ab (HJ3.out.un.later hb4);have HF4:Hid (Fv R w W4):=ab (((Gx.of_below HB1.out).to HG3.out (fun _ _ h=>h)).to (Gx.of_below hb4) (fun _ _ h=>h));have HW4:=ab hW4;have HR5:=ab (lC (cs:=#[.int .i64 0,.int .i64 0,.slice none 0 0]) HM4.out);clear hs2 hb4 hl4 hW4 hfn HF2;go_upto_region 5 with fail
     rw [←HW4.out];go_wp2_with (refine kE rfl 60 (.tmp 6) (.tmp 33) rfl ((w.heap.size+1)) (#[.int .i64 0,.int .i64 0,.slice none 0 0]) rfl rfl 60 _ (HM4.out) (kl) rfl rfl (gG) (W:=(W4.setRow (w.heap.size+1) #[.int .i64 0,.int .i64 0,.slice none 0 0])) (rfl) ?_)
     refine CJ (nH Tryz.results39 kS kl HR5.out rfl rfl rfl) rfl ?_;obtain⟨g1,g2⟩:=HRU.out.row HR4.out HF4.out (Nat.le_succ _) #[.int .i64 0,.int .i64 0,.slice none 0 0];rw [←HF3.out];exact⟨g1,g2,rfl⟩
   | some y =>
    obtain⟨en,ps⟩:=y;obtain⟨aa,c9,rfl,hs3,hpl,h1,h2⟩:=hm3;obtain⟨ka',hka⟩:∃n,R.C.offs.getD i 0=n:=⟨_,rfl⟩;obtain⟨ea,hea⟩:∃n,R.C.offs.getD en 0=n:=⟨_,rfl⟩;rw [show (R.at_ (w.heap.size+1)).C=R.C from rfl,hka,hea];have HKA:=ab hka;have HEA:=ab hea;have HPL:=ab hpl;have hen:en≤R.C.cs.length:=h2;obtain⟨W4,hW4⟩:∃W4,W4=w3.alloc (.cells #[.int .i64 (ka':Int),.int .i64 (ea:Int),.slice aa n c9] 60):=⟨_,rfl⟩;have hb4:Below w3.heap.size w3 W4:=by rw [hW4];exact(Below.refl _ _).alloc (Cp _) _
    have hl4:W4.heap[w3.heap.size]?=some (.cells #[.int .i64 (ka':Int),.int .i64 (ea:Int),.slice aa n c9] 60 (0,0)):=by rw [hW4];exact heap_alloc_new w3 _
    have m0:W4.cell? ⟨w3.heap.size,0,none⟩=some (.int .i64 (ka':Int)):=by rw [Cv hl4];rfl
    have m1:W4.cell? ⟨w3.heap.size,1,none⟩=some (.int .i64 (ea:Int)):=by rw [Cv hl4];rfl
    have m2:W4.cell? ⟨w3.heap.size,2,none⟩=some (.slice aa n c9):=by rw [Cv hl4];rfl
    have HM4:=ab ((hb4.block _ (jO HM3.out)).trans HM3.out);have HR4:=ab (HJ3.out.un.later hb4);have HF4:Hid (Fv R w W4):=ab (((Gx.of_below HB1.out).to HG3.out (fun _ _ h=>h)).to (Gx.of_below hb4) (fun _ _ h=>h));have HS4:Hid (SlS (W4.setRow (w.heap.size+1) #[.int .i64 (ka':Int),.int .i64 (ea:Int),.slice aa n c9]) R.S aa 2 n (jV ps)):=ab (((hs3.keep (Kept.all hb4)).keep (⟨by rw [oB];exact Cp _,fun b hb _=>lY _ (Vn.at_S hb).2⟩:Kept (R.at_ (w.heap.size+1)).S W4 (W4.setRow (w.heap.size+1) #[.int .i64 (ka':Int),.int .i64 (ea:Int),.slice aa n c9]))).mono fun _ hb _=>(Vn.at_S hb).1);have HW4:=ab hW4;have HR5:=ab (lC (cs:=#[.int .i64 (ka':Int),.int .i64 (ea:Int),.slice aa n c9]) HM4.out);have HF3:Hid ((some (i,en,ps),s2)=Q):=HF2;clear hka hea hs3 hpl hb4 hl4 hW4 HF2 h2;go_upto_region 5 with fail
    rw [←HW4.out];go_wp2_with (refine kE rfl 60 (.tmp 6) (.tmp 33) rfl ((w.heap.size+1)) (#[.int .i64 (ka':Int),.int .i64 (ea:Int),.slice aa n c9]) rfl rfl 60 _ (HM4.out) (kl) rfl rfl (gG) (W:=(W4.setRow (w.heap.size+1) #[.int .i64 (ka':Int),.int .i64 (ea:Int),.slice aa n c9])) (rfl) ?_)
    refine CJ (nH Tryz.results39 kS kl HR5.out rfl rfl rfl) rfl ?_;obtain⟨g1,g2⟩:=HRU.out.row HR4.out HF4.out (Nat.le_succ _) #[.int .i64 (ka':Int),.int .i64 (ea:Int),.slice aa n c9];rw [←HF3.out];exact⟨g1,g2,aa,c9,by rw [HKA.out,HEA.out];rfl,HS4.out,HPL.out,hki,h1,hen⟩
  ·have HE:Hid (((none:Option (Nat × Nat × Ps)),s)=Q):=ab (by
    rw [←HF.out];exact(Co (fun h=>by have h1:i<R.C.offs.length:=h.1;omega)).symm)
   have hil:¬(i:Int)<(R.C.cs.length:Int)+1:=gu;have HRES:=ab (lC (cs:=#[.int .i64 0,.int .i64 0,.slice none 0 0]) HM2.out);have HR4:=ab HRR.out.un;clear HF HAT p0 p1 p2 p3 p4 p5 p6 p7;go_wp2_with (refine kE rfl 60 (.tmp 6) (.tmp 35) rfl ((w.heap.size+1)) (#[.int .i64 0,.int .i64 0,.slice none 0 0]) rfl rfl 60 _ (HM2.out) (kl) rfl rfl (gG) (W:=(wr.setRow (w.heap.size+1) #[.int .i64 0,.int .i64 0,.slice none 0 0])) (rfl) ?_)
   refine CJ (nH Tryz.results39 kS kl HRES.out rfl rfl rfl) rfl ?_;obtain⟨g1,g2⟩:=HRU.out.row HR4.out HFW.out (Nat.le_succ _) #[.int .i64 0,.int .i64 0,.slice none 0 0];rw [←HE.out];exact⟨by rw [HSO.out];exact g1,g2,rfl⟩
end Go.Proofs.YtjggmmaojklmpaaGreat
