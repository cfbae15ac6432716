/- The reference's run and its stack in memory · walk of (run).place -/
import Derived.Test.YtjggmmaojklmpaaGreatLb5
import Derived.Shelf.Abstract
import Derived.Laws.CopyOwn
set_option maxRecDepth 100000
set_option maxHeartbeats 4000000
namespace Go.Proofs.YtjggmmaojklmpaaGreat
open Go.RowKit
structure Vn where
 r:Nat
 ca:Option Addr
 cc:Nat
 oa:Option Addr
 oc:Nat
 C:Rc
 D:Nat→Prop
def Vn.S (R:Vn) (b:Nat):Prop:=b≠R.r∧¬R.D b
def Vn.cells (R:Vn) (fu:Nat) (out:Bool):List Value:=[.slice R.ca R.C.cs.length R.cc,.slice R.oa (R.C.cs.length+1) R.oc,.bool R.C.fold,.int .i64 (fu:Int),.bool out]
structure VnOk (R:Vn):Prop where
 cs:R.C.cs.length≤1000000
 ch:∀c∈R.C.cs,c.length≤1000000
 of:R.C.offs.length=R.C.cs.length+1
 ov:∀o∈R.C.offs,o≤1000000
structure RunV (R:Vn) (w:World) (fu:Nat) (out:Bool):Prop where
 box:w.heap[R.r]?=some (.cells (R.cells fu out).toArray 92 (0,0))
 ch:SlS w R.S R.ca 1 R.C.cs.length (kv R.C.cs)
 of:SlS w R.S R.oa 1 (R.C.cs.length+1) (mg R.C.offs)
 fu:fu≤20000
 dl:∀b,R.D b→b<w.heap.size
abbrev Fv (R:Vn) (w w':World):Prop:=Gx (fun k=>k=R.r) w w'
theorem Fv.kept {R:Vn} {w w':World} (h:Fv R w w'):Kept R.S w w':=Gx.kept h (fun _ hb=>hb.1)
theorem Fv.trans {R:Vn} {a b c:World} (h:Fv R a b) (k:Fv R b c):Fv R a c:=Gx.to h k (fun _ _ e=>e)
theorem RunV.later {R:Vn} {w w':World} {fu:Nat} {out:Bool} (h:RunV R w fu out) (hb:Below w.heap.size w w'):RunV R w' fu out :=
 ⟨(hb.block _ (jO h.box)).trans h.box,h.ch.keep (Kept.all hb),h.of.keep (Kept.all hb),h.fu,fun b h9=>Cu (h.dl b h9) hb.size⟩
theorem RunV.new {R:Vn} {w:World} {fu:Nat} {out:Bool} (h:RunV R w fu out) {b:Nat} (hb:w.heap.size≤b):R.S b :=
 ⟨by have:=jO h.box;omega,fun e=>by have:=h.dl b e;omega⟩
def nxc (k:Nx) (cc:List Value) (rv:Value):List Value:=(Value.int .i64 k.kind::cc)++[Value.int .i64 (k.g:Int),Value.int .i64 (k.many:Int),Value.int .i64 (k.fr:Int),rv]
def StkV (w:World) (S:Nat→Prop):List Nx→Value→Prop
 | [],v=>v=.pointer none
 | k::K,v=>∃(b:Nat) (cc:List Value) (rv:Value),v=.pointer (some ⟨b,0,none⟩)∧S b∧w.heap[b]?=some (.cells (nxc k cc rv).toArray 159 (0,0)) ∧
   cc.length=8∧(k.kind≠1→RxV w S cc k.x)∧StkV w S K rv
theorem StkV.keep {w w':World} {S:Nat→Prop} (hk:Kept S w w'):∀{K:List Nx} {v:Value},StkV w S K v→StkV w' S K v
 | [],_,h=>h
 | _::_,_,⟨b,cc,rv,h1,h2,h3,h4,h5,h6⟩=>⟨b,cc,rv,h1,h2,(hk.2 b h2 (jO h3)).trans h3,h4,fun h=>(h5 h).keep hk,StkV.keep hk h6⟩
theorem StkV.later {w w':World} {S:Nat→Prop} {K:List Nx} {v:Value} (h:StkV w S K v) (hb:Below w.heap.size w w'):StkV w' S K v:=h.keep (Kept.all hb)
def nY (z:Int):List Nat→Nat→Int
 | [],_=>-1
 | o::r,i=>if (o:Int)=z then(i:Int) else nY z r (i+1)
theorem sM {R:Vn} (ok:VnOk R) {w:World} {fu:Nat} {out:Bool} (h:RunV R w fu out) (z:Int) :
  Calls Tryz.prog 40 #[.pointer (some ⟨R.r,0,none⟩),.int .i64 z] w fun e w'=>e=.returned (.int .i64 (nY z R.C.offs 0))∧w=w':=by
 obtain⟨P,hP⟩:∃P,nY z R.C.offs 0=P:=⟨_,rfl⟩;rw [hP];have HP:Hid (nY z (R.C.offs.drop 0) 0=P):=ab hP;have hof:=ok.of;have hcs:=ok.cs;obtain⟨b,o0,hoa,hbB,hcc⟩:=h.of.sl.2 gu;have Z1:w.cell? ⟨R.r,1,none⟩=some (.slice (some ⟨b,o0,none⟩) (R.C.cs.length+1) R.oc):=by rw [←hoa];simp [World.cell?,h.box,Vn.cells]
 have HO:=ab hcc;clear hoa hcc;clear h hP ok;go_enter Tryz.func40,Tryz.ntmps40
 go_wp2
 go_loopw [5] (fun q wr=>∃k:Nat,k≤R.C.offs.length∧q=.int .i64 k∧w=wr∧Hid (nY z (R.C.offs.drop k) k=P)) (fun q _=>R.C.offs.length-(intOf q).toNat)
 case atStart=>exact⟨0,by omega,rfl,rfl,HP⟩
 case round =>
  obtain⟨k,hk,rfl,rfl,HF⟩:=hrel;clear HP;cases hd:R.C.offs.drop k with
  | nil =>
   have h2:R.C.offs.length≤k:=gU;have HE:Hid (P=-1):=ab gY;clear hd HF;go_wp2
   go_ret
   exact⟨lD HE.out.symm,rfl⟩
  | cons o r =>
   obtain⟨h2,h3,hr⟩:=j6 hd;have hc:=HO.out k (.int .i64 (o:Int)) (by simp [mg,h3]);have HE:Hid ((if (o:Int)=z then(k:Int) else nY z (R.C.offs.drop (k+1)) (k+1))=P):=ab (by rw [←HF.out,hd,hr];rfl);clear hd HF hr h3;by_cases ho:(o:Int)=z
   ·have HE2:Hid (P=(k:Int)):=ab (by rw [←HE.out,Cl ho])
    go_wp2
    go_ret
    exact⟨lD HE2.out.symm,rfl⟩
   ·have HE2:Hid (nY z (R.C.offs.drop (k+1)) (k+1)=P):=ab (by rw [←HE.out,Co ho])
    have hob:((o:Int)==z)=false:=by rw [CM];exact ho
    go_wp2
    go_roundw
    case rel=>exact⟨k+1,by omega,by go_num,trivial,HE2⟩
    case measure=>simp [intOf];omega
def ResV (R:Vn) (w:World) (r:Ro) (e:Ending) (w':World):Prop :=
 RunV R w' r.2.1 r.2.2∧Fv R w w'∧(r.1=none→e=.returned (.tuple #[.int .i64 0,.slice none 0 0,.bool false])) ∧
  ∀j ps,r.1=some (j,ps)→∃a c,e=.returned (.tuple #[.int .i64 (j:Int),.slice a ps.length c,.bool true])∧SlS w' R.S a 2 ps.length (jV ps)
structure FitN (R:Vn) (n i:Nat) (k:Nx):Prop where
 kd:k.kind=0∨k.kind=1∨k.kind=2
 fr:k.fr≤i
 x0:k.kind≠1→k.x.wf=true∧k.x.small∧k.x.parts≤1000000∧k.g+k.x.groups≤n
 g1:k.kind=1→k.g<n
 x2:k.kind=2→k.x.kind=7∧(k.many:Int)≤k.x.lo+(k.fr:Int)+1
theorem FitN.mono {R:Vn} {n i j:Nat} {k:Nx} (h:FitN R n i k) (hij:i≤j):FitN R n j k:=⟨h.kd,Ct h.fr hij,h.x0,h.g1,h.x2⟩
def FitK (R:Vn) (n i:Nat) (K:List Nx):Prop:=∀k∈K,FitN R n i k
theorem FitK.mono {R:Vn} {n i j:Nat} {K:List Nx} (h:FitK R n i K) (hij:i≤j):FitK R n j K:=fun k hk=>(h k hk).mono hij
def OnC (R:Vn) (n N:Nat):Prop:=∀(K:List Nx) (i:Nat) (ps:Ps) (fu:Nat) (r:Ro),onR R.C N K i ps fu=some r→i≤R.C.cs.length→ps.length=n→FitK R n i K →
 ∀(w:World) (sv:Value) (a:Option Addr) (c:Nat),StkV w R.S K sv→RunV R w fu false→SlS w R.S a 2 n (jV ps) →
  Calls Tryz.prog 108 #[.pointer (some ⟨R.r,0,none⟩),sv,.int .i64 (i:Int),.slice a n c] w (ResV R w r)
theorem on_nil {R:Vn} {n i fu:Nat} {ps:Ps} {w:World} {a:Option Addr} {c:Nat} (hps:ps.length=n) (hr:RunV R w fu false) (hp:SlS w R.S a 2 n (jV ps)) :
  Calls Tryz.prog 108 #[.pointer (some ⟨R.r,0,none⟩),.pointer none,.int .i64 (i:Int),.slice a n c] w (ResV R w (some (i,ps),fu,false)):=by
 have HR:=ab hr;have HP:=ab hp;clear hr hp;go_enter Tryz.func108,Tryz.ntmps108
 go_wp2
 go_ret3
 refine⟨HR.out,Gx.refl _ _,(fun h=>by cases h),fun j qs h=>?_⟩;obtain⟨rfl,rfl⟩:=(Prod.mk.inj (Option.some.inj h));subst hps;exact⟨a,c,rfl,HP.out⟩
theorem on_stop {R:Vn} {n i fu:Nat} {w:World} {a:Option Addr} {c:Nat} {x:Rx} {g many:Nat} {K:List Nx} {sv:Value} (hs:StkV w R.S (⟨2,x,g,many,i⟩::K) sv) (hm:x.lo<(many:Int)) (hr:RunV R w fu false) :
  Calls Tryz.prog 108 #[.pointer (some ⟨R.r,0,none⟩),sv,.int .i64 (i:Int),.slice a n c] w (ResV R w (none,fu,false)):=by
 obtain⟨b,cc,rv,rfl,hS,hb,hc8,hx,_⟩:=hs;obtain⟨xk,xc,xn,xr,lo,xh,xz,ks⟩:=x;obtain⟨ra,rc,ka,kc,rfl,_,_⟩:=(hx (show (2:Int)≠1 by decide)).open_;have HR:=ab hr;have z0:w.cell? ⟨b,0,none⟩=some (.int .i64 2):=by simp [World.cell?,hb,nxc]
 have z5:w.cell? ⟨b,5,none⟩=some (.int .i64 lo):=jA;have z10:w.cell? ⟨b,10,none⟩=some (.int .i64 (many:Int)):=jA;have z11:w.cell? ⟨b,11,none⟩=some (.int .i64 (i:Int)):=jA;simp only [Rx.lo] at hm;clear hr hb hx hS hc8;go_enter Tryz.func108,Tryz.ntmps108
 go_upto_region 8 with fail
 go_region
 go_wp2
 go_ret3
 have hbw:Below w.heap.size w w.drew:=(Below.refl w.heap.size w).drew;exact⟨HR.out.later hbw,Gx.of_below hbw,(fun _=>rfl),fun j qs h=>by cases h⟩
structure Inv (C:Rc) (n:Nat) (F:Nat) (E:Int→Prop) (st:Rst):Prop where
 len:st.ps.length=n
 sp:∀v∈st.ps,v=(-1,-1)∨∃a b:Nat,a≤b∧b≤C.cs.length∧v=((C.offs.getD a 0:Int),(C.offs.getD b 0:Int))
 en:E st.en
 fu:st.fuel≤F
section
variable {C:Rc} {n F:Nat} {E:Int→Prop}
def KOk (C:Rc) (n F:Nat) (E:Int→Prop) (k:Nat) (f:Rk):Prop:=∀e st,k≤e→e≤C.cs.length→Inv C n F E st→Inv C n F E (f e st).2
theorem KOk.le {k k':Nat} {f:Rk} (h:KOk C n F E k f) (hk:k≤k'):KOk C n F E k' f:=fun e st h1 h2 h3=>h e st gu h2 h3
theorem vX {P:Rst→Prop} {a:Bool × Rst} {h:Rst→Bool × Rst} (ha:P a.2) (hh:∀s,P s→P (h s).2):P (orE a h).2:=by
 unfold orE;split
 ·exact ha
 ·exact hh _ ha
theorem Inv.burn {st:Rst} (h:Inv C n F E st):Inv C n F E (kP st):=⟨h.len,h.sp,h.en,by have:=h.fu;simp only [kP];omega⟩
theorem Inv.none {st:Rst} (h:Inv C n F E st) {lo hi:Nat} (h1:lo≤hi) (h2:hi≤n):Inv C n F E { st with ps:=kA st.ps lo hi }:=by
 refine⟨?_,fun v hv=>?_,h.en,h.fu⟩
 ·have:=h.len;simp only [kA,Cy,CK,List.length_replicate,CS];omega
 ·simp only [kA,CI,List.mem_replicate] at hv
  rcases hv with(hv|hv)|hv
  ·exact h.sp v (List.mem_of_mem_take hv)
  ·exact .inl hv.2
  ·exact h.sp v (List.mem_of_mem_drop hv)
theorem Inv.back {st s0:Rst} (h:Inv C n F E st) (h0:Inv C n F E s0) {lo hi:Nat} (h1:lo≤hi) (h2:hi≤n):Inv C n F E { st with ps:=nX st.ps s0.ps lo hi }:=by
 refine⟨?_,fun v hv=>?_,h.en,h.fu⟩
 ·have:=h.len;have:=h0.len;simp only [nX,Cy,CK,CS];omega
 ·simp only [nX,CI] at hv
  rcases hv with(hv|hv)|hv
  ·exact h.sp v (List.mem_of_mem_take hv)
  ·exact h0.sp v (List.mem_of_mem_take (List.mem_of_mem_drop hv))
  ·exact h.sp v (List.mem_of_mem_drop hv)
theorem Inv.set {st:Rst} (h:Inv C n F E st) (g:Nat) {v:Int × Int} (hv:v=(-1,-1)∨∃a b:Nat,a≤b∧b≤C.cs.length∧v=((C.offs.getD a 0:Int),(C.offs.getD b 0:Int))):Inv C n F E { st with ps:=mG st.ps g v }:=by
 refine⟨by simpa [mG] using h.len,fun u hu=>?_,h.en,h.fu⟩;rcases List.mem_or_eq_of_mem_set hu with hu|rfl
 ·exact h.sp u hu
 ·exact hv
theorem Inv.was {st:Rst} (h:Inv C n F E st) (g:Nat):st.ps.getD g (-1,-1)=(-1,-1)∨∃a b:Nat,a≤b∧b≤C.cs.length∧st.ps.getD g (-1,-1)=((C.offs.getD a 0:Int),(C.offs.getD b 0:Int)):=by
 rw [List.getD_eq_getElem?_getD];cases hg:st.ps[g]? with
 | none=>exact .inl rfl
 | some v=>exact h.sp v (CF hg)
theorem grpK_ok {g k:Nat} {f:Rk} (h:KOk C n F E k f):KOk C n F E k (grpK C g k f):=fun e st h1 h2 h3=>by
 have hs:=h3.set g (v:=((C.offs.getD k 0:Int),(C.offs.getD e 0:Int))) (.inr ⟨k,e,h1,h2,rfl⟩);have hr:=h e _ h1 h2 hs;unfold grpK AT;split
 ·exact hr
 ·exact hr.set g (h3.was g)
theorem uw {tk:Nat→Rk→Rst→Bool × Rst} {mn mx:Int} {lz:Bool} {lo hi:Nat} {f:Rk} (h1:lo≤hi) (h2:hi≤n)
  (htk:∀k f st,k≤C.cs.length→KOk C n F E k f→Inv C n F E st→Inv C n F E (tk k f st).2) :
  ∀(N k times:Nat) (st:Rst),k≤C.cs.length→KOk C n F E k f→Inv C n F E st→Inv C n F E (lu tk mn mx lz lo hi f N k times st).2
 | 0,_,_,_,_,_,h=>h
 | N+1,k,times,st,hk,hf,h=>by
  unfold lu;refine vX (P:=Inv C n F E) ?_ fun s1 i1=>?_
  ·split
   ·exact hf _ _ (Cp _) hk h
   ·exact h
  ·refine vX (P:=Inv C n F E) ?_ fun s2 i2=>?_
   ·split
    ·have ht:=htk k (fun e s2=>if k<e∨(times:Int)<mn then lu tk mn mx lz lo hi f N e (times+1) s2 else(false,s2)) { s1 with ps:=kA s1.ps lo hi } hk (fun e st h3 h4 h5=>by
      dsimp only
      split
      ·exact uw h1 h2 htk N e (times+1) st h4 (hf.le h3) h5
      ·exact h5) (i1.none h1 h2)
     unfold r7;split
     ·exact ht
     ·exact ht.back i1 h1 h2
    ·exact i1
   ·split
    ·exact hf _ _ (Cp _) hk i2
    ·exact i2
mutual
theorem qp:∀(x:Rx) (g k:Nat) (f:Rk) (st:Rst),g+x.groups≤n→k≤C.cs.length→KOk C n F E k f→Inv C n F E st→Inv C n F E (tryM C x g k f st).2
 | .mk kd c ng rs lo hi lz ks,g,k,f,st,hg,hk,hf,h=>by
  have hgl:g+Rx.groupsL ks≤n∧(kd=5→g+1+Rx.groupsL ks≤n):=by
   simp only [Rx.groups] at hg;by_cases h5:kd=5
   ·rw [Cl h5] at hg;exact⟨by omega,fun _=>by omega⟩
   ·rw [Co h5] at hg;exact⟨by omega,fun e=>absurd e h5⟩
  unfold tryM;split
  ·exact h
  split
  ·exact AJ ks g k f st hgl.1 hk hf h
  split
  ·exact AA ks g k f st hgl.1 hk hf h
  split
  ·exact uw gu hgl.1 (fun k f st a b c=>tY ks g k f st hgl.1 a b c) _ _ _ _ hk hf h
  split
  ·exact⟨h.len,h.sp,h.en,h.fu⟩
  split
  ·rename_i h5;exact tY ks (g+1) k _ _ (hgl.2 h5) hk (grpK_ok hf) h.burn
  split
  ·exact tY ks g k f _ hgl.1 hk hf h.burn
  split
  ·split
   ·rename_i hh;exact hf _ _ gu gu h.burn
   ·exact h.burn
  split
  ·exact hf _ _ gu hk h.burn
  ·exact h.burn
theorem tY:∀(ks:List Rx) (g k:Nat) (f:Rk) (st:Rst),g+Rx.groupsL ks≤n→k≤C.cs.length→KOk C n F E k f→Inv C n F E st→Inv C n F E (kU C ks g k f st).2
 | [],_,_,_,_,_,_,_,h=>h
 | x::r,g,k,f,st,hg,hk,hf,h=>by
  simp only [Rx.groupsL] at hg;unfold kU;exact qp x g k f st gu hk hf h
theorem AJ:∀(ks:List Rx) (g k:Nat) (f:Rk) (st:Rst),g+Rx.groupsL ks≤n→k≤C.cs.length→KOk C n F E k f→Inv C n F E st→Inv C n F E (seqM C ks g k f st).2
 | [],_,k,f,st,_,hk,hf,h=>hf k st (Cp _) hk h
 | x::r,g,k,f,st,hg,hk,hf,h=>by
  simp only [Rx.groupsL] at hg;unfold seqM;exact qp x g k _ st gu hk (fun e s h1 h2 h3=>AJ r (g+x.groups) e f s gu h2 (hf.le h1) h3) h
theorem AA:∀(ks:List Rx) (g k:Nat) (f:Rk) (st:Rst),g+Rx.groupsL ks≤n→k≤C.cs.length→KOk C n F E k f→Inv C n F E st→Inv C n F E (altM C ks g k f st).2
 | [],_,_,_,_,_,_,_,h=>h
 | x::r,g,k,f,st,hg,hk,hf,h=>by
  simp only [Rx.groupsL] at hg;unfold altM;exact vX (P:=Inv C n F E) (qp x g k f st gu hk hf h) fun s hs=>AA r (g+x.groups) k f s gu hk hf hs
end
end
structure Rn where
 r:Nat
 t:Nat
 B:Nat
 tp:List Value
 ca:Option Addr
 cc:Nat
 oa:Option Addr
 oc:Nat
 pa:Option Addr
 pc:Nat
 C:Rc
 n:Nat
 S:Nat→Prop
def Rn.pv (R:Rn):Value:=.slice R.pa R.n R.pc
def Rn.X (R:Rn) (k:Nat):Prop:=k=R.r∨k=R.t∨R.pv.ownBlock=some k
def Rn.cells (R:Rn) (st:Rst):List Value :=
 R.tp++[.bool R.C.fold,.slice R.ca R.C.cs.length R.cc,.slice R.oa (R.C.cs.length+1) R.oc,.slice R.pa R.n R.pc,.int .i64 (st.fuel:Int),.bool st.out]
structure RnOk (R:Rn):Prop where
 tp:R.tp.length=11
 one:∀u∈R.tp,u.oneCell'=true
 cs:R.C.cs.length≤1000000
 ch:∀c∈R.C.cs,c.length≤1000000
 of:R.C.offs.length=R.C.cs.length+1
 ov:∀o∈R.C.offs,o≤1000000
 rt:R.r≠R.t
 pr:R.pv.ownBlock≠some R.r
 pt:R.pv.ownBlock≠some R.t
 sr:∀b,R.S b→¬R.X b
 n:R.n≤1000
structure RunI (R:Rn) (w:World) (st:Rst):Prop where
 box:w.heap[R.r]?=some (.cells (R.cells st).toArray 123 (0,0))
 tb:w.heap[R.t]?=some (.cells #[.int .i64 st.en] 3 (0,0))
 ps:w.ownsRow R.B 48 2 R.pv R.n (jV st.ps)
 ch:SlS w R.S R.ca 1 R.C.cs.length (kv R.C.cs)
 of:SlS w R.S R.oa 1 (R.C.cs.length+1) (mg R.C.offs)
 fu:st.fuel≤20000
abbrev Fx (R:Rn) (w w':World):Prop:=Gx R.X w w'
theorem Fx.kept {R:Rn} (ok:RnOk R) {w w':World} (h:Fx R w w'):Kept R.S w w':=Gx.kept h ok.sr
theorem Fx.trans {R:Rn} {a b c:World} (h:Fx R a b) (k:Fx R b c):Fx R a c:=Gx.to h k (fun _ _ e=>e)
theorem RunI.len {R:Rn} {w:World} {st:Rst} (h:RunI R w st):st.ps.length=R.n:=by have:=h.ps.1;rw [kC] at this;omega
theorem kL {w w':World} {B:Nat} {e:TypeId} {sz n:Nat} {v:Value} {xs:List Value} (h:w.ownsRow B e sz v n xs) (hb:Below w.heap.size w w'):w'.ownsRow B e sz v n xs :=
 pe (X:=fun _=>False) h (Gx.of_below hb) (fun _ _ h=>h)
theorem RunI.later {R:Rn} {w w':World} {st:Rst} (h:RunI R w st) (hb:Below w.heap.size w w'):RunI R w' st :=
 ⟨(hb.block _ (jO h.box)).trans h.box,(hb.block _ (jO h.tb)).trans h.tb,kL h.ps hb,h.ch.keep (Kept.all hb),h.of.keep (Kept.all hb),h.fu⟩
theorem RunI.lt {R:Rn} {w:World} {st:Rst} (h:RunI R w st):∀k,R.X k→k<w.heap.size:=by
 rintro k (rfl|rfl|e)
 ·exact jO h.box
 ·exact jO h.tb
 ·exact(h.ps.lt k e).2
theorem yO {R:Rn} (ok:RnOk R) (st:Rst) (j:Nat):(R.cells st)[11+j]?=[Value.bool R.C.fold,.slice R.ca R.C.cs.length R.cc,.slice R.oa (R.C.cs.length+1) R.oc,.slice R.pa R.n R.pc,.int .i64 (st.fuel:Int),.bool st.out][j]?:=by
 have:=ok.tp
 unfold Rn.cells;rw [CD gu];congr 1;omega
section
variable {R:Rn} {w:World} {st:Rst}
theorem RunI.cell (ok:RnOk R) (h:RunI R w st) (j:Nat) {u:Value} (hj:[Value.bool R.C.fold,.slice R.ca R.C.cs.length R.cc,.slice R.oa (R.C.cs.length+1) R.oc,.slice R.pa R.n R.pc,.int .i64 (st.fuel:Int),.bool st.out][j]?=some u):w.cell? ⟨R.r,11+j,none⟩=some u:=by
 rw [Cv h.box];simpa using (yO ok st j).trans hj
theorem RunI.c11 (ok:RnOk R) (h:RunI R w st):w.cell? ⟨R.r,11,none⟩=some (.bool R.C.fold):=h.cell ok 0 rfl
theorem RunI.c12 (ok:RnOk R) (h:RunI R w st):w.cell? ⟨R.r,12,none⟩=some (.slice R.ca R.C.cs.length R.cc):=h.cell ok 1 rfl
theorem RunI.c13 (ok:RnOk R) (h:RunI R w st):w.cell? ⟨R.r,13,none⟩=some (.slice R.oa (R.C.cs.length+1) R.oc):=h.cell ok 2 rfl
theorem RunI.c14 (ok:RnOk R) (h:RunI R w st):w.cell? ⟨R.r,14,none⟩=some (.slice R.pa R.n R.pc):=h.cell ok 3 rfl
theorem RunI.c15 (ok:RnOk R) (h:RunI R w st):w.cell? ⟨R.r,15,none⟩=some (.int .i64 (st.fuel:Int)):=h.cell ok 4 rfl
theorem RunI.c16 (ok:RnOk R) (h:RunI R w st):w.cell? ⟨R.r,16,none⟩=some (.bool st.out):=h.cell ok 5 rfl
theorem RunI.free (h:RunI R w st) (j:Nat):w.frozen? ⟨R.r,j,none⟩=false:=by
 simp only [World.frozen?,h.box];simp
theorem RunI.setR (ok:RnOk R) (h:RunI R w st) {st':Rst} {j:Nat} {u:Value} (hc:(R.cells st).set j u=R.cells st') (e1:st'.ps=st.ps) (e2:st'.en=st.en) (e3:st'.fuel≤st.fuel):RunI R (w.setCell ⟨R.r,j,none⟩ u) st':=by
 have hk:Kept R.S w (w.setCell ⟨R.r,j,none⟩ u):=⟨by simp [World.setCell],fun b hb _=>heap_setCell_other w _ b u (fun e=>ok.sr b hb (.inl e))⟩;refine⟨?_,?_,?_,h.ch.keep hk,h.of.keep hk,by have:=h.fu;omega⟩
 ·rw [heap_setCell_same _ _ _ _ _ _ h.box,←hc];simp
 ·rw [e2];exact(heap_setCell_other w _ R.t u (fun e=>ok.rt e.symm)).trans h.tb
 ·rw [e1];exact pe (X:=fun k=>k=R.r) h.ps (Gx.set w u rfl) (fun k hk e=>ok.pr (by rw [hk,e]))
theorem RunI.burnW (ok:RnOk R) (h:RunI R w st) (hf:st.fuel≠0):RunI R (w.setCell ⟨R.r,15,none⟩ (.int .i64 ((st.fuel:Int)-1))) (kP st):=by
 refine h.setR ok ?_ rfl rfl (by simp only [kP];omega);have h11:=ok.tp;unfold Rn.cells kP;rw [List.set_append_right _ _ gu,h11];simp only [show 15-11=4 from rfl,List.set_cons_succ,List.set_cons_zero];rw [show ((st.fuel-1:Nat):Int)=(st.fuel:Int)-1 by omega]
theorem RunI.outW (ok:RnOk R) (h:RunI R w st):RunI R (w.setCell ⟨R.r,16,none⟩ (.bool true)) { st with out:=true }:=by
 refine h.setR ok ?_ rfl rfl (Cp _);have h11:=ok.tp;unfold Rn.cells;rw [List.set_append_right _ _ gu,h11];rfl
theorem Fx.setR (w:World) (a:Addr) (ha:a.block=R.r) (u:Value):Fx R w (w.setCell a u):=Gx.set w u (.inl ha)
theorem RunI.char (h:RunI R w st) {k:Nat} (hk:k<R.C.cs.length):∃b o,R.ca=some ⟨b,o,none⟩∧w.cell? ⟨b,o+k,none⟩=some (.string ⟨(R.C.cs.getD k []).toArray⟩):=by
 obtain⟨b,o,e1,_,_,e4⟩:=h.ch.2 gu;exact⟨b,o,e1,e4 k _ (by rw [List.getD_eq_getElem?_getD];simp [kv,hk])⟩
theorem RunI.off (ok:RnOk R) (h:RunI R w st) {k:Nat} (hk:k≤R.C.cs.length):∃b o,R.oa=some ⟨b,o,none⟩∧w.cell? ⟨b,o+k,none⟩=some (.int .i64 ((R.C.offs.getD k 0:Nat):Int)):=by
 obtain⟨b,o,e1,_,_,e4⟩:=h.of.2 gu;exact⟨b,o,e1,e4 k _ (rA (by rw [ok.of];omega))⟩
theorem RunI.row (h:RunI R w st) (hn:0<R.n):∃g,R.pa=some ⟨g,0,none⟩:=by
 rcases h.ps.2 with⟨_,h0⟩|⟨g,cap,cur,hv,_⟩
 ·omega
 ·injection hv with hv _ _;exact⟨g,hv⟩
theorem RunI.part (h:RunI R w st) {g b:Nat} (hg:g<R.n) (hp:R.pa=some ⟨b,0,none⟩) :
  w.cell? ⟨b,g*2,none⟩=some (.int .i64 (st.ps.getD g (-1,-1)).1)∧w.cell? ⟨b,g*2+1,none⟩=some (.int .i64 (st.ps.getD g (-1,-1)).2)∧w.frozen? ⟨b,g*2,none⟩=false∧w.frozen? ⟨b,g*2+1,none⟩=false:=by
 have hps:=h.ps;unfold Rn.pv at hps;rw [hp] at hps;have hl:=h.len;obtain⟨c1,c2⟩:=oK (Cn (show g<st.ps.length by omega));have e:st.ps.getD g (-1,-1)=st.ps[g]' gu:=by rw [List.getD_eq_getElem?_getD,Cn gu];rfl
 rw [e];exact⟨(hps.cellAt _ gu).trans c1,(hps.cellAt _ gu).trans c2,hps.frozenAt _,hps.frozenAt _⟩
theorem RunI.setP (ok:RnOk R) (h:RunI R w st) {g b:Nat} (hg:g<R.n) (hp:R.pa=some ⟨b,0,none⟩) (v:Int × Int) :
  RunI R ((w.setCell ⟨b,g*2,none⟩ (.int .i64 v.1)).setCell ⟨b,g*2+1,none⟩ (.int .i64 v.2)) { st with ps:=mG st.ps g v }∧Fx R w ((w.setCell ⟨b,g*2,none⟩ (.int .i64 v.1)).setCell ⟨b,g*2+1,none⟩ (.int .i64 v.2)):=by
 have hps:=h.ps;have hl:=h.len;have hb:R.pv.ownBlock=some b:=by unfold Rn.pv;rw [hp];rfl
 have hfx:Fx R w ((w.setCell ⟨b,g*2,none⟩ (.int .i64 v.1)).setCell ⟨b,g*2+1,none⟩ (.int .i64 v.2)) :=
  Fx.trans (R:=R) (Gx.set w (a:=⟨b,g*2,none⟩) _ (.inr (.inr hb))) (Gx.set _ (a:=⟨b,g*2+1,none⟩) _ (.inr (.inr hb)))
 have hk:=Fx.kept ok hfx;refine⟨⟨?_,?_,?_,h.ch.keep hk,h.of.keep hk,h.fu⟩,hfx⟩
 ·rw [heap_setCell_other _ _ _ _ (fun e=>ok.pr (by rw [hb,e])),heap_setCell_other _ _ _ _ (fun e=>ok.pr (by rw [hb,e]))];exact h.box
 ·rw [heap_setCell_other _ _ _ _ (fun e=>ok.pt (by rw [hb,e])),heap_setCell_other _ _ _ _ (fun e=>ok.pt (by rw [hb,e]))];exact h.tb
 ·unfold Rn.pv at hps ⊢
  rw [hp] at hps ⊢;have:=((hps.stored (g*2) (.int .i64 v.1)).1.stored (g*2+1) (.int .i64 v.2)).1
  rwa [oP _ _ _ gu] at this
end
def KW (R:Rn) (w0:World) (k0:Nat) (fv:Value) (f:Rk):Prop :=
 ∃(j:FuncId) (caps:Array Value),fv=.func (.func j) #[] caps∧Enters Tryz.prog j∧∀(w:World) (st:Rst) (e:Nat),Fx R w0 w→RunI R w st→k0≤e→e≤R.C.cs.length →
  Calls Tryz.prog j (#[.int .i64 (e:Int)]++caps) w fun x w'=>x=.returned (.bool (f e st).1)∧RunI R w' (f e st).2∧Fx R w w'
theorem KW.later {R:Rn} {w0 w1:World} {k0 k1:Nat} {fv:Value} {f:Rk} (h:KW R w0 k0 fv f) (hx:Fx R w0 w1) (hk:k0≤k1):KW R w1 k1 fv f:=by
 obtain⟨j,caps,e,he,hc⟩:=h;exact⟨j,caps,e,he,fun w st e h1 h2 h3 h4=>hc w st e (hx.trans h1) h2 gu h4⟩
def kW (R:Rn) (q:Bool × Rst) (w:World) (x:Ending) (w':World):Prop:=x=.returned (.bool q.1)∧RunI R w' q.2∧Fx R w w'
theorem mF {R:Rn} (ok:RnOk R) {w:World} {st:Rst} (h:RunI R w st) (hf:st.fuel≠0) :
  Calls Tryz.prog 156 #[.pointer (some ⟨R.r,0,none⟩)] w fun e w'=>e=.returned (.bool true)∧RunI R w' (kP st)∧Fx R w w':=by
 have c15:=h.c15 ok;have f15:=h.free 15;have hfu:=h.fu;have h0:((st.fuel:Int)==0)=false:=by rw [CM];omega
 have HB:=ab (h.burnW ok hf);have HX:=ab (Fx.setR (R:=R) w ⟨R.r,15,none⟩ rfl (.int .i64 ((st.fuel:Int)-1)));clear h;go_enter Tryz.func156,Tryz.ntmps156
 go_wp2
 go_ret
 exact⟨rfl,HB.out,HX.out⟩
theorem burn_no {R:Rn} (ok:RnOk R) {w:World} {st:Rst} (h:RunI R w st) (hf:st.fuel=0) :
  Calls Tryz.prog 156 #[.pointer (some ⟨R.r,0,none⟩)] w fun e w'=>e=.returned (.bool false)∧RunI R w' { st with out:=true }∧Fx R w w':=by
 have c15:=h.c15 ok;have f15:=h.free 15;have c16:=h.c16 ok;have f16:=h.free 16;have HB:=ab (h.outW ok);have HX:=ab (Fx.setR (R:=R) w ⟨R.r,16,none⟩ rfl (.bool true));clear h;rw [hf] at c15;clear hf;go_enter Tryz.func156,Tryz.ntmps156
 go_wp2
 go_ret
 exact⟨rfl,HB.out,HX.out⟩
theorem wK {r:Nat} (c:Str) (ng:Bool) (ra:Option Addr) (rn rc:Nat) (lo hi:Int) (lz:Bool) (ka:Option Addr) (kn kc:Nat) (w:World) :
  Calls Tryz.prog 158 #[.pointer (some ⟨r,0,none⟩),.agg (rxc 2 c ng ra rn rc lo hi lz ka kn kc).toArray,.string ⟨c.toArray⟩] w fun e w'=>e=.returned (.bool true)∧Below w.heap.size w w':=by
 have hb0:Below w.heap.size w (w.alloc (.cells (rxc 2 c ng ra rn rc lo hi lz ka kn kc).toArray 25)):=(Below.refl _ _).alloc (Cp _) _;have HB0:=ab hb0;clear hb0;unfold rxc at HB0 ⊢;go_enter Tryz.func158,Tryz.ntmps158
 go_upto_region 3 with fail
 have e1:∀x:ExtOf (w.alloc (.cells #[.int .i64 2,.string ⟨c.toArray⟩,.bool ng,.slice ra rn rc,.int .i64 lo,.int .i64 hi,.bool lz,.slice ka kn kc] 25)),x.val.cell? ⟨w.heap.size,1,none⟩=some (.string ⟨c.toArray⟩):=ExtOf.cell gF;exact fX
theorem uM {r:Nat} (c d:Str) (ng:Bool) (ra:Option Addr) (rn rc:Nat) (lo hi:Int) (lz:Bool) (ka:Option Addr) (kn kc:Nat) (w:World) (hf:w.cell? ⟨r,11,none⟩=some (.bool false)) (hne:d≠c) :
  Calls Tryz.prog 158 #[.pointer (some ⟨r,0,none⟩),.agg (rxc 2 c ng ra rn rc lo hi lz ka kn kc).toArray,.string ⟨d.toArray⟩] w fun e w'=>e=.returned (.bool false)∧Below w.heap.size w w':=by
 have hq:(d==c)=false:=by rw [CM];exact hne
 have hb0:Below w.heap.size w (w.alloc (.cells (rxc 2 c ng ra rn rc lo hi lz ka kn kc).toArray 25)):=(Below.refl _ _).alloc (Cp _) _;have HB0:=ab hb0;have hf0:=jP hb0 _ _ hf;unfold rxc at HB0 hf0 ⊢;go_enter Tryz.func158,Tryz.ntmps158
 go_upto_region 3 with fail
 have e1:∀x:ExtOf (w.alloc (.cells #[.int .i64 2,.string ⟨c.toArray⟩,.bool ng,.slice ra rn rc,.int .i64 lo,.int .i64 hi,.bool lz,.slice ka kn kc] 25)),x.val.cell? ⟨w.heap.size,1,none⟩=some (.string ⟨c.toArray⟩):=ExtOf.cell gF;have e2:∀x:ExtOf (w.alloc (.cells #[.int .i64 2,.string ⟨c.toArray⟩,.bool ng,.slice ra rn rc,.int .i64 lo,.int .i64 hi,.bool lz,.slice ka kn kc] 25)),x.val.cell? ⟨r,11,none⟩=some (.bool false):=ExtOf.cell hf0;exact fX
theorem wR {r:Nat} (c d:Str) (ng:Bool) (ra:Option Addr) (rn rc:Nat) (lo hi:Int) (lz:Bool) (ka:Option Addr) (kn kc:Nat) (w:World) (hf:w.cell? ⟨r,11,none⟩=some (.bool true)) (hne:d≠c) (hd:d.length≤1000000) (hc:c.length≤1000000) :
  Calls Tryz.prog 158 #[.pointer (some ⟨r,0,none⟩),.agg (rxc 2 c ng ra rn rc lo hi lz ka kn kc).toArray,.string ⟨d.toArray⟩] w fun e w'=>e=.returned (.bool (o4 d==o4 c))∧Below w.heap.size w w':=by
 have hq:(d==c)=false:=by rw [CM];exact hne
 have hb0:Below w.heap.size w (w.alloc (.cells (rxc 2 c ng ra rn rc lo hi lz ka kn kc).toArray 25)):=(Below.refl _ _).alloc (Cp _) _;have HB0:=ab hb0;have hf0:=jP hb0 _ _ hf;unfold rxc at HB0 hf0 ⊢;go_enter Tryz.func158,Tryz.ntmps158
 go_upto_region 3 with fail
 have e1:∀x:ExtOf (w.alloc (.cells #[.int .i64 2,.string ⟨c.toArray⟩,.bool ng,.slice ra rn rc,.int .i64 lo,.int .i64 hi,.bool lz,.slice ka kn kc] 25)),x.val.cell? ⟨w.heap.size,1,none⟩=some (.string ⟨c.toArray⟩):=ExtOf.cell gF;have e2:∀x:ExtOf (w.alloc (.cells #[.int .i64 2,.string ⟨c.toArray⟩,.bool ng,.slice ra rn rc,.int .i64 lo,.int .i64 hi,.bool lz,.slice ka kn kc] 25)),x.val.cell? ⟨r,11,none⟩=some (.bool true):=ExtOf.cell hf0;refine jS gE gE ?_;repeat (go_big_quiet_step ((go_at_call 180;exact ku (tZ _ _ (by first|exact hd|exact hc)))))
 exact cl
theorem yS {r:Nat} (c d:Str) (ng:Bool) (ra:Option Addr) (rn rc:Nat) (lo hi:Int) (lz:Bool) (ka:Option Addr) (kn kc:Nat) (w:World) :
  Calls Tryz.prog 158 #[.pointer (some ⟨r,0,none⟩),.agg (rxc 3 c ng ra rn rc lo hi lz ka kn kc).toArray,.string ⟨d.toArray⟩] w fun e w'=>e=.returned (.bool (d != [10]))∧Below w.heap.size w w':=by
 have hb0:Below w.heap.size w (w.alloc (.cells (rxc 3 c ng ra rn rc lo hi lz ka kn kc).toArray 25)):=(Below.refl _ _).alloc (Cp _) _;have HB0:=ab hb0;clear hb0;unfold rxc at HB0 ⊢;go_enter Tryz.func158,Tryz.ntmps158
 go_wp2
 go_ret
 exact⟨rfl,HB0.out⟩
theorem yR {r:Nat} (c d:Str) (ng fd:Bool) (ra:Option Addr) (rs:List (Str × Str)) (rc:Nat) (lo hi:Int) (lz:Bool) (ka:Option Addr) (kn kc:Nat) (w:World) (hf:w.cell? ⟨r,11,none⟩=some (.bool fd)) (hr:Sl w w.heap.size ra 2 rs.length (jX rs)) (hn:rs.length≤100000000) (hd:d.length≤1000000) :
  Calls Tryz.prog 158 #[.pointer (some ⟨r,0,none⟩),.agg (rxc 4 c ng ra rs.length rc lo hi lz ka kn kc).toArray,.string ⟨d.toArray⟩] w fun e w'=>e=.returned (.bool (hasS rs ng fd d))∧Below w.heap.size w w':=by
 have HR:=ab hr;clear hr;have hb0:Below w.heap.size w (w.alloc (.cells (rxc 4 c ng ra rs.length rc lo hi lz ka kn kc).toArray 25)):=(Below.refl _ _).alloc (Cp _) _;have HB0:=ab hb0;have hf0:=jP hb0 _ _ hf;unfold rxc at HB0 hf0 ⊢;go_enter Tryz.func158,Tryz.ntmps158
 go_upto_region 6 with fail
 have e1:∀x:ExtOf (w.alloc (.cells #[.int .i64 4,.string ⟨c.toArray⟩,.bool ng,.slice ra rs.length rc,.int .i64 lo,.int .i64 hi,.bool lz,.slice ka kn kc] 25)),x.val.cell? ⟨w.heap.size,3,none⟩=some (.slice ra rs.length rc):=ExtOf.cell gF;have e2:∀x:ExtOf (w.alloc (.cells #[.int .i64 4,.string ⟨c.toArray⟩,.bool ng,.slice ra rs.length rc,.int .i64 lo,.int .i64 hi,.bool lz,.slice ka kn kc] 25)),x.val.cell? ⟨r,11,none⟩=some (.bool fd):=ExtOf.cell hf0;have e3:∀x:ExtOf (w.alloc (.cells #[.int .i64 4,.string ⟨c.toArray⟩,.bool ng,.slice ra rs.length rc,.int .i64 lo,.int .i64 hi,.bool lz,.slice ka kn kc] 25)),x.val.cell? ⟨w.heap.size,2,none⟩=some (.bool ng):=ExtOf.cell gF;have HH:Hid (∀x:ExtOf (w.alloc (.cells #[.int .i64 4,.string ⟨c.toArray⟩,.bool ng,.slice ra rs.length rc,.int .i64 lo,.int .i64 hi,.bool lz,.slice ka kn kc] 25)),Calls Tryz.prog 181 #[.slice ra rs.length rc,.bool ng,.bool fd,.string ⟨d.toArray⟩] x.val fun e w'=>e=.returned (.bool (hasS rs ng fd d))∧Below x.val.heap.size x.val w'):=ab (fun x=>by
  have hb:=HB0.out.trans (x.ext.mono gF);exact Has_any _ _ _ rs _ _ d _ ((HR.out.keep hb).mono hb.size) hn hd)
 refine jS gE gE ?_;repeat (go_big_quiet_step ((go_at_call 181;exact ku (HH.out _))))
 exact cl
theorem nJ {R:Rn} (ok:RnOk R) {w:World} {st:Rst} (h:RunI R w st) (kind:Int) (k:Nat) (hk:k≤R.C.cs.length) :
  Calls Tryz.prog 159 #[.pointer (some ⟨R.r,0,none⟩),.int .i64 kind,.int .i64 k] w fun e w'=>e=.returned (.bool (ki R.C kind k))∧w=w':=by
 have c12:=h.c12 ok;have hcs:=ok.cs;have hch:∀j,(R.C.cs.getD j []).length≤1000000:=fun j=>by
  exact eQ
 have HO:=ab ok;have HH:=ab h;clear ok h;by_cases h8:kind=8
 ·subst h8
  have HE:Hid (ki R.C 8 k=decide (k=0)):=ab (by unfold ki;rw [Cl rfl]);clear hch;go_enter Tryz.func159,Tryz.ntmps159
  go_wp2_with (go_at_call 182;refine(qR _ _ gu).mono ?_;rintro e w1 ⟨rfl,rfl⟩)
  go_ret
  exact⟨jU (by rw [HE.out,Bool.eq_iff_iff];simp),rfl⟩
 by_cases h9:kind=9
 ·subst h9
  have HE:Hid (ki R.C 9 k=decide (k=R.C.cs.length)):=ab (by unfold ki;rw [Co gD,Cl rfl]);clear hch h8;go_enter Tryz.func159,Tryz.ntmps159
  go_wp2_with (go_at_call 182;refine(qR _ _ gu).mono ?_;rintro e w1 ⟨rfl,rfl⟩)
  go_ret
  exact⟨jU (by rw [HE.out,Bool.eq_iff_iff];simp;omega),rfl⟩
 have h8':(kind==8)=false:=by rw [CM];exact h8
 have h9':(kind==9)=false:=by rw [CM];exact h9
 have HE0:Hid (ki R.C kind k=(((decide (0<k)&&lG (R.C.cs.getD (k-1) [])) != (decide (k<R.C.cs.length)&&lG (R.C.cs.getD k [])))==(kind==10))):=ab (by
  unfold ki;rw [Co h8,Co h9];congr 1)
 clear h8 h9;rcases Nat.eq_zero_or_pos k with h0|h0
 ·subst h0
  rcases Nat.eq_zero_or_pos R.C.cs.length with hn|hn
  ·have HE:Hid (ki R.C kind 0=((false != false)==(kind==10))):=ab (by rw [HE0.out,hn];rfl)
   rw [hn] at c12;clear hch HE0 hk;exact bf
  ·obtain⟨b,o,hca,hc⟩:=HH.out.char hn
   rw [hca] at c12;have hl:=hch 0;obtain⟨d,hd⟩:∃d,R.C.cs.getD 0 []=d:=⟨_,rfl⟩;rw [hd] at hl hc;rw [Nat.add_zero] at hc;have HE:Hid (ki R.C kind 0=((false != lG d)==(kind==10))):=ab jJ;clear hch HE0 hk hd hca;exact bf
 ·obtain⟨b,o,hca,hc⟩:=HH.out.char (show k-1<R.C.cs.length by omega)
  rw [hca] at c12;have hl:=hch (k-1);obtain⟨d,hd⟩:∃d,R.C.cs.getD (k-1) []=d:=⟨_,rfl⟩;rw [hd] at hl hc;obtain⟨k,rfl⟩:∃j,k=j+1:=⟨k-1,by omega⟩;simp only [Nat.add_sub_cancel] at hc hd;rcases Nat.lt_or_ge (k+1) R.C.cs.length with hn|hn
  ·obtain⟨b',o',hca',hc'⟩:=HH.out.char hn
   rw [hca] at hca';injection hca' with hca'
   injection hca' with hb' ho'
   subst hb';subst ho';have hl':=hch (k+1);obtain⟨u,hu⟩:∃u,R.C.cs.getD (k+1) []=u:=⟨_,rfl⟩;rw [hu] at hl' hc';have HE:Hid (ki R.C kind (k+1)=((lG d != lG u)==(kind==10))):=ab iN;clear hch HE0 hk hd hca hu h0;exact bf
  ·have hkn:k+1=R.C.cs.length:=gu
   have HE:Hid (ki R.C kind (k+1)=((lG d != false)==(kind==10))):=ab iQ;rw [←hkn] at c12;rw [←hkn] at hcs;clear hch HE0 hk hd hca hn hkn h0;exact bf
def NoneRel (R:Rn) (w:World) (st:Rst) (lo hi:Nat) (q:Value) (wr:World):Prop :=
 ∃k:Nat,lo+k≤hi∧q=.int .i64 k∧RunI R wr { st with ps:=kA st.ps lo (lo+k) }∧Fx R w wr
theorem nU (ps:List (Int × Int)) (lo:Nat):kA ps lo lo=ps:=by simp [kA]
theorem py (ps:List (Int × Int)) (lo k:Nat) (h:lo+k<ps.length):mG (kA ps lo (lo+k)) (lo+k) (-1,-1)=kA ps lo (lo+(k+1)):=by
 unfold mG kA;have e1:(ps.take lo++List.replicate (lo+k-lo) ((-1:Int),(-1:Int))).length=lo+k:=by simp;omega
 rw [List.set_append_right _ _ gu,e1,Nat.sub_self,show lo+k-lo=k by omega,show lo+(k+1)-lo=k+1 by omega,List.drop_eq_getElem_cons h,List.set_cons_zero,List.replicate_succ',show lo+(k+1)=lo+k+1 by omega];simp
theorem qA (ps:List (Int × Int)) (lo hi:Nat) (h1:lo≤hi) (h2:hi≤ps.length):(kA ps lo hi).length=ps.length:=by
 exact d9
theorem none_any {R:Rn} (ok:RnOk R) {w:World} {st:Rst} (h:RunI R w st) (b lo hi cap:Nat) (hp:R.pa=some ⟨b,0,none⟩) (h1:lo≤hi) (h2:hi≤R.n) :
  Calls Tryz.prog 128 #[.slice (some ⟨b,lo*2,none⟩) (hi-lo) cap] w fun e w'=>e=.returned (.tuple #[])∧RunI R w' { st with ps:=kA st.ps lo hi }∧Fx R w w':=by
 have hn:=ok.n;have HO:=ab ok;have HP:=ab hp;have H0:Hid (RunI R w { st with ps:=kA st.ps lo (lo+0) }):=ab (by rw [Nat.add_zero,nU];exact h);have hlen:=h.len;have hb:R.pv.ownBlock≠none:=by unfold Rn.pv;rw [hp];simp [Value.ownBlock]
 clear hp ok h hb;go_enter Tryz.func128,Tryz.ntmps128
 go_wp2
 go_loopw [5] (fun q wr=>NoneRel R w st lo hi q wr) (fun q _=>hi-lo-(intOf q).toNat)
 case atStart=>exact⟨0,by omega,rfl,H0.out,Gx.refl _ _⟩
 case round =>
  obtain⟨k,hk,rfl,hr,hx⟩:=hrel;clear H0;by_cases hlt:lo+k<hi
  ·obtain⟨c1,c2,f1,f2⟩:=hr.part (g:=lo+k) gu HP.out
   have hs:=hr.setP HO.out (g:=lo+k) gu HP.out (-1,-1);simp only at hs
   rw [py st.ps lo k gu] at hs;rw [show (lo+k)*2=lo*2+k*2 by omega] at hs c1 c2 f1 f2;have HS:=ab hs;have HX:=ab hx;clear hs hr hx;go_wp2_with (fail)
   go_roundw
   case rel=>exact⟨k+1,by omega,by go_num,HS.out.1,Fx.trans (R:=R) HX.out HS.out.2⟩
   case measure=>simp [intOf];omega
  ·have e:lo+k=hi:=gu
   have HR:=ab (e▸hr);clear hr;go_wp2_with (fail)
   go_end0
   exact⟨rfl,HR.out,hx⟩
theorem vH {P:Program} (w:World) (dT sT ty elem:TypeId) (size b o dLen dCap:Nat) (a:Addr) (sLen sCap:Nat) (cs:List Value)
  (hu:P.underlying dT=some (.slice elem)) (hs:(P.info? elem).map (·.size)=some size) (hn:cs.length=Nat.min sLen dLen*size)
  (hsrc:∀j v,cs[j]?=some v→w.cell? (a.add j)=some v) (hc:∀j,j<cs.length→(w.cell? ⟨b,o+j,none⟩).isSome=true) (hf:∀j,j<cs.length→w.frozen? ⟨b,o+j,none⟩=false) (h1:∀v∈cs,v.oneCell'=true) :
  (Builtin.copy_ #[dT,sT] ty #[.slice (some ⟨b,o,none⟩) dLen dCap,.slice (some a) sLen sCap]).run P w=.ok (goInt (Nat.min sLen dLen)) (w.setCells b o cs):=by
 have hl:=run_loadCells_list (P:=P) w a cs hsrc;have hst:=run_storeCells_cells (P:=P) b o cs 0 w (by simpa using hc) (by simpa using hf) h1;cases hq:P.info? elem with
 | none=>simp [hq] at hs
 | some i =>
  have hi:i.size=size:=by simpa [hq] using hs
  simp [Builtin.copy_,run_underlying hu,Builtin.lenOf,Builtin.firstCells,sizeOf,typeInfo,hq,hi,←hn,hl,hst]
theorem AL {P:Program} (w:World) (dT sT ty elem:TypeId) (size:Nat) (d a:Option Addr) (dCap sCap:Nat) (hu:P.underlying dT=some (.slice elem)) (hs:(P.info? elem).map (·.size)=some size) :
  (Builtin.copy_ #[dT,sT] ty #[.slice d 0 dCap,.slice a 0 sCap]).run P w=.ok (goInt 0) w:=by
 cases hq:P.info? elem with
 | none=>simp [hq] at hs
 | some i =>
  have hl:∀(x:Addr),(loadCells x 0).run P w=.ok #[] w:=fun x=>by simpa using run_loadCells_list (P:=P) w x [] gF
  cases d<;>cases a<;>simp [Builtin.copy_,run_underlying hu,Builtin.lenOf,Builtin.firstCells,sizeOf,typeInfo,hq,storeCells,hl]
theorem uy {P:Program} {w:World} {ops:Array Oper} {rest:List Oper} {o:Oper} {a:Act} {Q:Exit→Act→World→Prop} (hgd:o.guard=none) (d s:Operand) (t t':TypeId)
  (ho:o.op=.call { callee:=.builtin .copy,args:=#[d,s],argTypes:=#[t,t'] }) (v u:Value) (hd:a.eval d=v) (hs:a.eval s=u) {v':Value} {w':World}
  (hr:(Builtin.copy_ #[t,t'] o.type #[v,u]).run P w=.ok v' w') (h:wpList P ops Q rest (a.put o.dst v') w'):wpList P ops Q (o::rest) a w:=by
 refine wpList_plain hgd fun K hK=>?_
 unfold Oper.wp;simp [execOp,ho,resolve,invoke,builtin,hd,hs,hr,Result.andThen]
 exact hK _ _ h
theorem pF:(Tryz.prog.info? 48).map (·.size)=some 2:=by kernel_rfl
theorem nB:(Tryz.prog.info? 48).map (fun i=>(i.zero,i.size,i.bytes))=some (some (.agg #[.int .i64 0,.int .i64 0]),2,16):=by kernel_rfl
theorem mK (ps:List (Int × Int)):∀u∈jV ps,u.oneCell'=true:=fun u hu=>by
 simp only [jV,List.mem_flatMap,Cz,CH,or_false] at hu;obtain⟨_,_,rfl|rfl⟩:=hu<;>rfl
theorem xp (ps was:List (Int × Int)) (lo:Nat):nX ps was lo lo=ps:=by
 simp [nX]
structure PSl (R:Rn) (lo hi:Nat) (a':Option Addr) (c':Nat):Prop where
 sl:∀w':World,(Instr.sliceAt 49 (.slice R.pa R.n R.pc) (some (.int .i64 (lo:Int))) (some (.int .i64 (hi:Int))) none).run Tryz.prog w'=.ok (.slice a' (hi-lo) c') w'
 rd:∀(w':World) (st':Rst),RunI R w' st'→Sl w' w'.heap.size a' 2 (hi-lo) (jV ((st'.ps.take hi).drop lo))
 nn:∀(w':World) (st':Rst),RunI R w' st'→Calls Tryz.prog 128 #[.slice a' (hi-lo) c'] w' fun e w2=>e=.returned (.tuple #[])∧RunI R w2 { st' with ps:=kA st'.ps lo hi }∧Fx R w' w2
 cp:∀(w':World) (st':Rst) (was:List (Int × Int)) (sa:Option Addr) (sc ty:Nat),RunI R w' st'→was.length=R.n→Sl w' w'.heap.size sa 2 (hi-lo) (jV ((was.take hi).drop lo)) →
  ∃w2,(Builtin.copy_ #[49,49] ty #[.slice a' (hi-lo) c',.slice sa (hi-lo) sc]).run Tryz.prog w'=.ok (goInt (hi-lo:Nat)) w2∧RunI R w2 { st' with ps:=nX st'.ps was lo hi }∧Fx R w' w2
theorem xM (a':Option Addr) (c':Nat) (w:World):Calls Tryz.prog 128 #[.slice a' 0 c'] w fun e w2=>e=.returned (.tuple #[])∧w=w2:=by
 go_enter Tryz.func128,Tryz.ntmps128
 go_wp2
 go_loopw [5] (fun q wr=>q=.int .i64 0∧wr=w) (fun q _=>0)
 case atStart=>exact⟨rfl,rfl⟩
 case round =>
  exact dQ
theorem psl {R:Rn} (ok:RnOk R) {w:World} {st:Rst} (h:RunI R w st) {lo hi:Nat} (h1:lo≤hi) (h2:hi≤R.n):∃a' c',PSl R lo hi a' c':=by
 have hnc:R.n≤R.pc:=by
  rcases h.ps.2 with⟨hv,h0⟩|⟨g,cap,cur,hv,_,_,hnc,_⟩
  ·omega
  ·injection hv with _ _ hv;omega
 rcases Nat.eq_or_lt_of_le h1 with e|hlt
 ·subst e
  refine⟨if R.pc=lo then R.pa else R.pa.map (·.add (lo*2)),R.pc-lo,fun w'=>?_,fun w' st' hr=>?_,fun w' st' hr=>?_,fun w' st' was sa sc ty hr hl hs=>?_⟩
  ·go_simp
   intro h;omega
  ·rw [show lo-lo=0 by omega,List.drop_take,show lo-lo=0 by omega,List.take_zero];exact Sl.none_ _ _ _ _
  ·rw [show lo-lo=0 by omega,nU]
   exact(xM _ _ w').mono fun e w2 ⟨e1,e2⟩=>by subst e2;exact⟨e1,hr,Gx.refl _ _⟩
  ·rw [show lo-lo=0 by omega,xp]
   exact⟨w',AL w' _ _ ty _ 2 _ _ _ _ Tryz.underlying49 pF,hr,Gx.refl _ _⟩
 ·obtain⟨b,hb⟩:=h.row gu
  refine⟨some ⟨b,lo*2,none⟩,R.pc-lo,fun w'=>?_,fun w' st' hr=>?_,fun w' st' hr=>?_,fun w' st' was sa sc ty hr hl hs=>?_⟩
  ·rw [hb]
   have:R.pc≠lo:=gu
   go_simp
   intro h;omega
  ·have hps:=hr.ps
   have hlen:=hr.len;unfold Rn.pv at hps;rw [hb] at hps;refine⟨by rw [kC,CS,CK];omega,fun _=>⟨b,lo*2,rfl,(hps.lt b rfl).2,fun j u hj=>?_⟩⟩;have e1:jV st'.ps=jV (st'.ps.take lo)++(jV ((st'.ps.take hi).drop lo)++jV (st'.ps.drop hi)):=by
    rw [←kY,←kY];congr 1;rw [List.drop_take,←CU];conv=>lhs;rw [←List.take_append_drop hi st'.ps]
    congr 1
    rw [←List.take_add,show lo+(hi-lo)=hi by omega]
   have hjl:=(Cq.1 hj).1;have hlo:(jV (st'.ps.take lo)).length=lo*2:=by rw [kC,CK];omega
   have hjl2:=hjl;rw [kC,CS,CK] at hjl2;rw [hps.cellAt _ gu,e1,CD gu,hlo,Nat.add_sub_cancel_left,CA hjl];exact hj
  ·exact none_any ok hr b lo hi _ hb h1 h2
  ·have hps:=hr.ps
   have hlen:=hr.len;unfold Rn.pv at hps;rw [hb] at hps;obtain⟨sb,so,rfl,hsb,hsc⟩:=hs.2 gu;have hcl:=hs.1;have hpb:R.pv.ownBlock=some b:=by unfold Rn.pv;rw [hb];rfl
   have hrun:=vH (P:=Tryz.prog) w' 49 49 ty 48 2 b (lo*2) (hi-lo) (R.pc-lo) ⟨sb,so,none⟩ (hi-lo) sc (jV ((was.take hi).drop lo)) Tryz.underlying49 pF (by rw [hcl];simp)
    (fun j v hj=>by
     have hadd:(⟨sb,so,none⟩:Addr).add j=⟨sb,so+j,none⟩:=by unfold Addr.add;split<;>simp_all
     rw [hadd];exact hsc j v hj)
    (fun j hj=>by rw [hps.cellAt _ gu,Cn (by rw [kC];omega)];rfl)
    (fun j hj=>hps.frozenAt _) (mK _)
   have hset:=uk (jV ((was.take hi).drop lo)) (jV ((st'.ps.take hi).drop lo)) (jV (st'.ps.take lo)) (jV (st'.ps.drop hi)) (w:=w') (B:=R.B) (e:=48) (sz:=2) (n:=R.n) (g:=b) (cap:=R.pc) (by
     rw [←kY,←kY];have e:st'.ps.take lo++((st'.ps.take hi).drop lo++st'.ps.drop hi)=st'.ps:=by
      rw [List.drop_take,←CU,←List.take_add,show lo+(hi-lo)=hi by omega,List.take_append_drop]
     rw [e];exact hps) (by rw [kC,kC];simp only [CS,CK];omega)
   have hlo:(jV (st'.ps.take lo)).length=lo*2:=by rw [kC,CK];omega
   rw [hlo,←kY,←kY,←CU] at hset;have hfx:Fx R w' (w'.setCells b (lo*2) (jV ((was.take hi).drop lo))):=Gx.sets (X:=R.X) (.inr (.inr hpb)) _ _ _;have hk:=Fx.kept ok hfx;have hfx2:Gx (fun k=>k=b) w' (w'.setCells b (lo*2) (jV ((was.take hi).drop lo))):=Gx.sets (X:=fun k=>k=b) rfl _ _ _;refine⟨_,by rw [hrun];simp,⟨?_,?_,?_,hr.ch.keep hk,hr.of.keep hk,hr.fu⟩,hfx⟩
   ·exact Gx.heap hfx2 hr.box (fun e=>ok.pr (by rw [hpb,e]))
   ·exact Gx.heap hfx2 hr.tb (fun e=>ok.pt (by rw [hpb,e]))
   ·unfold Rn.pv;rw [hb];exact hset
theorem nan_int (x:Int) (w:World):Calls Tryz.prog 160 #[.int .i64 x] w fun e w'=>e=.returned (.bool false)∧w=w':=by
 go_enter Tryz.func160,Tryz.ntmps160
 go_wp2
 go_ret
 exact⟨jU gF,rfl⟩
theorem less_int (x y:Int) (w:World):Calls Tryz.prog 132 #[.int .i64 x,.int .i64 y] w fun e w'=>e=.returned (.bool (decide (x<y)))∧w=w':=by
 go_enter Tryz.func132,Tryz.ntmps132
 go_wp2_with (go_at_call 160;refine(nan_int _ _).mono ?_;rintro e w1 ⟨rfl,rfl⟩)
 go_ret
 exact⟨rfl,rfl⟩
theorem BB {x y:Int} {b:Bool} (w:World) (h:decide (x<y)=b):Calls Tryz.prog 132 #[.int .i64 x,.int .i64 y] w fun e w'=>e=.returned (.bool b)∧w=w':=h▸less_int x y w
def wL (l:List Nat):Prop:=∀a b,a<b→b<l.length→l.getD a 0<l.getD b 0
def BnRel (w:World) (n k:Nat) (p q:Value) (wr:World):Prop:=∃i j:Nat,i≤k∧k≤j∧j≤n∧p=.int .i64 i∧q=.int .i64 j∧wr=w
theorem ze (S:Nat→Prop) (a:Option Addr) (c:Nat) (l:List Nat) (w:World) (h:SlS w S a 1 l.length (mg l)) (hl:l.length≤2000000) (hr:wL l) (k:Nat) (hk:k<l.length) (t:Nat) (ht:l.getD k 0=t) :
  Calls Tryz.prog 98 #[.slice a l.length c,.int .i64 t] w fun e w'=>e=.returned (.tuple #[.int .i64 k,.bool true])∧w=w':=by
 obtain⟨b,o,rfl,_,_,hc⟩:=h.2 gu;have hcell:∀j,j<l.length→w.cell? ⟨b,o+j,none⟩=some (.int .i64 ((l.getD j 0:Nat):Int)):=fun j hj=>hc j _ (rA hj)
 have HC:=ab hcell;have HR:=ab hr;have HT:=ab ht;clear h hc hcell hr ht;go_enter Tryz.func98,Tryz.ntmps98
 go_wp2
 go_loopw [7,8] (fun p q wr=>BnRel w l.length k p q wr) (fun p q _=>(intOf q).toNat-(intOf p).toNat)
 case atStart=>exact⟨0,l.length,by omega,by omega,by omega,rfl,rfl,rfl⟩
 case round =>
  obtain⟨i,j,h1,h2,h3,rfl,rfl,rfl⟩:=hrel;by_cases hij:i<j
  ·obtain⟨m,hm⟩:∃m,m=(i+j) / 2:=⟨_,rfl⟩
   have hm1:m<j:=gu;have hm2:i≤m:=gu;have hme:((i:Int)+(j:Int)) / 2=(m:Int):=gu;have HME:=ab hme;have hcm:=HC.out m gu;obtain⟨u,hu⟩:∃u,l.getD m 0=u:=⟨_,rfl⟩;rw [hu] at hcm;have hml:(m:Int)<(l.length:Int):=gu;have HU:Hid ((u<t→m<k)∧(¬u<t→k≤m)):=ab (by
    rw [←hu,←HT.out];refine⟨fun h=>?_,fun h=>?_⟩
    ·rcases Nat.lt_or_ge m k with h1|h1
     ·exact h1
     ·rcases Nat.eq_or_lt_of_le h1 with rfl|h1
      ·omega
      ·have:=HR.out k m h1 gu;omega
    ·rcases Nat.lt_or_ge m k with h1|h1
     ·exact absurd (HR.out m k h1 hk) h
     ·exact h1)
   clear hm hme hu;go_upto_region 5 with fail
   rw [HME.out];clear HME;by_cases hut:u<t
   ·have hmk:=HU.out.1 hut
    have HL:=ab (fun w=>BB (x:=(u:Int)) (y:=(t:Int)) w (CO gu));go_wp2_with (go_at_call 132;refine(HL.out _).mono ?_;rintro e w1 ⟨rfl,rfl⟩)
    go_roundw
    case rel=>exact⟨m+1,j,by omega,by omega,by omega,by go_num,rfl,rfl⟩
    case measure=>simp [intOf];omega
   ·have hmk:=HU.out.2 hut
    have HL:=ab (fun w=>BB (x:=(u:Int)) (y:=(t:Int)) w (CP gu));go_wp2_with (go_at_call 132;refine(HL.out _).mono ?_;rintro e w1 ⟨rfl,rfl⟩)
    go_roundw
    case rel=>exact⟨i,m,by omega,by omega,by omega,rfl,rfl,rfl⟩
    case measure=>simp [intOf];omega
  ·have hik:i=k:=gu
   subst hik;have hjk:j=i:=gu;subst hjk;have hcm:=HC.out j hk;rw [HT.out] at hcm;go_wp2
   go_ret2
   exact⟨rfl,rfl⟩
theorem uo (S:Nat→Prop) (a:Option Addr) (c:Nat) (l:List Nat) (w:World) (h:SlS w S a 1 l.length (mg l)) (hl:l.length≤2000000) (hr:wL l) (k:Nat) (hk:k<l.length) (t:Nat) (ht:l.getD k 0=t) :
  Calls Tryz.prog 60 #[.slice a l.length c,.int .i64 t] w fun e w'=>e=.returned (.tuple #[.int .i64 k,.bool true])∧w=w':=by
 have HS:=ab (ze S a c l w h hl hr k hk t ht);clear h hr ht;go_enter Tryz.func60,Tryz.ntmps60
 go_wp2_with (go_at_call 98;refine HS.out.mono ?_;rintro e w1 ⟨rfl,rfl⟩)
 go_ret2
 exact⟨rfl,rfl⟩
theorem xf (a:Option Addr) (n c:Nat) (l:List (Int × Int)) (w:World) (hl:n=l.length) (h:Sl w w.heap.size a 2 n (jV l)) (hn:n≤1000000) :
  Calls Tryz.prog 131 #[.slice a n c] w fun e w'=>∃a' c',e=.returned (.slice a' n c')∧SlS w' (fun b=>w.heap.size≤b) a' 2 n (jV l)∧Below w.heap.size w w':=by
 subst hl;obtain⟨ir,hir⟩:=info_parts nB;cases a with
 | none =>
  have h0:l=[]:=by
   rcases Nat.eq_zero_or_pos l.length with h0|h0
   ·exact Cm h0
   ·obtain⟨b,o,e,_⟩:=h.2 h0;cases e
  subst h0;have hq:(binOp .eql 49 (.slice none 0 c) (.slice none 0 0)).run Tryz.prog w=.ok (.bool true) w:=Go.run_eql_slice_nil w _ _ none 0 c Tryz.underlying49;go_enter Tryz.func131,Tryz.ntmps131
  go_wp2
  go_ret
  exact⟨none,0,rfl,SlS.none_ _ _ _ _,Below.refl _ _⟩
 | some ad =>
  have HS:=ab (h.alloc_self (.cells #[] 48));have hq:(binOp .eql 49 (.slice (some ad) l.length c) (.slice none 0 0)).run Tryz.prog w=.ok (.bool false) w:=Go.run_eql_slice_nil w _ _ (some ad) _ c Tryz.underlying49;clear h;go_enter Tryz.func131,Tryz.ntmps131
  go_wp2_with (at_builtin;refine ke w.heap.size 48 rfl _ _ 49 rfl Tryz.underlying49 hir rfl gD rfl (World.ownsRow_made w #[] 0 (Cp _) jx rfl) rfl HS.out (mK l) gu gu gD gF ?_)
  exact cS
end Go.Proofs.YtjggmmaojklmpaaGreat
