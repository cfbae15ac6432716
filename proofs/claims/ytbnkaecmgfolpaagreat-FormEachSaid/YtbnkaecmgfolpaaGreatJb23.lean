/- walk of xform.took -/
import Derived.Test.YtbnkaecmgfolpaaGreatJb22
set_option maxRecDepth 100000
set_option maxHeartbeats 4000000
namespace Go.Proofs.YtbnkaecmgfolpaaGreat
open Go.RowKit
theorem sy (s:Str) (u v:Int) (w:World) (h:(u=-1∧v=-1)∨∃a b:Nat,a≤b∧b≤s.length∧u=a∧v=b) :
  Calls Tryz.prog 29 #[.string ⟨s.toArray⟩,.agg #[.int .i64 u,.int .i64 v]] w fun e w'=>e=.returned (.string ⟨(lL s (u,v)).toArray⟩)∧Below w.heap.size w w':=by
 have hb:Below w.heap.size w (w.alloc (.cells #[.int .i64 u,.int .i64 v] 69)):=(Below.refl _ _).alloc (wY _) _;obtain⟨m,hm⟩:∃m,lL s (u,v)=m:=⟨_,rfl⟩;rw [hm];have HM:=ab hm;have HB:=ab hb;clear hm hb;rcases h with⟨rfl,rfl⟩|⟨a,b,hab,hbl,rfl,rfl⟩
 ·go_enter Tryz.func29,Tryz.ntmps29
  go_wp2
  go_ret
  exact⟨by rw [←HM.out];rfl,HB.out⟩
 ·have ha:¬(a:Int)<0:=eu
  go_enter Tryz.func29,Tryz.ntmps29
  go_wp2
  go_ret
  refine⟨?_,HB.out⟩;rw [←HM.out];unfold lL jv;rw [wX (show ¬(a:Int)<0 by omega)];simp
def Spans (C:Rc) (ps:List (Int × Int)):Prop:=∀v∈ps,v=(-1,-1)∨∃a b:Nat,a≤b∧b≤C.cs.length∧v=((C.offs.getD a 0:Int),(C.offs.getD b 0:Int))
theorem lJ (fold:Bool) (s:Str):(rcM fold s).offs.length=(gM s).length+1:=jK _ _
theorem one_in (C:Rc) (x:Rx) {k:Nat} (hk:k≤C.cs.length) (st:Rst) {e:Nat} {ps:List (Int × Int)} (h:(oneM C x k st).1=some (e,ps)):k≤e∧e≤C.cs.length∧Spans C ps:=by
 have hi:Inv C x.groups st.fuel (fun en=>en=-1∨∃e:Nat,en=(e:Int)∧k≤e∧e≤C.cs.length) (tryM C x 0 k (fun e s=>(true,{ s with en:=(e:Int) })) { st with ps:=List.replicate x.groups (-1,-1),en:=-1 }).2 :=
  ox x 0 k _ _ eu hk (fun e s h1 h2 h3=>⟨h3.len,h3.sp,.inr ⟨e,rfl,h1,h2⟩,h3.fu⟩) ⟨by simp,fun v hv=>.inl (List.mem_replicate.1 hv).2,.inl rfl,wY _⟩
 unfold oneM at h;simp only at h
 split at h
 ·cases h
 ·rename_i hn
  injection h with h
  injection h with h1 h2
  rcases hi.en with h3|⟨e',h3,h4,h5⟩
  ·exact absurd (.inl (by rw [h3];decide)) hn
  ·rw [h3] at h1
   simp at h1
   subst h1;subst h2;exact⟨h4,h5,hi.sp⟩
theorem sj (C:Rc) (x:Rx) (hC:C.offs.length=C.cs.length+1):∀(N k:Nat) (st:Rst) {a b:Nat} {ps:List (Int × Int)},(kK C x N k st).1=some (a,b,ps)→k≤a∧a≤b∧b≤C.cs.length∧Spans C ps
 | 0,_,_,_,_,_,h=>by simp [kK] at h
 | N+1,k,st,a,b,ps,h=>by
  unfold kK at h;by_cases h1:k<C.offs.length∧st.out=false
  ·rw [wU h1] at h
   simp only at h
   cases hc:(oneM C x k st).1 with
   | none =>
    rw [hc] at h;obtain⟨h5,h6⟩:=sj C x hC N (k+1) _ h;exact⟨by omega,h6⟩
   | some q =>
    obtain⟨e,qs⟩:=q;rw [hc] at h;injection h with h
    injection h with h2 h3
    injection h3 with h3 h4
    subst h2;subst h3;subst h4;obtain⟨h5,h6⟩:=one_in C x eu st hc;exact⟨wY _,h5,h6⟩
  ·rw [wX h1] at h;cases h
def Chain (C:Rc):Nat→List Mt→Prop
 | _,[]=>True
 | k,m::r=>k≤m.1∧m.1≤m.2.1∧m.2.1≤C.cs.length∧Spans C m.2.2∧Chain C (if m.1=m.2.1 then m.2.1+1 else m.2.1) r
theorem ql (C:Rc) (x:Rx) (hC:C.offs.length=C.cs.length+1):∀(N k:Nat) (st:Rst),Chain C k (allM C x N k st).1
 | 0,_,_=>by simp [allM,Chain]
 | N+1,k,st=>by
  unfold allM;by_cases h1:k<C.offs.length
  ·rw [wU h1]
   simp only
   cases hc:(kK C x (C.offs.length+1) k st).1 with
   | none=>simp [Chain]
   | some q =>
    obtain⟨a,b,ps⟩:=q;have h2:=sj C x hC _ _ _ hc;simp only
    split
    ·simp [Chain]
    ·exact⟨h2.1,h2.2.1,h2.2.2.1,h2.2.2.2,ql C x hC N _ _⟩
  ·rw [wX h1];simp [Chain]
theorem nH (x:Rx) (fold all:Bool) (s:Str) (z:Int):Chain (rcM fold s) 0 (jk x fold all s z).1:=by
 unfold jk;cases all with
 | true=>rw [wU rfl];exact ql (rcM fold s) x (lJ fold s) _ _ _
 | false =>
  rw [wX ez];cases hc:(kK (rcM fold s) x ((rcM fold s).offs.length+1) 0 (j9 x.groups z)).1 with
  | none=>simp [Chain]
  | some q =>
   obtain⟨a,b,ps⟩:=q;have h2:=sj (rcM fold s) x (lJ fold s) _ _ _ hc;exact⟨h2.1,h2.2.1,h2.2.2.1,h2.2.2.2,trivial⟩
theorem Chain.at_ {C:Rc}:∀{ms:List Mt} {j k:Nat} {m:Mt},Chain C j ms→ms[k]?=some m→j≤m.1∧m.1≤m.2.1∧m.2.1≤C.cs.length∧Spans C m.2.2∧∀m',ms[k+1]?=some m'→m.2.1≤m'.1
 | [],_,_,_,_,h=>by simp at h
 | q::r,j,0,m,hc,h=>by
  simp at h;subst h
  obtain⟨h1,h2,h3,h4,h5⟩:=hc;refine⟨h1,h2,h3,h4,fun m' h6=>?_⟩;cases r with
  | nil=>simp at h6
  | cons q' r =>
   simp at h6;subst h6
   have:=h5.1
   split at this<;>omega
 | q::r,j,k+1,m,hc,h=>by
  obtain⟨h1,h2,h3,h4,h5⟩:=hc;obtain⟨h6,h7⟩:=h5.at_ (k:=k) eV;refine⟨?_,h7.1,h7.2.1,h7.2.2.1,fun m' hm'=>h7.2.2.2 m' (by simpa using hm')⟩;split at h6<;>omega
theorem Chain.len {C:Rc}:∀{ms:List Mt} {j:Nat},Chain C j ms→ms≠[]→ms.length+j≤C.cs.length+1
 | [],_,_,h=>absurd rfl h
 | [m],j,hc,_=>by
  obtain⟨h1,h2,h3,_⟩:=hc;simp only [xg,xR];omega
 | m::q::r,j,hc,_=>by
  obtain⟨h1,h2,h3,_,h5⟩:=hc;have h6:=h5.len eB;simp only [xg] at h6 ⊢;split at h6<;>omega
theorem nR {s:Str} {a b:Nat} (h:a≤b) (hb:b≤(gM s).length):(iY (gM s) 0).getD a 0≤(iY (gM s) 0).getD b 0:=by
 rw [iZ _ a eu,iZ _ b hb];exact kY _ h
theorem Spans.took {fold:Bool} {s:Str} {ps:List (Int × Int)} (h:Spans (rcM fold s) ps) {v:Int × Int} (hv:v∈ps):(v.1=-1∧v.2=-1)∨∃a b:Nat,a≤b∧b≤s.length∧v.1=a∧v.2=b:=by
 rcases h v hv with h|⟨a,b,h1,h2,h3⟩
 ·exact .inl ⟨by rw [h],by rw [h]⟩
 ·exact .inr ⟨_,_,nR h1 h2,pz s h2,by rw [h3];rfl,by rw [h3];rfl⟩
theorem sR (s:Str) (a b:Nat):(jv s a b).length≤s.length:=by
 unfold jv;rw [xF,xN];omega
theorem rH (s:Str) (offs:List Nat) (m:Mt):∀p∈kO s offs m,p.length≤s.length:=by
 intro p hp;unfold kO at hp;rcases xo.1 hp with rfl|hp
 ·exact sR _ _ _
 ·obtain⟨v,_,rfl⟩:=List.mem_map.1 hp
  unfold lL;split
  ·simp
  ·exact sR _ _ _
theorem SlP.at_ {w:World} {B:Nat} {a:Option Addr} {n:Nat} {ps:List (Int × Int)} (h:Sl w B a 2 n (gV ps)) {k:Nat} {v:Int × Int} (hk:ps[k]?=some v) :
  ∃b o,a=some ⟨b,o,none⟩∧b<B∧w.cell? ⟨b,o+k*2,none⟩=some (.int .i64 v.1)∧w.cell? ⟨b,o+k*2+1,none⟩=some (.int .i64 v.2):=by
 have hlt:=(wZ.1 hk).1;have hn:n=ps.length:=by have:=h.1;rw [ik] at this;omega
 obtain⟨b,o,h1,h2,h3⟩:=h.2 eu;obtain⟨e1,e2⟩:=l5 hk;exact⟨b,o,h1,h2,h3 _ _ e1,h3 _ _ e2⟩
theorem MtVs.three {w:World} {S:Nat→Prop} {offs:List Nat} {n:Nat}:∀{cs:List (List Value)} {ms:List Mt},MtVs w S offs n cs ms→∀c∈cs,c.length=3
 | _,_,.nil=>by simp
 | _,_,.cons h1 h2=>by
  intro c hc;rcases xo.1 hc with rfl|hc
  ·obtain⟨aa,cp,rfl,_⟩:=h1;rfl
  ·exact h2.three c hc
theorem OwnM.rd {w:World} {D:Nat} {offs:List Nat} {n:Nat} {v:Value} {ms:List Mt} (h:OwnM w D offs n v ms) {k:Nat} {m:Mt} (hk:ms[k]?=some m) :
  ∃b c aa cp,v=.slice (some ⟨b,0,none⟩) ms.length c∧b<w.heap.size∧w.cell? ⟨b,k*3,none⟩=some (.int .i64 ((offs.getD m.1 0:Nat):Int))∧w.cell? ⟨b,k*3+1,none⟩=some (.int .i64 ((offs.getD m.2.1 0:Nat):Int)) ∧
   w.cell? ⟨b,k*3+2,none⟩=some (.slice aa n cp)∧Sl w w.heap.size aa 2 n (gV m.2.2)∧m.2.2.length=n:=by
 obtain⟨css,h1,h2⟩:=h;obtain⟨cc,e1,aa,cp,rfl,h3,h4,_⟩:=h2.at_ hk;have hlt:=(wZ.1 hk).1;rcases h1.2 with⟨_,h0⟩|⟨b,cap,cur,rfl,_,_,_,_⟩
 ·omega
 ·obtain⟨b',o,e2,hlt',hc⟩:=(Sl.of_own h1).2 eu
  injection e2 with e2
  injection e2 with e2 e3 _
  subst e2;subst e3;have hh:=h2.three;refine⟨b,cap,aa,cp,rfl,hlt',?_,?_,?_,SlS.sl h3,h4⟩
  ·have:=hc (k*3+0) _ (mK hh e1 (j:=0) rfl);simpa using this
  ·have:=hc (k*3+1) _ (mK hh e1 (j:=1) rfl);simpa using this
  ·have:=hc (k*3+2) _ (mK hh e1 (j:=2) rfl);simpa using this
def PtRel (s p0:Str) (sp:List (Int × Int)) (W0:World) (v q:Value) (wr:World):Prop :=
 ∃j:Nat,j≤sp.length∧q=.int .i64 j∧wr.ownsRow W0.heap.size 9 1 v (j+1) (i6 (p0::(sp.take j).map (lL s)))∧Below W0.heap.size W0 wr
def FoRel (fs:List Fm) (ps:List Str) (W1:World) (D2:Nat) (pv:Value) (np:Nat) (g15:Nat) (mo:Obj) (PO:Str) (v q:Value) (wr:World):Prop :=
 ∃(j:Nat) (out:Str),j≤fs.length∧q=.int .i64 j∧wr.ownsRow W1.heap.size 5 1 v out.length (iE out)∧wr.ownsRow D2 9 1 pv np (i6 ps)∧wr.heap[g15]?=some mo∧Below W1.heap.size W1 wr∧out.length≤2000000∧Hid (putM ps (fs.drop j) out=PO)
def AlyRel (s:Str) (offs:List Nat) (fs:List Fm) (ms:List Mt) (W1:World) (G:Option (Nat × Str)) (v12 v13 q:Value) (wr:World):Prop :=
 ∃(k at_:Nat) (out:Str),k≤ms.length∧q=.int .i64 k∧v13=.int .i64 at_∧wr.ownsRow W1.heap.size 5 1 v12 out.length (iE out)∧Below W1.heap.size W1 wr∧at_≤s.length∧out.length≤65536∧Hid (∀m,ms[k]?=some m→at_≤offs.getD m.1 0)∧Hid (goM s offs fs (ms.drop k) at_ out=G)
theorem sL (S:Nat→Prop) (f:Tf) (hsm:f.small) (fc:List Value) (w:World) (hv:TfV w S fc f) :
  Calls Tryz.prog 25 #[.agg fc.toArray] w fun e w'=>e=.returned (.bool (qM f))∧Below w.heap.size w w':=by
 obtain⟨rk,rch,rng,rrs,rlo,rhi,rlz,rks,ra,rcp,rka,rkc,fa,fcp,hc⟩:=hv.open_;obtain⟨X,fs,fd,al⟩:=f;obtain⟨hx,hp,hfs⟩:=hsm;have hx1:X=.mk rk rch rng rrs rlo rhi rlz rks:=hc.rx;have hfce:fc=[.int .i64 rk,.string ⟨rch.toArray⟩,.bool rng,.slice ra rrs.length rcp,.int .i64 rlo,.int .i64 rhi,.bool rlz,.slice rka rks.length rkc,.slice fa fs.length fcp,.bool fd,.bool al]:=hc.eq;obtain⟨W0,hW0⟩:∃W0,W0=w.alloc (.cells fc.toArray 28):=⟨_,rfl⟩;have hb0:Below w.heap.size w W0:=by rw [hW0];exact(Below.refl _ _).alloc (wY _) _
 have HB1:Hid (W0.heap[w.heap.size]?=some (.cells fc.toArray 28 (0,0))):=ab (by rw [hW0];exact heap_alloc_new w _);have HXV:Hid (RxV W0 S [.int .i64 rk,.string ⟨rch.toArray⟩,.bool rng,.slice ra rrs.length rcp,.int .i64 rlo,.int .i64 rhi,.bool rlz,.slice rka rks.length rkc] X):=ab (hx1▸hc.rv.later hb0);have HFS:Hid (SlS W0 S fa 5 fs.length (iV fs)):=ab (hc.fv.keep (Kept.all hb0));have HXS:=ab hx;have HP:=ab hp;have HFL:=ab hfs;have HTM:Hid (qM ⟨X,fs,fd,al⟩=(mayB X&&oP fs)):=ab rfl;subst hfce;have HW0:=ab hW0;rw [HTM.out];clear hv hc hx hx1 hW0 hfs hp HTM;have HRM:=ab (ou S X _ W0 HP.out HXS.out HXV.out);cases hm:mayB X with
 | false =>
  rw [hm] at HRM;clear hm;go_enter Tryz.func25,Tryz.ntmps25
  go_upto_region 1 with fail
  rw [←HW0.out];clear HW0;go_wp2_with (first
   | (refine iF rfl 25 (.tmp 3) rfl w.heap.size 0 rfl [.int .i64 rk,.string ⟨rch.toArray⟩,.bool rng,.slice ra rrs.length rcp,.int .i64 rlo,.int .i64 rhi,.bool rlz,.slice rka rks.length rkc] _ (iS (ds:=[.slice fa fs.length fcp,.bool fd,.bool al]) HB1.out) nu rfl (by rw [pW];rfl) ?_)
   | (go_at_call 50;refine HRM.out.mono ?_))
  first|rintro e w1 rfl hb1|rintro e w1 ⟨rfl,hb1⟩
  go_wp2
  go_ret
  exact⟨rfl,bel2 hb0 hb1⟩
 | true =>
  rw [hm] at HRM;clear hm;go_enter Tryz.func25,Tryz.ntmps25
  go_upto_region 1 with fail
  rw [←HW0.out];clear HW0;go_wp2_with (first
   | (refine iF rfl 25 (.tmp 3) rfl w.heap.size 0 rfl [.int .i64 rk,.string ⟨rch.toArray⟩,.bool rng,.slice ra rrs.length rcp,.int .i64 rlo,.int .i64 rhi,.bool rlz,.slice rka rks.length rkc] _ (iS (ds:=[.slice fa fs.length fcp,.bool fd,.bool al]) HB1.out) nu rfl (by rw [pW];rfl) ?_)
   | (go_at_call 50;refine HRM.out.mono ?_))
  first|rintro e w1 rfl hb1|rintro e w1 ⟨rfl,hb1⟩
  have hx1:=(hb1.block _ (gI HB1.out)).trans HB1.out;have z8:=gL hx1 8 rfl;have HM:=ab (rM fa fs.length fcp fs w1 (HFS.out.keep (Kept.all hb1)).sl HFL.out);clear hx1;go_wp2_with (go_at_call 51;refine HM.out.mono ?_)
  first|rintro e w2 rfl hb2|rintro e w2 ⟨rfl,hb2⟩
  go_wp2
  go_ret
  exact⟨by simp,bel2 (bel2 hb0 hb1) hb2⟩
def ApRel (fs:List Fm) (ps:List Str) (g m:Nat) (_w0 w:World) (R:Str) (q:Value) (wr:World):Prop :=
 ∃(k:Nat) (acc:Str),k≤fs.length∧q=.int .i64 k∧Bld w.heap.size g acc wr∧Below w.heap.size w wr∧Hid (acc.length≤k*m)∧Hid (acc++(fs.drop k).flatMap (jO ps)=R)
theorem vC (a a':Option Addr) (c n' c' m:Nat) (fs:List Fm) (ps:List Str) (w:World) (h:Sl w w.heap.size a 5 fs.length (iV fs)) (h':Sl w w.heap.size a' 1 n' (i6 ps))
  (hf:∀f∈fs,f.thn.length≤m∧f.els.length≤m) (hp:∀p∈ps,p.length≤m) (hm:m≤10000) (hn:fs.length≤1000) (_hn':n'≤1000000) :
  Calls Tryz.prog 30 #[.slice a fs.length c,.slice a' n' c'] w fun e w'=>e=.returned (.string ⟨(kg fs ps).toArray⟩)∧Below w.heap.size w w':=by
 have HSl:=ab h;have HSp:=ab h';have Hn':=ab h'.str_len;by_cases hmay:oP fs=true
 ·have HA:Hid (kg fs ps=fs.flatMap (jO ps)):=ab (wU hmay)
  rw [HA.out];obtain⟨R,hR⟩:∃R,R=fs.flatMap (jO ps):=⟨_,rfl⟩;rw [←hR];have HR:=ab hR;have HF:=ab hf;have HP:=ab hp;have HM:=ab (sF _ _ hmay);clear hR hf hp h h';go_enter Tryz.func30,Tryz.ntmps30
  go_wp2_with (go_at_call 51;refine(rM _ _ _ fs _ HSl.out eu).mono ?_;rintro e w0 ⟨rfl,hb0⟩)
  have hB0:=hb0.size;go_loopw [14] (fun q wr=>ApRel fs ps w0.heap.size m w0 w R q wr) (fun q _=>fs.length-(intOf q).toNat)
  case atStart=>exact⟨0,[],by omega,rfl,Bld.fresh _ _ hB0,hb0.alloc hB0 _,ab eB,ab fh⟩
  case round =>
   obtain⟨k,acc,hk,rfl,hbl,hb,HL,HRR⟩:=hrel;clear HR;have hB:=hb.size;have hacc:acc.length≤10000000:=xb HL.out (Nat.mul_le_mul (show k≤1000 by omega) hm);cases hd:fs.drop k with
   | nil =>
    have h2:fs.length≤k:=fr;have HR:Hid (R=acc):=ab (by rw [←HRR.out,hd];simp);clear hd HRR;go_wp2_with (go_at_call 59;refine(pl _ _ _ _ hbl hB).mono ?_;rintro e w1 ⟨rfl,hb1⟩)
    go_ret
    exact⟨rP HR.out.symm,hb.trans hb1⟩
   | cons f r =>
    obtain⟨h2,h3,hr⟩:=ig hd;have HR:Hid (R=acc++(jO ps f++r.flatMap (jO ps))):=ab (by rw [←HRR.out,hd];rfl);have Hr:=ab hr;have hmem:=xA h3;have hmf:=HM.out f hmem;obtain⟨b,o,rfl,hbB,c0,c1,c2,c3,c4⟩:=(HSl.out.keep hb).fm h3;obtain⟨z1,z2⟩:=HF.out f hmem;have HPL:=ab (oz HP.out z1 z2);obtain⟨n0,n1⟩:=mayF_n hmf;have hkind:=wI hmf;clear hd HRR hr h3 hmem hmf;obtain⟨kind,fn,cse,thn,els⟩:=f;replace z1:thn.length≤m:=z1;replace z2:els.length≤m:=z2;obtain⟨fn,rfl⟩:=Int.eq_ofNat_of_zero_le n0;by_cases hlt:fn<ps.length
    ·obtain⟨p,hp⟩:∃p,ps[fn]?=some p:=⟨_,wW hlt⟩
     have HPO:Hid (kQ ps (fn:Int)=p):=ab (by simp [kQ,List.getD_eq_getElem?_getD,hp]);have hpl:=HP.out p (xA hp);obtain⟨b',o',ha',hbb,p0⟩:=(HSp.out.keep hb).str hp;have hbb':b'<wr.heap.size:=eu;subst ha';have hlt':fn<n':=by have:=Hn'.out;omega
     clear hp hlt;rcases hkind with hkind|hkind|hkind|hkind|hkind|hkind
     ·exact dS
     ·simp only at hkind;subst hkind
      have HPV:Hid (jO ps ⟨1,(fn:Int),cse,thn,els⟩=p):=ab fq;exact bc
     ·simp only at hkind;subst hkind
      have htl:=lW (p) cse;have HPV:Hid (jO ps ⟨2,(fn:Int),cse,thn,els⟩=(turn (p) cse).1):=ab fq;go_wp2_with (first|(go_at_call 58;refine(sS _ _ _ fb).mono ?_;rintro e w1 ⟨rfl,hb1⟩;have hz1:=hb1.size;simp only [xG] at hz1)|(go_at_call 57;refine(iO w.heap.size _ acc _ _ ((hbl.alloc _).below hb1) eu fb eu).mono ?_;rintro e w2 ⟨rfl,hbl2,hfr2⟩))
      go_roundw
      case rel =>
       refine⟨k+1,acc++(turn (p) cse).1,by omega,by go_num,hbl2,?_,ab ?_,ab ?_⟩
       ·exact cN
       ·exact dy
       ·exact dJ
      case measure=>simp [intOf];omega
     ·simp only at hkind;subst hkind
      by_cases hp0:p=[]
      ·have HPV:Hid (jO ps ⟨3,(fn:Int),cse,thn,els⟩=els):=ab eS
       exact dP
      ·have HPV:Hid (jO ps ⟨3,(fn:Int),cse,thn,els⟩=thn):=ab eS
       exact ef
     ·simp only at hkind;subst hkind
      by_cases hp0:p=[]
      ·have HPV:Hid (jO ps ⟨4,(fn:Int),cse,thn,els⟩=els):=ab eS
       exact dP
      ·have HPV:Hid (jO ps ⟨4,(fn:Int),cse,thn,els⟩=p):=ab eS
       have he:List.isEmpty (p)=false:=by simpa using hp0
       have HP0:=ab hp0;clear hp0;exact bc
     ·simp only at hkind;subst hkind
      by_cases hp0:p=[]
      ·have HPV:Hid (jO ps ⟨5,(fn:Int),cse,thn,els⟩=els):=ab eS
       exact dP
      ·have HPV:Hid (jO ps ⟨5,(fn:Int),cse,thn,els⟩=thn):=ab eS
       exact ef
    ·have HPO:Hid (kQ ps (fn:Int)=[]):=ab (by simp [kQ,List.getD_eq_getElem?_getD,List.getElem?_eq_none (by omega:ps.length≤fn)])
     have hlt':n'≤fn:=by have:=Hn'.out;omega
     have hpl:([]:Str).length≤m:=eB;clear hlt;rcases hkind with hkind|hkind|hkind|hkind|hkind|hkind
     ·exact dS
     ·simp only at hkind;subst hkind
      have HPV:Hid (jO ps ⟨1,(fn:Int),cse,thn,els⟩=([]:Str)):=ab fq;go_wp2_with (go_at_call 57;refine(iO w.heap.size _ acc _ _ eY eu fb gm).mono ?_;rintro e w2 ⟨rfl,hbl2,hfr2⟩)
      go_roundw
      case rel =>
       refine⟨k+1,acc++([]:Str),by omega,by go_num,hbl2,?_,ab ?_,ab ?_⟩
       ·exact dH
       ·exact dy
       ·exact dJ
      case measure=>simp [intOf];omega
     ·simp only at hkind;subst hkind
      have htl:=lW (([]:Str)) cse;have HPV:Hid (jO ps ⟨2,(fn:Int),cse,thn,els⟩=(turn (([]:Str)) cse).1):=ab fq;go_wp2_with (first|(go_at_call 58;refine(sS _ _ _ fb).mono ?_;rintro e w1 ⟨rfl,hb1⟩;have hz1:=hb1.size;simp only [xG] at hz1)|(go_at_call 57;refine(iO w.heap.size _ acc _ _ ((hbl.alloc _).below hb1) eu fb eu).mono ?_;rintro e w2 ⟨rfl,hbl2,hfr2⟩))
      go_roundw
      case rel =>
       refine⟨k+1,acc++(turn (([]:Str)) cse).1,by omega,by go_num,hbl2,?_,ab ?_,ab ?_⟩
       ·exact cN
       ·exact dy
       ·exact dJ
      case measure=>simp [intOf];omega
     ·simp only at hkind;subst hkind
      have HPV:Hid (jO ps ⟨3,(fn:Int),cse,thn,els⟩=els):=ab ga;exact aw
     ·simp only at hkind;subst hkind
      have HPV:Hid (jO ps ⟨4,(fn:Int),cse,thn,els⟩=els):=ab ga;exact aw
     ·simp only at hkind;subst hkind
      have HPV:Hid (jO ps ⟨5,(fn:Int),cse,thn,els⟩=els):=ab ga;exact aw
 ·have HA:Hid (kg fs ps=[]):=ab (wX hmay)
  rw [HA.out];have hm':oP fs=false:=by simpa using hmay
  clear hmay;go_enter Tryz.func30,Tryz.ntmps30
  go_wp2_with (go_at_call 51;refine(rM _ _ _ fs _ HSl.out eu).mono ?_;rintro e w0 ⟨rfl,hb0⟩)
  go_ret
  exact⟨rfl,hb0⟩
theorem mayB_wf {x:Rx} (h:mayB x=true):x.wf=true∧x.parts≤512:=by
 unfold mayB okB at h;simp only [xi,wS] at h;exact⟨h.1.1,by omega⟩
theorem ue {f:Fm} {ps:List Str} {m:Nat} (h:∀p∈ps,p.length≤m) (h1:f.thn.length≤m∧f.els.length≤m):(kg [f] ps).length≤m:=by
 unfold kg;split
 ·simp only [xj,List.flatMap_nil,xW]
  exact oz h h1.1 h1.2
 ·simp
theorem TfV.later {w w':World} {S:Nat→Prop} {c:List Value} {f:Tf} (h:TfV w S c f) (hb:Below w.heap.size w w'):TfV w' S c f:=h.keep (Kept.all hb)
def AskM (s:Str) (offs:List Nat) (ms:List Mt):Prop:=∀(k:Nat) (m:Mt),ms[k]?=some m→offs.getD m.1 0≤offs.getD m.2.1 0∧offs.getD m.2.1 0≤s.length ∧
 (∀v:Int × Int,v∈m.2.2→(v.1=-1∧v.2=-1)∨∃a b:Nat,a≤b∧b≤s.length∧v.1=(a:Int)∧v.2=(b:Int))∧∀m':Mt,ms[k+1]?=some m'→offs.getD m.2.1 0≤offs.getD m'.1 0
theorem vT {fold:Bool} {s:Str} {ms:List Mt} (h:Chain (rcM fold s) 0 ms):AskM s (rcM fold s).offs ms:=fun k m hk=>by
 obtain⟨_,h2,h3,h4,h5⟩:=h.at_ hk;refine⟨nR h2 h3,pz s h3,fun v hv=>h4.took hv,fun m' hm'=>?_⟩;obtain⟨_,h7,h8,_⟩:=h.at_ hm';exact nR (h5 m' hm') (xb h7 h8)
def endG (s:Str) (left:Nat):Option (Nat × Str)→Str × Int × Int
 | none=>([],0,4)
 | some (at_,out)=>if 65536<out.length+(s.length-at_) then([],0,4) else(out++s.drop at_,(left:Int),0)
theorem uU {fs:List Fm} {s:Str} {offs:List Nat} {ms:List Mt} {left:Nat} (h:ms≠[]):ut fs s offs ms left=endG s left (goM s offs fs ms 0 []):=by
 unfold ut endG;rw [wX h];rfl
set_option maxRecDepth 100000 in
theorem mR (S:Nat→Prop) (f:Tf) (fc:List Value) (w:World) (hv:TfV w S fc f) {s:Str} {z:Int} {R:Str × Int × Int} (hR:oq f.rx f.fs f.fold f.all s z=R) (hsm:f.small) (hfs:f.fs.length≤1000) {mf:Nat} (hmf:mf≤10000)
  (hf:∀g∈f.fs,g.thn.length≤mf∧g.els.length≤mf) (hs:s.length≤1000000) (hps:∀m∈(jk f.rx f.fold f.all s z).1,∀p∈kO s (rcM f.fold s).offs m,p.length≤mf) :
  Calls Tryz.prog 12 #[.agg fc.toArray,.string ⟨s.toArray⟩,.int .i64 z] w fun e w'=>e=.returned (.tuple #[.string ⟨(R.1).toArray⟩,.int .i64 R.2.1,.int .i64 R.2.2])∧Below w.heap.size w w':=by
 obtain⟨rk,rch,rng,rrs,rlo,rhi,rlz,rks,ra,rcp,rka,rkc,fa,fcp,hc⟩:=hv.open_;obtain⟨X,fs,fd,al⟩:=f;have hfce:fc=[.int .i64 rk,.string ⟨rch.toArray⟩,.bool rng,.slice ra rrs.length rcp,.int .i64 rlo,.int .i64 rhi,.bool rlz,.slice rka rks.length rkc,.slice fa fs.length fcp,.bool fd,.bool al]:=hc.eq;subst hfce;replace hfs:fs.length≤1000:=hfs;obtain⟨W0,hW0⟩:∃W0,W0=w.alloc (.cells #[.int .i64 rk,.string ⟨rch.toArray⟩,.bool rng,.slice ra rrs.length rcp,.int .i64 rlo,.int .i64 rhi,.bool rlz,.slice rka rks.length rkc,.slice fa fs.length fcp,.bool fd,.bool al] 28):=⟨_,rfl⟩;have hb0:Below w.heap.size w W0:=by rw [hW0];exact(Below.refl _ _).alloc (wY _) _
 have hl0:W0.heap[w.heap.size]?=some (.cells #[.int .i64 rk,.string ⟨rch.toArray⟩,.bool rng,.slice ra rrs.length rcp,.int .i64 rlo,.int .i64 rhi,.bool rlz,.slice rka rks.length rkc,.slice fa fs.length fcp,.bool fd,.bool al] 28 (0,0)):=by rw [hW0];exact heap_alloc_new w _
 have HM:=ab (sL S ⟨X,fs,fd,al⟩ hsm _ W0 (hv.later hb0));have HV:=ab hv;have HSF:=ab (SlS.sl hc.fv);have HL0:=ab hl0;have HW0:=ab hW0;have HB0:=ab hb0;have HR:=ab hR;have HS:=ab hsm;have HF:=ab hf;have HPS:=ab hps;clear hv hc hW0 hb0 hl0 hR hsm hf hps;go_enter Tryz.func12,Tryz.ntmps12
 go_upto_region 1 with fail
 rw [←HW0.out];clear HW0;go_wp2_with (first
  | (refine iF rfl 28 (.tmp 3) rfl w.heap.size 0 rfl [.int .i64 rk,.string ⟨rch.toArray⟩,.bool rng,.slice ra rrs.length rcp,.int .i64 rlo,.int .i64 rhi,.bool rlz,.slice rka rks.length rkc,.slice fa fs.length fcp,.bool fd,.bool al] _ (iS (ds:=[]) HL0.out) jo rfl fB ?_)
  | (go_at_call 25;refine HM.out.mono ?_))
 first|rintro e w1 rfl hb1|rintro e w1 ⟨rfl,hb1⟩
 have hl1:=(hb1.block _ (gI HL0.out)).trans HL0.out;have HB1:=ab (bel2 HB0.out hb1);have HL1:=ab hl1;have HV1:=ab (HV.out.later (bel2 HB0.out hb1));clear hb1 hl1 HM;cases hmay:qM ⟨X,fs,fd,al⟩ with
 | false =>
  have HRE:Hid (R=([],0,10)):=ab (by rw [←HR.out];exact wU hmay);clear hmay;go_wp2
  go_ret3
  exact⟨by rw [HRE.out];rfl,HB1.out⟩
 | true =>
  have hmx:mayB X=true:=by unfold qM at hmay;simp only [xi] at hmay;exact hmay.1
  have hwf:=mayB_wf hmx;have HRE:Hid (R=if (jk X fd al s z).2.out=true then([],0,9) else ut fs s (rcM fd s).offs (jk X fd al s z).1 (jk X fd al s z).2.fuel):=ab (by
   rw [←HR.out];unfold qM at hmay;exact wX (by rw [hmay];decide))
  have HFO:=ab (vb S ⟨X,fs,fd,al⟩ (s:=s) (z:=z) _ w1 HV1.out (by have:=hwf.2;show X.parts≤1000000;omega) HS.out.1 hwf.1 hs (by have:=Rx.groups_parts X;show X.groups≤1000;omega));have HMX:=ab hmx;have hgr:X.groups≤512:=xb (Rx.groups_parts X) hwf.2;clear hmay hmx hwf HR;go_wp2_with (first
   | (refine iF rfl 28 (.tmp 3) rfl w.heap.size 0 rfl [.int .i64 rk,.string ⟨rch.toArray⟩,.bool rng,.slice ra rrs.length rcp,.int .i64 rlo,.int .i64 rhi,.bool rlz,.slice rka rks.length rkc,.slice fa fs.length fcp,.bool fd,.bool al] _ (iS (ds:=[]) HL1.out) jo rfl fB ?_)
   | (go_at_call 28;refine HFO.out.mono ?_))
  rintro e w2 ⟨hb2,hfo⟩;have hl2:=(hb2.block _ (gI HL1.out)).trans HL1.out;have HB2:=ab (bel2 HB1.out hb2);have HL2:=ab hl2;have HSF2:=ab (HSF.out.keep HB2.out);clear hb2 hl2 HFO HSF;rcases hfo with⟨h1,_⟩|⟨_,h2,u,rfl⟩|⟨_,h2,v,rfl,h3⟩
  ·exact absurd (HMX.out.symm.trans h1) ez
  ·have HR2:Hid (R=([],0,9)):=ab (by rw [HRE.out];exact wU h2)
   clear h2 HRE;go_wp2
   go_ret3
   exact⟨by rw [HR2.out];rfl,HB2.out⟩
  ·replace h2:(jk X fd al s z).2.out=false:=h2
   obtain⟨ms,hms⟩:∃ms,(jk X fd al s z).1=ms:=⟨_,rfl⟩;obtain⟨left,hleft⟩:∃left,(jk X fd al s z).2.fuel=left:=⟨_,rfl⟩;have hask:=vT (nH X fd al s z);have hfl:((jk (Tf.rx ⟨X,fs,fd,al⟩) (Tf.fold ⟨X,fs,fd,al⟩) (Tf.all ⟨X,fs,fd,al⟩) s z).2.fuel:Int)=(left:Int):=by rw [←hleft]
   replace h3:OwnM w2 w1.heap.size (rcM fd s).offs X.groups v ms:=by rw [←hms];exact h3
   have hRE:=HRE.out;have hps:=HPS.out;rw [wX (by rw [h2];decide),hms,hleft] at hRE;replace hps:∀m∈ms,∀p∈kO s (rcM fd s).offs m,p.length≤mf:=by rw [←hms];exact hps
   have hml:ms.length≤1000001:=by
    by_cases h:ms=[]
    ·rw [h];simp
    ·have h1:=(hms▸nH X fd al s z:Chain (rcM fd s) 0 ms).len h
     have h2:(rcM fd s).cs.length≤s.length:=kW s;omega
   rw [hms] at hask;rw [hfl];obtain⟨offs,hoffs⟩:∃offs,(rcM fd s).offs=offs:=⟨_,rfl⟩;obtain⟨n,hn⟩:∃n,X.groups=n:=⟨_,rfl⟩;rw [hoffs] at hask hRE hps h3;rw [hn] at h3 hgr;obtain⟨va,vc,rfl,hvc⟩:=h3.form;clear HPS HRE hleft hms h2 hfl hoffs HMX;cases hms0:ms with
   | nil =>
    subst hms0;have HR2:Hid (R=(s,(left:Int),0)):=ab (by rw [hRE];rfl);clear hRE hps hask h3 hvc;go_wp2
    go_ret3
    exact⟨by rw [HR2.out];rfl,HB2.out⟩
   | cons m0 mr =>
    have hmp:0<ms.length:=by rw [hms0];simp
    have hRG:R=endG s left (goM s offs fs ms 0 []):=by rw [hRE];exact uU (by rw [hms0];simp)
    obtain⟨b0,c0,_,_,hv0,hb0,_⟩:=h3.rd (k:=0) (m:=m0) (by rw [hms0];rfl);injection hv0 with hv0 _ _
    subst hv0;rw [←hms0] at *;clear hms0;have hgz:((ms.length:Int)==0)=false:=by rw [xH];omega
    obtain⟨G,hG⟩:∃G,goM s offs fs ms 0 []=G:=⟨_,rfl⟩;rw [hG] at hRG;have HRG:=ab hRG;have HG:=ab hG;have HASK:=ab hask;have HPS:=ab hps;have HOM:=ab h3;have HVC:=ab hvc;clear hRE hask hps h3 hRG hG hvc;have HI8:=ab (info_parts mI);have HIS:=ab (info_parts qw);go_wp2
    go_loopw [12,13,42] (fun v12 v13 q wr=>AlyRel s offs fs ms w2 G v12 v13 q wr) (fun _ _ q _=>ms.length-(intOf q).toNat)
    case atStart=>exact⟨0,0,[],Nat.zero_le _,rfl,rfl,World.ownsRow_nil _ _ _ _,Below.refl _ _,Nat.zero_le _,by simp,ab (fun _ _=>Nat.zero_le _),ab (by rw [xT];exact HG.out)⟩
    case round =>
     obtain⟨wo,rfl⟩:∃wo:World,wo=wr:=⟨_,rfl⟩;obtain⟨k,at_,out,hk,rfl,rfl,hown,hb,hat,hol,HAT,HGK⟩:=hrel;obtain⟨oa,oc,rfl⟩:=gY hown;have HOWN:=ab hown;have HB:=ab hb;have hz2:=HB2.out.size;clear HG hown hb;by_cases hlt:k<ms.length
     ·obtain⟨m,hm⟩:∃m,ms[k]?=some m:=⟨_,wW hlt⟩
      obtain⟨b9,c9,aa,cp,hv9,hb9,c0,c1,c2,hsl,hmn⟩:=(HOM.out.later HB.out).rd hm;injection hv9 with hv9 _ _
      injection hv9 with hv9
      injection hv9 with hv9 _ _
      subst hv9;obtain⟨hu1,hu2,hu3,hu4⟩:=HASK.out k m hm;have hu5:=HAT.out m hm;have hgo:goM s offs fs (ms.drop k) at_ out=if 65536<(putM (kO s offs m) fs (out++jv s at_ (offs.getD m.1 0))).length then none else goM s offs fs (ms.drop (k+1)) (offs.getD m.2.1 0) (putM (kO s offs m) fs (out++jv s at_ (offs.getD m.1 0))):=by
       have e:ms.drop k=m::ms.drop (k+1):=by
        rw [List.drop_eq_getElem_cons hlt];rw [wW hlt] at hm;injection hm with hm;rw [hm]
       rw [e,goM]
      rw [hgo] at HGK;have hpl:=HPS.out m (xA hm);have hpm:kO s offs m=jv s (offs.getD m.1 0) (offs.getD m.2.1 0)::m.2.2.map (lL s):=rfl;obtain⟨m1,m2,sp⟩:=m;simp only at c0 c1 hsl hmn hu1 hu2 hu3 hu4 hu5 HGK hpl hpm
      generalize hou:offs.getD m1 0=u at c0 hu1 hu5 HGK hpm
      generalize hov:offs.getD m2 0=u2 at c1 hu1 hu2 hu4 HGK hpm
      rw [hpm] at HGK hpl;obtain⟨p0,hp0⟩:∃p,jv s u u2=p:=⟨_,rfl⟩;rw [hp0] at HGK hpl;have hp0t:lL s ((u:Int),(u2:Int))=p0:=by rw [←hp0];unfold lL;rw [wX eu];rfl
      obtain⟨W2,hW2⟩:∃W2,W2=wo.alloc (.cells #[.int .i64 (u:Int),.int .i64 (u2:Int),.slice aa n cp] 72):=⟨_,rfl⟩;have hb3:Below wo.heap.size wo W2:=by rw [hW2];exact(Below.refl _ _).alloc (wY _) _
      have hl3:W2.heap[wo.heap.size]?=some (.cells #[.int .i64 (u:Int),.int .i64 (u2:Int),.slice aa n cp] 72 (0,0)):=by rw [hW2];exact heap_alloc_new wo _
      have HT1:=ab (sy s (u:Int) (u2:Int) W2 (.inr ⟨u,u2,hu1,hu2,rfl,rfl⟩));rw [hp0t] at HT1;have d0:=gL hl3 0 rfl;have d1:=gL hl3 1 rfl;have HU3:=ab hu3;have HU4:=ab hu4;have HPL:=ab hpl;have HSL:=ab hsl;have HMN:=ab hmn;have HW2:=ab hW2;have HB3:=ab hb3;have HL3:=ab hl3;clear hm hou hov hpm hp0 hp0t hgo hu3 hu4 hpl hsl hmn hW2 hb3 hl3 HAT;go_upto_region 13 with fail
      rw [←HW2.out];clear HW2 c0 c1 c2;go_wp2_with (go_at_call 29;refine HT1.out.mono ?_)
      first|rintro e w3 rfl hb4|rintro e w3 ⟨rfl,hb4⟩
      obtain⟨W4,hW4⟩:∃W4,W4=w3.alloc (.cells #[.string ⟨p0.toArray⟩] 9):=⟨_,rfl⟩;have hb5:Below w3.heap.size w3 W4:=by rw [hW4];exact(Below.refl _ _).alloc (wY _) _
      have hbr3:Below wo.heap.size wo w3:=bel2 HB3.out hb4;have hl4:=((bel2 hb4 hb5).block _ (gI HL3.out)).trans HL3.out;have ho4:W4.ownsRow w3.heap.size 9 1 (.slice (some ⟨w3.heap.size,0,none⟩) 1 1) 1 (i6 [p0]):=by
       rw [hW4];exact World.ownsRow_lit w3 #[.string ⟨p0.toArray⟩] 1 (wY _) ez rfl
      have x2:=gL hl4 2 rfl;have HO4:=ab ho4;have HL4:=ab hl4;have HW4:=ab hW4;have HBR3:=ab hbr3;have HB5:=ab hb5;have HB4:=ab hb4;clear hW4 hb4 hb5 hbr3 hl4 ho4 d0 d1 HT1;go_upto_region 14 with fail
      rw [←HW4.out];clear HW4;go_wp2
      go_loopw [16,54] (fun v q wq=>PtRel s p0 sp w3 v q wq) (fun _ q _=>n-(intOf q).toNat)
      case atStart=>exact⟨0,Nat.zero_le _,rfl,HO4.out,HB5.out⟩
      case round =>
       obtain⟨j,hj,rfl,hpo,hpb⟩:=hrel;obtain⟨pa,pc,rfl⟩:=gY hpo;rw [HMN.out] at hj;have HPO:=ab hpo;have HPB:=ab hpb;have hzq:=hpb.size;clear hpo hpb HO4 HB5;by_cases hjl:j<n
       ·obtain⟨vv,hvv⟩:∃vv,sp[j]?=some vv:=⟨_,wW (by rw [HMN.out];exact hjl)⟩
        have hslq:=(((HSL.out.keep HBR3.out).mono HBR3.out.size).keep HPB.out);obtain⟨b5,o5,rfl,hb5,k0,k1⟩:=SlP.at_ hslq hvv;have htk:=HU3.out vv (xA hvv);have htl:=HPL.out (lL s vv) (xw _ (List.mem_map_of_mem (xA hvv)));have hsn:(sp.take (j+1)).map (lL s)=(sp.take j).map (lL s)++[lL s vv]:=by
         rw [List.take_add_one,hvv];simp
        obtain⟨v1,v2⟩:=vv;simp only at k0 k1 htk
        obtain⟨pv,hpv⟩:∃pv,lL s (v1,v2)=pv:=⟨_,rfl⟩;rw [hpv] at hsn htl;obtain⟨W5,hW5⟩:∃W5,W5=wr.alloc (.cells #[.int .i64 v1,.int .i64 v2] 69):=⟨_,rfl⟩;have hb6:Below wr.heap.size wr W5:=by rw [hW5];exact(Below.refl _ _).alloc (wY _) _
        have hl6:W5.heap[wr.heap.size]?=some (.cells #[.int .i64 v1,.int .i64 v2] 69 (0,0)):=by rw [hW5];exact heap_alloc_new wr _
        have HT2:=ab (sy s v1 v2 W5 htk);rw [hpv] at HT2;have e0:=gL hl6 0 rfl;have e1:=gL hl6 1 rfl;have HSN:=ab hsn;have HTL:=ab htl;have HB6:=ab hb6;have HW5:=ab hW5;clear hvv hslq htk htl hsn hpv hW5 hb6 hl6;go_upto_region 17 with fail
        rw [←HW5.out];clear HW5 k0 k1;go_wp2_with (go_at_call 29;refine HT2.out.mono ?_)
        first|rintro e w6 rfl hb7|rintro e w6 ⟨rfl,hb7⟩
        have hbq6:=bel2 HB6.out hb7;have ho6:=gP HPO.out hbq6;have hb8:Below w6.heap.size w6 (w6.alloc (.cells #[.string ⟨pv.toArray⟩] 9)):=(Below.refl _ _).alloc (wY _) _;have HO6:=ab (gP ho6 hb8);have HSL6:=ab (Sl.lit (n:=1) (sz:=1) (heap_alloc_new w6 (.cells #[.string ⟨pv.toArray⟩] 9)) rfl);have hz6:w3.heap.size≤(w6.alloc (.cells #[.string ⟨pv.toArray⟩] 9)).heap.size:=by have:=hbq6.size;rw [xG];omega
        have HBA:=ab ((HPB.out.trans (hbq6.mono hzq)).trans (hb8.mono (xb hzq hbq6.size)));clear ho6 hb8 hbq6 hb7 HT2 e0 e1;obtain⟨iis,hiis⟩:=HIS.out;go_wp2_with (at_builtin;refine g9 w3.heap.size 9 rfl _ _ 44 rfl Tryz.underlying44 hiis rfl ez rfl HO6.out rfl HSL6.out eG eu eu ez hz6 ?_)
        intro v7 w7 ho7 hg7 hb7 hmv;have HB7:=ab (HBA.out.trans hb7);have ho8:w7.ownsRow w3.heap.size 9 1 v7 (j+1+1) (i6 (p0::(sp.take (j+1)).map (lL s))):=by
         rw [HSN.out,←xQ,nP];rw [←List.map_take] at ho7;exact ho7
        have HO8:=ab ho8;clear ho7 ho8 hg7 hb7 hmv;go_wp2
        go_roundw
        case rel=>exact⟨j+1,by rw [HMN.out];omega,by go_num,HO8.out,HB7.out⟩
        case measure=>simp [intOf];omega
       ·have hjn:j=n:=eu
        subst hjn;obtain⟨PS,hPS⟩:∃PS,p0::sp.map (lL s)=PS:=⟨_,rfl⟩;have hpsl:PS.length=j+1:=by rw [←hPS,xg,xS,HMN.out]
        have hpo:=HPO.out;rw [List.take_of_length_le (by rw [HMN.out];exact wY _),hPS,←hpsl] at hpo;have hgk:=HGK.out;have hplm:=HPL.out;rw [hPS] at hgk hplm;have hown2:=jy (jy HOWN.out HBR3.out) HPB.out;have hl7:=(HPB.out.block _ (gI (((HB4.out).block _ (gI HL3.out)).trans HL3.out))).trans (((HB4.out).block _ (gI HL3.out)).trans HL3.out);have hb7:Below w2.heap.size w2 wr:=(HB.out.trans (HBR3.out.mono HB.out.size)).trans (HPB.out.mono (xb HB.out.size HBR3.out.size));have f0:=gL hl7 0 rfl;have hzz:w2.heap.size≤wr.heap.size:=hb7.size;have HPO2:=ab hpo;have HGK2:=ab hgk;have HPL2:=ab hplm;have HPSL:=ab hpsl;have HOW2:=ab hown2;have HL7:=ab hl7;have HB7:=ab hb7;have hsll:(jv s at_ u).length=u-at_:=by unfold jv;rw [xF,xN];omega
        have HSLL:=ab hsll;have hsl2:((s.drop at_).take (u-at_)).length≤1000000:=by rw [xF,xN];omega
        clear hpo hgk hplm hpsl hown2 hl7 hb7 hsll hjl HPO HOWN HGK HPL;obtain⟨i8,hi8,hz0,hz1,hz9⟩:=HI8.out;go_upto_region 19 with fail
        go_wp2_with (at_builtin;refine Lib.wpList_append_own_string _ rfl _ _ 67 9 rfl w2.heap.size 5 i8 Tryz.underlying67 Tryz.underlying9 hi8 hz0 hz1 hz9 _ _ _ rfl HOW2.out _ rfl fG gi hzz ?_)
        intro v8 w8 ho8 hg8 _;have hout1:out.length+min (u-at_) (s.length-at_)=(out++jv s at_ u).length:=by
         rw [xm,HSLL.out];omega
        have ho9:w8.ownsRow w2.heap.size 5 1 v8 (out++jv s at_ u).length (iE (out++jv s at_ u)):=by
         rw [←hout1];simpa [iE,Lib.strCells,jv] using ho8
        have hb8:Below w2.heap.size w2 w8:=HB7.out.grown hg8 hzz fun k hk=>(HOW2.out.lt k hk).1
        have hp8:=HPO2.out.kept hg8 (pT HPO2.out HOW2.out ez);have hl8:=(hg8.block wo.heap.size (gI HL7.out) (fun e=>i0 HOW2.out HL7.out ez e.symm)).trans HL7.out;have y8:=gL ((hb8.block _ (gI HL2.out)).trans HL2.out) 8 rfl;rw [HPSL.out] at hp8;obtain⟨out1,hou1⟩:∃o,out++jv s at_ u=o:=⟨_,rfl⟩;have ho1l:out1.length≤2000000:=by rw [←hou1,xm,HSLL.out];omega
        have hgk3:=HGK2.out;rw [hou1] at ho9 hgk3;obtain⟨PO,hPO⟩:∃o,putM PS fs out1=o:=⟨_,rfl⟩;rw [hPO] at hgk3;have HGK3:=ab hgk3;have HPOE:=ab hPO;have HO9:=ab ho9;have HB8:=ab hb8;have HP8:=ab hp8;have HL8:=ab hl8;clear ho8 hg8 hout1 ho9 hb8 hp8 hl8 hou1 hgk3 hPO HGK2 f0 hsl2 HSLL HOW2 HB7 HL7 HPO2 x2;go_wp2
        clear y8;go_loopw [12,76] (fun v q wq=>FoRel fs PS w2 w3.heap.size (.slice pa (j+1) pc) (j+1) wo.heap.size (.cells #[.int .i64 (u:Int),.int .i64 (u2:Int),.slice aa j cp] 72 (0,0)) PO v q wq) (fun _ q _=>fs.length-(intOf q).toNat)
        case atStart=>exact⟨0,out1,Nat.zero_le _,rfl,HO9.out,HP8.out,HL8.out,HB8.out,ho1l,ab (by rw [xT];exact HPOE.out)⟩
        case round =>
         obtain⟨i,o2,hi,rfl,ho,hp,hl,hb,hol2,HP⟩:=hrel;obtain⟨xa,xc,rfl⟩:=gY ho;clear HPOE HO9 HP8 HL8 HB8;have HBQ:=ab hb;have HO:=ab ho;have HPP:=ab hp;have HLL:=ab hl;have hzw:w2.heap.size≤wr.heap.size:=hb.size;clear ho hp hl hb;by_cases hil:i<fs.length
         ·obtain⟨g,hg⟩:∃g,fs[i]?=some g:=⟨_,wW hil⟩
          have hst:putM PS (fs.drop i) o2=putM PS (fs.drop (i+1)) (if o2.length≤65536 then o2++kg [g] PS else o2):=by
           have e:fs.drop i=g::fs.drop (i+1):=by
            rw [List.drop_eq_getElem_cons hil];rw [wW hil] at hg;injection hg with hg;rw [hg]
           rw [e,putM]
          rw [hst] at HP;obtain⟨b3,o3,rfl,hb3,k0,k1,k2,k3,k4⟩:=(HSF2.out.keep (HBQ.out.mono hz2)).fm hg;have hgl:=HF.out g (xA hg);have hal:=ue (f:=g) HPL2.out hgl;obtain⟨gk,gn,gc,gt,ge⟩:=g;simp only at k0 k1 k2 k3 k4
          obtain⟨W9,hW9⟩:∃W9,W9=wr.alloc (.cells #[.int .i64 gk,.int .i64 gn,.int .i64 gc,.string ⟨gt.toArray⟩,.string ⟨ge.toArray⟩] 43):=⟨_,rfl⟩;have hb9:Below wr.heap.size wr W9:=by rw [hW9];exact(Below.refl _ _).alloc (wY _) _
          have hl9:W9.heap[wr.heap.size]?=some (.cells #[.int .i64 gk,.int .i64 gn,.int .i64 gc,.string ⟨gt.toArray⟩,.string ⟨ge.toArray⟩] 43 (0,0)):=by rw [hW9];exact heap_alloc_new wr _
          have g0:=gL hl9 0 rfl;have g1:=gL hl9 1 rfl;have g2:=gL hl9 2 rfl;have g3:=gL hl9 3 rfl;have g4:=gL hl9 4 rfl;have hbA:Below W9.heap.size W9 (W9.alloc (.cells #[.int .i64 gk,.int .i64 gn,.int .i64 gc,.string ⟨gt.toArray⟩,.string ⟨ge.toArray⟩] 43)):=(Below.refl _ _).alloc (wY _) _;have hbB:=bel2 hb9 hbA;have hslp:Sl (W9.alloc (.cells #[.int .i64 gk,.int .i64 gn,.int .i64 gc,.string ⟨gt.toArray⟩,.string ⟨ge.toArray⟩] 43)) (W9.alloc (.cells #[.int .i64 gk,.int .i64 gn,.int .i64 gc,.string ⟨gt.toArray⟩,.string ⟨ge.toArray⟩] 43)).heap.size pa 1 (j+1) (i6 PS):=Sl.of_own (jy HPP.out hbB);have hsll:Sl (W9.alloc (.cells #[.int .i64 gk,.int .i64 gn,.int .i64 gc,.string ⟨gt.toArray⟩,.string ⟨ge.toArray⟩] 43)) (W9.alloc (.cells #[.int .i64 gk,.int .i64 gn,.int .i64 gc,.string ⟨gt.toArray⟩,.string ⟨ge.toArray⟩] 43)).heap.size (some ⟨W9.heap.size,0,none⟩) 5 1 (iV [⟨gk,gn,gc,gt,ge⟩]):=Sl.lit (n:=1) (sz:=5) (heap_alloc_new W9 (.cells #[.int .i64 gk,.int .i64 gn,.int .i64 gc,.string ⟨gt.toArray⟩,.string ⟨ge.toArray⟩] 43)) rfl;have HAP:=ab (vC (some ⟨W9.heap.size,0,none⟩) pa 1 (j+1) pc mf [⟨gk,gn,gc,gt,ge⟩] PS _ hsll hslp (by simpa using hgl) HPL2.out hmf eB eu);have HW9:=ab hW9;have HB9:=ab hbB;have HAL:=ab hal;clear hst hg hgl hal hW9 hb9 hl9 hbA hbB hslp hsll;by_cases hle:o2.length≤65536
          ·rw [wU hle] at HP
           go_upto_region 23 with fail
           rw [←HW9.out];clear HW9 k0 k1 k2 k3 k4;go_wp2_with (go_at_call 30;refine HAP.out.mono ?_)
           first|rintro e wA rfl hbA|rintro e wA ⟨rfl,hbA⟩
           obtain⟨AP,hAP⟩:∃A,kg [⟨gk,gn,gc,gt,ge⟩] PS=A:=⟨_,rfl⟩;have hal:=HAL.out;rw [hAP] at hal HP;rw [hAP];have hbC:=bel2 HB9.out hbA;have HOC:=ab (jy HO.out hbC);have HPC:=ab (jy HPP.out hbC);have HLC:=ab ((hbC.block _ (gI HLL.out)).trans HLL.out);have HBC:=ab (HBQ.out.trans (hbC.mono hzw));have hzC:w2.heap.size≤wA.heap.size:=xb hzw hbC.size;clear hAP hbC hbA HAP HB9 HAL g0 g1 g2 g3 g4 HO HPP HLL HBQ;obtain⟨i8,hi8,hz0,hz1,hz2'⟩:=HI8.out;go_wp2_with (at_builtin;refine Lib.wpList_append_own_string _ rfl _ _ 67 9 rfl w2.heap.size 5 i8 Tryz.underlying67 Tryz.underlying9 hi8 hz0 hz1 hz2' _ _ _ rfl HOC.out _ rfl fG gi hzC ?_)
           intro vD wD hoD hgD _;have hoE:wD.ownsRow w2.heap.size 5 1 vD (o2++AP).length (iE (o2++AP)):=by
            rw [xm];simpa [iE,Lib.strCells] using hoD
           have HOE:=ab hoE;have HBD:=ab (HBC.out.grown hgD hzC fun k hk=>(HOC.out.lt k hk).1);have HPD:=ab (HPC.out.kept hgD (pT HPC.out HOC.out ez));have HLD:=ab ((hgD.block wo.heap.size (gI HLC.out) (fun e=>i0 HOC.out HLC.out ez e.symm)).trans HLC.out);have hlE:(o2++AP).length≤2000000:=by rw [xm];omega
           have HLE:=ab hlE;clear hoD hgD hoE HOC HPC HLC HBC hlE;go_wp2
           go_roundw
           case rel=>exact⟨i+1,o2++AP,by omega,by go_num,HOE.out,HPD.out,HLD.out,HBD.out,HLE.out,HP⟩
           case measure=>simp [intOf];omega
          ·rw [wX hle] at HP
           have HBE:=ab (bel2 (Below.refl wr.heap.size wr) (Below.refl wr.heap.size wr));have hbX:Below wr.heap.size wr W9:=by rw [HW9.out];exact(Below.refl _ _).alloc (wY _) _
           have HOC:=ab (jy HO.out hbX);have HPC:=ab (jy HPP.out hbX);have HLC:=ab ((hbX.block _ (gI HLL.out)).trans HLL.out);have HBC:=ab (HBQ.out.trans (hbX.mono hzw));clear hbX HBE HO HPP HLL HBQ HAP HAL HB9;go_upto_region 23 with fail
           rw [←HW9.out];clear HW9 k0 k1 k2 k3 k4 g0 g1 g2 g3 g4;go_wp2
           go_roundw
           case rel=>exact⟨i+1,o2,by omega,by go_num,HOC.out,HPC.out,HLC.out,HBC.out,hol2,HP⟩
           case measure=>simp [intOf];omega
         ·have hin:i=fs.length:=eu
          subst hin;have hpo2:o2=PO:=by rw [←HP.out,List.drop_length];rfl
          have hgk4:=HGK3.out;rw [←hpo2] at hgk4;have HGK4:=ab hgk4;have n1:=gL HLL.out 1 rfl;clear hpo2 hgk4 HGK3 HP hil;by_cases hbig:65536<o2.length
          ·have HRE2:Hid (R=([],0,4)):=ab (by
            have h:=HGK4.out;rw [wU hbig] at h;rw [HRG.out,←h];rfl)
           clear HGK4;go_wp2
           go_ret3
           exact⟨by rw [HRE2.out];rfl,HB2.out.trans (HBQ.out.mono hz2)⟩
          ·have HGK5:Hid (goM s offs fs (ms.drop (k+1)) u2 o2=G):=ab (by
            have h:=HGK4.out;rw [wX hbig] at h;exact h)
           clear HGK4;go_wp2
           go_roundw
           case rel=>exact⟨k+1,u2,o2,by omega,by go_num,rfl,HO.out,HBQ.out,hu2,by omega,HU4,HGK5⟩
           case measure=>simp [intOf];omega
     ·have hkm:k=ms.length:=eu
      subst hkm;have hGe:G=some (at_,out):=by rw [←HGK.out,List.drop_length];rfl
      have hRE:=HRG.out;rw [hGe] at hRE;have hown:=HOWN.out;clear hGe HGK HAT hlt;by_cases hbig:65536<out.length+(s.length-at_)
      ·have HRE2:Hid (R=([],0,4)):=ab (by rw [hRE];exact wU hbig)
       have hbi:(65536:Int)-out.length<(s.length:Int)-at_:=eu;clear hRE hown;go_wp2
       go_ret3
       exact⟨by rw [HRE2.out];rfl,HB2.out.trans (HB.out.mono hz2)⟩
      ·have HRE2:Hid (R=(out++s.drop at_,(left:Int),0)):=ab (by rw [hRE];exact wX hbig)
       have hbi:¬(65536:Int)-out.length<(s.length:Int)-at_:=eu;have hsl2:(s.drop at_).length≤1000000:=by rw [xN];omega
       obtain⟨i8,hi8,hz0,hz1,hz9⟩:=HI8.out;have hzo:w2.heap.size≤wo.heap.size:=HB.out.size;clear hRE hown;go_wp2_with (at_builtin;refine Lib.wpList_append_own_string _ rfl _ _ 67 9 rfl w2.heap.size 5 i8 Tryz.underlying67 Tryz.underlying9 hi8 hz0 hz1 hz9 _ _ _ rfl HOWN.out _ rfl fG gi hzo ?_)
       intro v8 w8 ho8 hg8 _;have ho9:w8.ownsRow w2.heap.size 5 1 v8 (out++s.drop at_).length (iE (out++s.drop at_)):=by
        rw [xm];simpa [iE,Lib.strCells] using ho8
       have hcv:=nB (P:=Tryz.prog) (src:=67) (dst:=9) Tryz.underlying67 Tryz.underlying5 Tryz.underlying9 ho9;have HBE:=ab (HB2.out.trans ((HB.out.grown hg8 hzo fun k hk=>(HOWN.out.lt k hk).1).mono hz2));clear ho8 ho9 hg8;go_wp2
       go_ret3
       exact⟨by rw [HRE2.out];rfl,HBE.out⟩
def awF1:Str:=[47,97,47,36,123,48,58,47,117,112,99,97,115,101,125,47,125]
def awF2:Str:=[47,98,47,120,47,103,125]
def awT1:Tf:=⟨.mk 2 [97] false [] 0 0 false [],[⟨2,0,1,[],[]⟩],false,false⟩
def awT2:Tf:=⟨.mk 2 [98] false [] 0 0 false [],[⟨0,0,0,[120],[]⟩],false,true⟩
theorem uX:qF awF1=some (awT1,[]):=by kernel_rfl
theorem wO:qF awF2=some (awT2,[]):=by kernel_rfl
theorem qx {s:Str} {c:UInt8} {f:Fm} {al:Bool} {n:Int} (hn:((s.length-1:Nat):Int)=n) (hs:s.length≤600000) (h:qF s=some (⟨.mk 2 [c] false [] 0 0 false [],[f],false,al⟩,[])) (w:World) :
  Calls Tryz.prog 14 #[.string ⟨s.toArray⟩,.int .i64 0] w fun e w'=>∃(ra:Option Addr) (rcp:Nat) (rka:Option Addr) (rkc:Nat) (fa:Option Addr) (fcp:Nat),
   e=.returned (.tuple #[.agg #[.int .i64 2,.string ⟨([c]).toArray⟩,.bool false,.slice ra 0 rcp,.int .i64 0,.int .i64 0,.bool false,.slice rka 0 rkc,.slice fa 1 fcp,.bool false,.bool al],.int .i64 n,.bool true]) ∧
   TfV w' (fun b=>w.heap.size≤b) [.int .i64 2,.string ⟨([c]).toArray⟩,.bool false,.slice ra 0 rcp,.int .i64 0,.int .i64 0,.bool false,.slice rka 0 rkc,.slice fa 1 fcp,.bool false,.bool al] ⟨.mk 2 [c] false [] 0 0 false [],[f],false,al⟩∧Below w.heap.size w w':=by
 refine(wg s 0 w (Nat.zero_le _) hs).mono fun e w'=>?_
 rintro⟨hb,hp⟩;rw [xT,h] at hp;obtain⟨fc,j,he,hv,h1,h2,h3⟩:=hp;have hj:j=s.length-1:=by
  have:=xM List.length h3
  rw [xN,xR] at this;omega
 subst hj;rw [hn] at he;obtain⟨rk,rch,rng,rrs,rlo,rhi,rlz,rks,ra,rcp,rka,rkc,fa,fcp,hc⟩:=hv.open_;have hx:=hc.rx;injection hx with q1 q2 q3 q4 q5 q6 q7 q8
 subst q1 q2 q3 q4 q5 q6 q7 q8;have hfc:=hc.eq;subst hfc;exact⟨ra,rcp,rka,rkc,fa,fcp,he,hv,hb⟩
theorem ui:awT1.small:=⟨⟨⟨by decide,by decide,by simp,by decide⟩,trivial⟩,by decide,by decide⟩
theorem tA:awT2.small:=⟨⟨⟨by decide,by decide,by simp,by decide⟩,trivial⟩,by decide,by decide⟩
theorem n6 (w:World):Calls Tryz.prog 11 #[] w fun e w'=>e=.returned (.bool true)∧Below w.heap.size w w':=by
 have H1:=ab (fun w=>qx (s:=awF1) (n:=16) ez ez uX w);have H2:=ab (fun w=>qx (s:=awF2) (n:=6) ez ez wO w);have H3:Hid (∀(S:Nat→Prop) (fc:List Value) (w:World),TfV w S fc awT1→Calls Tryz.prog 12 #[.agg fc.toArray,.string ⟨([98,97,98]).toArray⟩,.int .i64 100] w fun e w'=>e=.returned (.tuple #[.string ⟨([98,65,98]).toArray⟩,.int .i64 98,.int .i64 0])∧Below w.heap.size w w'):=ab fun S fc w hv =>
  mR S awT1 fc w hv aw19a ui ez (mf:=10) ez (by simp [awT1]) ez (fun m _ p hp=>xb (rH _ _ m p hp) ez)
 have H4:Hid (∀(S:Nat→Prop) (fc:List Value) (w:World),TfV w S fc awT2→Calls Tryz.prog 12 #[.agg fc.toArray,.string ⟨([97,98,98]).toArray⟩,.int .i64 100] w fun e w'=>e=.returned (.tuple #[.string ⟨([97,120,120]).toArray⟩,.int .i64 96,.int .i64 0])∧Below w.heap.size w w'):=ab fun S fc w hv =>
  mR S awT2 fc w hv aw19b tA ez (mf:=10) ez (by simp [awT2]) ez (fun m _ p hp=>xb (rH _ _ m p hp) ez)
 unfold awF1 at H1;unfold awF2 at H2;go_enter Tryz.func11,Tryz.ntmps11
 go_wp2_with (go_at_call 14;refine(H1.out _).mono ?_)
 rintro e w1 ⟨ra,rcp,rka,rkc,fa,fcp,rfl,hv1,hb1⟩;obtain⟨W1,hW1⟩:∃W1,W1=w1.alloc (.cells #[.int .i64 2,.string ⟨([97]).toArray⟩,.bool false,.slice ra 0 rcp,.int .i64 0,.int .i64 0,.bool false,.slice rka 0 rkc,.slice fa 1 fcp,.bool false,.bool false] 28):=⟨_,rfl⟩;have hbW1:Below w1.heap.size w1 W1:=by rw [hW1];exact(Below.refl _ _).alloc (wY _) _
 have hl1:W1.heap[w1.heap.size]?=some (.cells #[.int .i64 2,.string ⟨([97]).toArray⟩,.bool false,.slice ra 0 rcp,.int .i64 0,.int .i64 0,.bool false,.slice rka 0 rkc,.slice fa 1 fcp,.bool false,.bool false] 28 (0,0)):=by rw [hW1];exact heap_alloc_new w1 _
 have HA1:=ab (H3.out _ _ W1 (hv1.later hbW1));have HW1:=ab hW1;have HL1:=ab hl1;have HB1:=ab (bel2 hb1 hbW1);clear hv1 hb1 hW1 hbW1 hl1 H1 H3;go_upto_region 2 with fail
 rw [←HW1.out];clear HW1;go_wp2_with (first
  | (refine iF rfl 28 (.tmp 1) rfl w1.heap.size 0 rfl [.int .i64 2,.string ⟨([97]).toArray⟩,.bool false,.slice ra 0 rcp,.int .i64 0,.int .i64 0,.bool false,.slice rka 0 rkc,.slice fa 1 fcp,.bool false,.bool false] _ (iS (ds:=[]) HL1.out) jo rfl fB ?_)
  | (go_at_call 12;refine HA1.out.mono ?_))
 first|rintro e w2 rfl hb2|rintro e w2 ⟨rfl,hb2⟩
 have HB2:=ab (bel2 HB1.out hb2);clear hb2 HA1 HL1;go_wp2_with (go_at_call 14;refine(H2.out _).mono ?_)
 rintro e w3 ⟨ra2,rcp2,rka2,rkc2,fa2,fcp2,rfl,hv3,hb3⟩;obtain⟨W3,hW3⟩:∃W3,W3=w3.alloc (.cells #[.int .i64 2,.string ⟨([98]).toArray⟩,.bool false,.slice ra2 0 rcp2,.int .i64 0,.int .i64 0,.bool false,.slice rka2 0 rkc2,.slice fa2 1 fcp2,.bool false,.bool true] 28):=⟨_,rfl⟩;have hbW3:Below w3.heap.size w3 W3:=by rw [hW3];exact(Below.refl _ _).alloc (wY _) _
 have hl3:W3.heap[w3.heap.size]?=some (.cells #[.int .i64 2,.string ⟨([98]).toArray⟩,.bool false,.slice ra2 0 rcp2,.int .i64 0,.int .i64 0,.bool false,.slice rka2 0 rkc2,.slice fa2 1 fcp2,.bool false,.bool true] 28 (0,0)):=by rw [hW3];exact heap_alloc_new w3 _
 have HA3:=ab (H4.out _ _ W3 (hv3.later hbW3));have HW3:=ab hW3;have HL3:=ab hl3;have HB3:=ab (bel2 (bel2 HB2.out hb3) hbW3);clear hv3 hb3 hW3 hbW3 hl3 H2 H4;go_upto_region 4 with fail
 rw [←HW3.out];clear HW3;go_wp2_with (first
  | (refine iF rfl 28 (.tmp 7) rfl w3.heap.size 0 rfl [.int .i64 2,.string ⟨([98]).toArray⟩,.bool false,.slice ra2 0 rcp2,.int .i64 0,.int .i64 0,.bool false,.slice rka2 0 rkc2,.slice fa2 1 fcp2,.bool false,.bool true] _ (iS (ds:=[]) HL3.out) jo rfl fB ?_)
  | (go_at_call 12;refine HA3.out.mono ?_))
 first|rintro e w4 rfl hb4|rintro e w4 ⟨rfl,hb4⟩
 have HB4:=ab (bel2 HB3.out hb4);clear hb4 HA3 HL3;go_wp2
 go_ret
 exact⟨rfl,HB4.out⟩
end Go.Proofs.YtbnkaecmgfolpaaGreat
