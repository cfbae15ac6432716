/- walks of rxrun: stands, none -/
import Derived.Test.YtjggmmaojklmpaaGreatDoorKb20
import Derived.Laws.CopyOwn
set_option maxRecDepth 100000
set_option maxHeartbeats 4000000
namespace Go.Proofs.YtjggmmaojklmpaaGreatDoor
open Go.RowKit
theorem nK {R:Rn} (ok:RnOk R) {w:World} {st:Rst} (h:RunI R w st) (kind:Int) (k:Nat) (hk:k≤R.C.cs.length) :
  Calls Tryz.prog 154 #[.pointer (some ⟨R.r,0,none⟩),.int .i64 kind,.int .i64 k] w fun e w'=>e=.returned (.bool (kY R.C kind k))∧w=w':=by
 have c12:=h.c12 ok;have hcs:=ok.cs;have hch:∀j,(R.C.cs.getD j []).length≤1000000:=fun j=>by
  rw [List.getD_eq_getElem?_getD];cases hg:R.C.cs[j]? with
  | none=>simp
  | some c=>exact ok.ch c (DL hg)
 have HO:=ab ok;have HH:=ab h;clear ok h;by_cases h8:kind=8
 ·subst h8
  have HE:Hid (kY R.C 8 k=decide (k=0)):=ab (by unfold kY;rw [Dr rfl]);clear hch;go_enter Tryz.func154,Tryz.ntmps154
  go_wp2_with (go_at_call 162;refine(rg _ _ fR).mono ?_;rintro e w1 ⟨rfl,rfl⟩)
  go_ret
  exact⟨jG (by rw [HE.out,Bool.eq_iff_iff];simp),rfl⟩
 by_cases h9:kind=9
 ·subst h9
  have HE:Hid (kY R.C 9 k=decide (k=R.C.cs.length)):=ab (by unfold kY;rw [Du fU,Dr rfl]);clear hch h8;go_enter Tryz.func154,Tryz.ntmps154
  go_wp2_with (go_at_call 162;refine(rg _ _ fR).mono ?_;rintro e w1 ⟨rfl,rfl⟩)
  go_ret
  exact⟨jG (by rw [HE.out,Bool.eq_iff_iff];simp;omega),rfl⟩
 have h8':(kind==8)=false:=by rw [DV];exact h8
 have h9':(kind==9)=false:=by rw [DV];exact h9
 have HE0:Hid (kY R.C kind k=(((decide (0<k)&&nj (R.C.cs.getD (k-1) [])) != (decide (k<R.C.cs.length)&&nj (R.C.cs.getD k [])))==(kind==10))):=ab (by
  unfold kY;rw [Du h8,Du h9];congr 1)
 clear h8 h9;rcases Nat.eq_zero_or_pos k with h0|h0
 ·subst h0
  rcases Nat.eq_zero_or_pos R.C.cs.length with hn|hn
  ·have HE:Hid (kY R.C kind 0=((false != false)==(kind==10))):=ab (by rw [HE0.out,hn];rfl)
   rw [hn] at c12;clear hch HE0 hk;exact bc
  ·obtain⟨b,o,hca,hc⟩:=HH.out.char hn
   rw [hca] at c12;have hl:=hch 0;obtain⟨d,hd⟩:∃d,R.C.cs.getD 0 []=d:=⟨_,rfl⟩;rw [hd] at hl hc;rw [Nat.add_zero] at hc;have HE:Hid (kY R.C kind 0=((false != nj d)==(kind==10))):=ab (by rw [HE0.out,hd];simp [hn]);clear hch HE0 hk hd hca;exact bc
 ·obtain⟨b,o,hca,hc⟩:=HH.out.char (show k-1<R.C.cs.length by omega)
  rw [hca] at c12;have hl:=hch (k-1);obtain⟨d,hd⟩:∃d,R.C.cs.getD (k-1) []=d:=⟨_,rfl⟩;rw [hd] at hl hc;obtain⟨k,rfl⟩:∃j,k=j+1:=⟨k-1,by omega⟩;simp only [Nat.add_sub_cancel] at hc hd;rcases Nat.lt_or_ge (k+1) R.C.cs.length with hn|hn
  ·obtain⟨b',o',hca',hc'⟩:=HH.out.char hn
   rw [hca] at hca';injection hca' with hca'
   injection hca' with hb' ho'
   subst hb';subst ho';have hl':=hch (k+1);obtain⟨u,hu⟩:∃u,R.C.cs.getD (k+1) []=u:=⟨_,rfl⟩;rw [hu] at hl' hc';have HE:Hid (kY R.C kind (k+1)=((nj d != nj u)==(kind==10))):=ab (by rw [HE0.out,Nat.add_sub_cancel,hd,hu];simp [hn]);clear hch HE0 hk hd hca hu h0;exact bc
  ·have hkn:k+1=R.C.cs.length:=fR
   have HE:Hid (kY R.C kind (k+1)=((nj d != false)==(kind==10))):=ab (by rw [HE0.out,Nat.add_sub_cancel,hd,←hkn];simp);rw [←hkn] at c12;rw [←hkn] at hcs;clear hch HE0 hk hd hca hn hkn h0;exact bc
def NoneRel (R:Rn) (w:World) (st:Rst) (lo hi:Nat) (q:Value) (wr:World):Prop :=
 ∃k:Nat,lo+k≤hi∧q=.int .i64 k∧RunI R wr { st with ps:=kP st.ps lo (lo+k) }∧Fx R w wr
theorem ph (ps:List (Int × Int)) (lo:Nat):kP ps lo lo=ps:=by simp [kP]
theorem rA (ps:List (Int × Int)) (lo k:Nat) (h:lo+k<ps.length):sy (kP ps lo (lo+k)) (lo+k) (-1,-1)=kP ps lo (lo+(k+1)):=by
 unfold sy kP;have e1:(ps.take lo++List.replicate (lo+k-lo) ((-1:Int),(-1:Int))).length=lo+k:=by simp;omega
 rw [List.set_append_right _ _ fR,e1,Nat.sub_self,show lo+k-lo=k by omega,show lo+(k+1)-lo=k+1 by omega,List.drop_eq_getElem_cons h,List.set_cons_zero,List.replicate_succ',show lo+(k+1)=lo+k+1 by omega];simp
theorem Aa (ps:List (Int × Int)) (lo hi:Nat) (h1:lo≤hi) (h2:hi≤ps.length):(kP ps lo hi).length=ps.length:=by
 simp only [kP,DE,DT,List.length_replicate,D3];omega
theorem none_any {R:Rn} (ok:RnOk R) {w:World} {st:Rst} (h:RunI R w st) (b lo hi cap:Nat) (hp:R.pa=some ⟨b,0,none⟩) (h1:lo≤hi) (h2:hi≤R.n) :
  Calls Tryz.prog 128 #[.slice (some ⟨b,lo*2,none⟩) (hi-lo) cap] w fun e w'=>e=.returned (.tuple #[])∧RunI R w' { st with ps:=kP st.ps lo hi }∧Fx R w w':=by
 have hn:=ok.n;have HO:=ab ok;have HP:=ab hp;have H0:Hid (RunI R w { st with ps:=kP st.ps lo (lo+0) }):=ab (by rw [Nat.add_zero,ph];exact h);have hlen:=h.len;have hb:R.pv.ownBlock≠none:=by unfold Rn.pv;rw [hp];simp [Value.ownBlock]
 clear hp ok h hb;go_enter Tryz.func128,Tryz.ntmps128
 go_wp2
 go_loopw [5] (fun q wr=>NoneRel R w st lo hi q wr) (fun q _=>hi-lo-(intOf q).toNat)
 case atStart=>exact⟨0,by omega,rfl,H0.out,Gx.refl _ _⟩
 case round =>
  obtain⟨k,hk,rfl,hr,hx⟩:=hrel;clear H0;by_cases hlt:lo+k<hi
  ·obtain⟨c1,c2,f1,f2⟩:=hr.part (g:=lo+k) fR HP.out
   have hs:=hr.setP HO.out (g:=lo+k) fR HP.out (-1,-1);simp only at hs
   rw [rA st.ps lo k fR] at hs;rw [show (lo+k)*2=lo*2+k*2 by omega] at hs c1 c2 f1 f2;have HS:=ab hs;have HX:=ab hx;clear hs hr hx;go_wp2_with (fail)
   go_roundw
   case rel=>exact⟨k+1,by omega,by go_num,HS.out.1,Fx.trans (R:=R) HX.out HS.out.2⟩
   case measure=>simp [intOf];omega
  ·have e:lo+k=hi:=fR
   have HR:=ab (e▸hr);clear hr;go_wp2_with (fail)
   go_end0
   exact⟨rfl,HR.out,hx⟩
def TryC (R:Rn) (x:Rx):Prop:=∀(w:World) (st:Rst) (g k:Nat) (fv:Value) (f:Rk) (cc:List Value),PtV w R.S cc x g→g+x.groups≤R.n→RunI R w st→k≤R.C.cs.length→KW R w k fv f →
 Calls Tryz.prog 129 #[.pointer (some ⟨R.r,0,none⟩),.agg cc.toArray,.int .i64 k,fv] w (kL R (tryM R.C x g k f st) w)
def SeqC (R:Rn) (ks:List Rx):Prop:=∀(w:World) (st:Rst) (g k c:Nat) (fv:Value) (f:Rk) (a:Option Addr),PtSl w R.S a ks.length ks g→ks.length≤c→g+Rx.groupsL ks≤R.n→RunI R w st→k≤R.C.cs.length→KW R w k fv f →
 Calls Tryz.prog 149 #[.pointer (some ⟨R.r,0,none⟩),.slice a ks.length c,.int .i64 k,fv] w (kL R (seqM R.C ks g k f st) w)
theorem Fx.below {R:Rn} {w w':World} (h:Below w.heap.size w w'):Fx R w w':=Gx.of_below h
theorem Fx.heap {R:Rn} {w w':World} (h:Fx R w w') {b:Nat} {o:Obj} (hb:w.heap[b]?=some o) (hx:¬R.X b):w'.heap[b]?=some o:=Gx.heap h hb hx
theorem KW.call {R:Rn} {w:World} {k e:Nat} {fv:Value} {f:Rk} (h:KW R w k fv f) {st:Rst} (hr:RunI R w st) (hk:k≤e) (he:e≤R.C.cs.length) :
  ∃(j:FuncId) (caps:Array Value),fv=.func (.func j) #[] caps∧Enters Tryz.prog j∧Calls Tryz.prog j (#[.int .i64 (e:Int)]++caps) w (kL R (f e st) w):=by
 obtain⟨j,caps,e1,e2,hc⟩:=h;exact⟨j,caps,e1,e2,hc w st e (Gx.refl _ _) hr hk he⟩
theorem AI {S:Nat→Prop} {w0:World} {b o c n g:Nat} {r:List Rx} (hs:PtSl w0 S (some ⟨b,o+11,none⟩) n r g) (hn:n≤1000000) (hc:n+1≤c) :
  ∃a',PtSl w0 S a' n r g∧(∀w':World,(Instr.sliceAt 116 (.slice (some ⟨b,o,none⟩) (n+1) c) (some (.int .i64 1)) none none).run Tryz.prog w'=.ok (.slice a' n (c-1)) w'):=by
 have key:∀w':World,(Instr.sliceAt 116 (.slice (some ⟨b,o,none⟩) (n+1) c) (some (.int .i64 1)) none none).run Tryz.prog w'=.ok (.slice (if c=1 then some ⟨b,o,none⟩ else some ⟨b,o+11,none⟩) n (c-1)) w':=by
  intro w';go_simp
  by_cases h:c=1
  ·simp [h];intro h;omega
  ·simp [h];intro h;omega
 refine⟨_,?_,key⟩;by_cases h:c=1
 ·rw [Dr h]
  have h0:=hs.len;have h1:n=0:=fR;subst h1;have h2:r=[]:=Ds h0.symm;subst h2;exact PtSl.nil _ _ _ _
 ·rw [Du h];exact hs
theorem seqK {R:Rn} (ok:RnOk R) {r:List Rx} (IH:SeqC R r) {w0:World} {b1 b2 b3 b o c g k:Nat} {fv:Value} {f:Rk}
  (h1:w0.heap[b1]?=some (.cells #[.pointer (some ⟨R.r,0,none⟩)] 114 (0,0))) (h2:w0.heap[b2]?=some (.cells #[.slice (some ⟨b,o,none⟩) (r.length+1) c] 116 (0,0)))
  (h3:w0.heap[b3]?=some (.cells #[fv] 104 (0,0))) (x1:¬R.X b1) (x2:¬R.X b2) (x3:¬R.X b3) (hs:PtSl w0 R.S (some ⟨b,o+11,none⟩) r.length r g) (hc:r.length+1≤c) (hg:g+Rx.groupsL r≤R.n) (hf:KW R w0 k fv f) (hrl:r.length≤1000000) :
  KW R w0 k (.func (.func 163) #[] #[.pointer (some ⟨b1,0,none⟩),.pointer (some ⟨b2,0,none⟩),.pointer (some ⟨b3,0,none⟩)]) (fun e s2=>seqM R.C r g e f s2):=by
 refine⟨_,_,rfl,enters_of Tryz.func163 fW rfl,fun w st e hx hr hk he=>?_⟩;have c1:=jM (hx.heap h1 x1);have c2:=jM (hx.heap h2 x2);have c3:=jM (hx.heap h3 x3);have hrl:r.length≤1000000:=hrl;obtain⟨a',hs',hsl⟩:=AI hs hrl hc;have hC:=IH w.drew st g e (c-1) fv f a' ((hs'.keep (Fx.kept ok hx)).later ((Below.refl _ _).drew)) fR hg (hr.later ((Below.refl _ _).drew)) he (hf.later (hx.trans (Fx.below ((Below.refl _ _).drew))) hk);have HC:=ab hC;have hcs:=ok.cs;clear hC IH hf hs hs' hx hr ok h1 h2 h3;show Calls Tryz.prog 163 #[.int .i64 (e:Int),.pointer (some ⟨b1,0,none⟩),.pointer (some ⟨b2,0,none⟩),.pointer (some ⟨b3,0,none⟩)] w _
 go_enter Tryz.func163,Tryz.ntmps163
 go_upto_region 1 with fail
 go_still_tail 5,fW
 change wpList _ _ _ _ _ w.drew
 go_wp2_with (go_at_call 149;refine HC.out.mono ?_)
 rintro x w' ⟨rfl,hr,hx⟩;go_wp2
 go_ret
 exact⟨rfl,hr,(Fx.below ((Below.refl _ _).drew)).trans hx⟩
theorem ki {R:Rn} {w:World} {st:Rst} (h:RunI R w st) {b:Nat} (hb:w.heap.size≤b):¬R.X b:=fun e=>by have:=h.lt b e;omega
theorem seq_nil {R:Rn}:SeqC R []:=by
 intro w st g k c fv f a hs hc hg hr hk hf;obtain⟨W3,hW3⟩:∃W3,W3=((w.alloc (.cells #[.pointer (some ⟨R.r,0,none⟩)] 114)).alloc (.cells #[.slice a 0 c] 116)).alloc (.cells #[fv] 104):=⟨_,rfl⟩;have hb3:Below w.heap.size w W3:=by rw [hW3];exact(((Below.refl _ _).alloc (Dv _) _).alloc fX _).alloc fY _
 obtain⟨j,caps,rfl,he,hC⟩:=(hf.later (Fx.below hb3) (Dv _)).call (hr.later hb3) (Dv _) hk;unfold Enters at he;have HC:=ab hC;have HB:=ab hb3;have HW:=ab hW3;clear hC hf hs hr hb3 hW3;simp only [DP];go_enter Tryz.func149,Tryz.ntmps149
 go_upto_region 2 with fail
 rw [←HW.out];have c7:W3.cell? ⟨w.heap.size+1+1,0,none⟩=some (.func (.func j) #[] caps):=jM (t:=104) (by rw [HW.out];have:=heap_alloc_new ((w.alloc (.cells #[.pointer (some ⟨R.r,0,none⟩)] 114)).alloc (.cells #[.slice a 0 c] 116)) (.cells #[.func (.func j) #[] caps] 104);simpa using this);clear HW;go_wp2_with (go_at_fn j;refine HC.out.mono ?_)
 rintro x w' ⟨rfl,hr,hx⟩;go_wp2
 go_ret
 exact⟨rfl,hr,(Fx.below HB.out).trans hx⟩
theorem seq_cons {R:Rn} (ok:RnOk R) {x:Rx} {ks:List Rx} (hx:TryC R x) (IH:SeqC R ks) (hl:ks.length≤1000000):SeqC R (x::ks):=by
 intro w st g k c fv f a hs hc hg hr hk hf;simp only [Rx.groupsL] at hg;have hff:=hf;obtain⟨j,caps,rfl,_,_⟩:=hff;have h0:((ks.length:Int)+1==0)=false:=by rw [DV];omega
 obtain⟨W3,hW3⟩:∃W3,W3=((w.alloc (.cells #[.pointer (some ⟨R.r,0,none⟩)] 114)).alloc (.cells #[.slice a (ks.length+1) c] 116)).alloc (.cells #[.func (.func j) #[] caps] 104):=⟨_,rfl⟩;have hb3:Below w.heap.size w W3:=by rw [hW3];exact(((Below.refl _ _).alloc (Dv _) _).alloc fX _).alloc fY _
 have h1:W3.heap[w.heap.size]?=some (.cells #[.pointer (some ⟨R.r,0,none⟩)] 114 (0,0)):=by
  rw [hW3,Below.heap_alloc _ _ _ fY,Below.heap_alloc _ _ _ fX];exact heap_alloc_new w _
 have h2:W3.heap[w.heap.size+1]?=some (.cells #[.slice a (ks.length+1) c] 116 (0,0)):=by
  rw [hW3,Below.heap_alloc _ _ _ fX];have:=heap_alloc_new (w.alloc (.cells #[.pointer (some ⟨R.r,0,none⟩)] 114)) (.cells #[.slice a (ks.length+1) c] 116);simpa using this
 have h3:W3.heap[w.heap.size+1+1]?=some (.cells #[.func (.func j) #[] caps] 104 (0,0)):=by
  rw [hW3];have:=heap_alloc_new ((w.alloc (.cells #[.pointer (some ⟨R.r,0,none⟩)] 114)).alloc (.cells #[.slice a (ks.length+1) c] 116)) (.cells #[.func (.func j) #[] caps] 104);simpa using this
 obtain⟨b,o,cc,rfl,hSb,hlt,hv,hcc,htl⟩:=(hs.later hb3).head;have hK:=seqK ok IH h1 h2 h3 (ki hr (Dv _)) (ki hr fR) (ki hr fR) htl (by simpa using hc) fR (hf.later (Fx.below hb3) (Dv _)) hl;have hdr:Below W3.heap.size W3 W3.drew:=(Below.refl _ _).drew;have hC:=hx W3.drew st g k _ _ cc (hv.later hdr) fR ((hr.later hb3).later hdr) hk (hK.later (Fx.below hdr) (Dv _));obtain⟨kd,ch,ng,rs,lo,hi,lz,xs⟩:=x;obtain⟨ra,rc,ka,kn,kc,pa,pc,rfl,_,_,_⟩:=hv.open_;obtain⟨c0,c1,c2,c3,c4,c5,c6,c7,c8,c9,c10⟩:=jY hcc;have d1:=jM h1;have d2:=jM h2;have HC:=ab hC;have HB:=ab (Fx.below (R:=R) (hb3.trans (hdr.mono hb3.size)));have HW:=ab hW3;have HM:Hid (seqM R.C (.mk kd ch ng rs lo hi lz xs::ks) g k f st=tryM R.C (.mk kd ch ng rs lo hi lz xs) g k (fun e s2=>seqM R.C ks (g+(Rx.mk kd ch ng rs lo hi lz xs).groups) e f s2) st):=ab (by conv=>lhs;unfold seqM);rw [HM.out];clear hC hf hs hr ok hb3 hW3 hx IH h1 h2 h3 hv hcc htl hK hdr HM hSb;unfold ptc at HC;simp only [Dx] at hc ⊢;go_enter Tryz.func149,Tryz.ntmps149
 go_upto_region 3 with fail
 rw [←HW.out];clear HW;go_still_tail 6,fW
 change wpList _ _ _ _ _ W3.drew
 exact dI
theorem CI {R:Rn} (ok:RnOk R):∀ks:List Rx,(∀x∈ks,TryC R x)→ks.length≤1000000→SeqC R ks
 | [],_,_=>seq_nil
 | x::ks,h,hl=>seq_cons ok (h x (DH ..)) (CI ok ks (fun y hy=>h y (DI _ hy)) (by simp at hl;omega)) (by simp at hl;omega)
theorem rQ {α:Type} (l:List α) (i:Nat) (d:α) (h:i<l.length):l.getD i d∈l:=by
 rw [List.getD_eq_getElem?_getD,Dt h];exact List.getElem_mem h
theorem grpW {R:Rn} (ok:RnOk R) {w0:World} {b1 b2 b3 b4 g k:Nat} {fv:Value} {f:Rk} {kd:Int} {c:Str} {ng:Bool} {ra:Option Addr} {rn rc:Nat} {lo hi:Int} {lz:Bool} {ka:Option Addr} {kn kc:Nat} {pa:Option Addr} {pn pc h:Nat}
  (h1:w0.heap[b1]?=some (.cells #[.pointer (some ⟨R.r,0,none⟩)] 114 (0,0))) (h2:w0.heap[b2]?=some (.cells (ptc kd c ng ra rn rc lo hi lz ka kn kc pa pn pc g h).toArray 118 (0,0)))
  (h3:w0.heap[b3]?=some (.cells #[.int .i64 (k:Int)] 3 (0,0))) (h4:w0.heap[b4]?=some (.cells #[fv] 104 (0,0)))
  (x1:¬R.X b1) (x2:¬R.X b2) (x3:¬R.X b3) (x4:¬R.X b4) (hg:g<R.n) (hkn:k≤R.C.cs.length) (hf:KW R w0 k fv f) :
  KW R w0 k (.func (.func 165) #[] #[.pointer (some ⟨b1,0,none⟩),.pointer (some ⟨b2,0,none⟩),.pointer (some ⟨b3,0,none⟩),.pointer (some ⟨b4,0,none⟩)]) (grpK R.C g k f):=by
 refine⟨_,_,rfl,enters_of Tryz.func165 fW rfl,fun w st e hx hr hk he=>?_⟩;have hff:=hf;obtain⟨j,caps,rfl,hent,_⟩:=hff;unfold Enters at hent;have c1:=jM (hx.heap h1 x1);have c3:=jM (hx.heap h3 x3);have c4:=jM (hx.heap h4 x4);have p2:w.cell? ⟨b2,9,none⟩=some (.int .i64 (g:Int)):=by rw [DB (hx.heap h2 x2)];rfl
 obtain⟨pb,hpb⟩:=hr.row fR;have c13:=hr.c13 ok;have c14:=hr.c14 ok;obtain⟨v1,v2,v3,v4⟩:=hr.part hg hpb;rw [hpb] at c14;obtain⟨ob,oo,hoa,o1⟩:=hr.off ok hkn;obtain⟨ob',oo',hoa',o2⟩:=hr.off ok he;rw [hoa] at hoa' c13;injection hoa' with hoa';injection hoa' with ha1 ha2;subst ha1;subst ha2
 have hcs:=ok.cs;have hn:=ok.n;obtain⟨wa,wb,hwas⟩:∃wa wb,st.ps.getD g (-1,-1)=(wa,wb):=⟨_,_,rfl⟩;rw [hwas] at v1 v2;simp only at v1 v2
 obtain⟨ka,hka⟩:∃n,R.C.offs.getD k 0=n:=⟨_,rfl⟩;obtain⟨ea,hea⟩:∃n,R.C.offs.getD e 0=n:=⟨_,rfl⟩;rw [hka] at o1;rw [hea] at o2;have hal:Below w.heap.size w (w.alloc (.cells #[.int .i64 0,.int .i64 0] 67)):=(Below.refl _ _).alloc (Dv _) _;have q1:=jH hal _ _ c1;have q2:=jH hal _ _ p2;have q3:=jH hal _ _ c14;have q4:=jH hal _ _ v1;have q5:=jH hal _ _ v2;obtain⟨W1,hW1⟩:∃W1,W1=(w.alloc (.cells #[.int .i64 wa,.int .i64 wb] 67)).drew:=⟨_,rfl⟩;have hb1:Below w.heap.size w W1:=by rw [hW1];exact((Below.refl _ _).alloc (Dv _) _).drew
 have hr1:=hr.later hb1;have hx1:=hx.trans (Fx.below hb1);have hwx:W1.heap[w.heap.size]?=some (.cells #[.int .i64 wa,.int .i64 wb] 67 (0,0)):=by rw [hW1];exact heap_alloc_new w _
 have hwn:¬R.X w.heap.size:=ki hr (Dv _);have HO:=ab ok;have HR1:=ab hr1;have HX1:=ab hx1;have HB1:=ab (Fx.below (R:=R) hb1);have HF:=ab hf;have HPB:=ab hpb;have H1:=ab h1;have H2:=ab h2;have H3:=ab h3;have H4:=ab h4;have HWX:=ab hwx;have HW1:=ab hW1;have HWAS:=ab hwas;have HKA:=ab hka;have HEA:=ab hea;have HGK:Hid (grpK R.C g k f e st=undoR (wa,wb) g (f e { st with ps:=sy st.ps g ((ka:Int),(ea:Int)) })):=ab (by unfold grpK;rw [hwas,hka,hea]);rw [HGK.out];clear ok hr hr1 hx1 hb1 hx hf hpb hoa h1 h2 h3 h4 hal hwx hW1 hwas hka hea HGK;show Calls Tryz.prog 165 #[.int .i64 (e:Int),.pointer (some ⟨b1,0,none⟩),.pointer (some ⟨b2,0,none⟩),.pointer (some ⟨b3,0,none⟩),.pointer (some ⟨b4,0,none⟩)] w _
 go_enter Tryz.func165,Tryz.ntmps165
 go_upto_region 1 with fail
 go_region
 rw [←HW1.out];clear q1 q2 q3 q4 q5 c1 c3 c4 p2 c14 v1 v2 v3 v4 c13 o1 o2 HW1;have c1:=jM (HX1.out.heap H1.out x1);have c3:=jM (HX1.out.heap H3.out x3);have p2:W1.cell? ⟨b2,9,none⟩=some (.int .i64 (g:Int)):=by rw [DB (HX1.out.heap H2.out x2)];rfl
 have c13:=HR1.out.c13 HO.out;have c14:=HR1.out.c14 HO.out;obtain⟨v1,v2,v3,v4⟩:=HR1.out.part hg HPB.out;rw [HWAS.out] at v1 v2;rw [HPB.out] at c14;simp only at v1 v2
 obtain⟨ob,oo,hoa,o1⟩:=HR1.out.off HO.out hkn;obtain⟨ob',oo',hoa',o2⟩:=HR1.out.off HO.out he;rw [hoa] at hoa' c13;injection hoa' with hoa';injection hoa' with ha1 ha2;subst ha1;subst ha2
 rw [HKA.out] at o1;rw [HEA.out] at o2;have hs:=HR1.out.setP HO.out hg HPB.out ((ka:Int),(ea:Int));simp only at hs
 obtain⟨W2,hW2⟩:∃W2,W2=((W1.setCell ⟨pb,g*2,none⟩ (.int .i64 (ka:Int))).setCell ⟨pb,g*2+1,none⟩ (.int .i64 (ea:Int))).drew:=⟨_,rfl⟩;have hd2:∀w:World,Below w.heap.size w w.drew:=fun w=>(Below.refl _ _).drew
 have HR2:Hid (RunI R W2 { st with ps:=sy st.ps g ((ka:Int),(ea:Int)) }):=ab (by rw [hW2];exact hs.1.later (hd2 _));have HX2:Hid (Fx R W1 W2):=ab (by rw [hW2];exact hs.2.trans (Fx.below (hd2 _)));have HW2:=ab hW2;clear hW2 hs hoa;have hk1:(k:Int)<(R.C.cs.length:Int)+1:=fR;have he1:(e:Int)<(R.C.cs.length:Int)+1:=fR;go_upto_region 2 with fail
 go_still_tail 22,fW
 change wpList _ _ _ _ _ W1.drew
 have s2:((W1.drew.setCell ⟨pb,g*2,none⟩ (.int .i64 (ka:Int))).setCell ⟨pb,g*2+1,none⟩ (.int .i64 (ea:Int)))=W2:=HW2.out.symm;have d4:W2.cell? ⟨b4,0,none⟩=some (.func (.func j) #[] caps):=jM ((HX1.out.trans HX2.out).heap H4.out x4);obtain⟨j',caps',hff',_,hC⟩:=(HF.out.later (HX1.out.trans HX2.out) hk).call HR2.out (Dv _) he;injection hff' with e1 _ e3
 injection e1 with e1
 subst e1;subst e3;have HC:=ab hC;have HS2:=ab s2;clear hC s2;go_upto_region 3 with fail
 have e0:∀a:Act,a=a:=fun _=>rfl
 change (Code.wp _ _ _ _ (((W1.drew.setCell ⟨pb,g*2,none⟩ (.int .i64 (ka:Int))).setCell ⟨pb,g*2+1,none⟩ (.int .i64 (ea:Int)))))
 rw [HS2.out];clear e0 HS2 HW2 c1 c3 p2 c13 c14 v1 v2 v3 v4 o1 o2 hk1 he1;go_wp2_with (go_at_fn j;refine HC.out.mono ?_)
 rintro x w3 ⟨rfl,hr3,hx3⟩;obtain⟨q,hq⟩:∃q,f e { st with ps:=sy st.ps g ((ka:Int),(ea:Int)) }=q:=⟨_,rfl⟩;rw [hq] at hr3 ⊢;have HQ:=ab hq;obtain⟨bo,s3⟩:=q;have HR3:=ab hr3;have HX3:=ab (HX2.out.trans hx3);clear hq hr3 hx3 HC d4;cases bo with
 | true =>
  go_wp2
  go_ret
  rw [HQ.out];exact⟨rfl,HR3.out,HB1.out.trans HX3.out⟩
 | false =>
  have hwx:=HX3.out.heap HWX.out hwn;have w1:w3.cell? ⟨w.heap.size,0,none⟩=some (.int .i64 wa):=by rw [DB hwx];rfl
  have w2:w3.cell? ⟨w.heap.size,1,none⟩=some (.int .i64 wb):=by rw [DB hwx];rfl
  have c1:=jM ((HX1.out.trans HX3.out).heap H1.out x1);have p2:w3.cell? ⟨b2,9,none⟩=some (.int .i64 (g:Int)):=by rw [DB ((HX1.out.trans HX3.out).heap H2.out x2)];rfl
  have c14:=HR3.out.c14 HO.out;obtain⟨v1,v2,v3,v4⟩:=HR3.out.part hg HPB.out;rw [HPB.out] at c14;have hs:=HR3.out.setP HO.out hg HPB.out (wa,wb);simp only at hs
  have HS:=ab hs;clear hs hwx;go_upto_region 5 with fail
  go_still_tail 8,fW
  change wpList _ _ _ _ _ w3.drew
  go_wp2
  go_ret
  rw [HQ.out];exact⟨rfl,HS.out.1.later (hd2 _),(HB1.out.trans HX3.out).trans (HS.out.2.trans (Fx.below (hd2 _)))⟩
theorem vJ {R:Rn} (ok:RnOk R) {y:Rx} (IH:TryC R y) (w:World) (st:Rst) (g k:Nat) (fv:Value) (f:Rk) (cc:List Value) {c:Str} {ng:Bool} {rs:List (Str × Str)} {lo hi:Int} {lz:Bool}
  (hv:PtV w R.S cc (.mk 5 c ng rs lo hi lz [y]) g) (hg:g+(Rx.mk 5 c ng rs lo hi lz [y]).groups≤R.n) (hr:RunI R w st) (hk:k≤R.C.cs.length) (hf:KW R w k fv f) :
  Calls Tryz.prog 152 #[.pointer (some ⟨R.r,0,none⟩),.agg cc.toArray,.int .i64 k,fv] w (kL R (lE R.C [y] (g+1) k (grpK R.C g k f) st) w):=by
 have hff:=hf;obtain⟨j,caps,rfl,_,_⟩:=hff;obtain⟨ra,rc,ka,kn,kc,pa,pc,rfl,hrs,hks,hpc⟩:=hv.open_;simp only [Rx.groups,Rx.groupsL,Dr,Nat.add_zero] at hg;obtain⟨W4,hW4⟩:∃W4,W4=(((w.alloc (.cells #[.pointer (some ⟨R.r,0,none⟩)] 114)).alloc (.cells (ptc 5 c ng ra rs.length rc lo hi lz ka kn kc pa [y].length pc g (g+own5 5+Rx.groupsL [y])).toArray 118)).alloc (.cells #[.int .i64 (k:Int)] 3)).alloc (.cells #[.func (.func j) #[] caps] 104):=⟨_,rfl⟩;have hb4:Below w.heap.size w W4:=by rw [hW4];exact((((Below.refl _ _).alloc (Dv _) _).alloc fX _).alloc fS _).alloc fS _
 have h1:W4.heap[w.heap.size]?=some (.cells #[.pointer (some ⟨R.r,0,none⟩)] 114 (0,0)):=by
  rw [hW4,Below.heap_alloc _ _ _ fS,Below.heap_alloc _ _ _ fS,Below.heap_alloc _ _ _ fX];exact heap_alloc_new w _
 have h2:W4.heap[w.heap.size+1]?=some (.cells (ptc 5 c ng ra rs.length rc lo hi lz ka kn kc pa [y].length pc g (g+own5 5+Rx.groupsL [y])).toArray 118 (0,0)):=by
  rw [hW4,Below.heap_alloc _ _ _ fS,Below.heap_alloc _ _ _ fX];have:=heap_alloc_new (w.alloc (.cells #[.pointer (some ⟨R.r,0,none⟩)] 114)) (.cells (ptc 5 c ng ra rs.length rc lo hi lz ka kn kc pa [y].length pc g (g+own5 5+Rx.groupsL [y])).toArray 118)
  rw [D0] at this;exact this
 have h3:W4.heap[w.heap.size+1+1]?=some (.cells #[.int .i64 (k:Int)] 3 (0,0)):=by
  rw [hW4,Below.heap_alloc _ _ _ fX];have:=heap_alloc_new ((w.alloc (.cells #[.pointer (some ⟨R.r,0,none⟩)] 114)).alloc (.cells (ptc 5 c ng ra rs.length rc lo hi lz ka kn kc pa [y].length pc g (g+own5 5+Rx.groupsL [y])).toArray 118)) (.cells #[.int .i64 (k:Int)] 3)
  rw [D0,D0] at this;exact this
 have h4:W4.heap[w.heap.size+1+1+1]?=some (.cells #[.func (.func j) #[] caps] 104 (0,0)):=by
  rw [hW4];have:=heap_alloc_new (((w.alloc (.cells #[.pointer (some ⟨R.r,0,none⟩)] 114)).alloc (.cells (ptc 5 c ng ra rs.length rc lo hi lz ka kn kc pa [y].length pc g (g+own5 5+Rx.groupsL [y])).toArray 118)).alloc (.cells #[.int .i64 (k:Int)] 3)) (.cells #[.func (.func j) #[] caps] 104)
  rw [D0,D0,D0] at this;exact this
 have hK:=grpW ok h1 h2 h3 h4 (ki hr (Dv _)) (ki hr fR) (ki hr fR) (ki hr fR) fR hk (hf.later (Fx.below hb4) (Dv _));obtain⟨b,o,cy,hpa,hSb,hlt,hvy,hcy,_⟩:=(hks.later hb4).head;have hdr:Below W4.heap.size W4 W4.drew:=(Below.refl _ _).drew;have hC:=IH W4.drew st (g+1) k _ _ cy (hvy.later hdr) fR ((hr.later hb4).later hdr) hk (hK.later (Fx.below hdr) (Dv _));obtain⟨kd,ch,ng',rs',lo',hi',lz',xs⟩:=y;obtain⟨ra',rc',ka',kn',kc',pa',pc',rfl,_,_,_⟩:=hvy.open_;obtain⟨c0,c1,c2,c3,c4,c5,c6,c7,c8,c9,c10⟩:=jY hcy;have d1:=jM h1;have d3:=jM h3;have d2:W4.cell? ⟨w.heap.size+1,8,none⟩=some (.slice pa 1 pc):=by rw [DB h2];rfl
 rw [hpa] at d2;have HC:=ab hC;have HB:=ab (Fx.below (R:=R) (hb4.trans (hdr.mono hb4.size)));have HM:Hid (lE R.C [.mk kd ch ng' rs' lo' hi' lz' xs] (g+1) k (grpK R.C g k f) st=tryM R.C (.mk kd ch ng' rs' lo' hi' lz' xs) (g+1) k (grpK R.C g k f) st):=ab (by conv=>lhs;unfold lE);rw [HM.out];have HW:=ab hW4;clear hC hf hks hr ok hb4 hW4 IH h1 h2 h3 h4 hv hcy hK hdr HM hSb hrs hvy hpa;simp only [Dx,DP,Nat.zero_add] at HW ⊢;unfold ptc at HC HW ⊢;generalize g+own5 5+Rx.groupsL [.mk kd ch ng' rs' lo' hi' lz' xs]=gh at HW ⊢
 go_enter Tryz.func152,Tryz.ntmps152
 go_upto_region 1 with fail
 rw [←HW.out];clear HW;go_still_tail 7,fW
 change wpList _ _ _ _ _ W4.drew
 exact dI
theorem uV {P:Program} (w:World) (dT sT ty elem:TypeId) (size b o dLen dCap:Nat) (a:Addr) (sLen sCap:Nat) (cs:List Value)
  (hu:P.underlying dT=some (.slice elem)) (hs:(P.info? elem).map (·.size)=some size) (hn:cs.length=Nat.min sLen dLen*size)
  (hsrc:∀j v,cs[j]?=some v→w.cell? (a.add j)=some v) (hc:∀j,j<cs.length→(w.cell? ⟨b,o+j,none⟩).isSome=true) (hf:∀j,j<cs.length→w.frozen? ⟨b,o+j,none⟩=false) (h1:∀v∈cs,v.oneCell'=true) :
  (Builtin.copy_ #[dT,sT] ty #[.slice (some ⟨b,o,none⟩) dLen dCap,.slice (some a) sLen sCap]).run P w=.ok (goInt (Nat.min sLen dLen)) (w.setCells b o cs):=by
 have hl:=run_loadCells_list (P:=P) w a cs hsrc;have hst:=run_storeCells_cells (P:=P) b o cs 0 w (by simpa using hc) (by simpa using hf) h1;cases hq:P.info? elem with
 | none=>simp [hq] at hs
 | some i =>
  have hi:i.size=size:=by simpa [hq] using hs
  simp [Builtin.copy_,run_underlying hu,Builtin.lenOf,Builtin.firstCells,sizeOf,typeInfo,hq,hi,←hn,hl,hst]
theorem Bo {P:Program} (w:World) (dT sT ty elem:TypeId) (size:Nat) (d a:Option Addr) (dCap sCap:Nat) (hu:P.underlying dT=some (.slice elem)) (hs:(P.info? elem).map (·.size)=some size) :
  (Builtin.copy_ #[dT,sT] ty #[.slice d 0 dCap,.slice a 0 sCap]).run P w=.ok (goInt 0) w:=by
 cases hq:P.info? elem with
 | none=>simp [hq] at hs
 | some i =>
  have hl:∀(x:Addr),(loadCells x 0).run P w=.ok #[] w:=fun x=>by simpa using run_loadCells_list (P:=P) w x [] fX
  cases d<;>cases a<;>simp [Builtin.copy_,run_underlying hu,Builtin.lenOf,Builtin.firstCells,sizeOf,typeInfo,hq,storeCells,hl]
theorem wO {P:Program} {w:World} {ops:Array Oper} {rest:List Oper} {o:Oper} {a:Act} {Q:Exit→Act→World→Prop} (hgd:o.guard=none) (d s:Operand) (t t':TypeId)
  (ho:o.op=.call { callee:=.builtin .copy,args:=#[d,s],argTypes:=#[t,t'] }) (v u:Value) (hd:a.eval d=v) (hs:a.eval s=u) {v':Value} {w':World}
  (hr:(Builtin.copy_ #[t,t'] o.type #[v,u]).run P w=.ok v' w') (h:wpList P ops Q rest (a.put o.dst v') w'):wpList P ops Q (o::rest) a w:=by
 refine wpList_plain hgd fun K hK=>?_
 unfold Oper.wp;simp [execOp,ho,resolve,invoke,builtin,hd,hs,hr,Result.andThen]
 exact hK _ _ h
theorem pU:(Tryz.prog.info? 67).map (·.size)=some 2:=by kernel_rfl
theorem sD:(Tryz.prog.info? 67).map (fun i=>(i.zero,i.size,i.bytes))=some (some (.agg #[.int .i64 0,.int .i64 0]),2,16):=by kernel_rfl
theorem oR (ps:List (Int × Int)):∀u∈jV ps,u.oneCell'=true:=fun u hu=>by
 simp only [jV,List.mem_flatMap,DF,DY,or_false] at hu;obtain⟨_,_,rfl|rfl⟩:=hu<;>rfl
theorem xL (ps was:List (Int × Int)) (lo:Nat):o8 ps was lo lo=ps:=by
 simp [o8]
structure PSl (R:Rn) (lo hi:Nat) (a':Option Addr) (c':Nat):Prop where
 sl:∀w':World,(Instr.sliceAt 68 (.slice R.pa R.n R.pc) (some (.int .i64 (lo:Int))) (some (.int .i64 (hi:Int))) none).run Tryz.prog w'=.ok (.slice a' (hi-lo) c') w'
 rd:∀(w':World) (st':Rst),RunI R w' st'→Sl w' w'.heap.size a' 2 (hi-lo) (jV ((st'.ps.take hi).drop lo))
 nn:∀(w':World) (st':Rst),RunI R w' st'→Calls Tryz.prog 128 #[.slice a' (hi-lo) c'] w' fun e w2=>e=.returned (.tuple #[])∧RunI R w2 { st' with ps:=kP st'.ps lo hi }∧Fx R w' w2
 cp:∀(w':World) (st':Rst) (was:List (Int × Int)) (sa:Option Addr) (sc ty:Nat),RunI R w' st'→was.length=R.n→Sl w' w'.heap.size sa 2 (hi-lo) (jV ((was.take hi).drop lo)) →
  ∃w2,(Builtin.copy_ #[68,68] ty #[.slice a' (hi-lo) c',.slice sa (hi-lo) sc]).run Tryz.prog w'=.ok (goInt (hi-lo:Nat)) w2∧RunI R w2 { st' with ps:=o8 st'.ps was lo hi }∧Fx R w' w2
theorem zM (a':Option Addr) (c':Nat) (w:World):Calls Tryz.prog 128 #[.slice a' 0 c'] w fun e w2=>e=.returned (.tuple #[])∧w=w2:=by
 go_enter Tryz.func128,Tryz.ntmps128
 go_wp2
 go_loopw [5] (fun q wr=>q=.int .i64 0∧wr=w) (fun q _=>0)
 case atStart=>exact⟨rfl,rfl⟩
 case round =>
  exact dU
theorem psl {R:Rn} (ok:RnOk R) {w:World} {st:Rst} (h:RunI R w st) {lo hi:Nat} (h1:lo≤hi) (h2:hi≤R.n):∃a' c',PSl R lo hi a' c':=by
 have hnc:R.n≤R.pc:=by
  rcases h.ps.2 with⟨hv,h0⟩|⟨g,cap,cur,hv,_,_,hnc,_⟩
  ·omega
  ·injection hv with _ _ hv;omega
 rcases Nat.eq_or_lt_of_le h1 with e|hlt
 ·subst e
  refine⟨if R.pc=lo then R.pa else R.pa.map (·.add (lo*2)),R.pc-lo,fun w'=>?_,fun w' st' hr=>?_,fun w' st' hr=>?_,fun w' st' was sa sc ty hr hl hs=>?_⟩
  ·go_simp
   intro h;omega
  ·rw [show lo-lo=0 by omega,List.drop_take,show lo-lo=0 by omega,List.take_zero];exact Sl.none_ _ _ _ _
  ·rw [show lo-lo=0 by omega,ph]
   exact(zM _ _ w').mono fun e w2 ⟨e1,e2⟩=>by subst e2;exact⟨e1,hr,Gx.refl _ _⟩
  ·rw [show lo-lo=0 by omega,xL]
   exact⟨w',Bo w' _ _ ty _ 2 _ _ _ _ Tryz.underlying68 pU,hr,Gx.refl _ _⟩
 ·obtain⟨b,hb⟩:=h.row fR
  refine⟨some ⟨b,lo*2,none⟩,R.pc-lo,fun w'=>?_,fun w' st' hr=>?_,fun w' st' hr=>?_,fun w' st' was sa sc ty hr hl hs=>?_⟩
  ·rw [hb]
   have:R.pc≠lo:=fR
   go_simp
   intro h;omega
  ·have hps:=hr.ps
   have hlen:=hr.len;unfold Rn.pv at hps;rw [hb] at hps;refine⟨by rw [ko,D3,DT];omega,fun _=>⟨b,lo*2,rfl,(hps.lt b rfl).2,fun j u hj=>?_⟩⟩;have e1:jV st'.ps=jV (st'.ps.take lo)++(jV ((st'.ps.take hi).drop lo)++jV (st'.ps.drop hi)):=by
    rw [←lf,←lf];congr 1;rw [List.drop_take,←D6];conv=>lhs;rw [←List.take_append_drop hi st'.ps]
    congr 1
    rw [←List.take_add,show lo+(hi-lo)=hi by omega]
   have hjl:=(Dw.1 hj).1;have hlo:(jV (st'.ps.take lo)).length=lo*2:=by rw [ko,DT];omega
   have hjl2:=hjl;rw [ko,D3,DT] at hjl2;rw [hps.cellAt _ fR,e1,DJ fR,hlo,Nat.add_sub_cancel_left,DG hjl];exact hj
  ·exact none_any ok hr b lo hi _ hb h1 h2
  ·have hps:=hr.ps
   have hlen:=hr.len;unfold Rn.pv at hps;rw [hb] at hps;obtain⟨sb,so,rfl,hsb,hsc⟩:=hs.2 fR;have hcl:=hs.1;have hpb:R.pv.ownBlock=some b:=by unfold Rn.pv;rw [hb];rfl
   have hrun:=uV (P:=Tryz.prog) w' 68 68 ty 67 2 b (lo*2) (hi-lo) (R.pc-lo) ⟨sb,so,none⟩ (hi-lo) sc (jV ((was.take hi).drop lo)) Tryz.underlying68 pU (by rw [hcl];simp)
    (fun j v hj=>by
     have hadd:(⟨sb,so,none⟩:Addr).add j=⟨sb,so+j,none⟩:=by unfold Addr.add;split<;>simp_all
     rw [hadd];exact hsc j v hj)
    (fun j hj=>by rw [hps.cellAt _ fR,Dt (by rw [ko];omega)];rfl)
    (fun j hj=>hps.frozenAt _) (oR _)
   have hset:=uI (jV ((was.take hi).drop lo)) (jV ((st'.ps.take hi).drop lo)) (jV (st'.ps.take lo)) (jV (st'.ps.drop hi)) (w:=w') (B:=R.B) (e:=67) (sz:=2) (n:=R.n) (g:=b) (cap:=R.pc) (by
     rw [←lf,←lf];have e:st'.ps.take lo++((st'.ps.take hi).drop lo++st'.ps.drop hi)=st'.ps:=by
      rw [List.drop_take,←D6,←List.take_add,show lo+(hi-lo)=hi by omega,List.take_append_drop]
     rw [e];exact hps) (by rw [ko,ko];simp only [D3,DT];omega)
   have hlo:(jV (st'.ps.take lo)).length=lo*2:=by rw [ko,DT];omega
   rw [hlo,←lf,←lf,←D6] at hset;have hfx:Fx R w' (w'.setCells b (lo*2) (jV ((was.take hi).drop lo))):=Gx.sets (X:=R.X) (.inr (.inr hpb)) _ _ _;have hk:=Fx.kept ok hfx;have hfx2:Gx (fun k=>k=b) w' (w'.setCells b (lo*2) (jV ((was.take hi).drop lo))):=Gx.sets (X:=fun k=>k=b) rfl _ _ _;refine⟨_,by rw [hrun];simp,⟨?_,?_,?_,hr.ch.keep hk,hr.of.keep hk,hr.fu⟩,hfx⟩
   ·exact Gx.heap hfx2 hr.box (fun e=>ok.pr (by rw [hpb,e]))
   ·exact Gx.heap hfx2 hr.tb (fun e=>ok.pt (by rw [hpb,e]))
   ·unfold Rn.pv;rw [hb];exact hset
def AgC (R:Rn) (y:Rx) (c:Str) (ng:Bool) (rs:List (Str × Str)) (lo hi:Int) (lz:Bool) (N:Nat):Prop :=
 ∀(w:World) (st:Rst) (g k times:Nat) (fv:Value) (f:Rk) (cc:List Value),PtV w R.S cc (.mk 7 c ng rs lo hi lz [y]) g→g+Rx.groupsL [y]≤R.n→RunI R w st→k≤R.C.cs.length→KW R w k fv f →
  (R.C.cs.length-k)+(lo.toNat-times)<N→times+N≤2000000 →
  Calls Tryz.prog 150 #[.pointer (some ⟨R.r,0,none⟩),.agg cc.toArray,.int .i64 k,.int .i64 times,fv] w (kL R (lV (fun k f st=>lE R.C [y] g k f st) lo hi lz g (g+Rx.groupsL [y]) f N k times st) w)
theorem againW {R:Rn} (ok:RnOk R) {y:Rx} {c:Str} {ng:Bool} {rs:List (Str × Str)} {lo hi:Int} {lz:Bool} {N:Nat} (IH:AgC R y c ng rs lo hi lz N) {w0:World} {b1 b2 b3 b4 b5 g k times:Nat} {fv:Value} {f:Rk} {cc:List Value}
  (h1:w0.heap[b1]?=some (.cells #[.pointer (some ⟨R.r,0,none⟩)] 114 (0,0))) (h2:w0.heap[b2]?=some (.cells cc.toArray 118 (0,0)))
  (h3:w0.heap[b3]?=some (.cells #[.int .i64 (k:Int)] 3 (0,0))) (h4:w0.heap[b4]?=some (.cells #[.int .i64 (times:Int)] 3 (0,0))) (h5:w0.heap[b5]?=some (.cells #[fv] 104 (0,0)))
  (x1:¬R.X b1) (x2:¬R.X b2) (x3:¬R.X b3) (x4:¬R.X b4) (x5:¬R.X b5) (hv:PtV w0 R.S cc (.mk 7 c ng rs lo hi lz [y]) g) (hg:g+Rx.groupsL [y]≤R.n) (hkn:k≤R.C.cs.length) (hf:KW R w0 k fv f)
  (hl:0≤lo∧lo≤255) (hN:(R.C.cs.length-k)+(lo.toNat-times)<N+1) (hT:times+(N+1)≤2000000) :
  KW R w0 k (.func (.func 164) #[] #[.pointer (some ⟨b3,0,none⟩),.pointer (some ⟨b4,0,none⟩),.pointer (some ⟨b2,0,none⟩),.pointer (some ⟨b1,0,none⟩),.pointer (some ⟨b5,0,none⟩)])
   (fun e s2=>if k<e∨(times:Int)<lo then lV (fun k f st=>lE R.C [y] g k f st) lo hi lz g (g+Rx.groupsL [y]) f N e (times+1) s2 else(false,s2)):=by
 refine⟨_,_,rfl,enters_of Tryz.func164 fW rfl,fun w st e hx hr hk he=>?_⟩;have hff:=hf;obtain⟨j,caps,rfl,_,_⟩:=hff;have c1:=jM (hx.heap h1 x1);have c3:=jM (hx.heap h3 x3);have c4:=jM (hx.heap h4 x4);have c5:=jM (hx.heap h5 x5);have hcc:=kH (hx.heap h2 x2);have hvw:=hv.keep (Fx.kept ok hx);have hcs:=ok.cs;by_cases hyes:k<e∨(times:Int)<lo
 ·have hC:=IH w st g e (times+1) _ f cc hvw hg hr he (hf.later hx hk) fR fR
  have HQ:Hid ((if k<e∨(times:Int)<lo then lV (fun k f st=>lE R.C [y] g k f st) lo hi lz g (g+Rx.groupsL [y]) f N e (times+1) st else(false,st))=lV (fun k f st=>lE R.C [y] g k f st) lo hi lz g (g+Rx.groupsL [y]) f N e (times+1) st):=ab (Dr hyes);obtain⟨ra,rc,ka,kn,kc,pa,pc,rfl,_,_,_⟩:=hvw.open_;obtain⟨p0,p1,p2,p3,p4,p5,p6,p7,p8,p9,p10⟩:=jY hcc;have HC:=ab hC;simp only [Nat.zero_add] at p1 p2 p3 p4 p5 p6 p7 p8 p9 p10;unfold ptc at HC;show Calls Tryz.prog 164 _ w _
  simp only
  rw [HQ.out];by_cases hke:k<e
  ·clear hC IH hf hv hvw hx hr ok h1 h2 h3 h4 h5 hcc hyes HQ hN
   exact cf
  ·have hte:(times:Int)<lo:=fR
   have hek:e=k:=fR;subst hek;clear hC IH hf hv hvw hx hr ok h1 h2 h3 h4 h5 hcc hyes HQ hN hk hke;exact cf
 ·have HQ:Hid ((if k<e∨(times:Int)<lo then lV (fun k f st=>lE R.C [y] g k f st) lo hi lz g (g+Rx.groupsL [y]) f N e (times+1) st else(false,st))=(false,st)):=ab (Du hyes)
  obtain⟨ra,rc,ka,kn,kc,pa,pc,rfl,_,_,_⟩:=hvw.open_;obtain⟨p0,p1,p2,p3,p4,p5,p6,p7,p8,p9,p10⟩:=jY hcc;simp only [Nat.zero_add] at p1 p2 p3 p4 p5 p6 p7 p8 p9 p10;have hek:e=k:=fR;have hte:¬(times:Int)<lo:=fR;have HR:=ab hr;subst hek;show Calls Tryz.prog 164 _ w _
  simp only
  rw [HQ.out];clear IH hf hv hvw hx hr ok h1 h2 h3 h4 h5 hcc hyes HQ hN hk;show Calls Tryz.prog 164 #[.int .i64 (e:Int),.pointer (some ⟨b3,0,none⟩),.pointer (some ⟨b4,0,none⟩),.pointer (some ⟨b2,0,none⟩),.pointer (some ⟨b1,0,none⟩),.pointer (some ⟨b5,0,none⟩)] w _
  go_enter Tryz.func164,Tryz.ntmps164
  go_wp2
  go_ret
  exact⟨rfl,HR.out,Gx.refl _ _⟩
theorem Ae {R:Rn} (ok:RnOk R) {y:Rx} (hy:TryC R y) {c:Str} {ng:Bool} {rs:List (Str × Str)} {lo hi:Int} {lz:Bool} (hl:0≤lo∧lo≤255) (hh:hi≤255) {N:Nat} (IH:AgC R y c ng rs lo hi lz N):AgC R y c ng rs lo hi lz (N+1):=by
 intro w st g k times fv f cc hv hg hr hk hf hN hT;have hff:=hf;obtain⟨j,caps,rfl,hent,_⟩:=hff;unfold Enters at hent;have hv0:=hv;obtain⟨ra,rc,ka,kn,kc,pa,pc,rfl,hrs,hks,hpc⟩:=hv0.open_;rw [show g+own5 7+Rx.groupsL [y]=g+Rx.groupsL [y] by simp [own5]] at *;obtain⟨gh,hgh⟩:∃gh,g+Rx.groupsL [y]=gh:=⟨_,rfl⟩;rw [hgh] at hg hv ⊢;have hgl:g≤gh:=fR;have hgy:g+y.groups≤R.n:=by simp only [Rx.groupsL] at hgh;omega
 obtain⟨P,hP⟩:∃P,P=ptc 7 c ng ra rs.length rc lo hi lz ka kn kc pa [y].length pc g gh:=⟨_,rfl⟩;obtain⟨W5,hW5⟩:∃W5,W5=((((w.alloc (.cells #[.pointer (some ⟨R.r,0,none⟩)] 114)).alloc (.cells P.toArray 118)).alloc (.cells #[.int .i64 (k:Int)] 3)).alloc (.cells #[.int .i64 (times:Int)] 3)).alloc (.cells #[.func (.func j) #[] caps] 104):=⟨_,rfl⟩;have hb5:Below w.heap.size w W5:=by rw [hW5];exact(((((Below.refl _ _).alloc (Dv _) _).alloc fS _).alloc fS _).alloc fS _).alloc fS _
 have h1:W5.heap[w.heap.size]?=some (.cells #[.pointer (some ⟨R.r,0,none⟩)] 114 (0,0)):=by
  rw [hW5,Below.heap_alloc _ _ _ fS,Below.heap_alloc _ _ _ fS,Below.heap_alloc _ _ _ fS,Below.heap_alloc _ _ _ fS];exact heap_alloc_new w _
 have h2:W5.heap[w.heap.size+1]?=some (.cells P.toArray 118 (0,0)):=by
  rw [hW5,Below.heap_alloc _ _ _ fS,Below.heap_alloc _ _ _ fS,Below.heap_alloc _ _ _ fS];have:=heap_alloc_new (w.alloc (.cells #[.pointer (some ⟨R.r,0,none⟩)] 114)) (.cells P.toArray 118)
  rw [D0] at this;exact this
 have h3:W5.heap[w.heap.size+1+1]?=some (.cells #[.int .i64 (k:Int)] 3 (0,0)):=by
  rw [hW5,Below.heap_alloc _ _ _ fS,Below.heap_alloc _ _ _ fS];have:=heap_alloc_new ((w.alloc (.cells #[.pointer (some ⟨R.r,0,none⟩)] 114)).alloc (.cells P.toArray 118)) (.cells #[.int .i64 (k:Int)] 3)
  rw [D0,D0] at this;exact this
 have h4:W5.heap[w.heap.size+1+1+1]?=some (.cells #[.int .i64 (times:Int)] 3 (0,0)):=by
  rw [hW5,Below.heap_alloc _ _ _ fS];have:=heap_alloc_new (((w.alloc (.cells #[.pointer (some ⟨R.r,0,none⟩)] 114)).alloc (.cells P.toArray 118)).alloc (.cells #[.int .i64 (k:Int)] 3)) (.cells #[.int .i64 (times:Int)] 3)
  rw [D0,D0,D0] at this;exact this
 have h5:W5.heap[w.heap.size+1+1+1+1]?=some (.cells #[.func (.func j) #[] caps] 104 (0,0)):=by
  rw [hW5];have:=heap_alloc_new ((((w.alloc (.cells #[.pointer (some ⟨R.r,0,none⟩)] 114)).alloc (.cells P.toArray 118)).alloc (.cells #[.int .i64 (k:Int)] 3)).alloc (.cells #[.int .i64 (times:Int)] 3)) (.cells #[.func (.func j) #[] caps] 104)
  rw [D0,D0,D0,D0] at this;exact this
 have y1:¬R.X w.heap.size:=ki hr (Dv _);have y2:¬R.X (w.heap.size+1):=ki hr fR;have y3:¬R.X (w.heap.size+1+1):=ki hr fR;have y4:¬R.X (w.heap.size+1+1+1):=ki hr fR;have y5:¬R.X (w.heap.size+1+1+1+1):=ki hr fR;have hK:=againW ok (N:=N) IH h1 (by rw [hP] at h2;exact h2) h3 h4 h5 y1 y2 y3 y4 y5 (hv.later hb5) fR hk (hf.later (Fx.below hb5) (Dv _)) hl fR fR;rw [hgh] at hK;obtain⟨a',c',hpsl⟩:=psl ok hr hgl hg;have hF5:=hf.later (Fx.below hb5) (Dv _);have hKS:=hks.later hb5;have hcs:=ok.cs;have hn:=ok.n;have HO:=ab ok;have HR5:=ab (hr.later hb5);have HX5:=ab (Fx.below (R:=R) hb5);have HK:=ab hK;have HF:=ab hF5;have HP:=ab hpsl;have HPE:=ab hP;have HW:=ab hW5;have HY:=ab hy;have HKS:=ab hKS;have G1:=ab h1;have G2:Hid (W5.heap[w.heap.size+1]?=some (.cells (ptc 7 c ng ra rs.length rc lo hi lz ka kn kc pa [y].length pc g gh).toArray 118 (0,0))):=ab (hP▸h2);have G3:=ab h3;have G4:=ab h4;have G5:=ab h5;obtain⟨tk,htk⟩:∃tk:Nat→Rk→Rst→Bool × Rst,(fun k f st=>lE R.C [y] g k f st)=tk:=⟨_,rfl⟩;have HTK:Hid (∀k f st,tk k f st=tryM R.C y g k f st):=ab (fun k f st=>by rw [←htk];show lE _ _ _ _ _ _=_;conv=>lhs;unfold lE);rw [htk] at HK ⊢;obtain⟨Q,hQ⟩:∃Q,lV tk lo hi lz g gh f (N+1) k times st=Q:=⟨_,rfl⟩;rw [hQ];have HQ:Hid (orE (if lo≤(times:Int)∧lz=true then f k st else(false,st)) (fun s1 =>
  orE (if hi<0∨(times:Int)<hi then xw s1.ps g gh (tk k (fun e s2=>if k<e∨(times:Int)<lo then lV tk lo hi lz g gh f N e (times+1) s2 else(false,s2)) { s1 with ps:=kP s1.ps g gh }) else(false,s1)) fun s2 =>
  if lo≤(times:Int)∧lz=false∧s2.out=false then f k s2 else(false,s2))=Q):=ab hQ
 clear hK hF5 hKS hks hrs hpsl hP hW5 h1 h2 h3 h4 h5 ok hr hf hv hv0 hb5 hy IH htk hgh hQ;rw [←HPE.out];have htm:times≤2000000:=fR
  /- ahead of the part -/
 have hd:∀w:World,Below w.heap.size w w.drew:=fun w=>(Below.refl _ _).drew
 obtain⟨ir,hir⟩:=info_parts sD;rcases(show (((times:Int)<lo∨((lo≤(times:Int))∧lz=false))∨(lo≤(times:Int)∧lz=true)) by cases lz<;>simp<;>omega) with hA|⟨hA,hlz⟩
 case' inr =>
  obtain⟨j',caps',hff',_,hC⟩:=HF.out.call HR5.out (Dv _) hk;injection hff' with e1 _ e3
  injection e1 with e1
  subst e1;subst e3;have HC:=ab hC;clear hC;have d1:=jM ((Gx.refl R.X W5).heap G1.out y1);have d3:=jM ((Gx.refl R.X W5).heap G3.out y3);have d4:=jM ((Gx.refl R.X W5).heap G4.out y4);have d5:=jM ((Gx.refl R.X W5).heap G5.out y5);obtain⟨p0,p1,p2,p3,p4,p5,p6,p7,p8,p9,p10⟩:=jY (kH ((Gx.refl R.X W5).heap G2.out y2));simp only [Nat.zero_add] at p1 p2 p3 p4 p5 p6 p7 p8 p9 p10;rw [hlz] at p6;go_enter Tryz.func150,Tryz.ntmps150
  go_upto_region 1 with fail
  rw [←HW.out];go_wp2_with (go_at_fn j;refine HC.out.mono ?_)
  rintro x W1 ⟨rfl,hr1,hx1⟩;obtain⟨q,hq⟩:∃q,f k st=q:=⟨_,rfl⟩;have HQ0:=ab HQ.out;rw [Dr ⟨hA,hlz⟩,hq] at HQ0;rw [hq] at hr1 ⊢;obtain⟨bo,s1⟩:=q;have HR1:=ab hr1;have HX1:=ab hx1;clear d1 d3 d4 d5 p0 p1 p2 p3 p4 p5 p6 p7 p8 p9 p10;clear hq hr1 hx1 HC HQ HR5 HW;cases bo
  case' true =>
   go_wp2
   go_ret
   rw [←HQ0.out];exact⟨rfl,HR1.out,HX5.out.trans HX1.out⟩
  case' false =>
   have HQ1:Hid (orE (if hi<0∨(times:Int)<hi then xw s1.ps g gh (tk k (fun e s2=>if k<e∨(times:Int)<lo then lV tk lo hi lz g gh f N e (times+1) s2 else(false,s2)) { s1 with ps:=kP s1.ps g gh }) else(false,s1)) (fun s2 =>
    if lo≤(times:Int)∧lz=false∧s2.out=false then f k s2 else(false,s2))=Q):=HQ0
   clear HQ0;go_upto_region 3 with fail
 case' inl =>
  have HQ1:Hid (orE (if hi<0∨(times:Int)<hi then xw st.ps g gh (tk k (fun e s2=>if k<e∨(times:Int)<lo then lV tk lo hi lz g gh f N e (times+1) s2 else(false,s2)) { st with ps:=kP st.ps g gh }) else(false,st)) (fun s2 =>
   if lo≤(times:Int)∧lz=false∧s2.out=false then f k s2 else(false,s2))=Q):=ab (by
    have h:=HQ.out;rw [Du (by rintro⟨h1,h2⟩;rcases hA with h|⟨_,h⟩;omega;rw [h] at h2;cases h2)] at h;simpa [orE] using h)
  clear HQ;have d1:=jM ((Gx.refl R.X W5).heap G1.out y1);have d3:=jM ((Gx.refl R.X W5).heap G3.out y3);have d4:=jM ((Gx.refl R.X W5).heap G4.out y4);have d5:=jM ((Gx.refl R.X W5).heap G5.out y5);obtain⟨p0,p1,p2,p3,p4,p5,p6,p7,p8,p9,p10⟩:=jY (kH ((Gx.refl R.X W5).heap G2.out y2));simp only [Nat.zero_add] at p1 p2 p3 p4 p5 p6 p7 p8 p9 p10;go_enter Tryz.func150,Tryz.ntmps150
  go_upto_region 1 with fail
  rw [←HW.out];rcases hA with hA|⟨hA,hlz⟩
  case' inl=>go_upto_region 3 with fail
  case' inr =>
   rw [hlz] at p6;go_upto_region 3 with fail
  all_goals
   clear d1 d3 d4 d5 p0 p1 p2 p3 p4 p5 p6 p7 p8 p9 p10;obtain⟨W1,hw1⟩:∃W1,W1=W5:=⟨_,rfl⟩;have HX1:Hid (Fx R W5 W1):=ab (by rw [hw1];exact Gx.refl _ _);have HR1:Hid (RunI R W1 st):=ab (by rw [hw1];exact HR5.out);rw [←hw1];obtain⟨s1,hs1⟩:∃s1,s1=st:=⟨_,rfl⟩;rw [←hs1] at HR1 HQ1;clear hw1 hs1 HW HR5
  /- the part -/
 all_goals
  have d1:=jM ((HX1.out).heap G1.out y1);have d3:=jM ((HX1.out).heap G3.out y3);have d4:=jM ((HX1.out).heap G4.out y4);have d5:=jM ((HX1.out).heap G5.out y5);obtain⟨p0,p1,p2,p3,p4,p5,p6,p7,p8,p9,p10⟩:=jY (kH ((HX1.out).heap G2.out y2));simp only [Nat.zero_add] at p1 p2 p3 p4 p5 p6 p7 p8 p9 p10;obtain⟨bb,hbb⟩:∃bb:Bool,(bb=true∧((hi<0)∨(¬hi<0∧(times:Int)<hi)))∨(bb=false∧(¬hi<0∧¬(times:Int)<hi)):=by
   by_cases h1:hi<0
   ·exact⟨true,.inl ⟨rfl,.inl h1⟩⟩
   ·by_cases h2:(times:Int)<hi
    ·exact⟨true,.inl ⟨rfl,.inr ⟨h1,h2⟩⟩⟩
    ·exact⟨false,.inr ⟨rfl,h1,h2⟩⟩
  cases bb
  case' false =>
   have hB:¬hi<0∧¬(times:Int)<hi:=by simpa using hbb
   obtain⟨hB1,hB2⟩:=hB;have HQ3:Hid ((if lo≤(times:Int)∧lz=false∧s1.out=false then f k s1 else(false,s1))=Q):=ab (by
    have h:=HQ1.out;rw [Du fR] at h;simpa [orE] using h)
   clear hbb HQ1;go_upto_region 9 with fail
   obtain⟨w4,hw4⟩:∃w4,w4=W1:=⟨_,rfl⟩;obtain⟨s2,hs2⟩:∃s2,s2=s1:=⟨_,rfl⟩;have HX4:Hid (Fx R W5 w4):=ab (by rw [hw4];exact HX1.out);have HR4:Hid (RunI R w4 s2):=ab (by rw [hw4,hs2];exact HR1.out);rw [←hs2] at HQ3;rw [←hw4];clear d1 d3 d4 d5 p0 p1 p2 p3 p4 p5 p6 p7 p8 p9 p10;clear hw4 hs2 HX1 HR1
  case' true =>
   have hB:(hi<0)∨(¬hi<0∧(times:Int)<hi):=by simpa using hbb
   have HQB:Hid (orE (xw s1.ps g gh (tk k (fun e s2=>if k<e∨(times:Int)<lo then lV tk lo hi lz g gh f N e (times+1) s2 else(false,s2)) { s1 with ps:=kP s1.ps g gh })) (fun s2 =>
    if lo≤(times:Int)∧lz=false∧s2.out=false then f k s2 else(false,s2))=Q):=ab (by
    have h:=HQ1.out;rw [Dr fR] at h;exact h)
   clear hbb HQ1;have c14:=HR1.out.c14 HO.out;have hsl:=HP.out.sl;have hlen1:=HR1.out.len;rcases hB with hB|⟨hB1,hB2⟩
   all_goals
    go_upto_region 4 with fail
    go_still_tail 9,fW
    change wpList _ _ _ _ _ W1.drew
    have hrd:=HP.out.rd W1.drew s1 (HR1.out.later (hd W1));have HRD:=ab hrd;clear hrd;go_wp2_with (at_builtin;refine kf W1.drew.heap.size 67 rfl _ _ 68 rfl Tryz.underlying68 hir rfl fU rfl (World.ownsRow_nil _ _ _ _) rfl HRD.out (oR _) fR fR fU (Dv _) ?_)
    intro v1 w1 ho1 hg1 hb1 _;obtain⟨sa,sc,rfl⟩:=jX ho1;have HO1:=ab ho1;have HX2:Hid (Fx R W5 w1):=ab (HX1.out.trans ((Fx.below (hd W1)).trans (Fx.below hb1)));have HR2:Hid (RunI R w1 s1):=ab ((HR1.out.later (hd W1)).later hb1);have hnew:∀b,(Value.slice sa (gh-g) sc).ownBlock=some b→¬R.X b:=fun b hb=>ki HR1.out (ho1.lt b hb).1
    have HNW:=ab hnew;clear d1 d3 d4 d5 p0 p1 p2 p3 p4 p5 p6 p7 p8 p9 p10;clear ho1 hg1 hb1 HRD c14 hnew;have d1:=jM ((HX2.out).heap G1.out y1);have d3:=jM ((HX2.out).heap G3.out y3);have d4:=jM ((HX2.out).heap G4.out y4);have d5:=jM ((HX2.out).heap G5.out y5);obtain⟨p0,p1,p2,p3,p4,p5,p6,p7,p8,p9,p10⟩:=jY (kH ((HX2.out).heap G2.out y2));simp only [Nat.zero_add] at p1 p2 p3 p4 p5 p6 p7 p8 p9 p10;have c14:=HR2.out.c14 HO.out;have hnn:=HP.out.nn w1.drew s1 (HR2.out.later (hd w1));have HNN:=ab hnn;clear hnn;go_upto_region 5 with fail
    go_still_tail 9,fW
    change wpList _ _ _ _ _ w1.drew
    go_wp2_with (go_at_call 128;refine HNN.out.mono ?_)
    rintro x w2 ⟨rfl,hr3,hx3⟩;have HX3:Hid (Fx R W5 w2):=ab (HX2.out.trans ((Fx.below (hd w1)).trans hx3));have HR3:=ab hr3;have HO3:=ab (pT (lX HO1.out (hd w1)) hx3 HNW.out);clear d1 d3 d4 d5 p0 p1 p2 p3 p4 p5 p6 p7 p8 p9 p10;clear hr3 hx3 c14 HNN;obtain⟨b,o,cy,hpa,_,_,hvy,hcy,_⟩:=(HKS.out.keep (Fx.kept HO.out HX3.out)).head;have hvy':=hvy;obtain⟨kd,ch,ng',rs',lo',hi',lz',xs⟩:=y;obtain⟨ra',rc',ka',kn',kc',pa',pc',rfl,_,_,_⟩:=hvy'.open_;obtain⟨u0,u1,u2,u3,u4,u5,u6,u7,u8,u9,u10⟩:=jY hcy;have hC:=HY.out w2.drew _ (g+own5 7) k _ _ _ (hvy.later (hd w2)) hgy (HR3.out.later (hd w2)) hk (HK.out.later (HX3.out.trans (Fx.below (hd w2))) (Dv _));have HC:=ab hC;clear hC hvy hvy' hcy;unfold ptc at HC;have d1:=jM ((HX3.out).heap G1.out y1);have d3:=jM ((HX3.out).heap G3.out y3);have d4:=jM ((HX3.out).heap G4.out y4);have d5:=jM ((HX3.out).heap G5.out y5);obtain⟨p0,p1,p2,p3,p4,p5,p6,p7,p8,p9,p10⟩:=jY (kH ((HX3.out).heap G2.out y2));simp only [Nat.zero_add] at p1 p2 p3 p4 p5 p6 p7 p8 p9 p10;rw [hpa] at p8;simp only [Dx,DP,Nat.zero_add] at p8;clear hpa;go_upto_region 6 with fail
    go_still_tail 7,fW
    change wpList _ _ _ _ _ w2.drew
    go_wp2_with (go_at_call 129;refine HC.out.mono ?_)
    rintro x w3 ⟨rfl,hr4,hx4⟩;have HTQ:=HTK.out k (fun e s2=>if k<e∨(times:Int)<lo then lV tk lo hi lz g gh f N e (times+1) s2 else(false,s2)) { s1 with ps:=kP s1.ps g gh };have HQC:=ab HQB.out;rw [HTQ] at HQC;obtain⟨q,hq⟩:∃q,tryM R.C (.mk kd ch ng' rs' lo' hi' lz' xs) g k (fun e s2=>if k<e∨(times:Int)<lo then lV tk lo hi lz g gh f N e (times+1) s2 else(false,s2)) { s1 with ps:=kP s1.ps g gh }=q:=⟨_,rfl⟩;have hq':tryM R.C (.mk kd ch ng' rs' lo' hi' lz' xs) (g+own5 7) k (fun e s2=>if k<e∨(times:Int)<lo then lV tk lo hi lz g gh f N e (times+1) s2 else(false,s2)) { s1 with ps:=kP s1.ps g gh }=q:=hq;rw [hq] at HQC;rw [hq'] at hr4 ⊢;obtain⟨bo,s3⟩:=q;have HX4':Hid (Fx R W5 w3):=ab (HX3.out.trans ((Fx.below (hd w2)).trans hx4));have HR4':=ab hr4;have HO4:=ab (pT (lX HO3.out (hd w2)) hx4 HNW.out);clear d1 d3 d4 d5 p0 p1 p2 p3 p4 p5 p6 p7 p8 p9 p10;clear hr4 hx4 HTQ hq hq' HC HQB u0 u1 u2 u3 u4 u5 u6 u7 u8 u9 u10;cases bo
    case' true =>
     go_wp2
     go_ret
     rw [←HQC.out];exact⟨rfl,HR4'.out,HX5.out.trans HX4'.out⟩
    case' false =>
     have HQ2:Hid ((if lo≤(times:Int)∧lz=false∧s3.out=false then f k { s3 with ps:=o8 s3.ps s1.ps g gh } else(false,{ s3 with ps:=o8 s3.ps s1.ps g gh }))=Q):=ab (by
      have h:=HQC.out;simpa [orE,xw] using h)
     have hwr:=Sl.of_own (lX HO4.out (hd w3));obtain⟨w4,hrun,hr5,hx5⟩:=HP.out.cp w3.drew s3 s1.ps sa sc 3 (HR4'.out.later (hd w3)) hlen1 hwr;have HRUN:=ab hrun;have HX4:Hid (Fx R W5 w4):=ab (HX4'.out.trans ((Fx.below (hd w3)).trans hx5));have HR4:=ab hr5;clear hrun hr5 hx5 hwr HQC;have d1:=jM ((HX4'.out).heap G1.out y1);have d3:=jM ((HX4'.out).heap G3.out y3);have d4:=jM ((HX4'.out).heap G4.out y4);have d5:=jM ((HX4'.out).heap G5.out y5);obtain⟨p0,p1,p2,p3,p4,p5,p6,p7,p8,p9,p10⟩:=jY (kH ((HX4'.out).heap G2.out y2));simp only [Nat.zero_add] at p1 p2 p3 p4 p5 p6 p7 p8 p9 p10;have c14:=HR4'.out.c14 HO.out;go_upto_region 8 with fail
     go_still_tail 10,fW
     change wpList _ _ _ _ _ w3.drew
     refine wO rfl _ _ _ _ rfl _ _ rfl rfl HRUN.out ?_;go_upto_region 9 with fail
     obtain⟨s2,hs2⟩:∃s2,s2={ s3 with ps:=o8 s3.ps s1.ps g gh }:=⟨_,rfl⟩;have HQ3:Hid ((if lo≤(times:Int)∧lz=false∧s2.out=false then f k s2 else(false,s2))=Q):=ab (by rw [hs2];exact HQ2.out);rw [←hs2] at HR4;clear d1 d3 d4 d5 p0 p1 p2 p3 p4 p5 p6 p7 p8 p9 p10;clear c14 hs2 HQ2
  /- behind the part -/
 all_goals
  have d1:=jM ((HX4.out).heap G1.out y1);have d3:=jM ((HX4.out).heap G3.out y3);have d4:=jM ((HX4.out).heap G4.out y4);have d5:=jM ((HX4.out).heap G5.out y5);obtain⟨p0,p1,p2,p3,p4,p5,p6,p7,p8,p9,p10⟩:=jY (kH ((HX4.out).heap G2.out y2));simp only [Nat.zero_add] at p1 p2 p3 p4 p5 p6 p7 p8 p9 p10;have c16:=HR4.out.c16 HO.out;by_cases hC1:lo≤(times:Int)
  ·try (exfalso;omega)
   all_goals
    cases hz:lz with
    | false =>
     try (exfalso;rw [hz] at hlz;cases hlz;done)
     all_goals
      rw [hz] at p6;cases ho:s2.out with
      | false =>
       rw [ho] at c16;have HQ4:=ab HQ3.out;rw [Dr ⟨hC1,hz,ho⟩] at HQ4;obtain⟨j',caps',hff',_,hC⟩:=(HF.out.later HX4.out (Dv _)).call HR4.out (Dv _) hk;injection hff' with e1 _ e3
       injection e1 with e1
       subst e1;subst e3;have HC:=ab hC;clear hC hz ho HQ3;go_wp2_with (go_at_fn j;refine HC.out.mono ?_)
       rintro x w9 ⟨rfl,hr9,hx9⟩;rw [HQ4.out] at hr9 ⊢;go_wp2
       go_ret
       exact⟨rfl,hr9,HX5.out.trans (HX4.out.trans hx9)⟩
      | true =>
       rw [ho] at c16;have HQ4:=ab HQ3.out;rw [Du (by rintro⟨_,_,h⟩;rw [ho] at h;cases h)] at HQ4;clear hz ho HQ3;exact dE
    | true =>
     try (exfalso;rw [hz] at hlz;cases hlz;done)
     all_goals
      rw [hz] at p6;have HQ4:=ab HQ3.out;rw [Du (by rintro⟨_,h,_⟩;rw [hz] at h;cases h)] at HQ4;clear hz HQ3;exact dE
  ·try (exfalso;omega)
   all_goals
    have HQ4:=ab HQ3.out;rw [Du (fun h=>hC1 h.1)] at HQ4;have hC2:(times:Int)<lo:=fR;clear HQ3 hC1;exact dE
theorem wE {R:Rn} (ok:RnOk R) {y:Rx} (hy:TryC R y) {c:Str} {ng:Bool} {rs:List (Str × Str)} {lo hi:Int} {lz:Bool} (hl:0≤lo∧lo≤255) (hh:hi≤255):∀N,AgC R y c ng rs lo hi lz N
 | 0=>fun w st g k times fv f cc hv hg hr hk hf hN hT=>by omega
 | N+1=>Ae ok hy hl hh (wE ok hy hl hh N)
end Go.Proofs.YtjggmmaojklmpaaGreatDoor
