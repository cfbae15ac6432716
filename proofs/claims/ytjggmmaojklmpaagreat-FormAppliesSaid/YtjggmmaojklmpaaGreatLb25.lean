/- walk of rxrun: one -/
import Derived.Test.YtjggmmaojklmpaaGreatLb24
set_option maxRecDepth 100000
set_option maxHeartbeats 4000000
namespace Go.Proofs.YtjggmmaojklmpaaGreat
open Go.RowKit
theorem lJ:Tryz.prog.underlying 51=some (.struct (Tryz.prog.fieldsOf 51)):=by kernel_rfl
theorem kK:(Tryz.prog.info? 51).map (·.size)=some 3:=by kernel_rfl
def mz:Value:=.agg #[.int .i64 0,.int .i64 0,.slice none 0 0]
def OneP (R:Rn) (k:Nat) (q:Option (Nat × List (Int × Int)) × Rst) (w:World) (e:Ending) (w':World):Prop :=
 RunJ R w' q.2∧Gx R.Y w w'∧match q.1 with
  | none=>e=.returned (.tuple #[mz,.bool false])
  | some (en,ps)=>∃a c,e=.returned (.tuple #[.agg #[.int .i64 ((R.C.offs.getD k 0:Nat):Int),.int .i64 ((R.C.offs.getD en 0:Nat):Int),.slice a R.n c],.bool true])∧SlS w' (fun b=>w.heap.size≤b) a 2 R.n (jV ps)∧ps.length=R.n∧k≤en∧en≤R.C.cs.length
theorem ex_fld {o:Oper} {a:Act} {w:World} {t r:Nat} (ho:o.op=.fieldAddr 123 (.tmp t) 3) (e:a.tmps[t]?=some (.pointer (some ⟨r,0,none⟩))):(execOp a.eval o).run Tryz.prog w=.ok (.value (.pointer (some ⟨r,13,none⟩))) w:=by
 have e2:=pm e;simp only [execOp,ho];go_simp
theorem ex_fld4 {o:Oper} {a:Act} {w:World} {t r:Nat} (ho:o.op=.fieldAddr 123 (.tmp t) 4) (e:a.tmps[t]?=some (.pointer (some ⟨r,0,none⟩))):(execOp a.eval o).run Tryz.prog w=.ok (.value (.pointer (some ⟨r,14,none⟩))) w:=by
 have e2:=pm e;simp only [execOp,ho];go_simp
theorem BY {o:Oper} {a:Act} {w:World} {x y b f n cap k:Nat} (ho:o.op=.indexAddr 90 (.tmp x) (.tmp y)) (e1:a.tmps[x]?=some (.slice (some ⟨b,f,none⟩) n cap)) (e2:a.tmps[y]?=some (.int .i64 (k:Int))) (hk:k<n):(execOp a.eval o).run Tryz.prog w=.ok (.value (.pointer (some ⟨b,f+k,none⟩))) w:=by
 exact dF
theorem ex_bld {o:Oper} {a:Act} {w:World} {x y:Nat} {u v:Int} (ho:o.op=.build 48 #[(0,.tmp x),(1,.tmp y)]) (e1:a.tmps[x]?=some (.int .i64 u)) (e2:a.tmps[y]?=some (.int .i64 v)):(execOp a.eval o).run Tryz.prog w=.ok (.value (.agg #[.int .i64 u,.int .i64 v])) w:=by
 exact dF
theorem ex_bldM {o:Oper} {a:Act} {w:World} {x y:Nat} {u v:Int} {A:Option Addr} {n c:Nat} (ho:o.op=.build 51 #[(0,.tmp x),(1,.tmp y)]) (e1:a.tmps[x]?=some (.agg #[.int .i64 u,.int .i64 v])) (e2:a.tmps[y]?=some (.slice A n c)):(execOp a.eval o).run Tryz.prog w=.ok (.value (.agg #[.int .i64 u,.int .i64 v,.slice A n c])) w:=by
 exact dF
theorem ex_asg {P:Program} {o:Oper} {a:Act} {w:World} {v:Value} (ho:o.op=.assign (.const v)):(execOp a.eval o).run P w=.ok (.value v) w:=by
 simp [execOp,ho,Act.eval]
theorem Aw {P:Program} {ops:Array Oper} {rest:List Oper} {o:Oper} {a:Act} {w:World} {Q:Exit→Act→World→Prop} {v:Value} (hgd:o.guard=none) (hx:(execOp a.eval o).run P w=.ok (.value v) w) (h:wpList P ops Q rest (a.put o.dst v) w):wpList P ops Q (o::rest) a w :=
 wpList_plain hgd fun _ hK=>by
  unfold Oper.wp;rw [hx];exact hK _ _ h
theorem yt {a:Act} {d:Nat} (v:Value) (h:d<a.tmps.size):(a.put (some d) v).tmps[d]?=some v:=by
 simp [Act.put,h]
theorem ve {a:Act} {d t:Nat} (v:Value) (h:d≠t):(a.put (some d) v).tmps[t]?=a.tmps[t]?:=by
 simp [Act.put,h]
theorem ld_slI {w:World} {ad:Addr} {a:Option Addr} {n c:Nat} (h:w.cell? ad=some (.slice a n c)):(Instr.loadAt 90 (.pointer (some ad))).run Tryz.prog w=.ok (.slice a n c) w:=by go_simp
theorem ld_slS {w:World} {ad:Addr} {a:Option Addr} {n c:Nat} (h:w.cell? ad=some (.slice a n c)):(Instr.loadAt 49 (.pointer (some ad))).run Tryz.prog w=.ok (.slice a n c) w:=by go_simp
def one6 (r b f k e ka ea nc oc:Nat) (pa:Option Addr) (n pc:Nat) (i:Nat):Value :=
 [Value.pointer (some ⟨r,0,none⟩),.pointer (some ⟨r,0,none⟩),.pointer (some ⟨r,13,none⟩),.slice (some ⟨b,f,none⟩) nc oc,.int .i64 (k:Int),.pointer (some ⟨b,f+k,none⟩),.int .i64 (ka:Int),
  .pointer (some ⟨r,0,none⟩),.pointer (some ⟨r,0,none⟩),.pointer (some ⟨r,13,none⟩),.slice (some ⟨b,f,none⟩) nc oc,.int .i64 (e:Int),.pointer (some ⟨b,f+e,none⟩),.int .i64 (ea:Int),
  .agg #[.int .i64 (ka:Int),.int .i64 (ea:Int)],.pointer (some ⟨r,0,none⟩),.pointer (some ⟨r,0,none⟩),.pointer (some ⟨r,14,none⟩),.slice pa n pc].getD i undef
def OneI (W:World) (PM:Value→World→Prop) (cst:Nat→Value) (A0:Act) (W0:World) (L:Nat→Bool) (a:Act) (w':World):Prop :=
 W0.drew=W∧∃V:Nat→Value,Fm2 [29,30,31,32,33,34,35,36,37,38,39,40,41,42,43,44,45,46,47,48] V A0 a∧OneE 19 W PM (fun i v=>i=19∨v=cst i) V L w'
theorem nj {W w':World} {PM:Value→World→Prop} {VC:Nat→Value→Prop} {V:Nat→Value} {L:Nat→Bool} (hO:OneE 19 W PM VC V L w') (hP:∀v x,PM v x→Below W.heap.size W x) {ad:Addr} {u:Value} (h:W.cell? ad=some u):w'.cell? ad=some u:=by
 cases hm:L 19 with
 | false=>rw [hO.h0 hm];exact h
 | true=>exact jP (hP _ _ (hO.h1 hm)) _ _ h
structure RunT (R:Rn) (x:Rx) (w:World):Prop where
 tp:PtV w R.S R.tp x 0
 n:x.groups=R.n
 wf:x.wf=true
 sm:x.small
 lt:∀b,R.S b→b<w.heap.size
def oy (R:Rn) (st:Rst):Rst:={ st with ps:=List.replicate R.n (-1,-1),en:=-1 }
theorem RunJ.gx {X:Nat→Prop} {R:Rn} {w w':World} {st:Rst} (h:RunJ R w st) (hg:Gx X w w') (h1:¬X R.r) (h2:∀k,R.pv.ownBlock=some k→¬X k) (h3:∀b,R.S b→¬X b):RunJ R w' st:=by
 have hk:=hg.kept h3;exact⟨Gx.heap hg h.box h1,pe h.ps hg h2,h.ch.keep hk,h.of.keep hk,h.fu⟩
theorem one_any {R:Rn} (j:RnJ R) {x:Rx} {w:World} {st:Rst} (h:RunJ R w st) (hx:RunT R x w) {k:Nat} (hk:k≤R.C.cs.length) :
  Calls Tryz.prog 97 #[.pointer (some ⟨R.r,0,none⟩),.int .i64 k] w (OneP R k (oneM R.C x k st) w):=by
 obtain⟨hlr,hlp⟩:=h.lt;obtain⟨W1,hW1⟩:∃W1,W1=w.alloc (.cells #[.int .i64 0,.int .i64 0,.slice none 0 0] 51):=⟨_,rfl⟩;have hb1:Below w.heap.size w W1:=by rw [hW1];exact(Below.refl _ _).alloc (Cp _) _
 have hz1:W1.heap.size=w.heap.size+1:=by rw [hW1];simp
 have hx1:W1.heap[w.heap.size]?=some (.cells #[.int .i64 0,.int .i64 0,.slice none 0 0] 51 (0,0)):=by rw [hW1];exact heap_alloc_new w _
 have hj1:=h.later hb1;have c14:W1.cell? ⟨R.r,14,none⟩=some (.slice R.pa R.n R.pc):=by
  have hl:=j.tp;rw [Cv hj1.box];unfold Rn.cells;simp only [List.getElem?_toArray];rw [CD gu,hl];rfl
 have HN:=ab (none_all j hj1);have HJ:=ab j;have HH:=ab h;have HX:=ab hx;have HW1:=ab hW1;have HX1:=ab hx1;have HB1:=ab hb1;have HZ1:=ab hz1;clear j h hx hW1 hx1 hj1 hb1 hz1;go_enter Tryz.func97,Tryz.ntmps97
 go_upto_region 1 with fail
 rw [←HW1.out];go_wp2_with (go_at_call 128;refine HN.out.mono ?_)
 first|rintro e w2 rfl hj2 hg2|rintro e w2 ⟨rfl,hj2,hg2⟩
 have HJ2:=ab hj2;have HG2:Hid (Gx R.Y w w2):=ab ((Gx.of_below (X:=R.Y) HB1.out).to hg2 (fun _ _ h=>h));have hz2:=hg2.size;have HX2:Hid (w2.heap[w.heap.size]?=some (.cells #[.int .i64 0,.int .i64 0,.slice none 0 0] 51 (0,0))):=ab (Gx.heap hg2 HX1.out (fun e=>by
  rcases e with e|e
  ·omega
  ·have:=hlp _ e;omega))
 clear hj2 hg2 c14 HN;go_upto_region 3 with fail
 obtain⟨W3,hW3⟩:∃W3,W3=w2.alloc (.cells #[.int .i64 (-1)] 3):=⟨_,rfl⟩;rw [←hW3];obtain⟨t,ht⟩:∃t,t=w2.heap.size:=⟨_,rfl⟩;rw [←ht];have hb3:Below w2.heap.size w2 W3:=by rw [hW3];exact(Below.refl _ _).alloc (Cp _) _
 have ht3:W3.heap[t]?=some (.cells #[.int .i64 (-1)] 3 (0,0)):=by rw [hW3,ht];exact heap_alloc_new w2 _
 have hzw:w.heap.size<t:=by have:=HZ1.out;omega
 have hok:RnOk (R.at_ t):=HJ.out.ok gu (fun e=>by have:=hlp _ e;omega) (fun e=>by have:=HX.out.lt t e;omega);have hr3:RunI (R.at_ t) W3 (oy R st):=RunJ.open (st:=oy R st) (((HJ2.out.later hb3)).en (-1)) ht3;have hpt:PtV W3 R.S R.tp x 0:=HX.out.tp.keep ⟨by have:=hb3.size;omega,fun b hb hlt=>(hb3.block b gu).trans (HG2.out.block b hlt (fun e=>by
  rcases e with e|e
  ·exact(HJ.out.sr b hb).1 e
  ·exact(HJ.out.sr b hb).2 e))⟩
 have hC:=At hok x.parts x (Cp _) HX.out.wf HX.out.sm W3 (oy R st) 0 k _ _ R.tp hpt (by have:=HX.out.n;show 0+x.groups≤R.n;omega) hr3 hk (oneW hok W3 k);have hinv:=qp (C:=R.C) (n:=R.n) (F:=st.fuel) (E:=fun z=>z=-1∨∃e:Nat,z=e∧k≤e∧e≤R.C.cs.length) x 0 k (fun e s=>(true,{ s with en:=(e:Int) })) (oy R st) (by rw [HX.out.n];omega) hk
  (fun e s h1 h2 h3=>⟨h3.len,h3.sp,.inr ⟨e,rfl,h1,h2⟩,h3.fu⟩) ⟨by simp [oy],fun v hv=>.inl (by simp [oy] at hv;exact hv.2),.inl rfl,Cp _⟩
 have hone:oneM R.C x k st=(let r:=tryM R.C x 0 k (fun e s=>(true,{ s with en:=(e:Int) })) (oy R st);if r.2.en<0∨r.2.out=true then(none,r.2) else(some (r.2.en.toNat,r.2.ps),r.2)):=by
  unfold oneM oy;rw [HX.out.n]
 obtain⟨r,hr⟩:∃r,tryM R.C x 0 k (fun e s=>(true,{ s with en:=(e:Int) })) (oy R st)=r:=⟨_,rfl⟩;rw [hr] at hinv hone;have hC':Calls Tryz.prog 129 #[.pointer (some ⟨R.r,0,none⟩),.agg R.tp.toArray,.int .i64 k,.func (.func 130) #[] #[.pointer (some ⟨t,0,none⟩)]] W3 (kW (R.at_ t) r W3):=by rw [←hr];exact hC
 obtain⟨kd,ch,ng,rs,lo,hi,lz,xs⟩:=x;obtain⟨ra,rc,ka,kn,kc,pa,pc,hte,_,_,_⟩:=hpt.open_;have hbx:W3.heap[R.r]?=some (.cells (R.tp++([.bool R.C.fold,.slice R.ca R.C.cs.length R.cc,.slice R.oa (R.C.cs.length+1) R.oc,.slice R.pa R.n R.pc,.int .i64 ((oy R st).fuel:Int),.bool (oy R st).out]:List Value)).toArray 123 (0,0)):=hr3.box;have hcs3:∀(j:Nat) (u:Value),R.tp[j]?=some u→W3.cell? ⟨R.r,0+j,none⟩=some u:=fun j u hj=>by
  rw [Nat.zero_add,Cv hbx];simp only [List.getElem?_toArray];rw [CA (Cq.1 hj).1];exact hj
 rw [hte] at hcs3 hC';generalize 0+own5 kd+Rx.groupsL xs=gh at hcs3 hC'
 obtain⟨p0,p1,p2,p3,p4,p5,p6,p7,p8,p9,p10⟩:=kf hcs3;simp only [Nat.zero_add] at p1 p2 p3 p4 p5 p6 p7 p8 p9 p10;have HC:=ab hC';have HINV:=ab hinv;have HONE:=ab hone;have HOK:=ab hok;have HX3:=ab ((hb3.block _ (jO HX2.out)).trans HX2.out);have HG3:Hid (Gx R.Y w W3):=ab (HG2.out.to (Gx.of_below (X:=R.Y) hb3) (fun _ _ h=>h));have HT:=ab ht;clear hC hC' hinv hone hok hr hpt hte hbx hcs3 hb3 ht3 hW3 hr3 ht HW1 HX1;unfold ptc at HC;go_wp2_with (go_at_call 129;refine HC.out.mono ?_)
 first|rintro e w4 rfl hr4 hx4|rintro e w4 ⟨rfl,hr4,hx4⟩
 have HR4:=ab hr4;have HJ4:Hid (RunJ R w4 r.2):=ab hr4.close;have hsz4:=hx4.size;have HG4:Hid (Gx R.Y w w4):=ab (HG3.out.to hx4 (fun b hb e=>by
  rcases e with e|e|e
  ·exact .inl e
  ·have:b=t:=e;omega
  ·exact .inr e))
 have HX4:Hid (w4.heap[w.heap.size]?=some (.cells #[.int .i64 0,.int .i64 0,.slice none 0 0] 51 (0,0))):=ab (Gx.heap hx4 HX3.out (fun e=>by
  rcases e with e|e|e
  ·have:w.heap.size=R.r:=e;omega
  ·have:w.heap.size=t:=e;omega
  ·have:=hlp _ e;omega))
 have ct:=jY hr4.tb;have ct:w4.cell? ⟨t,0,none⟩=some (.int .i64 r.2.en):=ct;have c16:=hr4.c16 HOK.out;have c16:w4.cell? ⟨R.r,16,none⟩=some (.bool r.2.out):=c16;have c13:=hr4.c13 HOK.out;have c13:w4.cell? ⟨R.r,13,none⟩=some (.slice R.oa (R.C.cs.length+1) R.oc):=c13;have c14:=hr4.c14 HOK.out;have c14:w4.cell? ⟨R.r,14,none⟩=some (.slice R.pa R.n R.pc):=c14;clear hr4 hx4 p0 p1 p2 p3 p4 p5 p6 p7 p8 p9 p10 HC HX2 HG2 HJ2 HX3 HG3;have hcase:(r.2.en=-1)∨((∃e:Nat,r.2.en=e∧k≤e∧e≤R.C.cs.length)∧r.2.out=true)∨((∃e:Nat,r.2.en=e∧k≤e∧e≤R.C.cs.length)∧r.2.out=false):=by
  rcases HINV.out.en with h|h
  ·exact .inl h
  ·cases ho:r.2.out with
   | true=>exact .inr (.inl ⟨h,rfl⟩)
   | false=>exact .inr (.inr ⟨h,rfl⟩)
 have hnone:r.2.en<0∨r.2.out=true→oneM R.C (.mk kd ch ng rs lo hi lz xs) k st=(none,r.2):=fun h=>by rw [HONE.out];exact Cl h
 have HNO:=ab hnone;clear hnone;have hres:=lC (cs:=#[.int .i64 0,.int .i64 0,.slice none 0 0]) HX4.out;have HRES:=ab hres;clear hres;rcases hcase with he|⟨⟨e,he,he1,he2⟩,ho⟩|⟨⟨e,he,he1,he2⟩,ho⟩
 ·have HE:=ab (HNO.out (.inl gu))
  rw [he] at ct;clear he HNO c16;exact bk
 ·have HE:=ab (HNO.out (.inr ho))
  rw [he] at ct;rw [ho] at c16;clear he ho HNO;exact bk
 ·have HE:Hid (oneM R.C (.mk kd ch ng rs lo hi lz xs) k st=(some (e,r.2.ps),r.2)):=ab (by
   rw [HONE.out];show (if r.2.en<0∨r.2.out=true then _ else _)=_
   rw [Co (by rw [he,ho];simp),he];simp)
  rw [he] at ct;rw [ho] at c16;obtain⟨b,o,hoa,o1⟩:=HR4.out.off HOK.out hk;obtain⟨b',o',hoa',o2⟩:=HR4.out.off HOK.out he2;have hoa:R.oa=some ⟨b,o,none⟩:=hoa;have hoa':R.oa=some ⟨b',o',none⟩:=hoa';rw [hoa] at hoa' c13;injection hoa' with hoa';injection hoa' with ha1 ha2;subst ha1;subst ha2
  obtain⟨ka,hka⟩:∃n,R.C.offs.getD k 0=n:=⟨_,rfl⟩;obtain⟨ea,hea⟩:∃n,R.C.offs.getD e 0=n:=⟨_,rfl⟩;have o1:w4.cell? ⟨b,o+k,none⟩=some (.int .i64 ((R.C.offs.getD k 0:Nat):Int)):=o1;have o2:w4.cell? ⟨b,o+e,none⟩=some (.int .i64 ((R.C.offs.getD e 0:Nat):Int)):=o2;rw [hka] at o1;rw [hea] at o2;have hpl:r.2.ps.length=R.n:=HR4.out.len;have hdr:Below w4.heap.size w4 w4.drew:=(Below.refl _ _).drew;have hsl:Sl w4.drew w4.drew.heap.size R.pa 2 R.n (jV r.2.ps):=Sl.of_own (kL HJ4.out.ps hdr);have HCL:=ab (xf R.pa R.n R.pc r.2.ps w4.drew hpl.symm hsl (by have:=HJ.out.n;omega));have hcs:=HJ.out.cs;have hk1:(k:Int)<(R.C.cs.length:Int)+1:=gu;have he1':(e:Int)<(R.C.cs.length:Int)+1:=gu;have HKA:=ab hka;have HEA:=ab hea;have HPL:=ab hpl;clear he ho HNO hoa hka hea hpl hsl;have d1:w4.drew.cell? ⟨b,o+k,none⟩=some (.int .i64 (ka:Int)):=o1;have d2:w4.drew.cell? ⟨b,o+e,none⟩=some (.int .i64 (ea:Int)):=o2;have d3:w4.drew.cell? ⟨R.r,13,none⟩=some (.slice (some ⟨b,o,none⟩) (R.C.cs.length+1) R.oc):=c13;have d4:w4.drew.cell? ⟨R.r,14,none⟩=some (.slice R.pa R.n R.pc):=c14;have d5:w4.drew.cell? ⟨t,0,none⟩=some (.int .i64 (e:Int)):=ct;go_upto_region 6 with fail
  refine sk 20 gE gE (fun A0 W0 L a w'=>OneI w4.drew (fun v w9=>∃a9 c9,v=.slice a9 R.n c9∧SlS w9 (fun b=>w4.drew.heap.size≤b) a9 2 R.n (jV r.2.ps)∧Below w4.drew.heap.size w4.drew w9) (one6 R.r b o k e ka ea (R.C.cs.length+1) R.oc R.pa R.n R.pc) A0 W0 L a w') ?_;intro A0 HA;have hsz:A0.tmps.size=50:=by rw [HA.out];rfl
  have hnd:[29,30,31,32,33,34,35,36,37,38,39,40,41,42,43,44,45,46,47,48].Nodup:=gD;have hbd:∀d∈[29,30,31,32,33,34,35,36,37,38,39,40,41,42,43,44,45,46,47,48],d<A0.tmps.size:=by rw [hsz];decide
  have e0:A0.tmps[0]?=some (.pointer (some ⟨R.r,0,none⟩)):=by rw [HA.out];rfl
  have e1:A0.tmps[1]?=some (.int .i64 (k:Int)):=by rw [HA.out];rfl
  have e6:A0.tmps[6]?=some (.pointer (some ⟨t,0,none⟩)):=by rw [HA.out];rfl
  have hP:∀(v:Value) (x:World),(∃a9 c9,v=.slice a9 R.n c9∧SlS x (fun b=>w4.drew.heap.size≤b) a9 2 R.n (jV r.2.ps)∧Below w4.drew.heap.size w4.drew x)→Below w4.drew.heap.size w4.drew x:=fun v x ⟨_,_,_,_,h⟩=>h
  refine⟨?_,?_,?_⟩
  ·obtain⟨V,hV⟩:=Cc A0 [29,30,31,32,33,34,35,36,37,38,39,40,41,42,43,44,45,46,47,48]
   exact⟨rfl,V,⟨hV⟩,OneE.start _ _ _ _ _⟩
  ·refine⟨?_,?_,?_,?_,?_,?_,?_,?_,?_,?_,?_,?_,?_,?_,?_,?_,?_,?_,?_,?_,trivial⟩
   ·intro L a w' hL hd hI
    obtain⟨hW,V,hf,hO⟩:=hI;simp [lp,Region.binds] at hd
    have e:=pm ((hf.out gD).trans e0);refine l8 (kp rfl) (tV (.inl rfl)) ?_;rw [e];exact⟨hW,_,hf.put hnd hbd 0 rfl _,hO.pure 0 gD (.inr rfl)⟩
   ·intro L a w' hL hd hI
    obtain⟨hW,V,hf,hO⟩:=hI;simp [lp,Region.binds] at hd
    refine l8 (kp rfl) (Ap rfl (pm ((hf.ins hnd hbd 0 rfl).trans (CR some ((hO.vs 0 iH).resolve_left gD))))) ?_;exact⟨hW,_,hf.put hnd hbd 1 rfl _,hO.pure 1 gD (.inr rfl)⟩
   ·intro L a w' hL hd hI
    obtain⟨hW,V,hf,hO⟩:=hI;simp [lp,Region.binds] at hd
    refine l8 (kp rfl) (ex_fld rfl ((hf.ins hnd hbd 1 rfl).trans (CR some ((hO.vs 1 iH).resolve_left gD)))) ?_;exact⟨hW,_,hf.put hnd hbd 2 rfl _,hO.pure 2 gD (.inr rfl)⟩
   ·intro L a w' hL hd hI
    obtain⟨hW,V,hf,hO⟩:=hI;simp [lp,Region.binds] at hd
    refine l8 (kp rfl) (qB rfl ((hf.ins hnd hbd 2 rfl).trans (CR some ((hO.vs 2 iH).resolve_left gD))) (ld_slI (nj hO hP d3))) ?_;exact⟨hW,_,hf.put hnd hbd 3 rfl _,hO.pure 3 gD (.inr rfl)⟩
   ·intro L a w' hL hd hI
    obtain⟨hW,V,hf,hO⟩:=hI;simp [lp,Region.binds] at hd
    have e:=pm ((hf.out gD).trans e1);refine l8 (kp rfl) (tV (.inl rfl)) ?_;rw [e];exact⟨hW,_,hf.put hnd hbd 4 rfl _,hO.pure 4 gD (.inr rfl)⟩
   ·intro L a w' hL hd hI
    obtain⟨hW,V,hf,hO⟩:=hI;simp [lp,Region.binds] at hd
    refine l8 (kp rfl) (BY rfl ((hf.ins hnd hbd 3 rfl).trans (CR some ((hO.vs 3 iH).resolve_left gD))) ((hf.ins hnd hbd 4 rfl).trans (CR some ((hO.vs 4 iH).resolve_left gD))) gu) ?_;exact⟨hW,_,hf.put hnd hbd 5 rfl _,hO.pure 5 gD (.inr rfl)⟩
   ·intro L a w' hL hd hI
    obtain⟨hW,V,hf,hO⟩:=hI;simp [lp,Region.binds] at hd
    refine l8 (kp rfl) (qB rfl ((hf.ins hnd hbd 5 rfl).trans (CR some ((hO.vs 5 iH).resolve_left gD))) (AG (nj hO hP d1))) ?_;exact⟨hW,_,hf.put hnd hbd 6 rfl _,hO.pure 6 gD (.inr rfl)⟩
   ·intro L a w' hL hd hI
    obtain⟨hW,V,hf,hO⟩:=hI;simp [lp,Region.binds] at hd
    have e:=pm ((hf.out gD).trans e0);refine l8 (kp rfl) (tV (.inl rfl)) ?_;rw [e];exact⟨hW,_,hf.put hnd hbd 7 rfl _,hO.pure 7 gD (.inr rfl)⟩
   ·intro L a w' hL hd hI
    obtain⟨hW,V,hf,hO⟩:=hI;simp [lp,Region.binds] at hd
    refine l8 (kp rfl) (Ap rfl (pm ((hf.ins hnd hbd 7 rfl).trans (CR some ((hO.vs 7 iH).resolve_left gD))))) ?_;exact⟨hW,_,hf.put hnd hbd 8 rfl _,hO.pure 8 gD (.inr rfl)⟩
   ·intro L a w' hL hd hI
    obtain⟨hW,V,hf,hO⟩:=hI;simp [lp,Region.binds] at hd
    refine l8 (kp rfl) (ex_fld rfl ((hf.ins hnd hbd 8 rfl).trans (CR some ((hO.vs 8 iH).resolve_left gD)))) ?_;exact⟨hW,_,hf.put hnd hbd 9 rfl _,hO.pure 9 gD (.inr rfl)⟩
   ·intro L a w' hL hd hI
    obtain⟨hW,V,hf,hO⟩:=hI;simp [lp,Region.binds] at hd
    refine l8 (kp rfl) (qB rfl ((hf.ins hnd hbd 9 rfl).trans (CR some ((hO.vs 9 iH).resolve_left gD))) (ld_slI (nj hO hP d3))) ?_;exact⟨hW,_,hf.put hnd hbd 10 rfl _,hO.pure 10 gD (.inr rfl)⟩
   ·intro L a w' hL hd hI
    obtain⟨hW,V,hf,hO⟩:=hI;simp [lp,Region.binds] at hd
    refine l8 (kp rfl) (qB rfl ((hf.out gD).trans e6) (AG (nj hO hP d5))) ?_;exact⟨hW,_,hf.put hnd hbd 11 rfl _,hO.pure 11 gD (.inr rfl)⟩
   ·intro L a w' hL hd hI
    obtain⟨hW,V,hf,hO⟩:=hI;simp [lp,Region.binds] at hd
    refine l8 (kp rfl) (BY rfl ((hf.ins hnd hbd 10 rfl).trans (CR some ((hO.vs 10 iH).resolve_left gD))) ((hf.ins hnd hbd 11 rfl).trans (CR some ((hO.vs 11 iH).resolve_left gD))) gu) ?_;exact⟨hW,_,hf.put hnd hbd 12 rfl _,hO.pure 12 gD (.inr rfl)⟩
   ·intro L a w' hL hd hI
    obtain⟨hW,V,hf,hO⟩:=hI;simp [lp,Region.binds] at hd
    refine l8 (kp rfl) (qB rfl ((hf.ins hnd hbd 12 rfl).trans (CR some ((hO.vs 12 iH).resolve_left gD))) (AG (nj hO hP d2))) ?_;exact⟨hW,_,hf.put hnd hbd 13 rfl _,hO.pure 13 gD (.inr rfl)⟩
   ·intro L a w' hL hd hI
    obtain⟨hW,V,hf,hO⟩:=hI;simp [lp,Region.binds] at hd
    refine l8 (kp rfl) (ex_bld rfl ((hf.ins hnd hbd 6 rfl).trans (CR some ((hO.vs 6 iH).resolve_left gD))) ((hf.ins hnd hbd 13 rfl).trans (CR some ((hO.vs 13 iH).resolve_left gD)))) ?_;exact⟨hW,_,hf.put hnd hbd 14 rfl _,hO.pure 14 gD (.inr rfl)⟩
   ·intro L a w' hL hd hI
    obtain⟨hW,V,hf,hO⟩:=hI;simp [lp,Region.binds] at hd
    have e:=pm ((hf.out gD).trans e0);refine l8 (kp rfl) (tV (.inl rfl)) ?_;rw [e];exact⟨hW,_,hf.put hnd hbd 15 rfl _,hO.pure 15 gD (.inr rfl)⟩
   ·intro L a w' hL hd hI
    obtain⟨hW,V,hf,hO⟩:=hI;simp [lp,Region.binds] at hd
    refine l8 (kp rfl) (Ap rfl (pm ((hf.ins hnd hbd 15 rfl).trans (CR some ((hO.vs 15 iH).resolve_left gD))))) ?_;exact⟨hW,_,hf.put hnd hbd 16 rfl _,hO.pure 16 gD (.inr rfl)⟩
   ·intro L a w' hL hd hI
    obtain⟨hW,V,hf,hO⟩:=hI;simp [lp,Region.binds] at hd
    refine l8 (kp rfl) (ex_fld4 rfl ((hf.ins hnd hbd 16 rfl).trans (CR some ((hO.vs 16 iH).resolve_left gD)))) ?_;exact⟨hW,_,hf.put hnd hbd 17 rfl _,hO.pure 17 gD (.inr rfl)⟩
   ·intro L a w' hL hd hI
    obtain⟨hW,V,hf,hO⟩:=hI;simp [lp,Region.binds] at hd
    refine l8 (kp rfl) (qB rfl ((hf.ins hnd hbd 17 rfl).trans (CR some ((hO.vs 17 iH).resolve_left gD))) (ld_slS (nj hO hP d4))) ?_;exact⟨hW,_,hf.put hnd hbd 18 rfl _,hO.pure 18 gD (.inr rfl)⟩
   ·intro L a w' hL hd hI
    obtain⟨hW,V,hf,hO⟩:=hI;simp [lp,Region.binds] at hd
    obtain rfl:=hO.h0 hL;have ev:=pm ((hf.ins hnd hbd 18 rfl).trans (CR some ((hO.vs 18 iH).resolve_left gD)));refine rs_call (kp rfl) (ex_call (vs:=#[.slice R.pa R.n R.pc]) rfl Tryz.func131 gE (by rw [List.map_toArray];simp only [Cw,List.map_nil,ev];rfl)) (HCL.out.mono ?_);rintro z w9 ⟨a9,c9,rfl,hs9,hb9⟩;exact⟨_,rfl,hW,_,hf.put hnd hbd 19 rfl _,hO.event ⟨a9,c9,rfl,hs9,hb9⟩ (.inl rfl)⟩
  ·intro L a w9 hL hI
   obtain⟨hW,V,hf,hO⟩:=hI;obtain⟨a9,c9,hv9,hs9,hb9⟩:=hO.h1 (hL 19 gD);have v14:V 14=.agg #[.int .i64 (ka:Int),.int .i64 (ea:Int)]:=(hO.vs 14 (hL 14 gD)).resolve_left gD;have e43:a.tmps[43]?=some (.agg #[.int .i64 (ka:Int),.int .i64 (ea:Int)]):=(hf.ins hnd hbd 14 rfl).trans (CR some v14);have e48:a.tmps[48]?=some (.slice a9 R.n c9):=(hf.ins hnd hbd 19 rfl).trans (CR some hv9);have e4:a.tmps[4]?=some (.pointer (some ⟨w.heap.size,0,none⟩)):=(hf.out gD).trans (by rw [HA.out];rfl);have hza:a.tmps.size=50:=hf.size.trans hsz;have hda:a.defers=[]:=by rw [hf.eq,nR,HA.out]
   simp only [List.drop_succ_cons,C0];have hx9:=(hb9.block _ (jO HX4.out)).trans HX4.out;have hj9:=(HJ4.out.later hdr).later hb9;have hg9:Gx R.Y w w9:=HG4.out.to (Gx.of_below (X:=R.Y) (hdr.trans hb9)) (fun _ _ h=>h);have hz9:=hb9.size;have hres:=lC (cs:=#[.int .i64 (ka:Int),.int .i64 (ea:Int),.slice a9 R.n c9]) hx9;have HX9:=ab hx9;have HJ9:=ab hj9;have HG9:=ab hg9;have HS9:=ab hs9;have HR9:=ab hres;clear hx9 hj9 hg9 hs9 hb9 hf hO e0 e1 e6 hsz hbd hP d1 d2 d3 d4 d5 o1 o2 c13 c14 c16 ct hres;obtain⟨a1,ha1⟩:∃a1,a1=a.put (some 49) (.agg #[.int .i64 (ka:Int),.int .i64 (ea:Int),.slice a9 R.n c9]):=⟨_,rfl⟩;have e49:a1.tmps[49]?=some (.agg #[.int .i64 (ka:Int),.int .i64 (ea:Int),.slice a9 R.n c9]):=by rw [ha1];exact yt _ (by rw [hza];decide)
   have e4':a1.tmps[4]?=some (.pointer (some ⟨w.heap.size,0,none⟩)):=by rw [ha1];exact(ve _ gD).trans e4
   have hz1:a1.tmps.size=50:=by rw [ha1];simp [Act.put,hza]
   have e4'':(a1.put (some 5) (.bool true)).tmps[4]?=some (.pointer (some ⟨w.heap.size,0,none⟩)):=(ve _ gD).trans e4';have e5'':(a1.put (some 5) (.bool true)).tmps[5]?=some (.bool true):=yt _ (by rw [hz1];decide);refine Aw rfl (ex_bldM rfl e43 e48) ?_;rw [←ha1];refine kE rfl 51 (.tmp 4) (.tmp 49) rfl w.heap.size #[.int .i64 (ka:Int),.int .i64 (ea:Int),.slice a9 R.n c9] (pm e4') (pm e49) 51 _ HX9.out kK rfl rfl gG (W:=w9.setRow w.heap.size #[.int .i64 (ka:Int),.int .i64 (ea:Int),.slice a9 R.n c9]) rfl ?_;refine Aw rfl (ex_asg rfl) ?_;refine wpList_nil ?_;obtain⟨a2,ha2⟩:∃a2,a2=a1.put (some 5) (.bool true):=⟨_,rfl⟩;have HD2:Hid (a2.defers=[]):=ab (by rw [ha2,ha1];exact hda);rw [←ha2] at e4'' e5'';change Exit.then _ _ Exit.normal (a1.put (some 5) (.bool true)) _
   rw [←ha2];clear ha2 ha1;go_wp2
   refine CJ (nH Tryz.results97 lJ kK HR9.out rfl (by rw [Array.getD_eq_getD_getElem?,e4''];rfl) (by rw [Array.getD_eq_getD_getElem?,e5''];rfl:_=Value.bool true)) HD2.out ?_;rw [HE.out];refine⟨HJ9.out.gx (qD w9 w.heap.size _) (Nat.ne_of_lt hlr) (fun k hk e=>absurd (hlp k hk) io) (fun b hb e=>absurd (HX.out.lt b hb) gR),HG9.out.to (qD w9 w.heap.size _) (fun b hb e=>absurd hb gR),a9,c9,by rw [HKA.out,HEA.out],?_,HPL.out,he1,he2⟩;have hk9:Kept (fun b=>w4.drew.heap.size≤b) w9 (w9.setRow w.heap.size #[.int .i64 (ka:Int),.int .i64 (ea:Int),.slice a9 R.n c9]):=⟨by rw [oB];exact Cp _,fun b hb _=>lY _ (Nat.ne_of_gt (Cu (jO HX4.out) hb))⟩;exact(HS9.out.keep hk9).mono fun b hb _=>Ct (Nat.le_of_lt (jO HX4.out)) hb
def FindP (R:Rn) (q:Option (Nat × Nat × List (Int × Int)) × Rst) (k:Nat) (w:World) (e:Ending) (w':World):Prop :=
 RunJ R w' q.2∧Gx R.Y w w'∧match q.1 with
  | none=>e=.returned (.tuple #[mz,.bool false])
  | some (a,b,ps)=>∃aa c,e=.returned (.tuple #[.agg #[.int .i64 ((R.C.offs.getD a 0:Nat):Int),.int .i64 ((R.C.offs.getD b 0:Nat):Int),.slice aa R.n c],.bool true])∧SlS w' (fun b=>w.heap.size≤b) aa 2 R.n (jV ps)∧ps.length=R.n∧k≤a∧a≤b∧b≤R.C.cs.length
def FdRel (R:Rn) (x:Rx) (Q:Option (Nat × Nat × List (Int × Int)) × Rst) (k0:Nat) (w:World) (q:Value) (wr:World):Prop :=
 ∃(k N:Nat) (s:Rst),k0≤k∧k≤R.C.cs.length+1∧R.C.cs.length+1-k<N∧q=.int .i64 k∧RunJ R wr s∧Gx R.Y w wr∧wr.heap[w.heap.size]?=some (.cells #[.int .i64 0,.int .i64 0,.slice none 0 0] 51 (0,0))∧Hid (mu R.C x N k s=Q)
theorem RunT.gx {R:Rn} {x:Rx} {w w':World} (j:RnJ R) (h:RunT R x w) (hg:Gx R.Y w w'):RunT R x w' :=
 ⟨h.tp.keep (hg.kept fun b hb e=>by
  rcases e with e|e
  ·exact(j.sr b hb).1 e
  ·exact(j.sr b hb).2 e),h.n,h.wf,h.sm,fun b hb=>Cu (h.lt b hb) hg.size⟩
theorem yq {R:Rn} (j:RnJ R) {x:Rx} {w:World} {st:Rst} (h:RunJ R w st) (hx:RunT R x w) {k N:Nat} (hk:k≤R.C.cs.length+1) (hN:R.C.cs.length+1-k<N) :
  Calls Tryz.prog 59 #[.pointer (some ⟨R.r,0,none⟩),.int .i64 k] w (FindP R (mu R.C x N k st) k w):=by
 obtain⟨Q,hQ⟩:∃Q,mu R.C x N k st=Q:=⟨_,rfl⟩;rw [hQ];have HQ:=ab hQ;obtain⟨hlr,hlp⟩:=h.lt;obtain⟨W1,hW1⟩:∃W1,W1=w.alloc (.cells #[.int .i64 0,.int .i64 0,.slice none 0 0] 51):=⟨_,rfl⟩;have hb1:Below w.heap.size w W1:=by rw [hW1];exact(Below.refl _ _).alloc (Cp _) _
 have hx1:W1.heap[w.heap.size]?=some (.cells #[.int .i64 0,.int .i64 0,.slice none 0 0] 51 (0,0)):=by rw [hW1];exact heap_alloc_new w _
 have HJ1:=ab (h.later hb1);have HJ:=ab j;have HX:=ab hx;have HW1:=ab hW1;have HX1:=ab hx1;have HG1:Hid (Gx R.Y w W1):=ab (Gx.of_below hb1);have hol:=j.of;have hcs:=j.cs;clear j h hx hW1 hx1 hb1 hQ;go_enter Tryz.func59,Tryz.ntmps59
 go_upto_region 1 with fail
 rw [←HW1.out];go_loopw [1] (fun q wr=>FdRel R x Q k w q wr) (fun q _=>R.C.cs.length+1-(intOf q).toNat)
 case atStart=>exact⟨k,N,st,Cp _,hk,hN,rfl,HJ1.out,HG1.out,HX1.out,HQ⟩
 case round =>
  obtain⟨i,M,s,hki,hi,hM,rfl,hj,hg,hxb,HF⟩:=hrel;clear HQ HW1 HX1 HG1 HJ1;obtain⟨M,rfl⟩:∃m,M=m+1:=⟨M-1,by omega⟩;have hl11:=HJ.out.tp;have cell:∀(jj:Nat) (u:Value),[Value.bool R.C.fold,.slice R.ca R.C.cs.length R.cc,.slice R.oa (R.C.cs.length+1) R.oc,.slice R.pa R.n R.pc,.int .i64 (s.fuel:Int),.bool s.out][jj]?=some u→wr.cell? ⟨R.r,11+jj,none⟩=some u:=fun jj u hu=>by
   rw [Cv hj.box];unfold Rn.cells;simp only [List.getElem?_toArray];rw [CD gu,hl11,Nat.add_sub_cancel_left];exact hu
  have c13:wr.cell? ⟨R.r,13,none⟩=some (.slice R.oa (R.C.cs.length+1) R.oc):=cell 2 _ rfl;have c16:wr.cell? ⟨R.r,16,none⟩=some (.bool s.out):=cell 5 _ rfl;have HXB:=ab hxb;have HJI:=ab hj;have HGI:=ab hg;have HWR:=ab (jO hxb);have hrow:=qD wr w.heap.size #[.int .i64 0,.int .i64 0,.slice none 0 0];have HJE:Hid (RunJ R (wr.setRow w.heap.size #[.int .i64 0,.int .i64 0,.slice none 0 0]) s):=ab (hj.gx hrow (Nat.ne_of_lt hlr) (fun k hk e=>absurd (hlp k hk) io) (fun b hb e=>absurd (HX.out.lt b hb) gR));have HGE:Hid (Gx R.Y w (wr.setRow w.heap.size #[.int .i64 0,.int .i64 0,.slice none 0 0])):=ab (hg.to hrow (fun b hb e=>absurd hb gR));have HRE:=ab (lC (cs:=#[.int .i64 0,.int .i64 0,.slice none 0 0]) hxb);clear cell hl11 hxb hj hg hrow;by_cases hgo:i≤R.C.cs.length∧s.out=false
  ·obtain⟨hin,hout⟩:=hgo
   rw [hout] at c16;have hil:(i:Int)<(R.C.cs.length:Int)+1:=gu;have HO:=ab (one_any HJ.out HJI.out (RunT.gx HJ.out HX.out HGI.out) hin);obtain⟨q,hq⟩:∃q,oneM R.C x i s=q:=⟨_,rfl⟩;have HF2:Hid ((match q.1 with|some (e,ps)=>(some (i,e,ps),q.2)|none=>mu R.C x M (i+1) q.2)=Q):=ab (by
    rw [←HF.out];refine Eq.trans ?_ (Cl (c:=i<R.C.offs.length∧s.out=false) ⟨by omega,hout⟩).symm;rw [←hq];rfl)
   rw [hq] at HO;obtain⟨qo,s2⟩:=q;have HOUT:=ab hout;clear hq hout HF HJE HGE HRE;go_wp2_with (go_at_call 97;refine HO.out.mono ?_)
   rintro e w3 ⟨hj3,hg3,hm3⟩;have HJ3:=ab hj3;have HG3:Hid (Gx R.Y w w3):=ab (HGI.out.to hg3 (fun _ _ h=>h));have hx3:=Gx.heap hg3 HXB.out (fun e=>by
    rcases e with e|e
    ·omega
    ·have:=hlp _ e;omega)
   have HX3:=ab hx3;have hz3:=hg3.size;have HZ3:=ab hz3;clear hj3 hg3 hx3 HO HXB c13 c16 hz3;cases qo with
   | none =>
    simp only at hm3
    subst hm3;unfold mz;go_wp2
    go_roundw
    case rel =>
     refine⟨i+1,M,s2,by omega,by omega,by omega,by go_num,?_,?_,?_,HF2⟩
     ·exact HJ3.out.later ((Below.refl _ _).alloc (Cp _) _)
     ·exact HG3.out.to (Gx.of_below (X:=R.Y) ((Below.refl _ _).alloc (Cp _) _)) (fun _ _ h=>h)
     ·rw [Below.heap_alloc _ _ _ (jO HX3.out)];exact HX3.out
    case measure=>simp [intOf];omega
   | some y =>
    obtain⟨en,ps⟩:=y;obtain⟨aa,c,rfl,hs3,hpl,h1,h2⟩:=hm3;obtain⟨ka,hka⟩:∃n,R.C.offs.getD i 0=n:=⟨_,rfl⟩;obtain⟨ea,hea⟩:∃n,R.C.offs.getD en 0=n:=⟨_,rfl⟩;rw [hka,hea];have HKA:=ab hka;have HEA:=ab hea;have HS3:=ab hs3;have HPL:=ab hpl;obtain⟨W4,hW4⟩:∃W4,W4=w3.alloc (.cells #[.int .i64 (ka:Int),.int .i64 (ea:Int),.slice aa R.n c] 51):=⟨_,rfl⟩;have hb4:Below w3.heap.size w3 W4:=by rw [hW4];exact(Below.refl _ _).alloc (Cp _) _
    have hx4:=(hb4.block _ (jO HX3.out)).trans HX3.out;have hl4:W4.heap[w3.heap.size]?=some (.cells #[.int .i64 (ka:Int),.int .i64 (ea:Int),.slice aa R.n c] 51 (0,0)):=by rw [hW4];exact heap_alloc_new w3 _
    have m0:W4.cell? ⟨w3.heap.size,0,none⟩=some (.int .i64 (ka:Int)):=by rw [Cv hl4];rfl
    have m1:W4.cell? ⟨w3.heap.size,1,none⟩=some (.int .i64 (ea:Int)):=by rw [Cv hl4];rfl
    have m2:W4.cell? ⟨w3.heap.size,2,none⟩=some (.slice aa R.n c):=by rw [Cv hl4];rfl
    have hrow4:=qD W4 w.heap.size #[.int .i64 (ka:Int),.int .i64 (ea:Int),.slice aa R.n c];have hlt3:=jO HX3.out;have HJ5:Hid (RunJ R (W4.setRow w.heap.size #[.int .i64 (ka:Int),.int .i64 (ea:Int),.slice aa R.n c]) s2):=ab ((HJ3.out.later hb4).gx hrow4 (Nat.ne_of_lt hlr) (fun k hk e=>absurd (hlp k hk) io) (fun b hb e=>absurd (HX.out.lt b hb) gR));have HG5:Hid (Gx R.Y w (W4.setRow w.heap.size #[.int .i64 (ka:Int),.int .i64 (ea:Int),.slice aa R.n c])):=ab ((HG3.out.to (Gx.of_below (X:=R.Y) hb4) (fun _ _ h=>h)).to hrow4 (fun b hb e=>absurd hb gR));have HS5:Hid (SlS (W4.setRow w.heap.size #[.int .i64 (ka:Int),.int .i64 (ea:Int),.slice aa R.n c]) (fun b=>w.heap.size≤b) aa 2 R.n (jV ps)):=ab (((SlS.keep hs3 (Kept.all hb4)).keep (hrow4.kept (S:=fun b=>wr.heap.size≤b) fun b hb e=>by
     have h5:=HGI.out.size;have h6:b=w.heap.size:=e;have h7:wr.heap.size≤b:=hb;have h8:=HWR.out;omega)).mono fun b hb _=>Ct HGI.out.size hb)
    have HR5:=ab (lC (cs:=#[.int .i64 (ka:Int),.int .i64 (ea:Int),.slice aa R.n c]) hx4);have HX4:=ab hx4;have HW4:=ab hW4;have HF3:Hid ((some (i,en,ps),s2)=Q):=HF2;clear hka hea hs3 hpl hb4 hx4 hl4 hrow4 hW4 hlt3 HF2;go_upto_region 5 with fail
    rw [←HW4.out];go_wp2_with (refine kE rfl 51 (.tmp 4) (.tmp 31) rfl (w.heap.size) (#[.int .i64 (ka:Int),.int .i64 (ea:Int),.slice aa R.n c]) rfl rfl 51 _ (HX4.out) (kK) rfl rfl (gG) (W:=(W4.setRow w.heap.size #[.int .i64 (ka:Int),.int .i64 (ea:Int),.slice aa R.n c])) (rfl) ?_)
    refine CJ (nH Tryz.results59 lJ kK HR5.out rfl rfl rfl) rfl ?_;rw [←HF3.out];exact⟨HJ5.out,HG5.out,aa,c,by rw [HKA.out,HEA.out];rfl,HS5.out,HPL.out,hki,h1,h2⟩
  ·have HE:Hid ((none,s)=Q):=ab (by
    rw [←HF.out];unfold mu;rw [Co (fun h=>hgo ⟨by omega,h.2⟩)])
   have hcase:(¬(i:Int)<(R.C.cs.length:Int)+1∧i=R.C.cs.length+1)∨((i:Int)<(R.C.cs.length:Int)+1∧s.out=true):=by
    rcases Nat.lt_or_ge R.C.cs.length i with h|h
    ·exact .inl ⟨by omega,by omega⟩
    ·refine .inr ⟨by omega,?_⟩
     cases ho:s.out with
     | true=>rfl
     | false=>exact absurd ⟨h,ho⟩ hgo
   clear hgo HF;rcases hcase with⟨hil,_⟩|⟨hil,ho⟩
   ·exact bT
   ·rw [ho] at c16
    exact bT
theorem BX (n:Nat) (hn:n≤1000000):bits .and .u64 (n:Int) 4294967295=(n:Int):=by
 have h:=bits_and_u64_nat n 4294967295 gu gD;rw [show (4294967295:Nat)=2 ^ 32-1 by decide,Nat.and_two_pow_sub_one_eq_mod,Nat.mod_eq_of_lt gu] at h;exact h
theorem A3 (n:Nat) (w:World) (hn:n≤1000000):Calls Tryz.prog 153 #[.int .u64 1,.int .u64 n] w fun e w'=>e=.returned (.tuple #[.int .u64 0,.int .u64 n])∧w=w':=by
 have m1:bits .and .u64 1 4294967295=1:=BX 1 gu;have m0:bits .and .u64 0 4294967295=0:=BX 0 gu;have mn:=BX n hn;have d1:(n:Int) / 4294967296=0:=gu;go_enter Tryz.func153,Tryz.ntmps153
 go_wp2
 go_ret2
 exact⟨rfl,rfl⟩
theorem Mul_one (n:Nat) (w:World) (hn:n≤1000000):Calls Tryz.prog 127 #[.int .u64 1,.int .u64 n] w fun e w'=>e=.returned (.tuple #[.int .u64 0,.int .u64 n])∧w=w':=by
 go_enter Tryz.func127,Tryz.ntmps127
 go_wp2_with (go_at_call 153;refine(A3 n _ hn).mono ?_;rintro e w1 ⟨rfl,rfl⟩)
 go_ret2
 exact⟨rfl,rfl⟩
theorem step_cp {P:Program} {w:World} {ops:Array Oper} {o:Oper} {a:Act} {K:Act→World→Prop} {Q:Exit→Act→World→Prop} {E:Prop} (hgd:o.guard=none) (d s:Operand) (t t':TypeId)
  (ho:o.op=.call { callee:=.builtin .copy,args:=#[d,s],argTypes:=#[t,t'] }) (v u:Value) (hd:a.eval d=v) (hs:a.eval s=u) {v':Value} {w':World}
  (hr:(Builtin.copy_ #[t,t'] o.type #[v,u]).run P w=.ok v' w') (h:K (a.put o.dst v') w'):if Region.wanted o (yielded ops a.tmps)=true then Oper.wp P o a w K Q else E:=by
 have hwt:Region.wanted o (yielded ops a.tmps)=true:=jt;rw [Cl hwt];unfold Oper.wp;simp [execOp,ho,resolve,invoke,builtin,hd,hs,hr,Result.andThen]
 exact h
def rowP (m n:Nat):List (Int × Int):=List.replicate m (-1,-1)++List.replicate (n-m) (0,0)
theorem rowP_len {m n:Nat} (h:m≤n):(rowP m n).length=n:=by simp [rowP];omega
theorem BS {m n k:Nat}:List.replicate m ((-1:Int),(-1:Int))++(List.replicate k (-1,-1)++List.replicate (n-(m+k)) (0,0))=rowP (m+k) n:=by
 unfold rowP;rw [←CU,List.replicate_append_replicate]
def RpRel (w:World) (g n:Nat) (q:Value) (wr:World):Prop :=
 ∃m:Nat,m≤n∧(0<n→0<m)∧q=.int .i64 m∧wr.ownsRow w.heap.size 48 2 (.slice (some ⟨g,0,none⟩) n n) n (jV (rowP m n))∧Below w.heap.size w wr
theorem BC {P:Program} {w wr:World} {g n m k sl scap dc:Nat} {e:TypeId} (h:wr.ownsRow w.heap.size e 2 (.slice (some ⟨g,0,none⟩) n n) n (jV (rowP m n))) (hb:Below w.heap.size w wr) (dT ty:TypeId) (hu:P.underlying dT=some (.slice e)) (hs:(P.info? e).map (·.size)=some 2) (a:Addr) (hk:Nat.min sl (n-m)=k) (hsrc:∀j u,(jV (List.replicate k ((-1:Int),(-1:Int))))[j]?=some u→wr.cell? (a.add j)=some u) (hm:m≤n) :
  ∃w',(Builtin.copy_ #[dT,dT] ty #[.slice (some ⟨g,m*2,none⟩) (n-m) dc,.slice (some a) sl scap]).run P wr=.ok (goInt (k:Nat)) w'∧w'.ownsRow w.heap.size e 2 (.slice (some ⟨g,0,none⟩) n n) n (jV (rowP (m+k) n))∧Below w.heap.size w w':=by
 have hkn:m+k≤n:=by have:Nat.min sl (n-m)≤n-m:=Nat.min_le_right _ _;omega
 have hl:(jV (List.replicate k ((-1:Int),(-1:Int)))).length=k*2:=by rw [kC,List.length_replicate]
 have hlo:(jV (List.replicate m ((-1:Int),(-1:Int)))).length=m*2:=by rw [kC,List.length_replicate]
 have hrun:=vH (P:=P) wr dT dT ty e 2 g (m*2) (n-m) dc a sl scap (jV (List.replicate k ((-1:Int),(-1:Int)))) hu hs (by rw [hl,hk]) hsrc
  (fun j hj=>by rw [h.cellAt _ gu,Cn (by rw [kC,rowP_len hm];omega)];rfl) (fun j _=>h.frozenAt _) (mK _)
 have hset:=uk (jV (List.replicate k ((-1:Int),(-1:Int)))) (jV (List.replicate k ((0:Int),(0:Int)))) (jV (List.replicate m ((-1:Int),(-1:Int)))) (jV (List.replicate (n-(m+k)) ((0:Int),(0:Int)))) (w:=wr) (B:=w.heap.size) (e:=e) (sz:=2) (n:=n) (g:=g) (cap:=n) (by
   rw [←kY,←kY,List.replicate_append_replicate,show k+(n-(m+k))=n-m by omega];exact h) (by rw [kC,kC];simp)
 rw [hlo,←kY,←kY,BS] at hset;refine⟨_,by rw [hrun,hk],hset,?_⟩;exact Gx.below ((Gx.of_below (X:=fun _=>False) (hb.mono (Cp _))).to (Gx.sets (X:=fun k=>k=g) rfl _ _ _) (fun k hk e=>by have:=(h.lt g rfl).1;omega)) (Cp _) (fun k e=>e.elim)
theorem zA:∀n:Nat,(madeCells #[.int .i64 0,.int .i64 0] (n*2)).toList=jV (rowP 0 n):=by
 intro n;apply List.ext_getElem?
 intro j;unfold madeCells rowP;simp only [List.replicate_zero,CT,Nat.sub_zero,Array.toList_map,Array.toList_range,List.getElem?_map];rcases Nat.lt_or_ge j (n*2) with h|h
 ·rw [List.getElem?_range h]
  have hp:(List.replicate n ((0:Int),(0:Int)))[j / 2]?=some (0,0):=by rw [List.getElem?_replicate,Cl gu]
  obtain⟨c1,c2⟩:=oK hp;rcases(show j % 2=0∨j % 2=1 by omega) with h2|h2
  ·rw [show j / 2*2=j by omega] at c1
   rw [c1];simp [h2]
  ·rw [show j / 2*2+1=j by omega] at c2
   rw [c2];simp [h2]
 ·rw [List.getElem?_eq_none ik,List.getElem?_eq_none (by rw [kC,List.length_replicate];exact h)];rfl
theorem zH {b o c:Nat} (n:Nat) (w:World) (hn:n≤1000000) (h0:w.cell? ⟨b,o,none⟩=some (.int .i64 (-1))) (h1:w.cell? ⟨b,o+1,none⟩=some (.int .i64 (-1))) :
  Calls Tryz.prog 96 #[.slice (some ⟨b,o,none⟩) 1 c,.int .i64 n] w fun e w'=>∃g,e=.returned (.slice (some ⟨g,0,none⟩) n n)∧w'.ownsRow w.heap.size 48 2 (.slice (some ⟨g,0,none⟩) n n) n (jV (List.replicate n (-1,-1)))∧Below w.heap.size w w':=by
 obtain⟨i,hi1,hi2,hi3,hi4⟩:=info_parts nB;have H0:=ab h0;have H1:=ab h1;clear h0 h1;go_enter Tryz.func96,Tryz.ntmps96
 go_wp2_with (first
  | (go_at_call 127;refine(Mul_one n _ hn).mono ?_;rintro e w1 ⟨rfl,rfl⟩)
  | (at_make;refine wpList_make_full w rfl _ _ _ rfl w.heap.size 48 i _ 2 Tryz.underlying49 hi1 hi2 hi3 .i64 .i64 n n n rfl rfl rfl rfl (by rw [hi4];omega) (by simp only [maxLen];omega) (Cp _) ?_))
 intro w1 ho1 hg1;have hb1:Below w.heap.size w w1:=(Below.refl _ _).grown hg1 (Cp _) (fun k e=>by cases e);have e0:(madeCells #[.int .i64 0,.int .i64 0] (n*2)).toList=jV (rowP 0 n):=zA n;rw [e0] at ho1;clear e0 hg1 hi1 hi2 hi3 hi4;obtain⟨k,hk⟩:∃k,Nat.min 1 n=k:=⟨_,rfl⟩;have hkc:k≤1∧k≤n∧(0<n→0<k):=by
  have h1:Nat.min 1 n≤1:=Nat.min_le_left _ _;have h2:Nat.min 1 n≤n:=Nat.min_le_right _ _;have h3:0<n→0<Nat.min 1 n:=fun h=>Nat.lt_min.2 ⟨by omega,h⟩
  omega
 have hsrc:∀j u,(jV (List.replicate k ((-1:Int),(-1:Int))))[j]?=some u→w1.cell? ((⟨b,o,none⟩:Addr).add j)=some u:=by
  intro j u hj;have hjl:=(Cq.1 hj).1;rw [kC,List.length_replicate] at hjl;have hk1:k=1:=gu;subst hk1;have hadd:(⟨b,o,none⟩:Addr).add j=⟨b,o+j,none⟩:=by unfold Addr.add;split<;>simp_all
  rw [hadd];rcases(show j=0∨j=1 by omega) with rfl|rfl
  ·simp [jV] at hj;subst hj;exact(hb1.cell (World.block_lt_of_cell? w _ H0.out)).trans H0.out
  ·simp [jV] at hj;subst hj;exact(hb1.cell (World.block_lt_of_cell? w _ H1.out)).trans H1.out
 obtain⟨w2,hr2,ho2,hb2⟩:=BC (P:=Tryz.prog) (m:=0) (k:=k) (sl:=1) (scap:=c) (dc:=n) ho1 hb1 49 3 Tryz.underlying49 pF ⟨b,o,none⟩ (by rw [Nat.sub_zero];exact hk) hsrc (Nat.zero_le _);simp only [Nat.zero_mul,Nat.sub_zero,Nat.zero_add] at hr2 ho2;have HR2:=ab hr2;have HO2:=ab ho2;have HB2:=ab hb2;clear hr2 ho2 hb2 ho1 hb1 hsrc hk;go_upto_region 7 with fail
 go_wp2_with (refine uy rfl _ _ _ _ rfl _ _ rfl rfl HR2.out ?_)
 go_loopw [8] (fun q wr=>RpRel w w.heap.size n q wr) (fun q _=>n-(intOf q).toNat)
 case atStart=>exact⟨k,by omega,by omega,rfl,HO2.out,HB2.out⟩
 case round =>
  obtain⟨m,hm,hm0,rfl,hown,hb⟩:=hrel;by_cases hmn:m<n
  ·obtain⟨k2,hk2⟩:∃k2,Nat.min m (n-m)=k2:=⟨_,rfl⟩
   have hk2c:k2≤m∧k2≤n-m∧0<k2:=by
    have h1:Nat.min m (n-m)≤m:=Nat.min_le_left _ _;have h2:Nat.min m (n-m)≤n-m:=Nat.min_le_right _ _;have h3:0<Nat.min m (n-m):=Nat.lt_min.2 ⟨by omega,by omega⟩;omega
   have hdr:Below wr.heap.size wr wr.drew:=(Below.refl _ _).drew;obtain⟨w3,hr3,ho3,hb3⟩:=BC (P:=Tryz.prog) (wr:=wr.drew) (m:=m) (k:=k2) (sl:=m) (scap:=n) (dc:=n-m) (kL hown hdr) (hb.trans (hdr.mono hb.size)) 49 3 Tryz.underlying49 pF ⟨w.heap.size,0,none⟩ hk2 (fun j u hj=>by
    have hjl:=(Cq.1 hj).1;have hadd:(⟨w.heap.size,0,none⟩:Addr).add j=⟨w.heap.size,j,none⟩:=by unfold Addr.add;split<;>simp_all
    rw [kC,List.length_replicate] at hjl;rw [hadd,(kL hown hdr).cellAt j gu];unfold rowP;rw [show m=k2+(m-k2) by omega,←List.replicate_append_replicate,CU,kY,CA (by rw [kC,List.length_replicate];omega)];exact hj) hm
   have HR3:=ab hr3;have HO3:=ab ho3;have HB3:=ab hb3;have hnm:n≠m:=gu;have hn0:n≠0:=gu;clear hr3 ho3 hb3 hown hb hk2 HR2 HO2 HB2;go_upto_region 9 with fail
   go_region_law (refine step_cp rfl (.tmp 41) (.tmp 44) 49 49 rfl (.slice (some ⟨w.heap.size,m*2,none⟩) (n-m) (n-m)) (.slice (some ⟨w.heap.size,0,none⟩) m n) (by simp [Act.eval,Act.put]) (by simp [Act.eval,Act.put]) HR3.out ?_)
   simp [Act.put]
   rw [show IntKind.i64.wrap ((m:Int)+(k2:Int))=((m+k2:Nat):Int) by rw [IntKind.wrap_i64];omega];go_wp2
   go_roundw
   case rel=>exact⟨m+k2,by omega,by omega,by go_num,HO3.out,HB3.out⟩
   case measure=>simp [intOf];omega
  ·have hmn:m=n:=gu
   subst hmn;have HO:=ab hown;clear hown HR2 HO2 HB2;go_wp2
   go_ret
   refine⟨w.heap.size,rfl,?_,hb⟩;have h:=HO.out;unfold rowP at h;simpa using h
theorem uL {b:Nat} {t:TypeId}:∀(vs old pre post:List Value) {w:World},w.heap[b]?=some (.cells (pre++(old++post)).toArray t (0,0))→old.length=vs.length→(w.setCells b pre.length vs).heap[b]?=some (.cells (pre++(vs++post)).toArray t (0,0))
 | [],old,pre,post,w,h,hl=>by
  have h0:old=[]:=Cm hl;subst h0;exact h
 | v::vs,[],pre,post,w,h,hl=>by simp at hl
 | v::vs,u::old,pre,post,w,h,hl=>by
  have h1:(w.setCell ⟨b,pre.length,none⟩ v).heap[b]?=some (.cells ((pre++[v])++(old++post)).toArray t (0,0)):=by
   rw [heap_setCell_same _ _ _ _ _ _ h];congr 2;simp [List.set_append_right]
  have h2:=uL vs old (pre++[v]) post h1 (by simpa using hl);exact dr
theorem fuelM_eq (z:Int):((su z:Nat):Int)=min (max z 0) 20000:=by unfold su;omega
theorem zB (s:Str):wL (lP (kh s) 0):=fun a b h1 h2=>by
 exact dz
structure BegunP (fold:Bool) (s:Str) (z:Int) (x:Rx) (w:World) (R:Rn) (w':World):Prop where
 j:RnJ R
 C:R.C=rcM fold s
 n:R.n=x.groups
 run:RunJ R w' (mB x.groups z)
 tr:RunT R x w'
 bel:Below w.heap.size w w'
 new:∀k,R.Y k→w.heap.size≤k
 up:wL R.C.offs
theorem uF (S:Nat→Prop) {x:Rx} {cc:List Value} {fold:Bool} {s:Str} {z:Int} (w:World) (hv:RxV w S cc x) (hsm:x.small) (hwf:x.wf=true) (hs:s.length≤1000000) (hg:x.groups≤1000) :
  Calls Tryz.prog 58 #[.agg cc.toArray,.bool fold,.string ⟨s.toArray⟩,.int .i64 z] w fun e w'=>∃R:Rn,e=.returned (.pointer (some ⟨R.r,0,none⟩))∧BegunP fold s z x w R w':=by
 obtain⟨F,hF⟩:∃F:Nat,F=su z:=⟨_,rfl⟩;have hFz:(F:Int)=min (max z 0) 20000:=by rw [hF];exact fuelM_eq z
 have hv0:=hv;obtain⟨kd,ch,ng,rs,lo,hi,lz,ks⟩:=x;obtain⟨ra,rc,ka,kc,rfl,hrs,hks⟩:=hv0.open_;obtain⟨W1,hW1⟩:∃W1,W1=w.alloc (.cells (rxc kd ch ng ra rs.length rc lo hi lz ka ks.length kc).toArray 25):=⟨_,rfl⟩;have hb1:Below w.heap.size w W1:=by rw [hW1];exact(Below.refl _ _).alloc (Cp _) _
 have hx1:W1.heap[w.heap.size]?=some (.cells (rxc kd ch ng ra rs.length rc lo hi lz ka ks.length kc).toArray 25 (0,0)):=by rw [hW1];exact heap_alloc_new w _
 have HB1:=ab hb1;have HX1:=ab hx1;have HW1:=ab hW1;have HV:=ab (hv.later hb1);have HF:=ab hF;have HFZ:=ab hFz;clear hW1 hb1 hx1 hv hF hFz hrs hks;unfold rxc at HW1 ⊢;go_enter Tryz.func58,Tryz.ntmps58
 go_upto_region 1 with fail
 rw [←HW1.out];go_wp2_with (first|(go_at_call 43;refine(uG s _ hs).mono ?_)|(go_at_call 94;refine(sS s _ hs).mono ?_))
 rintro e w2 ⟨ca,cc,rfl,hs2,hb2⟩;go_wp2_with (go_at_call 94;refine(sS s _ hs).mono ?_)
 rintro e w3 ⟨oa,oc,rfl,hs3,hb3⟩;have hfe:(if 20000<if z<0 then 0 else z then 20000 else if z<0 then 0 else z)=(F:Int):=by rw [HFZ.out];omega
 have HFE:=ab hfe;clear hfe;have HS2:=ab hs2;have HS3:=ab hs3;have HB2:=ab hb2;have HB3:=ab hb3;clear hs2 hs3 hb2 hb3;go_upto_region 3 with fail
 first|simp only [HFE.out]|simp only [show min (max z 0) 20000=(F:Int) from HFZ.out.symm]
 obtain⟨zz,hzz⟩:∃zz:Int,zz=(if z<0 then 0 else z):=⟨_,rfl⟩;try rw [←hzz]
 clear hzz;obtain⟨L,hL⟩:∃L:List Value,L=[.int .i64 0,.string ⟨#[]⟩,.bool false,.slice none 0 0,.int .i64 0,.int .i64 0,.bool false,.slice none 0 0,.slice none 0 0,.int .i64 0,.int .i64 0,.bool fold,.slice ca (kh s).length cc,.slice oa ((kh s).length+1) oc,.slice none 0 0,.int .i64 (F:Int),.bool false]:=⟨_,rfl⟩;obtain⟨W4,hW4⟩:∃W4,W4=w3.alloc (.cells L.toArray 123):=⟨_,rfl⟩;obtain⟨W5,hW5⟩:∃W5,W5=W4.alloc (.cells #[.int .i64 0] 3):=⟨_,rfl⟩;have hz4:W4.heap.size=w3.heap.size+1:=by rw [hW4];simp
 have hb4:Below w3.heap.size w3 W4:=by rw [hW4];exact(Below.refl _ _).alloc (Cp _) _
 have hb5:Below W4.heap.size W4 W5:=by rw [hW5];exact(Below.refl _ _).alloc (Cp _) _
 have h45:W5=(w3.alloc (.cells #[.int .i64 0,.string ⟨#[]⟩,.bool false,.slice none 0 0,.int .i64 0,.int .i64 0,.bool false,.slice none 0 0,.slice none 0 0,.int .i64 0,.int .i64 0,.bool fold,.slice ca (kh s).length cc,.slice oa ((kh s).length+1) oc,.slice none 0 0,.int .i64 (F:Int),.bool false] 123)).alloc (.cells #[.int .i64 0] 3):=by rw [hW5,hW4,hL]
 have hr5:W5.heap[w3.heap.size]?=some (.cells L.toArray 123 (0,0)):=by rw [hb5.block _ gu,hW4];exact heap_alloc_new w3 _
 have hg5:W5.heap[w3.heap.size+1]?=some (.cells #[.int .i64 ((0:Nat):Int)] 3 (0,0)):=by rw [hW5,←hz4];exact heap_alloc_new W4 _
 have hz5:W5.heap.size=w3.heap.size+2:=by rw [hW5];simp;omega
 rw [←h45];have hx5:W5.heap[w.heap.size]?=some (.cells (rxc kd ch ng ra rs.length rc lo hi lz ka ks.length kc).toArray 25 (0,0)):=by
  have h1:=jO HX1.out;have h2:=HB2.out.size;have h3:=HB3.out.size;rw [hb5.block _ gu,hb4.block _ gu,HB3.out.block _ gu,HB2.out.block _ gu];exact HX1.out
 have hbw:Below w.heap.size w W5:=by
  have h1:=HB1.out.size;have h2:=HB2.out.size;have h3:=HB3.out.size;have h4:=hb4.size;exact(((HB1.out.trans (HB2.out.mono h1)).trans (HB3.out.mono gu)).trans (hb4.mono gu)).trans (hb5.mono gu)
 have hvo:RxV w (fun b=>S b∧b<w.heap.size) (rxc kd ch ng ra rs.length rc lo hi lz ka ks.length kc) (.mk kd ch ng rs lo hi lz ks):=hv0.mono (fun b hb hlt=>⟨hb,hlt⟩);have hl:=xV _ (.mk kd ch ng rs lo hi lz ks) (Cp _) hsm (fun b=>S b∧b<w.heap.size) _ W5 (w3.heap.size+1) 0 (hvo.later hbw) hg5 (fun h=>by have:=hbw.size;have h2:w3.heap.size+1<w.heap.size:=h.2;have:=HB1.out.size;have:=HB2.out.size;have:=HB3.out.size;omega) gu;have x0:W5.cell? ⟨w.heap.size,0,none⟩=some (.int .i64 kd):=by rw [Cv hx5];rfl
 have x1:W5.cell? ⟨w.heap.size,1,none⟩=some (.string ⟨ch.toArray⟩):=by rw [Cv hx5];rfl
 have x2:W5.cell? ⟨w.heap.size,2,none⟩=some (.bool ng):=by rw [Cv hx5];rfl
 have x3:W5.cell? ⟨w.heap.size,3,none⟩=some (.slice ra rs.length rc):=by rw [Cv hx5];rfl
 have x4:W5.cell? ⟨w.heap.size,4,none⟩=some (.int .i64 lo):=by rw [Cv hx5];rfl
 have x5:W5.cell? ⟨w.heap.size,5,none⟩=some (.int .i64 hi):=by rw [Cv hx5];rfl
 have x6:W5.cell? ⟨w.heap.size,6,none⟩=some (.bool lz):=by rw [Cv hx5];rfl
 have x7:W5.cell? ⟨w.heap.size,7,none⟩=some (.slice ka ks.length kc):=by rw [Cv hx5];rfl
 have HBW:=ab hbw;have H35:Hid (Below w3.heap.size w3 W5):=ab (bel2 hb4 hb5);have HL:=ab hl;have HLE:=ab hL;have HR5:=ab hr5;have HZ5:=ab hz5;clear hl hvo hbw hx5 hg5 hr5 hz5 h45 hb4 hb5 hz4 hW4 hW5 hL HX1 HW1;unfold rxc at HL;go_wp2_with (go_at_call 95;refine HL.out.mono ?_)
 first|rintro e w6 ⟨pc,rfl,hp6,hg6,hx6⟩
 have hpl:=hp6.len;have hr6:w6.heap[w3.heap.size]?=some (.cells L.toArray 123 (0,0)):=Gx.heap hx6 HR5.out (fun e=>by have:w3.heap.size=w3.heap.size+1:=e;omega);have hth:w6.there w3.heap.size 0 pc.toArray.size:=fun j hj=>by
  have hj:j<11:=by simpa [hpl] using hj
  refine⟨?_,by simp only [World.frozen?,hr6];simp⟩;rw [Cv hr6,HLE.out];simp only [List.getElem?_toArray];rw [Cn gH];rfl
 go_upto_region 4 with(refine wpList_store_mid rfl 121 (.tmp 25) (.tmp 23) rfl w3.heap.size 0 pc.toArray rfl rfl hth (by rw [um];simp [hpl]) (all_oneCell_toArray hp6.one) ?_)
 try simp only [List.toList_toArray]
 obtain⟨G,hG⟩:∃G,G=(Rx.mk kd ch ng rs lo hi lz ks).groups:=⟨_,rfl⟩;rw [←hG] at hg hg6;obtain⟨w7,hw7⟩:∃w7,w7=w6.setCells w3.heap.size 0 pc:=⟨_,rfl⟩;have hx7:Gx (fun k=>k=w3.heap.size) w6 w7:=by rw [hw7];exact Gx.sets (X:=fun k=>k=w3.heap.size) (b:=w3.heap.size) rfl _ _ _
 have hr7:w7.heap[w3.heap.size]?=some (.cells (pc++([.bool fold,.slice ca (kh s).length cc,.slice oa ((kh s).length+1) oc,.slice none 0 0,.int .i64 (F:Int),.bool false]:List Value)).toArray 123 (0,0)):=by
  rw [hw7];exact uL pc [.int .i64 0,.string ⟨#[]⟩,.bool false,.slice none 0 0,.int .i64 0,.int .i64 0,.bool false,.slice none 0 0,.slice none 0 0,.int .i64 0,.int .i64 0] [] _ (by rw [hr6,HLE.out];rfl) (by simp [hpl])
 have hg7:w7.heap[w3.heap.size+1]?=some (.cells #[.int .i64 (G:Int)] 3 (0,0)):=by
  rw [Nat.zero_add] at hg6;exact Gx.heap hx7 hg6 (fun e=>by have:w3.heap.size+1=w3.heap.size:=e;omega)
 have hlt7:=jO hg7;have c7:=jY hg7;obtain⟨W8,hW8⟩:∃W8,W8=w7.alloc (.cells #[.int .i64 (-1),.int .i64 (-1)] 48):=⟨_,rfl⟩;have hb8:Below w7.heap.size w7 W8:=by rw [hW8];exact(Below.refl _ _).alloc (Cp _) _
 have h8:W8.heap[w7.heap.size]?=some (.cells #[.int .i64 (-1),.int .i64 (-1)] 48 (0,0)):=by rw [hW8];exact heap_alloc_new w7 _
 have c8:=jY ((hb8.block _ hlt7).trans hg7);have HRP:=ab (zH (c:=1) G W8 gu (show W8.cell? ⟨w7.heap.size,0,none⟩=_ by rw [Cv h8];rfl) (show W8.cell? ⟨w7.heap.size,0+1,none⟩=_ by rw [Cv h8];rfl));rw [hW8] at HRP c8;have HX7:=ab hx7;have HR7:=ab hr7;have HB8:=ab hb8;have HP6:=ab hp6;have HX6:=ab hx6;have HPL:=ab hpl;have HG:=ab hG;have HG7:=ab hg7;try rw [←hw7]
 clear hx7 hr7 hb8 hp6 hx6 hpl hG h8 hW8 hg7 hw7 hr6 hth hg6 x0 x1 x2 x3 x4 x5 x6 x7 HL;go_wp2_with (go_at_call 96;refine HRP.out.mono ?_)
 have hz8:(w7.alloc (.cells #[.int .i64 (-1),.int .i64 (-1)] 48)).heap.size=w7.heap.size+1:=gF;rintro e w9 ⟨g,rfl,ho9,hb9⟩;have hb79:Below w7.heap.size w7 w9:=bel2 ((Below.refl _ _).alloc (Cp _) _) hb9;have hr9:=(hb79.block _ (jO HR7.out)).trans HR7.out;have hgl:=ho9.lt g rfl;rw [hz8] at hgl;have c14:w9.cell? ⟨w3.heap.size,14,none⟩=some (.slice none 0 0):=by
  rw [Cv hr9];simp only [List.getElem?_toArray];rw [CD (by rw [HPL.out];omega),HPL.out];rfl
 have f14:w9.frozen? ⟨w3.heap.size,14,none⟩=false:=by simp only [World.frozen?,hr9];simp
 obtain⟨w',hw'⟩:∃w',w'=w9.setCell ⟨w3.heap.size,14,none⟩ (.slice (some ⟨g,0,none⟩) G G):=⟨_,rfl⟩;have hxe:Gx (fun k=>k=w3.heap.size) w9 w':=by rw [hw'];exact Gx.set w9 _ rfl
 have hre:w'.heap[w3.heap.size]?=some (.cells (pc++([.bool fold,.slice ca (kh s).length cc,.slice oa ((kh s).length+1) oc,.slice (some ⟨g,0,none⟩) G G,.int .i64 (F:Int),.bool false]:List Value)).toArray 123 (0,0)):=by
  rw [hw',heap_setCell_same _ _ _ _ _ _ hr9];congr 2;simp [List.set_append_right,HPL.out]
 have HO9:=ab ho9;have HB79:=ab hb79;have HXE:=ab hxe;have HRE:=ab hre;have HGL:=ab hgl;have HW':=ab hw';clear ho9 hb9 hb79 hr9 hxe hre hgl hw' c7 c8 hz8 HRP;go_wp2
 try rw [←HW'.out]
 go_ret
 have s35:=H35.out.size;have s56:=HX6.out.size;have s67:=HX7.out.size;have s79:=HB79.out.size;have s9e:=HXE.out.size;have sbw:=HB1.out.size;have sb2:=HB2.out.size;have sb3:=HB3.out.size;have sz5:=HZ5.out;have sgl:=HGL.out;have hge:w3.heap.size≠g:=gu;have b5e:Below w3.heap.size W5 w':=(((HX6.out.below gu (fun k hk=>by have:k=w3.heap.size+1:=hk;omega)).trans (HX7.out.below gu (fun k hk=>by have:k=w3.heap.size:=hk;omega))).trans (HB79.out.mono gu)).trans (HXE.out.below gu (fun k hk=>by have:k=w3.heap.size:=hk;omega));have b3e:Below w3.heap.size w3 w':=H35.out.trans b5e;have b2e:Below w2.heap.size w2 w':=HB3.out.trans (b3e.mono sb3);have x6e:Gx (fun k=>k=w3.heap.size) w6 w':=(HX7.out.to (Gx.of_below HB79.out) (fun _ _ h=>h)).to HXE.out (fun _ _ h=>h);have hown:w'.ownsRow (w7.alloc (.cells #[.int .i64 (-1),.int .i64 (-1)] 48)).heap.size 48 2 (.slice (some ⟨g,0,none⟩) G G) G (jV (List.replicate G (-1,-1))):=pe HO9.out HXE.out (fun k hk e=>by
  have h1:some g=some k:=hk;injection h1 with h1
  have h2:k=w3.heap.size:=e;omega)
 refine⟨⟨w3.heap.size,0,(w7.alloc (.cells #[.int .i64 (-1),.int .i64 (-1)] 48)).heap.size,pc,ca,cc,oa,oc,some ⟨g,0,none⟩,G,rcM fold s,G,fun b=>b≠w3.heap.size∧b≠g∧b<w'.heap.size⟩,rfl,?_⟩;refine⟨⟨HPL.out,HP6.out.one,Ct (pZ s) hs,fun c hc=>Ct (char_le s c hc) hs,lH _ _,fun o ho=>?_,?_,fun b hb=>⟨hb.1,?_⟩,?_⟩,rfl,HG.out,⟨?_,by rw [←HG.out];exact hown,?_,?_,?_⟩,⟨?_,HG.out.symm,hwf,hsm,fun b hb=>hb.2.2⟩,?_,?_,zB s⟩
 ·obtain⟨k,hk,rfl⟩:=List.mem_iff_getElem.1 ho
  have h1:=hk;simp only [rcM,lH] at h1;have h2:=qQ s (k:=k) gu;rw [List.getD_eq_getElem?_getD,Cn (by rw [lH];omega)] at h2;exact Ct h2 hs
 ·intro h
  have h1:some g=some w3.heap.size:=h;injection h1 with h1
  exact hge h1.symm
 ·intro h
  have h1:some g=some b:=h;injection h1 with h1
  exact hb.2.1 h1.symm
 ·show G≤1000
  exact hg
 ·show w'.heap[w3.heap.size]?=_
  rw [HRE.out,HF.out];rfl
 ·exact(HS2.out.mono (fun b _ hlt=>⟨by omega,by omega,by omega⟩)).keep (Kept.all b2e)
 ·exact(HS3.out.mono (fun b _ hlt=>⟨by omega,by omega,by omega⟩)).keep (Kept.all b3e)
 ·show su z≤20000
  unfold su;omega
 ·refine(HP6.out.mono (fun b hb hlt=>?_)).keep (x6e.kept fun b hb=>hb.1)
  refine⟨?_,by omega,by omega⟩;rcases hb with⟨⟨_,h1⟩,_⟩|h1
  ·omega
  ·omega
 ·exact HBW.out.trans (b5e.mono gu)
 ·rintro k (h|h)
  ·have:k=w3.heap.size:=h
   omega
  ·have h1:some g=some k:=h
   injection h1 with h1
   omega
end Go.Proofs.YtjggmmaojklmpaaGreat
