/- walk of gimletref19.put -/
import Derived.Test.YtjggmmaojklmpaaGreatLb29
set_option maxRecDepth 100000
set_option maxHeartbeats 4000000
namespace Go.Proofs.YtjggmmaojklmpaaGreat
open Go.RowKit
theorem xA {P:Program} {ops:Array Oper} {C:World→Prop} {rest:List Oper} {op:Oper} {a:Act} {Q:Act→Prop} (hgd:op.guard=none) (ty:TypeId) (x:Operand) (ho:op.op=.load ty x)
  (b o:Nat) (hx:a.eval x=.pointer (some ⟨b,o,none⟩)) (cs:List Value) (d:TypeDesc) (hc:∀w,C w→w.rangeAt b o cs)
  (hu:P.underlying ty=some d) (hd:d.isRow=true) (hi:(P.info? ty).map (·.size)=some cs.length)
  (h:wpQuiet P ops C Q rest (a.put op.dst (.agg cs.toArray))):wpQuiet P ops C Q (op::rest) a:=by
 refine wpQuiet_step fun K hK=>?_
 rw [Cl jt];refine⟨.agg cs.toArray,fun w hw=>?_,hK _ h⟩;unfold Oper.quietAt execOp;simp only [ho,hx,Instr.loadAt,Instr.sureAddr,Sem.run_bind,Sem.run_pure,Result.andThen_ok,run_loadVar_mid w b o ty cs d (hc w hw) hu hd hi];exact⟨rfl,rfl⟩
def PuRel (s p0:Str) (sp:List (Int × Int)) (W0:World) (v q:Value) (wr:World):Prop :=
 ∃j:Nat,j≤sp.length∧q=.int .i64 (j:Int)∧wr.ownsRow W0.heap.size 9 1 v (j+1) (kv (p0::(sp.take j).map (lZ s)))∧Below W0.heap.size W0 wr
def Ba (s:Str) (sp:List (Int × Int)):Prop:=∀v∈sp,(v.1=-1∧v.2=-1)∨∃a b:Nat,a≤b∧b≤s.length∧v.1=(a:Int)∧v.2=(b:Int)
theorem B4 (S:Nat→Prop) (f:Tf) (fc:List Value) (w:World) (hv:TfV w S fc f) {s:Str} {offs:List Nat} {n:Nat} {m:Mt} {mc:List Value} (hmv:MtV w Any offs n mc m)
  (hab:offs.getD m.1 0≤offs.getD m.2.1 0∧offs.getD m.2.1 0≤s.length) (hsp:Ba s m.2.2) (hn:n≤1000) (hfs:f.fs.length≤1000) {mf:Nat} (hmf:mf≤10000)
  (hf:∀g∈f.fs,g.thn.length≤mf∧g.els.length≤mf) (hps:∀p∈lx s offs m,p.length≤mf) :
  Calls Tryz.prog 22 #[.agg fc.toArray,.string ⟨s.toArray⟩,.agg mc.toArray] w fun e w'=>e=.returned (.string ⟨(ld f.fs (lx s offs m)).toArray⟩)∧Below w.heap.size w w':=by
 obtain⟨rk,rch,rng,rrs,rlo,rhi,rlz,rks,ra,rcp,rka,rkc,fa,fcp,hc⟩:=hv.open_;obtain⟨X,fs,fd,al⟩:=f;have hfce:fc=[.int .i64 rk,.string ⟨rch.toArray⟩,.bool rng,.slice ra rrs.length rcp,.int .i64 rlo,.int .i64 rhi,.bool rlz,.slice rka rks.length rkc,.slice fa fs.length fcp,.bool fd,.bool al]:=hc.eq;subst hfce;obtain⟨aa,cp,rfl,hsl,hml,_,_⟩:=hmv;obtain⟨m1,m2,sp⟩:=m;replace hml:sp.length=n:=hml;subst hml;obtain⟨a,ha⟩:∃a,offs.getD m1 0=a:=⟨_,rfl⟩;obtain⟨b,hb⟩:∃b,offs.getD m2 0=b:=⟨_,rfl⟩;replace hsl:SlS w Any aa 2 sp.length (jV sp):=hsl;replace hsp:Ba s sp:=hsp;simp only [ha,hb] at hab;have hpm:lx s offs (m1,m2,sp)=kZ s a b::sp.map (lZ s):=by unfold lx;rw [ha,hb]
 rw [hpm] at hps ⊢;simp only [ha,hb];obtain⟨W1,hW1⟩:∃W1,W1=(w.alloc (.cells ([.int .i64 rk,.string ⟨rch.toArray⟩,.bool rng,.slice ra rrs.length rcp,.int .i64 rlo,.int .i64 rhi,.bool rlz,.slice rka rks.length rkc,.slice fa fs.length fcp,.bool fd,.bool al]).toArray 28)).alloc (.cells #[.int .i64 (a:Int),.int .i64 (b:Int),.slice aa sp.length cp] 60):=⟨_,rfl⟩;have hb1:Below w.heap.size w W1:=by rw [hW1];exact((Below.refl _ _).alloc (Cp _) _).alloc gF _
 have HL1:Hid (W1.heap[w.heap.size]?=some (.cells ([.int .i64 rk,.string ⟨rch.toArray⟩,.bool rng,.slice ra rrs.length rcp,.int .i64 rlo,.int .i64 rhi,.bool rlz,.slice rka rks.length rkc,.slice fa fs.length fcp,.bool fd,.bool al]).toArray 28 (0,0))):=ab hZ;have HM1:Hid (W1.heap[w.heap.size+1]?=some (.cells #[.int .i64 (a:Int),.int .i64 (b:Int),.slice aa sp.length cp] 60 (0,0))):=ab (by rw [hW1];have:=heap_alloc_new (w.alloc (.cells ([.int .i64 rk,.string ⟨rch.toArray⟩,.bool rng,.slice ra rrs.length rcp,.int .i64 rlo,.int .i64 rhi,.bool rlz,.slice rka rks.length rkc,.slice fa fs.length fcp,.bool fd,.bool al]).toArray 28)) (.cells #[.int .i64 (a:Int),.int .i64 (b:Int),.slice aa sp.length cp] 60);simpa using this);have HSL:=ab (hsl.keep (Kept.all hb1));have HSF:=ab ((SlS.sl hc.fv).keep hb1);have HW1:=ab hW1;have HB1:=ab hb1;have HF:=ab hf;have HSP:=ab hsp;have HI:=ab (info_parts xW);obtain⟨hab1,hab2⟩:=hab;have n0:W1.cell? ⟨w.heap.size+1,0,none⟩=some (.int .i64 (a:Int)):=by rw [Cv HM1.out];rfl
 have n1:W1.cell? ⟨w.heap.size+1,1,none⟩=some (.int .i64 (b:Int)):=by rw [Cv HM1.out];rfl
 obtain⟨T,hT⟩:∃T,kZ s a b=T:=⟨_,rfl⟩;rw [hT] at hps ⊢;have hT2:List.take (b-a) (List.drop a s)=T:=hT;have HT2:=ab hT2;have HPS:=ab hps;have HLIT:Hid ((W1.alloc (.cells #[.string ⟨T.toArray⟩] 9)).ownsRow W1.heap.size 9 1 (.slice (some ⟨W1.heap.size,0,none⟩) 1 1) 1 (kv (T::(sp.take 0).map (lZ s)))):=ab (World.ownsRow_lit (e:=9) (size:=1) (base:=W1.heap.size) W1 #[.string ⟨T.toArray⟩] 1 (Cp _) jx rfl);clear hv hc hsl hsp hW1 hb1 hf hps hpm ha hb hT hT2;go_enter Tryz.func22,Tryz.ntmps22
 go_upto_region 1 with fail
 rw [←HW1.out];clear HW1;go_wp2
 rw [HT2.out];clear n0 n1 HT2;go_loopw [7,8] (fun v q wr=>PuRel s T sp W1 v q wr) (fun _ q _=>sp.length-(intOf q).toNat)
 case atStart=>exact⟨0,Nat.zero_le _,rfl,HLIT.out,(Below.refl _ _).alloc (Cp _) _⟩
 case round =>
  obtain⟨j,hj,rfl,hown,hb⟩:=hrel;clear HLIT;have hB:=hb.size;have hmx:=(hb.block _ (jO HM1.out)).trans HM1.out;have n2:wr.cell? ⟨w.heap.size+1,2,none⟩=some (.slice aa sp.length cp):=by rw [Cv hmx];rfl
  obtain⟨iu,hiu⟩:=HI.out;by_cases hlt:j<sp.length
  ·obtain⟨v,hv⟩:∃v,sp[j]?=some v:=⟨_,Cn hlt⟩
   have hjl:(j:Int)<(sp.length:Int):=gu;have hspv:=HSP.out v (CF hv);have htk:(sp.take (j+1)).map (lZ s)=(sp.take j).map (lZ s)++[lZ s v]:=by rw [List.take_add_one,hv];simp
   obtain⟨u1,u2⟩:=v;obtain⟨pb,po,rfl,hpb,e1,e2⟩:=SlP.at_ ((HSL.out.keep (Kept.all hb)).sl) hv;have HTK:=ab htk;simp only at hspv e1 e2
   clear hv htk hmx;rcases hspv with⟨rfl,rfl⟩|⟨x,y,hxy,hyl,rfl,rfl⟩
   ·have htv:lZ s (-1,-1)=[]:=rfl
    have HTV:=ab htv;clear htv;go_wp2_with (at_builtin;refine kz W1.heap.size 9 rfl _ _ 53 rfl Tryz.underlying53 hiu rfl gD rfl hown rfl gZ rfl gG gu gD hB ?_)
    intro v1 w1 ho1 hg1 hb1 _;have HOW:Hid (w1.ownsRow W1.heap.size 9 1 v1 (j+1+1) (kv (T::(sp.take (j+1)).map (lZ s)))):=ab (by
     rw [HTK.out,HTV.out];have:=ho1
     simpa [kv] using this)
    have HBN:=ab (hb.trans (hb1.mono (Cp _)));clear ho1 hg1 hb1 hown;exact dO
   ·have htv:lZ s ((x:Int),(y:Int))=List.take (y-x) (List.drop x s):=by
     unfold lZ kZ;rw [Co (show ¬(x:Int)<0 by omega)];simp
    have HTV:=ab htv;have hx0:¬(x:Int)<0:=gu;have c2:=ExtOf.cell n2;have c3:=ExtOf.cell e1;have c4:=ExtOf.cell e2;have hx1:(x:Int)≤(y:Int):=gu;have hy1:(y:Int)≤(s.length:Int):=gu;have HOWN:=ab hown;have HBB:=ab hb;clear htv hown;go_upto_region 7 with fail
    refine jS gE gE ?_;repeat (go_big_quiet_step ((fail)))
    refine wpQuiet_nil ?_;rintro _ ⟨xq,rfl⟩;have hown:=kL HOWN.out xq.ext;have hbx:=bel2 HBB.out xq.ext;have hBx:=hbx.size;clear c2 c3 c4;go_wp2_with (at_builtin;refine kz W1.heap.size 9 rfl _ _ 53 rfl Tryz.underlying53 hiu rfl gD rfl hown rfl gZ rfl gG gu gD hBx ?_)
    intro v1 w1 ho1 hg1 hb1 _;have HOW:Hid (w1.ownsRow W1.heap.size 9 1 v1 (j+1+1) (kv (T::(sp.take (j+1)).map (lZ s)))):=ab (by
     rw [HTK.out,HTV.out];have:=ho1
     simpa [kv] using this)
    have HBN:=ab (hbx.trans (hb1.mono (Cp _)));clear ho1 hg1 hb1 hown hbx;exact dO
  ·have e:j=sp.length:=gu
   subst e;obtain⟨va,vc,rfl⟩:=j7 hown;have hwf:=(hb.block _ (jO HL1.out)).trans HL1.out;have z8:wr.cell? ⟨w.heap.size,8,none⟩=some (.slice fa fs.length fcp):=by rw [Cv hwf];rfl
   have hsl9:Sl wr wr.heap.size va 1 (sp.length+1) (kv (T::sp.map (lZ s))):=by have:=Sl.of_own hown;rwa [List.take_length] at this
   have HA:=ab (zO fa va fcp (sp.length+1) vc mf fs (T::sp.map (lZ s)) wr (((HSF.out.keep (hb.mono HB1.out.size)).mono (by have:=HB1.out.size;omega))) hsl9 HF.out HPS.out hmf hfs gu);have HBN:=ab (bel2 HB1.out hb);clear hown hb hwf hsl9 hmx;go_wp2_with (go_at_call 42;refine HA.out.mono ?_;rintro e w9 ⟨rfl,hb9⟩)
   go_ret
   exact⟨rfl,bel2 HBN.out hb9⟩
open Go.RowKit
theorem vF {α:Type} (g:α→Str) {m:Nat}:∀(l:List α),(∀x∈l,(g x).length≤m)→(l.flatMap g).length≤l.length*m
 | [],_=>by simp
 | x::l,h=>by
  have h1:=h x (CB ..);have h2:=vF g l (fun y hy=>h y (CC _ hy));rw [Cx,Cy,Cr,Nat.succ_mul];omega
theorem wE {fs:List Fm} {ps:List Str} {m:Nat} (hf:∀g∈fs,g.thn.length≤m∧g.els.length≤m) (hp:∀p∈ps,p.length≤m):(ld fs ps).length≤fs.length*m:=by
 unfold ld;split
 ·exact vF _ fs fun g hg=>pL hp (hf g hg).1 (hf g hg).2
 ·simp
def ApvRel (s:Str) (offs:List Nat) (fs:List Fm) (ms:List Mt) (W1:World) (G:Option (Nat × Str)) (v14 v15 q:Value) (wr:World):Prop :=
 ∃(k at_:Nat) (out:Str),k≤ms.length∧q=.int .i64 (k:Int)∧v15=.int .i64 (at_:Int)∧v14=.string ⟨out.toArray⟩∧Below W1.heap.size W1 wr∧at_≤s.length∧Hid (out.length≤65536)∧Hid (∀m,ms[k]?=some m→at_≤offs.getD m.1 0)∧Hid (goV s offs fs (ms.drop k) at_ out=G)
set_option maxRecDepth 100000 in
theorem uX (S:Nat→Prop) (f:Tf) (fc:List Value) (w:World) (hv:TfV w S fc f) {s:Str} {z:Int} {R:Str × Int × Int} (hR:vf f.rx f.fs f.fold f.all s z=R) (hsm:f.small) (hfs:f.fs.length≤1000) {mf:Nat} (hmf:mf≤10000)
  (hf:∀g∈f.fs,g.thn.length≤mf∧g.els.length≤mf) (hs:s.length≤1000000) (hps:∀m∈(kQ f.rx f.fold f.all s z).1,∀p∈lx s (rcM f.fold s).offs m,p.length≤mf) :
  Calls Tryz.prog 8 #[.agg fc.toArray,.string ⟨s.toArray⟩,.int .i64 z] w fun e w'=>e=.returned (.tuple #[.string ⟨(R.1).toArray⟩,.int .i64 R.2.1,.int .i64 R.2.2])∧Below w.heap.size w w':=by
 obtain⟨rk,rch,rng,rrs,rlo,rhi,rlz,rks,ra,rcp,rka,rkc,fa,fcp,hc⟩:=hv.open_;obtain⟨X,fs,fd,al⟩:=f;have hfce:fc=[.int .i64 rk,.string ⟨rch.toArray⟩,.bool rng,.slice ra rrs.length rcp,.int .i64 rlo,.int .i64 rhi,.bool rlz,.slice rka rks.length rkc,.slice fa fs.length fcp,.bool fd,.bool al]:=hc.eq;subst hfce;replace hfs:fs.length≤1000:=hfs;obtain⟨W0,hW0⟩:∃W0,W0=w.alloc (.cells ([.int .i64 rk,.string ⟨rch.toArray⟩,.bool rng,.slice ra rrs.length rcp,.int .i64 rlo,.int .i64 rhi,.bool rlz,.slice rka rks.length rkc,.slice fa fs.length fcp,.bool fd,.bool al]).toArray 28):=⟨_,rfl⟩;have hb0:Below w.heap.size w W0:=by rw [hW0];exact(Below.refl _ _).alloc (Cp _) _
 have hl0:W0.heap[w.heap.size]?=some (.cells ([.int .i64 rk,.string ⟨rch.toArray⟩,.bool rng,.slice ra rrs.length rcp,.int .i64 rlo,.int .i64 rhi,.bool rlz,.slice rka rks.length rkc,.slice fa fs.length fcp,.bool fd,.bool al]).toArray 28 (0,0)):=by rw [hW0];exact heap_alloc_new w _
 have HM:=ab (zQ S ⟨X,fs,fd,al⟩ hsm _ W0 (hv.keep (Kept.all hb0)));have hx1:X=.mk rk rch rng rrs rlo rhi rlz rks:=hc.rx;have HXV:Hid (RxV w S (rxc rk rch rng ra rrs.length rcp rlo rhi rlz rka rks.length rkc) X):=ab (hx1▸hc.rv);have HV:=ab hv;have HL0:=ab hl0;have HW0:=ab hW0;have HB0:=ab hb0;have HR:=ab hR;have HS:=ab hsm;have HF:=ab hf;have HPS:=ab hps;clear hv hc hW0 hb0 hl0 hR hsm hf hps hx1;go_enter Tryz.func8,Tryz.ntmps8
 go_upto_region 1 with fail
 rw [←HW0.out];clear HW0;go_wp2_with (first
  | (refine kF rfl 28 (.tmp 3) rfl w.heap.size 0 rfl [.int .i64 rk,.string ⟨rch.toArray⟩,.bool rng,.slice ra rrs.length rcp,.int .i64 rlo,.int .i64 rhi,.bool rlz,.slice rka rks.length rkc,.slice fa fs.length fcp,.bool fd,.bool al] _ (kJ (ds:=[]) HL0.out) lm rfl iq ?_)
  | (go_at_call 19;refine HM.out.mono ?_))
 first|rintro e w1 rfl hb1|rintro e w1 ⟨rfl,hb1⟩
 have hl1:=(hb1.block _ (jO HL0.out)).trans HL0.out;have HB1:=ab (bel2 HB0.out hb1);have HL1:=ab hl1;clear hb1 hl1 HM;cases hmay:sf ⟨X,fs,fd,al⟩ with
 | false =>
  exact du
 | true =>
  have hmx:mayB X=true∧oe fs=true:=by unfold sf at hmay;simpa only [Cs] using hmay
  have hwf:=ul hmx.1;have HRE:Hid (R=if (kQ X fd al s z).2.out=true then([],0,9) else Bl fs s (rcM fd s).offs (kQ X fd al s z).1 (kQ X fd al s z).2.fuel):=ab (by
   rw [←HR.out];unfold sf at hmay;exact Co (by rw [hmay];decide))
  have HMX:=ab hmx.1;have HFM:=ab hmx.2;have hgr:X.groups≤512:=Ct (Rx.groups_parts X) hwf.2;have hpx:X.parts≤1000000:=gu;obtain⟨y0,y1,y2,y3,y4,y5,y6,y7,y8,y9,y10⟩:w1.cell? ⟨w.heap.size,0,none⟩=some (.int .i64 rk)∧w1.cell? ⟨w.heap.size,1,none⟩=some (.string ⟨rch.toArray⟩)∧w1.cell? ⟨w.heap.size,2,none⟩=some (.bool rng)∧w1.cell? ⟨w.heap.size,3,none⟩=some (.slice ra rrs.length rcp)∧w1.cell? ⟨w.heap.size,4,none⟩=some (.int .i64 rlo)∧w1.cell? ⟨w.heap.size,5,none⟩=some (.int .i64 rhi)∧w1.cell? ⟨w.heap.size,6,none⟩=some (.bool rlz)∧w1.cell? ⟨w.heap.size,7,none⟩=some (.slice rka rks.length rkc)∧w1.cell? ⟨w.heap.size,8,none⟩=some (.slice fa fs.length fcp)∧w1.cell? ⟨w.heap.size,9,none⟩=some (.bool fd)∧w1.cell? ⟨w.heap.size,10,none⟩=some (.bool al):=by
   refine⟨?_,?_,?_,?_,?_,?_,?_,?_,?_,?_,?_⟩<;>(rw [Cv HL1.out];rfl)
  have hask0:=uA (nW X fd al s z);have hml0:(kQ X fd al s z).1.length≤1000001:=by
   by_cases h:(kQ X fd al s z).1=[]
   ·rw [h];simp
   ·have h1:=(nW X fd al s z).len h
    have h2:(rcM fd s).cs.length≤s.length:=pZ s;omega
  clear hmay hmx hwf HR HL0;cases al with
  | true =>
   have HA:=ab (All_anyV S (fold:=fd) (s:=s) (z:=z) w1 (HXV.out.later HB1.out) hpx HS.out.1 hs);unfold rxc at HA;clear hpx;go_wp2_with (go_at_call 20;refine HA.out.mono ?_)
   rintro e w2 ⟨hb2,hfo⟩;have HL2:=ab ((hb2.block _ (jO HL1.out)).trans HL1.out);have HB9:=ab (bel2 HB1.out hb2);clear hb2 y0 y1 y2 y3 y4 y5 y6 y7 y8 y9 y10 HA;have hQ:kQ X fd true s z=pP X fd s z:=rfl;rcases hfo with⟨h1,_⟩|⟨_,h2,rfl⟩|⟨_,h2,va,vc,css,rfl,h3,h4⟩
   ·exact eI
   ·have HR2:Hid (R=([],0,9)):=ab jD
    clear h2 HRE;go_wp2
    go_ret3
    exact⟨by rw [HR2.out];rfl,HB9.out⟩
   ·have hRE:=HRE.out
    have hps:=HPS.out;rw [Co (by rw [hQ,h2];decide)] at hRE;replace hps:∀m∈(kQ X fd true s z).1,∀p∈lx s (rcM fd s).offs m,p.length≤mf:=hps;rw [hQ] at hRE hask0 hml0 hps;obtain⟨ms,hms⟩:∃ms,(pP X fd s z).1=ms:=⟨_,rfl⟩;obtain⟨left,hleft⟩:∃left,(pP X fd s z).2.fuel=left:=⟨_,rfl⟩;obtain⟨offs,hoffs⟩:∃offs,(rcM fd s).offs=offs:=⟨_,rfl⟩;obtain⟨n,hn⟩:∃n,X.groups=n:=⟨_,rfl⟩;rw [hms,hleft,hoffs] at hRE;rw [hms,hoffs] at hps hask0 h4;rw [hn] at h4 hgr;rw [hms] at hml0 h3;rw [hms,hleft];have HSL:=ab h3;have HMT:=ab h4;have HPS2:=ab hps;have hask:=hask0;clear HRE HPS h2 h3 h4 hps hask0 hms hleft hoffs hn hQ HMX;obtain⟨W9,hW9⟩:∃W9,W9=w2:=⟨_,rfl⟩;subst hW9;have HL9:=HL2;by_cases hne:ms=[]
    ·subst hne
     have HR2:Hid (R=(s,(left:Int),0)):=ab (by rw [hRE];rfl);clear hRE hask;go_wp2
     go_ret3
     exact⟨by rw [HR2.out];rfl,HB9.out⟩
    ·have hmp:0<ms.length:=List.length_pos_iff.2 hne
     have hRG:R=endG s left (goV s offs fs ms 0 []):=by rw [hRE,sg hne,A5 HFM.out]
     obtain⟨G,hG⟩:∃G,goV s offs fs ms 0 []=G:=⟨_,rfl⟩;rw [hG] at hRG;have HG:=ab hG;have HRG:=ab hRG;have HASK:=ab hask;have HNE:=ab hne;have h0i:((ms.length:Int)==0)=false:=by rw [CM];omega
     obtain⟨vb,vo,hva,_,hvB,hvc⟩:=HSL.out.2 hmp;subst hva;have HVC:=ab hvc;clear hRE hRG hG hask hvc hne;go_wp2
     go_loopw [14,15,16] (fun v14 v15 q wr=>ApvRel s offs fs ms W9 G v14 v15 q wr) (fun _ _ q _=>ms.length-(intOf q).toNat)
     case atStart=>exact dH
     case round =>
      obtain⟨k,at_,out,hk,rfl,rfl,rfl,hb,hat,hol,hfrom,HF9⟩:=hrel;clear HG;have HBR:=ab hb;have hml1:ms.length≤1000001:=hml0;by_cases hlt:k<ms.length
      ·obtain⟨m,hm⟩:∃m,ms[k]?=some m:=⟨_,Cn hlt⟩
       have hkl:(k:Int)<(ms.length:Int):=gu;obtain⟨hq1,hq2,hq3,hq4⟩:=HASK.out k m hm;have hq5:=hfrom.out m hm;have hdr:ms.drop k=m::ms.drop (k+1):=by rw [List.drop_eq_getElem_cons hlt,(Cq.1 hm).2]
       obtain⟨cc,hcc,hmt⟩:=HMT.out.at_ hm;have h33:=HMT.out.three;have hmt0:=hmt;obtain⟨aa,cp,rfl,_,_,_,_⟩:=hmt0;have hPP:=HPS2.out m (CF hm);have HPUT:Hid (∀x:ExtOf wr,Calls Tryz.prog 22 #[.agg ([.int .i64 rk,.string ⟨rch.toArray⟩,.bool rng,.slice ra rrs.length rcp,.int .i64 rlo,.int .i64 rhi,.bool rlz,.slice rka rks.length rkc,.slice fa fs.length fcp,.bool fd,.bool true]).toArray,.string ⟨s.toArray⟩,.agg #[.int .i64 ((offs.getD m.1 0:Nat):Int),.int .i64 ((offs.getD m.2.1 0:Nat):Int),.slice aa n cp]] x.val fun e w'=>e=.returned (.string ⟨(ld fs (lx s offs m)).toArray⟩)∧Below x.val.heap.size x.val w'):=ab fun x =>
        B4 S ⟨X,fs,fd,true⟩ _ x.val (HV.out.keep (Kept.all (bel2 (bel2 HB9.out HBR.out) x.ext))) (hmt.keep (Kept.all (bel2 HBR.out x.ext))) ⟨hq1,hq2⟩ hq3 gu hfs hmf HF.out hPP
       have r0:=ExtOf.cell (jP hb _ _ (by have:=HVC.out (k*3+0) _ (mw h33 hcc (j:=0) rfl);simpa using this:W9.cell? ⟨vb,vo+k*3,none⟩=some (.int .i64 ((offs.getD m.1 0:Nat):Int))));have r1:=ExtOf.cell (jP hb _ _ (by have:=HVC.out (k*3+1) _ (mw h33 hcc (j:=1) rfl);simpa [CY] using this:W9.cell? ⟨vb,vo+k*3+1,none⟩=some (.int .i64 ((offs.getD m.2.1 0:Nat):Int))));have r2:=ExtOf.cell (jP hb _ _ (by have:=HVC.out (k*3+2) _ (mw h33 hcc (j:=2) rfl);simpa [CY] using this:W9.cell? ⟨vb,vo+k*3+2,none⟩=some (.slice aa n cp)));have HLX:Hid (∀x:ExtOf wr,x.val.heap[w.heap.size]?=some (.cells (([.int .i64 rk,.string ⟨rch.toArray⟩,.bool rng,.slice ra rrs.length rcp,.int .i64 rlo,.int .i64 rhi,.bool rlz,.slice rka rks.length rkc,.slice fa fs.length fcp,.bool fd,.bool true]:List Value)++[]).toArray 28 (0,0))):=ab fun x=>((bel2 HBR.out x.ext).block _ (jO HL9.out)).trans HL9.out
       obtain⟨p1,hp1⟩:∃p1,offs.getD m.1 0=p1:=⟨_,rfl⟩;obtain⟨p2,hp2⟩:∃p2,offs.getD m.2.1 0=p2:=⟨_,rfl⟩;obtain⟨PP,hPQ⟩:∃PP,ld fs (lx s offs m)=PP:=⟨_,rfl⟩;rw [hp1] at hq1 hq5 r0 HPUT;rw [hp2] at hq1 hq2 r1 HPUT;rw [hPQ] at HPUT;simp only [hp2] at hq4;have hPL:PP.length≤10000000:=by
        exact dW
       have hol2:=hol.out;have z1:¬9223372036854775807<out.length+min (p1-at_) (s.length-at_):=gu;have z2:¬9223372036854775807<out.length+min (p1-at_) (s.length-at_)+PP.length:=gu;have z3:¬9223372036854775807<out.length+(min (p1-at_) (s.length-at_)+PP.length):=gu;clear hol2;obtain⟨O2,hO2⟩:∃O2,out++(List.take (p1-at_) (List.drop at_ s)++PP)=O2:=⟨_,rfl⟩;have hstep:goV s offs fs (ms.drop k) at_ out=if 65536<O2.length then none else goV s offs fs (ms.drop (k+1)) p2 O2:=by
        exact cD
       have HSTEP:Hid (G=if 65536<O2.length then none else goV s offs fs (ms.drop (k+1)) p2 O2):=ab (by rw [←HF9.out,hstep]);have HO2:=ab hO2;have HQ4:=ab hq4;have hi1:(at_:Int)≤(p1:Int):=gu;have hi2:(p1:Int)≤(s.length:Int):=gu;have hp2s:p2≤s.length:=hq2;clear hstep hdr hmt hcc h33 hPP hq3 hq4 hq5 hp1 hp2 hPQ hfrom HF9 hO2 hm;go_upto_region 21 with fail
       refine jS gE gE ?_;repeat (first
        | (refine xA rfl 28 (.tmp 3) rfl w.heap.size 0 rfl [.int .i64 rk,.string ⟨rch.toArray⟩,.bool rng,.slice ra rrs.length rcp,.int .i64 rlo,.int .i64 rhi,.bool rlz,.slice rka rks.length rkc,.slice fa fs.length fcp,.bool fd,.bool true] _ (fun w9 hx=>by obtain⟨x,rfl⟩:=hx;exact kJ (ds:=[]) (HLX.out x)) lm rfl iq ?_;go_frame)
        | (go_big_quiet_step ((go_at_call 22;exact ku (HPUT.out _)))))
       exact br
      ·exact bn
  | false =>
   have HB2:Hid (Below w.heap.size w (w1.alloc (.cells #[.int .i64 0,.int .i64 0,.slice none 0 0] 60))):=ab (HB1.out.alloc HB1.out.size _);have hz1:=HB1.out.size;have hfl:=jO HL1.out;obtain⟨W2,hW2⟩:∃W2,W2=w1.alloc (.cells #[.int .i64 0,.int .i64 0,.slice none 0 0] 60):=⟨_,rfl⟩;have hb12:Below w1.heap.size w1 W2:=by rw [hW2];exact(Below.refl _ _).alloc (Cp _) _
   have HM2:Hid (W2.heap[w1.heap.size]?=some (.cells #[.int .i64 0,.int .i64 0,.slice none 0 0] 60 (0,0))):=ab (by rw [hW2];exact heap_alloc_new w1 _);rw [←hW2] at HB2;have HL2:=ab ((hb12.block _ hfl).trans HL1.out);have hz2:W2.heap.size=w1.heap.size+1:=by rw [hW2];simp
   have HFD:=ab (Bo (fun b=>b<w1.heap.size) (fun b=>b=w1.heap.size) (fold:=fd) (s:=s) (z:=z) W2 ((HXV.out.mono fun b _ hl=>(by omega:b<w1.heap.size)).later HB2.out) hpx HS.out.1 hs (fun b hb=>by have hb:b=w1.heap.size:=hb;omega) (fun b hb he=>by have he:b=w1.heap.size:=he;have hb:b<w1.heap.size:=hb;omega));have HW2:=ab hW2;unfold rxc at HFD;clear hpx hW2 hb12 y0 y1 y2 y3 y4 y5 y6 y7 y8 y9;go_upto_region 10 with fail
   rw [←HW2.out];obtain⟨y0,y1,y2,y3,y4,y5,y6,y7,y8,y9,y10⟩:W2.cell? ⟨w.heap.size,0,none⟩=some (.int .i64 rk)∧W2.cell? ⟨w.heap.size,1,none⟩=some (.string ⟨rch.toArray⟩)∧W2.cell? ⟨w.heap.size,2,none⟩=some (.bool rng)∧W2.cell? ⟨w.heap.size,3,none⟩=some (.slice ra rrs.length rcp)∧W2.cell? ⟨w.heap.size,4,none⟩=some (.int .i64 rlo)∧W2.cell? ⟨w.heap.size,5,none⟩=some (.int .i64 rhi)∧W2.cell? ⟨w.heap.size,6,none⟩=some (.bool rlz)∧W2.cell? ⟨w.heap.size,7,none⟩=some (.slice rka rks.length rkc)∧W2.cell? ⟨w.heap.size,8,none⟩=some (.slice fa fs.length fcp)∧W2.cell? ⟨w.heap.size,9,none⟩=some (.bool fd)∧W2.cell? ⟨w.heap.size,10,none⟩=some (.bool false):=by
    refine⟨?_,?_,?_,?_,?_,?_,?_,?_,?_,?_,?_⟩<;>(rw [Cv HL2.out];rfl)
   clear HW2;go_wp2_with (go_at_call 21;refine HFD.out.mono ?_)
   rintro e w3 ⟨hb3,hfo⟩;have HM3:=ab ((hb3.block _ (jO HM2.out)).trans HM2.out);have HL3:=ab ((hb3.block _ (jO HL2.out)).trans HL2.out);have HB3:=ab (bel2 HB2.out hb3);have hz3:=hb3.size;clear hb3 y0 y1 y2 y3 y4 y5 y6 y7 y8 y9 y10 HFD;rcases hfo with⟨h1,_⟩|⟨_,h2,rfl⟩|⟨_,h2,h3,rfl⟩|⟨_,h2,qa,qb,ps,aa,cc,h3,rfl,h4,h5,h6,h7⟩
   ·exact eI
   ·have HR2:Hid (R=([],0,9)):=ab jD
    clear h2 HRE;exact bY
   ·have HR2:Hid (R=(s,((mV X fd s z).2.fuel:Int),0)):=ab (by
     rw [HRE.out];rw [Co iF];rw [show (kQ X fd false s z).1=(mV X fd s z).1.toList from rfl,h3];rfl)
    clear h2 h3 HRE;exact bY
   ·have hRE:=HRE.out
    have hps:=HPS.out;have hq1:(kQ X fd false s z).1=[(qa,qb,ps)]:=by
     rw [show (kQ X fd false s z).1=(mV X fd s z).1.toList from rfl,h3];rfl
    rw [Co iF] at hRE;replace hps:∀m∈(kQ X fd false s z).1,∀p∈lx s (rcM fd s).offs m,p.length≤mf:=hps;obtain⟨ms,hms⟩:∃ms,[(qa,qb,ps)]=ms:=⟨_,rfl⟩;have hmn:ms.length=1:=by rw [←hms];rfl
    have hmm:∀(offs:List Nat) (n:Nat) (cs:List (List Value)) (w':World),MtVs w' Any offs n cs [(qa,qb,ps)]→MtVs w' Any offs n cs ms:=fun _ _ _ _ h=>hms▸h
    rw [hq1,hms] at hRE hps hask0 hml0;obtain⟨left,hleft⟩:∃left,(mV X fd s z).2.fuel=left:=⟨_,rfl⟩;rw [show (kQ X fd false s z).2.fuel=left from hleft] at hRE;rw [hleft];obtain⟨offs,hoffs⟩:∃offs,(rcM fd s).offs=offs:=⟨_,rfl⟩;have hofl:offs.length=(rcM fd s).cs.length+1:=by rw [←hoffs];exact qZ fd s
    rw [hoffs] at hRE hps hask0 ⊢;obtain⟨n,hn⟩:∃n,X.groups=n:=⟨_,rfl⟩;rw [hn] at h4 h5 hgr ⊢;obtain⟨ia,hia⟩:∃i,((offs.getD qa 0:Nat):Int)=i:=⟨_,rfl⟩;obtain⟨ib,hib⟩:∃i,((offs.getD qb 0:Nat):Int)=i:=⟨_,rfl⟩;rw [hia,hib];obtain⟨W4,hW4⟩:∃W4,w3.setRow w1.heap.size #[.int .i64 ia,.int .i64 ib,.slice aa n cc]=W4:=⟨_,rfl⟩;have hm4:W4.heap[w1.heap.size]?=some (.cells #[.int .i64 ia,.int .i64 ib,.slice aa n cc] 60 (0,0)):=by rw [←hW4];exact lC (cs:=#[.int .i64 ia,.int .i64 ib,.slice aa n cc]) HM3.out
    have hl4:=HL3.out;rw [←lY #[.int .i64 ia,.int .i64 ib,.slice aa n cc] (show w.heap.size≠w1.heap.size by omega),hW4] at hl4;have hb4:Below w.heap.size w W4:=by rw [←hW4];exact below_setRow HB3.out hz1 _
    have hs4:SlS W4 Any aa 2 n (jV ps):=(h4.keep (w':=W4) ⟨by rw [←hW4,oB];exact Cp _,fun k hk _=>by rw [←hW4];exact lY _ hk⟩).mono fun _ _ _=>trivial
    have m0:W4.cell? ⟨w1.heap.size,0,none⟩=some (.int .i64 ia):=by rw [Cv hm4];rfl
    have m1:W4.cell? ⟨w1.heap.size,1,none⟩=some (.int .i64 ib):=by rw [Cv hm4];rfl
    have m2:W4.cell? ⟨w1.heap.size,2,none⟩=some (.slice aa n cc):=by rw [Cv hm4];rfl
    obtain⟨W5,hW5⟩:∃W5,W5=W4.alloc (.cells #[.int .i64 ia,.int .i64 ib,.slice aa n cc] 60):=⟨_,rfl⟩;have hb5:Below W4.heap.size W4 W5:=by rw [hW5];exact(Below.refl _ _).alloc (Cp _) _
    have HSL5:Hid (Sl W5 W5.heap.size (some ⟨W4.heap.size,0,none⟩) 3 1 [.int .i64 ia,.int .i64 ib,.slice aa n cc]):=ab (by rw [hW5];exact Sl.lit (n:=1) (sz:=3) (heap_alloc_new W4 (.cells #[.int .i64 ia,.int .i64 ib,.slice aa n cc] 60)) rfl);have hone:∀u∈([.int .i64 ia,.int .i64 ib,.slice aa n cc]:List Value),u.oneCell'=true:=gG;have hmt5:MtV W5 Any offs n [.int .i64 ia,.int .i64 ib,.slice aa n cc] (qa,qb,ps):=⟨aa,cc,by rw [←hia,←hib],hs4.keep (Kept.all hb5),h5,h6,by show qb+1≤offs.length;omega⟩;have HMT5:=ab hmt5;have HL5:=ab ((hb5.block _ (jO hl4)).trans hl4);have HB5:=ab (bel2 hb4 hb5);have HONE:=ab hone;have HMM:=ab hmm;have HW4:=ab hW4;have HW5:=ab hW5;have HPS2:=ab hps;have hask:=hask0;have HI:=ab (info_parts rR);obtain⟨iM,hiM⟩:=HI.out;have hne:ms≠[]:=fun e=>by rw [e] at hmn;exact absurd hmn gD
    clear HRE HPS h2 h3 h4 h5 h6 h7 hps hask0 hms hleft hoffs hn hq1 hia hib hW4 hm4 hl4 hb4 hs4 hb5 hone hmt5 hmm hofl hW5;go_upto_region 12 with(refine kE rfl 60 (.tmp 12) (.tmp 41) rfl (w1.heap.size) (#[.int .i64 ia,.int .i64 ib,.slice aa n cc]) rfl rfl 60 _ (HM3.out) (kl) rfl rfl (gG) (W:=W4) (HW4.out) ?_)
    go_upto_region 13 with(at_builtin;rw [←HW5.out];refine ke W5.heap.size 60 rfl _ _ 57 rfl Tryz.underlying57 hiM rfl gD rfl (World.ownsRow_nil _ _ _ _) rfl HSL5.out HONE.out gu gu gD (Cp _) ?_)
    intro v1 w7 ho1 _ hb7 _;obtain⟨va,vc,hv1⟩:=j7 ho1;rw [←hmn] at hv1;subst hv1;obtain⟨css,hcss⟩:∃css:List (List Value),[[.int .i64 ia,.int .i64 ib,.slice aa n cc]]=css:=⟨_,rfl⟩;have HSL:Hid (SlS w7 Any va 3 ms.length css.flatten):=ab (by
     have h:=mQ (by rw [hmn] at ho1;exact ho1);rw [hmn,←hcss];exact h.mono fun _ _ _=>trivial)
    have HMT:Hid (MtVs w7 Any offs n css ms):=ab (by
     rw [←hcss];exact HMM.out _ _ _ _ (.cons (HMT5.out.keep (Kept.all hb7)) .nil))
    have HL9:=ab ((hb7.block _ (jO HL5.out)).trans HL5.out);have HB9:=ab (bel2 HB5.out hb7);obtain⟨W9,hW9⟩:∃W9,W9=w7:=⟨_,rfl⟩;subst hW9;clear ho1 hb7 hcss hmn HMM HMT5 HL5 HB5 HSL5 HONE HW4 HW5 HI HM3 HL3 HB3;have hmp:0<ms.length:=List.length_pos_iff.2 hne;have hRG:R=endG s left (goV s offs fs ms 0 []):=by rw [hRE,sg hne,A5 HFM.out]
    obtain⟨G,hG⟩:∃G,goV s offs fs ms 0 []=G:=⟨_,rfl⟩;rw [hG] at hRG;have HG:=ab hG;have HRG:=ab hRG;have HASK:=ab hask;have HNE:=ab hne;have h0i:((ms.length:Int)==0)=false:=by rw [CM];omega
    obtain⟨vb,vo,hva,_,hvB,hvc⟩:=HSL.out.2 hmp;subst hva;have HVC:=ab hvc;clear hRE hRG hG hask hvc hne;go_wp2
    go_loopw [14,15,16] (fun v14 v15 q wr=>ApvRel s offs fs ms W9 G v14 v15 q wr) (fun _ _ q _=>ms.length-(intOf q).toNat)
    case atStart=>exact dH
    case round =>
     obtain⟨k,at_,out,hk,rfl,rfl,rfl,hb,hat,hol,hfrom,HF9⟩:=hrel;clear HG;have HBR:=ab hb;have hml1:ms.length≤1000001:=hml0;by_cases hlt:k<ms.length
     ·obtain⟨m,hm⟩:∃m,ms[k]?=some m:=⟨_,Cn hlt⟩
      have hkl:(k:Int)<(ms.length:Int):=gu;obtain⟨hq1,hq2,hq3,hq4⟩:=HASK.out k m hm;have hq5:=hfrom.out m hm;have hdr:ms.drop k=m::ms.drop (k+1):=by rw [List.drop_eq_getElem_cons hlt,(Cq.1 hm).2]
      obtain⟨cc,hcc,hmt⟩:=HMT.out.at_ hm;have h33:=HMT.out.three;have hmt0:=hmt;obtain⟨aa,cp,rfl,_,_,_,_⟩:=hmt0;have hPP:=HPS2.out m (CF hm);have HPUT:Hid (∀x:ExtOf wr,Calls Tryz.prog 22 #[.agg ([.int .i64 rk,.string ⟨rch.toArray⟩,.bool rng,.slice ra rrs.length rcp,.int .i64 rlo,.int .i64 rhi,.bool rlz,.slice rka rks.length rkc,.slice fa fs.length fcp,.bool fd,.bool false]).toArray,.string ⟨s.toArray⟩,.agg #[.int .i64 ((offs.getD m.1 0:Nat):Int),.int .i64 ((offs.getD m.2.1 0:Nat):Int),.slice aa n cp]] x.val fun e w'=>e=.returned (.string ⟨(ld fs (lx s offs m)).toArray⟩)∧Below x.val.heap.size x.val w'):=ab fun x =>
       B4 S ⟨X,fs,fd,false⟩ _ x.val (HV.out.keep (Kept.all (bel2 (bel2 HB9.out HBR.out) x.ext))) (hmt.keep (Kept.all (bel2 HBR.out x.ext))) ⟨hq1,hq2⟩ hq3 gu hfs hmf HF.out hPP
      have r0:=ExtOf.cell (jP hb _ _ (by have:=HVC.out (k*3+0) _ (mw h33 hcc (j:=0) rfl);simpa using this:W9.cell? ⟨vb,vo+k*3,none⟩=some (.int .i64 ((offs.getD m.1 0:Nat):Int))));have r1:=ExtOf.cell (jP hb _ _ (by have:=HVC.out (k*3+1) _ (mw h33 hcc (j:=1) rfl);simpa [CY] using this:W9.cell? ⟨vb,vo+k*3+1,none⟩=some (.int .i64 ((offs.getD m.2.1 0:Nat):Int))));have r2:=ExtOf.cell (jP hb _ _ (by have:=HVC.out (k*3+2) _ (mw h33 hcc (j:=2) rfl);simpa [CY] using this:W9.cell? ⟨vb,vo+k*3+2,none⟩=some (.slice aa n cp)));have HLX:Hid (∀x:ExtOf wr,x.val.heap[w.heap.size]?=some (.cells (([.int .i64 rk,.string ⟨rch.toArray⟩,.bool rng,.slice ra rrs.length rcp,.int .i64 rlo,.int .i64 rhi,.bool rlz,.slice rka rks.length rkc,.slice fa fs.length fcp,.bool fd,.bool false]:List Value)++[]).toArray 28 (0,0))):=ab fun x=>((bel2 HBR.out x.ext).block _ (jO HL9.out)).trans HL9.out
      obtain⟨p1,hp1⟩:∃p1,offs.getD m.1 0=p1:=⟨_,rfl⟩;obtain⟨p2,hp2⟩:∃p2,offs.getD m.2.1 0=p2:=⟨_,rfl⟩;obtain⟨PP,hPQ⟩:∃PP,ld fs (lx s offs m)=PP:=⟨_,rfl⟩;rw [hp1] at hq1 hq5 r0 HPUT;rw [hp2] at hq1 hq2 r1 HPUT;rw [hPQ] at HPUT;simp only [hp2] at hq4;have hPL:PP.length≤10000000:=by
       exact dW
      have hol2:=hol.out;have z1:¬9223372036854775807<out.length+min (p1-at_) (s.length-at_):=gu;have z2:¬9223372036854775807<out.length+min (p1-at_) (s.length-at_)+PP.length:=gu;have z3:¬9223372036854775807<out.length+(min (p1-at_) (s.length-at_)+PP.length):=gu;clear hol2;obtain⟨O2,hO2⟩:∃O2,out++(List.take (p1-at_) (List.drop at_ s)++PP)=O2:=⟨_,rfl⟩;have hstep:goV s offs fs (ms.drop k) at_ out=if 65536<O2.length then none else goV s offs fs (ms.drop (k+1)) p2 O2:=by
       exact cD
      have HSTEP:Hid (G=if 65536<O2.length then none else goV s offs fs (ms.drop (k+1)) p2 O2):=ab (by rw [←HF9.out,hstep]);have HO2:=ab hO2;have HQ4:=ab hq4;have hi1:(at_:Int)≤(p1:Int):=gu;have hi2:(p1:Int)≤(s.length:Int):=gu;have hp2s:p2≤s.length:=hq2;clear hstep hdr hmt hcc h33 hPP hq3 hq4 hq5 hp1 hp2 hPQ hfrom HF9 hO2 hm;go_upto_region 21 with fail
      refine jS gE gE ?_;repeat (first
       | (refine xA rfl 28 (.tmp 3) rfl w.heap.size 0 rfl [.int .i64 rk,.string ⟨rch.toArray⟩,.bool rng,.slice ra rrs.length rcp,.int .i64 rlo,.int .i64 rhi,.bool rlz,.slice rka rks.length rkc,.slice fa fs.length fcp,.bool fd,.bool false] _ (fun w9 hx=>by obtain⟨x,rfl⟩:=hx;exact kJ (ds:=[]) (HLX.out x)) lm rfl iq ?_;go_frame)
       | (go_big_quiet_step ((go_at_call 22;exact ku (HPUT.out _)))))
      exact br
     ·exact bn
def rxZ:Rx→Bool|.mk k c ng rs lo hi lz ks=>decide (k=0)&&(c.isEmpty&&(!ng&&(rs.isEmpty&&(decide (lo=0)&&(decide (hi=0)&&(!lz&&ks.isEmpty))))))
def tfZ (f:Tf):Bool:=rxZ f.rx&&(f.fs.isEmpty&&(!f.fold&&!f.all))
def tq (x:Sn):Bool:=!x.has&&(!x.turned&&(x.kids.isEmpty&&tfZ x.form))
def yi (x:Sn):Bool:=if x.has=true then(if x.turned=true then false else tfZ x.form) else if x.turned=true then x.kids.isEmpty&&sf x.form else tq x
def BQ (x:Sn):Bool:=decide (0≤x.n∧x.n≤9999)
def fieldsS (x:Sn):Bool :=
 if x.kind=0 then !x.text.isEmpty&&(decide (x.n=0)&&(x.opts.isEmpty&&tq x))
 else if x.kind=1 then x.text.isEmpty&&(BQ x&&(x.opts.isEmpty&&yi x))
 else if x.kind=2 then x.text.isEmpty&&(BQ x&&(!x.opts.isEmpty&&tq x))
 else if x.kind=3 then nameB x.text&&(decide (x.n=0)&&(x.opts.isEmpty&&yi x))
 else false
def adjS:Bool→List Sn→Bool
 | _,[]=>true
 | pt,x::r=>!(decide (x.kind=0)&&pt)&&adjS (decide (x.kind=0)) r
namespace Sn
mutual
def wf:Sn→Bool
 | mk k t n h u f o ks=>fieldsS (mk k t n h u f o ks)&&(!h||(adjS false ks&&wfL ks))
def wfL:List Sn→Bool
 | []=>true
 | x::r=>wf x&&wfL r
end
end Sn
open Go.RowKit
mutual
def Sn.small:Sn→Prop
 | .mk _ t _ _ _ f os ks=>f.small∧os.length≤1000000∧ks.length≤1000000∧t.length≤1000000∧Sn.smallL ks
def Sn.smallL:List Sn→Prop
 | []=>True
 | x::r=>x.small∧Sn.smallL r
end
open Go.RowKit Go.Maps Go.MapKept
open Go.ChangeMaps (setBlock)
def hdN (k:Int) (t:Str) (n:Int):Sn:=.mk k t n false false tf0 [] []
open Go.RowKit
def SlP (B sz n:Nat) (cs:List Value):Value→World→Prop:=fun v W=>∃a c,v=.slice a n c∧SlS W (fun b=>B≤b) a sz n cs
open Go.RowKit
def FouP (f:Tf) (s:Str) (z:Int) (w:World) (e:Ending) (w':World):Prop :=
 Below w.heap.size w w' ∧
  ((mayB f.rx=false∧∃u:Int,e=.returned (.tuple #[.slice none 0 0,.int .i64 u,.int .i64 10]))
  ∨ (mayB f.rx=true∧(kQ f.rx f.fold f.all s z).2.out=true∧∃u:Int,e=.returned (.tuple #[.slice none 0 0,.int .i64 u,.int .i64 9]))
  ∨ (mayB f.rx=true∧(kQ f.rx f.fold f.all s z).2.out=false∧∃v,e=.returned (.tuple #[v,.int .i64 ((kQ f.rx f.fold f.all s z).2.fuel:Int),.int .i64 0])∧OwnM w' w.heap.size (rcM f.fold s).offs f.rx.groups v (kQ f.rx f.fold f.all s z).1))
theorem AO (S:Nat→Prop) (f:Tf) (fc:List Value) (w:World) (hv:TfV w S fc f) {s:Str} {z:Int} (hm:f.rx.parts≤1000000) (hsm:f.rx.small) (hwf:f.rx.wf=true) (hs:s.length≤1000000) (hg:f.rx.groups≤1000) :
  Calls Tryz.prog 16 #[.agg fc.toArray,.string ⟨s.toArray⟩,.int .i64 z] w (FouP f s z w):=by
 obtain⟨rk,rch,rng,rrs,rlo,rhi,rlz,rks,ra,rcp,rka,rkc,fa,fcp,hc⟩:=hv.open_;obtain⟨X,fs,fd,al⟩:=f;have hx1:X=.mk rk rch rng rrs rlo rhi rlz rks:=hc.rx;have hfce:fc=[.int .i64 rk,.string ⟨rch.toArray⟩,.bool rng,.slice ra rrs.length rcp,.int .i64 rlo,.int .i64 rhi,.bool rlz,.slice rka rks.length rkc,.slice fa fs.length fcp,.bool fd,.bool al]:=hc.eq;obtain⟨W0,hW0⟩:∃W0,W0=w.alloc (.cells fc.toArray 28):=⟨_,rfl⟩;have hb0:Below w.heap.size w W0:=by rw [hW0];exact(Below.refl _ _).alloc (Cp _) _
 have HB1:Hid (W0.heap[w.heap.size]?=some (.cells fc.toArray 28 (0,0))):=ab iE;have HXV:Hid (RxV W0 S [.int .i64 rk,.string ⟨rch.toArray⟩,.bool rng,.slice ra rrs.length rcp,.int .i64 rlo,.int .i64 rhi,.bool rlz,.slice rka rks.length rkc] X):=ab (hx1▸hc.rv.later hb0);subst hfce;have HW0:=ab hW0;have HB0:=ab hb0;have z9:=jT HB1.out 9 rfl;have z10:=jT HB1.out 10 rfl;clear hv hc hx1 hW0 hb0;cases al with
 | true =>
  have HA:=ab (All_any S (fold:=fd) (s:=s) (z:=z) W0 HXV.out hm hsm hwf hs hg);go_enter Tryz.func16,Tryz.ntmps16
  go_upto_region 1 with fail
  rw [←HW0.out];clear HW0;go_wp2_with (first
   | (refine kF rfl 25 (.tmp 15) rfl w.heap.size 0 rfl [.int .i64 rk,.string ⟨rch.toArray⟩,.bool rng,.slice ra rrs.length rcp,.int .i64 rlo,.int .i64 rhi,.bool rlz,.slice rka rks.length rkc] _ (kJ (ds:=[.slice fa fs.length fcp,.bool fd,.bool true]) HB1.out) nb rfl iU ?_)
   | (go_at_call 31;refine HA.out.mono ?_))
  rintro e w1 ⟨hb1,h⟩;have HB2:=ab (bel2 HB0.out hb1);have hle:=HB0.out.size;clear hb1;rcases h with⟨h1,rfl⟩|⟨h1,h2,rfl⟩|⟨h1,h2,v,rfl,h3⟩
  ·have H1:=ab h1
   clear h1;go_wp2
   go_ret3
   exact⟨HB2.out,.inl ⟨H1.out,_,rfl⟩⟩
  ·have H1:=ab h1
   have H2:=ab h2;clear h1 h2;go_wp2
   go_ret3
   exact⟨HB2.out,.inr (.inl ⟨H1.out,H2.out,_,rfl⟩)⟩
  ·have H1:=ab h1
   have H2:=ab h2;have H3:=ab h3;clear h1 h2 h3;go_wp2
   go_ret3
   exact⟨HB2.out,.inr (.inr ⟨H1.out,H2.out,v,rfl,H3.out.base hle⟩)⟩
 | false =>
  have HA:=ab (Find_any S (fold:=fd) (s:=s) (z:=z) W0 HXV.out hm hsm hwf hs hg);go_enter Tryz.func16,Tryz.ntmps16
  go_upto_region 1 with fail
  rw [←HW0.out];clear HW0;go_wp2_with (first
   | (refine kF rfl 25 (.tmp 26) rfl w.heap.size 0 rfl [.int .i64 rk,.string ⟨rch.toArray⟩,.bool rng,.slice ra rrs.length rcp,.int .i64 rlo,.int .i64 rhi,.bool rlz,.slice rka rks.length rkc] _ (kJ (ds:=[.slice fa fs.length fcp,.bool fd,.bool false]) HB1.out) nb rfl iU ?_)
   | (go_at_call 32;refine HA.out.mono ?_))
  rintro e w1 ⟨hb1,h⟩;have HB2:=ab (bel2 HB0.out hb1);have hle:=HB0.out.size;rcases h with⟨h1,rfl⟩|⟨h1,h2,rfl⟩|⟨h1,h2,h3,rfl⟩|⟨h1,h2,a,b,ps,aa,c,h3,rfl,h4,h5,h6,h7⟩
  ·have H1:=ab h1
   clear h1 hb1;unfold mz;go_wp2
   go_ret3
   exact⟨HB2.out.trans ((Below.refl _ _).alloc HB2.out.size _),.inl ⟨H1.out,_,rfl⟩⟩
  ·have H1:=ab h1
   have H2:=ab h2;clear h1 h2 hb1;unfold mz;go_wp2
   go_ret3
   exact⟨HB2.out.trans ((Below.refl _ _).alloc HB2.out.size _),.inr (.inl ⟨H1.out,H2.out,_,rfl⟩)⟩
  ·have H1:=ab h1
   have H2:=ab h2;have H3:=ab h3;clear h1 h2 h3 hb1;unfold mz;go_wp2
   go_ret3
   refine⟨HB2.out.trans ((Below.refl _ _).alloc HB2.out.size _),.inr (.inr ⟨H1.out,H2.out,_,rfl,?_⟩)⟩;show OwnM _ _ _ _ _ (rO X fd s z).1.toList
   rw [H3.out];exact OwnM.nil _ _ _ _
  ·have H1:=ab h1
   have H2:=ab h2;have H3:=ab h3;have H4:=ab h4;have H5:=ab h5;have H6:=ab h6;have H7:=ab h7;generalize hua:(rcM fd s).offs.getD a 0=ua
   generalize hub:(rcM fd s).offs.getD b 0=ub
   have HUA:=ab hua;have HUB:=ab hub;have hz1:=HB2.out.size;have ho:((w1.alloc (.cells #[.int .i64 (ua:Int),.int .i64 (ub:Int),.slice aa X.groups c] 51)).alloc (.cells #[.int .i64 (ua:Int),.int .i64 (ub:Int),.slice aa X.groups c] 51)).ownsRow w.heap.size 51 3 (.slice (some ⟨w1.heap.size+1,0,none⟩) 1 1) 1 [.int .i64 (ua:Int),.int .i64 (ub:Int),.slice aa X.groups c]:=by
    have:=World.ownsRow_lit (w1.alloc (.cells #[.int .i64 (ua:Int),.int .i64 (ub:Int),.slice aa X.groups c] 51)) #[.int .i64 (ua:Int),.int .i64 (ub:Int),.slice aa X.groups c] 1 (base:=w.heap.size) (e:=51) (size:=3) gH gD rfl
    simpa using this
   have HO:=ab ho;clear h1 h2 h3 h4 h5 h6 h7 hb1 hua hub ho;go_wp2
   go_ret3
   refine⟨(HB2.out.trans ((Below.refl _ _).alloc HB2.out.size _)).trans ((Below.refl _ _).alloc gH _),.inr (.inr ⟨H1.out,H2.out,_,rfl,?_⟩)⟩;show OwnM _ _ _ _ _ (rO X fd s z).1.toList
   rw [H3.out];refine⟨[[.int .i64 (ua:Int),.int .i64 (ub:Int),.slice aa X.groups c]],HO.out,.cons ⟨aa,c,by rw [HUA.out,HUB.out],?_,H5.out,H6.out,by show b+1≤(rcM fd s).offs.length;have h8:(rcM fd s).offs.length=(rcM fd s).cs.length+1:=lH _ _;have:=H7.out;omega⟩ .nil⟩;have h9:=SlS.mono H4.out (S':=fun b=>W0.heap.size≤b∧b<w1.heap.size) (fun b hb hlt=>⟨hb,hlt⟩);refine SlS.mono (SlS.keep (SlS.keep h9 (Kept.all ((Below.refl _ _).alloc (Cp _) _))) (Kept.all ((Below.refl _ _).alloc (Cp _) _))) (fun d hd _=>⟨Ct hle hd.1,fun e=>?_⟩);have h12:=hd.2;have e2:w1.heap.size+1=d:=by injection e
   omega
open Go.RowKit
theorem XMay_any (S:Nat→Prop) (f:Tf) (hsm:f.small) (fc:List Value) (w:World) (hv:TfV w S fc f) :
  Calls Tryz.prog 15 #[.agg fc.toArray] w fun e w'=>e=.returned (.bool (sf f))∧Below w.heap.size w w':=by
 obtain⟨rk,rch,rng,rrs,rlo,rhi,rlz,rks,ra,rcp,rka,rkc,fa,fcp,hc⟩:=hv.open_;obtain⟨X,fs,fd,al⟩:=f;obtain⟨hx,hp,hfs⟩:=hsm;have hx1:X=.mk rk rch rng rrs rlo rhi rlz rks:=hc.rx;have hfce:fc=[.int .i64 rk,.string ⟨rch.toArray⟩,.bool rng,.slice ra rrs.length rcp,.int .i64 rlo,.int .i64 rhi,.bool rlz,.slice rka rks.length rkc,.slice fa fs.length fcp,.bool fd,.bool al]:=hc.eq;obtain⟨W0,hW0⟩:∃W0,W0=w.alloc (.cells fc.toArray 28):=⟨_,rfl⟩;have hb0:Below w.heap.size w W0:=by rw [hW0];exact(Below.refl _ _).alloc (Cp _) _
 have HB1:Hid (W0.heap[w.heap.size]?=some (.cells fc.toArray 28 (0,0))):=ab iE;have HXV:Hid (RxV W0 S [.int .i64 rk,.string ⟨rch.toArray⟩,.bool rng,.slice ra rrs.length rcp,.int .i64 rlo,.int .i64 rhi,.bool rlz,.slice rka rks.length rkc] X):=ab (hx1▸hc.rv.later hb0);have HFS:Hid (SlS W0 S fa 5 fs.length (lA fs)):=ab (hc.fv.keep (Kept.all hb0));have HXS:=ab hx;have HP:=ab hp;have HFL:=ab hfs;have HTM:Hid (sf ⟨X,fs,fd,al⟩=(mayB X&&oe fs)):=ab rfl;subst hfce;have HW0:=ab hW0;rw [HTM.out];clear hv hc hx hx1 hW0 hfs hp HTM;have HRM:=ab (rS S X _ W0 HP.out HXS.out HXV.out);cases hm:mayB X with
 | false =>
  rw [hm] at HRM;clear hm;go_enter Tryz.func15,Tryz.ntmps15
  go_upto_region 1 with fail
  rw [←HW0.out];clear HW0;go_wp2_with (first
   | (refine kF rfl 25 (.tmp 3) rfl w.heap.size 0 rfl [.int .i64 rk,.string ⟨rch.toArray⟩,.bool rng,.slice ra rrs.length rcp,.int .i64 rlo,.int .i64 rhi,.bool rlz,.slice rka rks.length rkc] _ (kJ (ds:=[.slice fa fs.length fcp,.bool fd,.bool al]) HB1.out) nb rfl iU ?_)
   | (go_at_call 29;refine HRM.out.mono ?_))
  exact cU
 | true =>
  rw [hm] at HRM;clear hm;go_enter Tryz.func15,Tryz.ntmps15
  go_upto_region 1 with fail
  rw [←HW0.out];clear HW0;go_wp2_with (first
   | (refine kF rfl 25 (.tmp 3) rfl w.heap.size 0 rfl [.int .i64 rk,.string ⟨rch.toArray⟩,.bool rng,.slice ra rrs.length rcp,.int .i64 rlo,.int .i64 rhi,.bool rlz,.slice rka rks.length rkc] _ (kJ (ds:=[.slice fa fs.length fcp,.bool fd,.bool al]) HB1.out) nb rfl iU ?_)
   | (go_at_call 29;refine HRM.out.mono ?_))
  first|rintro e w1 rfl hb1|rintro e w1 ⟨rfl,hb1⟩
  have hx1:=(hb1.block _ (jO HB1.out)).trans HB1.out;have z8:=jT hx1 8 rfl;have HM:=ab (v9 fa fs.length fcp fs w1 (HFS.out.keep (Kept.all hb1)).sl HFL.out);clear hx1;go_wp2_with (go_at_call 30;refine HM.out.mono ?_)
  exact dU
end Go.Proofs.YtjggmmaojklmpaaGreat
