/- walk of rxrun: told, Find -/
import Derived.Test.YtbnkaecmgfolpaaGreatHb21
set_option maxRecDepth 100000
set_option maxHeartbeats 4000000
namespace Go.Proofs.YtbnkaecmgfolpaaGreat
open Go.RowKit
theorem pj {fn:Func} {p u1 u2 u3:Tmp} {ty t:TypeId} {tmps:Array Value} {w:World} {b:Nat} {cs:Array Value} {f:Nat × Nat} {fs:Array Field} {n:Nat} {v1 v2 v3:Value} (hr:fn.results=#[.cell p ty,.tmp u1,.tmp u2,.tmp u3]) (hu:Tryz.prog.underlying ty=some (.struct fs)) (hi:(Tryz.prog.info? ty).map (·.size)=some n)
  (h:w.heap[b]?=some (.cells cs t f)) (hn:cs.size=n) (hp:tmps.getD p undef=.pointer (some ⟨b,0,none⟩)) (hv1:tmps.getD u1 undef=v1) (hv2:tmps.getD u2 undef=v2) (hv3:tmps.getD u3 undef=v3):(results fn tmps).run Tryz.prog w=.ok (.tuple #[.agg cs,v1,v2,v3]) w:=by
 subst hn;have e:(results fn tmps).run Tryz.prog w=((asAddr (tmps.getD p undef)).run Tryz.prog w).andThen fun a w₁=>((loadVar ty a).run Tryz.prog w₁).andThen fun v w₂=>.ok (.tuple #[v,tmps.getD u1 undef,tmps.getD u2 undef,tmps.getD u3 undef]) w₂:=by
  simp only [results,hr];simp [Sem.run_bind,Result.andThen]
 rw [e,hp,hv1,hv2,hv3];exact dF
def qF (x:Rx) (fold:Bool) (s:Str) (z:Int):Option (Nat × Nat × List (Int × Int)) × Rst:=lD (rcM fold s) x ((rcM fold s).offs.length+1) 0 (kH x.groups z)
def FndP (x:Rx) (fold:Bool) (s:Str) (z:Int) (w:World) (e:Ending) (w':World):Prop :=
 Below w.heap.size w w' ∧
  ((mayB x=false∧e=.returned (.tuple #[mz,.int .i64 0,.bool false,.int .i64 10]))
  ∨ (mayB x=true∧(qF x fold s z).2.out=true∧e=.returned (.tuple #[mz,.int .i64 0,.bool false,.int .i64 9]))
  ∨ (mayB x=true∧(qF x fold s z).2.out=false∧(qF x fold s z).1=none∧e=.returned (.tuple #[mz,.int .i64 ((qF x fold s z).2.fuel:Int),.bool false,.int .i64 0]))
  ∨ (mayB x=true∧(qF x fold s z).2.out=false∧∃a b ps aa c,(qF x fold s z).1=some (a,b,ps)∧e=.returned (.tuple #[.agg #[.int .i64 (((rcM fold s).offs.getD a 0:Nat):Int),.int .i64 (((rcM fold s).offs.getD b 0:Nat):Int),.slice aa x.groups c],.int .i64 ((qF x fold s z).2.fuel:Int),.bool true,.int .i64 0])
    ∧ SlS w' (fun b=>w.heap.size≤b) aa 2 x.groups (i7 ps)∧ps.length=x.groups∧a≤b∧b≤(rcM fold s).cs.length))
theorem told_any (S:Nat→Prop) {x:Rx} {cc:List Value} {fold:Bool} {s:Str} {z:Int} (w:World) (hv:RxV w S cc x) (hm:x.parts≤1000000) (hsm:x.small) (hwf:x.wf=true) (hs:s.length≤1000000) (hg:x.groups≤1000) :
  Calls Tryz.prog 86 #[.agg cc.toArray,.bool fold,.string ⟨s.toArray⟩,.int .i64 0,.int .i64 z,.func (.func 84) #[] #[]] w (FndP x fold s z w):=by
 have hv0:=hv;obtain⟨X,hX⟩:∃X,X=x:=⟨_,rfl⟩;obtain⟨kd,ch,ng,rs,lo,hi,lz,ks⟩:=x;obtain⟨ra,rc,ka,kc,rfl,hrs,hks⟩:=hv0.open_;rw [←hX];obtain⟨W1,hW1⟩:∃W1,W1=(w.alloc (.cells (rxc kd ch ng ra rs.length rc lo hi lz ka ks.length kc).toArray 25)).alloc (.cells #[.int .i64 0,.int .i64 0,.slice none 0 0] 72):=⟨_,rfl⟩;have hb1:Below w.heap.size w W1:=by rw [hW1];exact((Below.refl _ _).alloc (zP _) _).alloc fq _
 have hz1:W1.heap.size=w.heap.size+2:=by rw [hW1];simp
 have hx1:W1.heap[w.heap.size]?=some (.cells (rxc kd ch ng ra rs.length rc lo hi lz ka ks.length kc).toArray 25 (0,0)):=by rw [hW1,Below.heap_alloc _ _ _ fq];exact heap_alloc_new w _
 have hy1:W1.heap[w.heap.size+1]?=some (.cells #[.int .i64 0,.int .i64 0,.slice none 0 0] 72 (0,0)):=by
  exact cD
 rw [←hX] at hv hm hsm hwf hg;have hv1:=hv.later hb1;have HM:=ab (pE S X _ W1 hm hsm hv1);have x0:W1.cell? ⟨w.heap.size,0,none⟩=some (.int .i64 kd):=by rw [zT hx1];rfl
 have x1:W1.cell? ⟨w.heap.size,1,none⟩=some (.string ⟨ch.toArray⟩):=by rw [zT hx1];rfl
 have x2:W1.cell? ⟨w.heap.size,2,none⟩=some (.bool ng):=by rw [zT hx1];rfl
 have x3:W1.cell? ⟨w.heap.size,3,none⟩=some (.slice ra rs.length rc):=by rw [zT hx1];rfl
 have x4:W1.cell? ⟨w.heap.size,4,none⟩=some (.int .i64 lo):=by rw [zT hx1];rfl
 have x5:W1.cell? ⟨w.heap.size,5,none⟩=some (.int .i64 hi):=by rw [zT hx1];rfl
 have x6:W1.cell? ⟨w.heap.size,6,none⟩=some (.bool lz):=by rw [zT hx1];rfl
 have x7:W1.cell? ⟨w.heap.size,7,none⟩=some (.slice ka ks.length kc):=by rw [zT hx1];rfl
 have HB1:=ab hb1;have HZ1:=ab hz1;have HX1:=ab hx1;have HY1:=ab hy1;have HW1:=ab hW1;have HV1:=ab hv1;have HXe:=ab hX;clear hb1 hz1 hx1 hy1 hW1 hv1 hX hrs hks hv hv0;unfold rxc at HM HW1 ⊢;go_enter Tryz.func86,Tryz.ntmps86
 go_upto_region 1 with fail
 rw [←HW1.out];go_wp2_with (go_at_call 50;refine HM.out.mono ?_)
 first|rintro e w2 rfl hb2|rintro e w2 ⟨rfl,hb2⟩
 have HB2:=ab hb2;have keep2:∀(b:Nat) (o:Obj),W1.heap[b]?=some o→w2.heap[b]?=some o:=fun b o h=>(HB2.out.block b (iN h)).trans h
 clear hb2;cases hmb:mayB X with
 | false =>
  have hy2:=keep2 _ _ HY1.out;have HR2:=ab (mO (cs:=#[.int .i64 0,.int .i64 0,.slice none 0 0]) hy2);have HY2:=ab hy2;have HMB:=ab hmb;clear hmb hy2;go_wp2_with (refine kB rfl 72 (.tmp 12) (.tmp 23) rfl (w.heap.size+1) (#[.int .i64 0,.int .i64 0,.slice none 0 0]) rfl rfl 72 _ (HY2.out) (jx) rfl rfl (fz) (W:=(w2.setRow (w.heap.size+1) #[.int .i64 0,.int .i64 0,.slice none 0 0])) (rfl) ?_)
  refine Al (pj Tryz.results86 kh jx HR2.out rfl rfl rfl rfl rfl) rfl ?_;exact⟨na (bel2 HB1.out HB2.out) fg _,.inl ⟨HMB.out,rfl⟩⟩
 | true =>
  have HMB:=ab hmb;clear hmb;have hx2:=keep2 _ _ HX1.out;have HY2:=ab (keep2 _ _ HY1.out);have hc:∀(j:Nat) (v:Value),W1.cell? ⟨w.heap.size,j,none⟩=some v→w2.cell? ⟨w.heap.size,j,none⟩=some v:=fun j v h=>by rw [←h];exact World.cell?_of_block (HB2.out.block _ (iN HX1.out))
  have x0:=hc _ _ x0;have x1:=hc _ _ x1;have x2:=hc _ _ x2;have x3:=hc _ _ x3;have x4:=hc _ _ x4;have x5:=hc _ _ x5;have x6:=hc _ _ x6;have x7:=hc _ _ x7;have HBG:=ab (tB S (fold:=fold) (s:=s) (z:=z) w2 (HV1.out.later HB2.out) hsm hwf hs hg);have hz2:=HB2.out.size;unfold rxc at HBG;clear hc hx2;go_wp2_with (go_at_call 83;refine HBG.out.mono ?_)
  rintro e w3 ⟨R,rfl,hB⟩;have hy3:=(hB.bel.block _ (iN HY2.out)).trans HY2.out;have hf:=vK hB.j hB.run hB.tr (k:=0) (N:=R.C.offs.length+1) fg (by have:=hB.j.of;omega);have hpl:=tG R.S R.oa R.oc R.C.offs w3 (by rw [hB.j.of];exact hB.run.of) (by have:=hB.j.of;have:=hB.j.cs;omega) hB.up 0 (by have:=hB.j.of;omega) 0 (by rw [hB.C];exact(jI _ 0 fg).trans rfl);rw [hB.j.of] at hpl;obtain⟨q,hq⟩:∃q,lD R.C X (R.C.offs.length+1) 0 (kH X.groups z)=q:=⟨_,rfl⟩;have hqf:qF X fold s z=q:=by unfold qF;rw [←hB.C];exact hq
  rw [hq] at hf;have cell:∀(w9:World) (s9:Rst) (_:RunJ R w9 s9) (jj:Nat) (u:Value),[Value.bool R.C.fold,.slice R.ca R.C.cs.length R.cc,.slice R.oa (R.C.cs.length+1) R.oc,.slice R.pa R.n R.pc,.int .i64 (s9.fuel:Int),.bool s9.out][jj]?=some u→w9.cell? ⟨R.r,11+jj,none⟩=some u:=fun w9 s9 hj jj u hu=>by
   exact cJ
  have c14:w3.cell? ⟨R.r,13,none⟩=some (.slice R.oa (R.C.cs.length+1) R.oc):=cell _ _ hB.run 2 _ rfl;have HF:=ab hf;have HPL:Hid (Calls Tryz.prog 85 #[.slice R.oa (R.C.cs.length+1) R.oc,.int .i64 0] w3 fun e w'=>e=.returned (.tuple #[.int .i64 0,.bool true])∧w3=w'):=ab hpl;have HQ:=ab hqf;have HB:=ab hB;have HY3:=ab hy3;have HCL:=ab cell;clear hf hpl hq hqf hB hy3 cell x0 x1 x2 x3 x4 x5 x6 x7 HBG HM;go_wp2_with (first|(go_at_call 85;refine HPL.out.mono ?_;rintro e w9 ⟨rfl,rfl⟩)|(go_at_call 84;refine HF.out.mono ?_))
  rintro e w4 ⟨hj4,hg4,hm4⟩;obtain⟨ia,ib,aa,nn,cc,ok,rfl,hend⟩:∃(ia ib:Int) (aa:Option Addr) (nn cc:Nat) (ok:Bool),e=.returned (.tuple #[.agg #[.int .i64 ia,.int .i64 ib,.slice aa nn cc],.bool ok]) ∧
    ((q.1=none∧ok=false∧ia=0∧ib=0∧aa=none∧nn=0∧cc=0)∨(∃a b ps,q.1=some (a,b,ps)∧ok=true∧ia=((R.C.offs.getD a 0:Nat):Int)∧ib=((R.C.offs.getD b 0:Nat):Int)∧nn=R.n∧SlS w4 (fun b=>w3.heap.size≤b) aa 2 R.n (i7 ps)∧ps.length=R.n∧a≤b∧b≤R.C.cs.length)):=by
   cases hq1:q.1 with
   | none=>rw [hq1] at hm4;exact⟨0,0,none,0,0,false,hm4,.inl ⟨rfl,rfl,rfl,rfl,rfl,rfl,rfl⟩⟩
   | some t =>
    obtain⟨a,b,ps⟩:=t;rw [hq1] at hm4;obtain⟨aa,c,he,h1,h2,_,h4,h5⟩:=hm4;exact⟨_,_,aa,R.n,c,true,he,.inr ⟨a,b,ps,rfl,rfl,rfl,rfl,rfl,h1,h2,h4,h5⟩⟩
  obtain⟨W5,hW5⟩:∃W5,W5=w4.alloc (.cells #[.int .i64 ia,.int .i64 ib,.slice aa nn cc] 72):=⟨_,rfl⟩;have hb5:Below w4.heap.size w4 W5:=by rw [hW5];exact(Below.refl _ _).alloc (zP _) _
  have hl5:W5.heap[w4.heap.size]?=some (.cells #[.int .i64 ia,.int .i64 ib,.slice aa nn cc] 72 (0,0)):=by rw [hW5];exact heap_alloc_new w4 _
  have hj5:=hj4.later hb5;have z3:=HB.out.bel.size;have z4:=hg4.size;have hy4:=Gx.heap hg4 HY3.out (fun h=>by have h1:=HB.out.new _ h;have h2:=HB2.out.size;have h3:=HZ1.out;omega);have hy5:=(hb5.block _ (iN hy4)).trans hy4;have b24:Below w2.heap.size w2 W5:=HB.out.bel.trans ((hg4.below (zR (zP _) z3) (fun k hk=>HB.out.new k hk)).trans (hb5.mono fg));have hbw:Below w.heap.size w W5:=(bel2 HB1.out HB2.out).trans (b24.mono (by have:=HZ1.out;omega));obtain⟨oo,hoo⟩:∃o,q.2.out=o:=⟨_,rfl⟩;obtain⟨ff,hff⟩:∃f,q.2.fuel=f:=⟨_,rfl⟩;have c16:W5.cell? ⟨R.r,16,none⟩=some (.bool oo):=by rw [←hoo];exact HCL.out _ _ hj5 5 _ rfl
  have c15:W5.cell? ⟨R.r,15,none⟩=some (.int .i64 (ff:Int)):=by rw [←hff];exact HCL.out _ _ hj5 4 _ rfl
  have m0:W5.cell? ⟨w4.heap.size,0,none⟩=some (.int .i64 ia):=by rw [zT hl5];rfl
  have m1:W5.cell? ⟨w4.heap.size,1,none⟩=some (.int .i64 ib):=by rw [zT hl5];rfl
  have m2:W5.cell? ⟨w4.heap.size,2,none⟩=some (.slice aa nn cc):=by rw [zT hl5];rfl
  have hend5:(q.1=none∧ok=false∧ia=0∧ib=0∧aa=none∧nn=0∧cc=0)∨(∃a b ps,q.1=some (a,b,ps)∧ok=true∧ia=((R.C.offs.getD a 0:Nat):Int)∧ib=((R.C.offs.getD b 0:Nat):Int)∧nn=R.n∧SlS W5 (fun b=>w3.heap.size≤b) aa 2 R.n (i7 ps)∧ps.length=R.n∧a≤b∧b≤R.C.cs.length):=hend.imp id (fun⟨a,b,ps,h1,h2,h3,h4,h5,h6,h7⟩=>⟨a,b,ps,h1,h2,h3,h4,h5,SlS.keep h6 (Kept.all hb5),h7⟩);have HEND:=ab hend5;have HW5:=ab hW5;have HBW:=ab hbw;have HY5:=ab hy5;have HOO:=ab hoo;have HFF:=ab hff;clear hj4 hg4 hm4 hend hend5 hW5 hb5 hl5 hj5 hy4 hy5 b24 hbw hoo hff z4 c14 HF HPL;cases oo with
  | true =>
   have HR5:=ab (mO (cs:=#[.int .i64 0,.int .i64 0,.slice none 0 0]) HY5.out);go_upto_region 8 with fail
   rw [←HW5.out];go_wp2_with (refine kB rfl 72 (.tmp 12) (.tmp 52) rfl (w.heap.size+1) (#[.int .i64 0,.int .i64 0,.slice none 0 0]) rfl rfl 72 _ (HY5.out) (jx) rfl rfl (fz) (W:=(W5.setRow (w.heap.size+1) #[.int .i64 0,.int .i64 0,.slice none 0 0])) (rfl) ?_)
   refine Al (pj Tryz.results86 kh jx HR5.out rfl rfl rfl rfl rfl) rfl ?_;exact⟨na HBW.out fg _,.inr (.inl ⟨HMB.out,by rw [HQ.out];exact HOO.out,rfl⟩)⟩
  | false =>
   go_upto_region 8 with fail
   rw [←HW5.out];go_upto_region 10 with fail
   have hne:R.r≠w.heap.size+1:=fun h=>by have h1:=HB.out.new R.r (.inl rfl);have h2:=HB2.out.size;have h3:=HZ1.out;omega
   have e15:W5.drew.cell? ⟨R.r,15,none⟩=some (.int .i64 (ff:Int)):=c15;have n0:W5.drew.cell? ⟨w4.heap.size,0,none⟩=some (.int .i64 ia):=m0;have n1:W5.drew.cell? ⟨w4.heap.size,1,none⟩=some (.int .i64 ib):=m1;have n2:W5.drew.cell? ⟨w4.heap.size,2,none⟩=some (.slice aa nn cc):=m2;have HYD:Hid (W5.drew.heap[w.heap.size+1]?=some (.cells #[.int .i64 0,.int .i64 0,.slice none 0 0] 72 (0,0))):=ab HY5.out;clear c15 c16 m0 m1 m2;have hyd:=HYD.out;have b0:W5.drew.cell? ⟨w.heap.size+1,0,none⟩=some (.int .i64 0):=by rw [zT hyd];rfl
   have b1:W5.drew.cell? ⟨w.heap.size+1,1,none⟩=some (.int .i64 0):=by rw [zT hyd];rfl
   have b2:W5.drew.cell? ⟨w.heap.size+1,2,none⟩=some (.slice none 0 0):=by rw [zT hyd];rfl
   have f0:W5.drew.frozen? ⟨w.heap.size+1,0,none⟩=false:=by simp only [World.frozen?,hyd];simp
   have f1:W5.drew.frozen? ⟨w.heap.size+1,1,none⟩=false:=by simp only [World.frozen?,hyd];simp
   have f2:W5.drew.frozen? ⟨w.heap.size+1,2,none⟩=false:=by simp only [World.frozen?,hyd];simp
   have hne2:w.heap.size+1≠R.r:=Ne.symm hne;have g0:W5.cell? ⟨w.heap.size+1,0,none⟩=some (.int .i64 0):=b0;have g1:W5.cell? ⟨w.heap.size+1,1,none⟩=some (.int .i64 0):=b1;have g2:W5.cell? ⟨w.heap.size+1,2,none⟩=some (.slice none 0 0):=b2;have k0:W5.frozen? ⟨w.heap.size+1,0,none⟩=false:=f0;have k1:W5.frozen? ⟨w.heap.size+1,1,none⟩=false:=f1;have k2:W5.frozen? ⟨w.heap.size+1,2,none⟩=false:=f2;have k15:W5.cell? ⟨R.r,15,none⟩=some (.int .i64 (ff:Int)):=e15;clear hyd;obtain⟨W6,hW6⟩:∃W6,(((W5.setCell ⟨w.heap.size+1,0,none⟩ (.int .i64 ia)).setCell ⟨w.heap.size+1,1,none⟩ (.int .i64 ib)).setCell ⟨w.heap.size+1,2,none⟩ (.slice aa nn cc)).drew=W6:=⟨_,rfl⟩;have y1:(W5.setCell ⟨w.heap.size+1,0,none⟩ (.int .i64 ia)).heap[w.heap.size+1]?=some (.cells #[.int .i64 ia,.int .i64 0,.slice none 0 0] 72 (0,0)):=by rw [heap_setCell_same _ _ _ _ _ _ HY5.out];rfl
   have y2:((W5.setCell ⟨w.heap.size+1,0,none⟩ (.int .i64 ia)).setCell ⟨w.heap.size+1,1,none⟩ (.int .i64 ib)).heap[w.heap.size+1]?=some (.cells #[.int .i64 ia,.int .i64 ib,.slice none 0 0] 72 (0,0)):=by rw [heap_setCell_same _ _ _ _ _ _ y1];rfl
   have y3:W6.heap[w.heap.size+1]?=some (.cells #[.int .i64 ia,.int .i64 ib,.slice aa nn cc] 72 (0,0)):=by
    rw [←hW6];show (((W5.setCell ⟨w.heap.size+1,0,none⟩ (.int .i64 ia)).setCell ⟨w.heap.size+1,1,none⟩ (.int .i64 ib)).setCell ⟨w.heap.size+1,2,none⟩ (.slice aa nn cc)).heap[w.heap.size+1]?=_
    rw [heap_setCell_same _ _ _ _ _ _ y2];rfl
   have x6:Gx (fun k=>k=w.heap.size+1) W5 W6:=by
    rw [←hW6];exact(((Gx.set (X:=fun k=>k=w.heap.size+1) W5 (a:=⟨w.heap.size+1,0,none⟩) _ rfl).to (Gx.set (X:=fun k=>k=w.heap.size+1) _ _ rfl) (fun _ _ h=>h)).to (Gx.set (X:=fun k=>k=w.heap.size+1) _ _ rfl) (fun _ _ h=>h)).to (Gx.of_below (X:=fun _=>False) (Below.refl _ _).drew) (fun _ _ h=>h.elim)
   have b6:Below w.heap.size w W6:=HBW.out.trans (x6.below (by have:=HBW.out.size;omega) (fun k hk=>by have:k=w.heap.size+1:=hk;omega));have HP:Hid (FndP X fold s z w (.returned (.tuple #[.agg #[.int .i64 ia,.int .i64 ib,.slice aa nn cc],.int .i64 (ff:Int),.bool ok,.int .i64 0])) W6):=ab (by
    refine⟨b6,?_⟩;rw [HQ.out];rcases HEND.out with⟨h1,rfl,rfl,rfl,rfl,rfl,rfl⟩|⟨a,b,ps,h1,rfl,rfl,rfl,rfl,h6,h7,h8,h9⟩
    ·exact .inr (.inr (.inl ⟨HMB.out,HOO.out,h1,by rw [HFF.out];rfl⟩))
    ·refine .inr (.inr (.inr ⟨HMB.out,HOO.out,a,b,ps,aa,cc,h1,by rw [HFF.out,HB.out.C,HB.out.n],?_,by rw [h7,HB.out.n],h8,by rw [←HB.out.C];exact h9⟩))
     rw [←HB.out.n];refine(SlS.keep h6 (x6.kept fun b hb e=>?_)).mono fun b hb _=>?_
     ·have h1:w3.heap.size≤b:=hb
      have h2:b=w.heap.size+1:=e;have:=HB2.out.size
      have:=HZ1.out
      omega
     ·have h1:w3.heap.size≤b:=hb
      have:=HB2.out.size
      have:=HZ1.out
      omega)
   have HY6:=ab y3;have HW6:=ab hW6;clear y1 y2 y3 x6 b6 hW6;go_region_law (fail)
   all_goals
    simp [Act.put]
    rw [HW6.out];go_wp2
    refine Al (pj Tryz.results86 kh jx HY6.out rfl rfl rfl rfl rfl) rfl ?_;exact HP.out
theorem FndP.form {x:Rx} {fold:Bool} {s:Str} {z:Int} {w:World} {e:Ending} {w':World} (h:FndP x fold s z w e w') :
  ∃(ia ib:Int) (aa:Option Addr) (nn cc:Nat) (ff:Int) (ok:Bool) (er:Int),e=.returned (.tuple #[.agg #[.int .i64 ia,.int .i64 ib,.slice aa nn cc],.int .i64 ff,.bool ok,.int .i64 er]) ∧
   ∀(w0 w9:World),Below w0.heap.size w0 w9→w0.heap.size≤w.heap.size→Gx (fun k=>k<w.heap.size) w' w9→FndP x fold s z w0 e w9:=by
 obtain⟨_,h1|h1|h1|h1⟩:=h
 ·obtain⟨h1,rfl⟩:=h1
  exact⟨0,0,none,0,0,0,false,10,rfl,fun w0 w9 hb _ _=>⟨hb,.inl ⟨h1,rfl⟩⟩⟩
 ·obtain⟨h1,h2,rfl⟩:=h1
  exact⟨0,0,none,0,0,0,false,9,rfl,fun w0 w9 hb _ _=>⟨hb,.inr (.inl ⟨h1,h2,rfl⟩)⟩⟩
 ·obtain⟨h1,h2,h3,rfl⟩:=h1
  exact⟨0,0,none,0,0,_,false,0,rfl,fun w0 w9 hb _ _=>⟨hb,.inr (.inr (.inl ⟨h1,h2,h3,rfl⟩))⟩⟩
 ·obtain⟨h1,h2,a,b,ps,aa,c,h3,rfl,h4,h5⟩:=h1
  exact⟨_,_,aa,_,c,_,true,0,rfl,fun w0 w9 hb hle hg=>⟨hb,.inr (.inr (.inr ⟨h1,h2,a,b,ps,aa,c,h3,rfl,(SlS.keep h4 (hg.kept fun b hb e=>by
   have h6:w.heap.size≤b:=hb;have h7:b<w.heap.size:=e;omega)).mono (fun b hb _=>zR hle hb),h5⟩))⟩⟩
theorem Find_any (S:Nat→Prop) {x:Rx} {cc:List Value} {fold:Bool} {s:Str} {z:Int} (w:World) (hv:RxV w S cc x) (hm:x.parts≤1000000) (hsm:x.small) (hwf:x.wf=true) (hs:s.length≤1000000) (hg:x.groups≤1000) :
  Calls Tryz.prog 56 #[.agg cc.toArray,.bool fold,.string ⟨s.toArray⟩,.int .i64 0,.int .i64 z] w (FndP x fold s z w):=by
 have hv0:=hv;obtain⟨X,hX⟩:∃X,X=x:=⟨_,rfl⟩;obtain⟨kd,ch,ng,rs,lo,hi,lz,ks⟩:=x;obtain⟨ra,rc,ka,kc,rfl,hrs,hks⟩:=hv0.open_;rw [←hX];obtain⟨W1,hW1⟩:∃W1,W1=(w.alloc (.cells (rxc kd ch ng ra rs.length rc lo hi lz ka ks.length kc).toArray 25)).alloc (.cells #[.int .i64 0,.int .i64 0,.slice none 0 0] 72):=⟨_,rfl⟩;have hb1:Below w.heap.size w W1:=by rw [hW1];exact((Below.refl _ _).alloc (zP _) _).alloc fq _
 have hz1:W1.heap.size=w.heap.size+2:=by rw [hW1];simp
 have hx1:W1.heap[w.heap.size]?=some (.cells (rxc kd ch ng ra rs.length rc lo hi lz ka ks.length kc).toArray 25 (0,0)):=by rw [hW1,Below.heap_alloc _ _ _ fq];exact heap_alloc_new w _
 have hy1:W1.heap[w.heap.size+1]?=some (.cells #[.int .i64 0,.int .i64 0,.slice none 0 0] 72 (0,0)):=by
  exact cD
 rw [←hX] at hv hm hsm hwf hg;have hv1:=hv.later hb1;have HT:=ab (told_any S (fold:=fold) (s:=s) (z:=z) W1 hv1 hm hsm hwf hs hg);have x0:W1.cell? ⟨w.heap.size,0,none⟩=some (.int .i64 kd):=by rw [zT hx1];rfl
 have x1:W1.cell? ⟨w.heap.size,1,none⟩=some (.string ⟨ch.toArray⟩):=by rw [zT hx1];rfl
 have x2:W1.cell? ⟨w.heap.size,2,none⟩=some (.bool ng):=by rw [zT hx1];rfl
 have x3:W1.cell? ⟨w.heap.size,3,none⟩=some (.slice ra rs.length rc):=by rw [zT hx1];rfl
 have x4:W1.cell? ⟨w.heap.size,4,none⟩=some (.int .i64 lo):=by rw [zT hx1];rfl
 have x5:W1.cell? ⟨w.heap.size,5,none⟩=some (.int .i64 hi):=by rw [zT hx1];rfl
 have x6:W1.cell? ⟨w.heap.size,6,none⟩=some (.bool lz):=by rw [zT hx1];rfl
 have x7:W1.cell? ⟨w.heap.size,7,none⟩=some (.slice ka ks.length kc):=by rw [zT hx1];rfl
 have HB1:=ab hb1;have HZ1:=ab hz1;have HY1:=ab hy1;have HW1:=ab hW1;have HXe:=ab hX;clear hb1 hz1 hx1 hy1 hW1 hv1 hX hrs hks hv hv0;unfold rxc at HT HW1 ⊢;go_enter Tryz.func56,Tryz.ntmps56
 go_upto_region 1 with fail
 rw [←HW1.out];go_wp2_with (go_at_call 86;refine HT.out.mono ?_)
 intro e w2 h2;obtain⟨ia,ib,aa,nn,cc,ff,ok,er,rfl,hend⟩:=h2.form;have hb2:=h2.1;have hy2:=(hb2.block _ (iN HY1.out)).trans HY1.out;have hgr:=o6 w2 (w.heap.size+1) #[.int .i64 ia,.int .i64 ib,.slice aa nn cc];have hz1:=HZ1.out;have hfin:=hend w _ (na (bel2 HB1.out hb2) fg #[.int .i64 ia,.int .i64 ib,.slice aa nn cc]) fg ((Gx.refl (fun k=>k<W1.heap.size) w2).to hgr (fun k _ (hk:k=w.heap.size+1)=>by show k<W1.heap.size;omega));have HR2:=ab (mO (cs:=#[.int .i64 ia,.int .i64 ib,.slice aa nn cc]) hy2);have HY2:=ab hy2;have HFIN:=ab hfin;clear h2 hend hb2 hy2 hgr hfin x0 x1 x2 x3 x4 x5 x6 x7 HT;go_wp2_with (refine kB rfl 72 (.tmp 10) (.tmp 20) rfl (w.heap.size+1) (#[.int .i64 ia,.int .i64 ib,.slice aa nn cc]) rfl rfl 72 _ (HY2.out) (jx) rfl rfl (fz) (W:=(w2.setRow (w.heap.size+1) #[.int .i64 ia,.int .i64 ib,.slice aa nn cc])) (rfl) ?_)
 refine Al (pj Tryz.results56 kh jx HR2.out rfl rfl rfl rfl rfl) rfl ?_;exact HFIN.out
def ld (ps:List Str) (n:Int):Str:=ps.getD n.toNat []
def kC (ps:List Str) (f:Fm):Str :=
 if f.kind=0 then f.thn
 else if f.kind=1 then ld ps f.n
 else if f.kind=2 then(turn (ld ps f.n) f.cse).1
 else if f.kind=4 then(if ld ps f.n=[] then f.els else ld ps f.n)
 else(if ld ps f.n=[] then f.els else f.thn)
def lx (fs:List Fm) (ps:List Str):Str:=if lC fs=true then fs.flatMap (kC ps) else []
theorem vu:∀(pt:Bool) (fs:List Fm),mayL pt fs=true→∀f∈fs,mayF f=true
 | _,[],_,f,hf=>by simp at hf
 | pt,g::r,h,f,hf=>by
  simp only [mayL,Am] at h;rcases An.1 hf with rfl|hf
  ·exact h.1.1
  ·exact vu _ r h.2 f hf
theorem mayF_n {f:Fm} (h:mayF f=true):0≤f.n∧f.n≤9999:=by
 unfold mayF at h;rw [Am] at h;simpa using h.1
theorem xj {f:Fm} (h:mayF f=true):f.kind=0∨f.kind=1∨f.kind=2∨f.kind=3∨f.kind=4∨f.kind=5:=by
 unfold mayF at h;rw [Am] at h;have h2:=h.2;by_cases h0:f.kind=0
 ·exact .inl h0
 by_cases h1:f.kind=1
 ·exact .inr (.inl h1)
 by_cases h3:f.kind=2
 ·exact .inr (.inr (.inl h3))
 by_cases h4:f.kind=3
 ·exact .inr (.inr (.inr (.inl h4)))
 by_cases h5:f.kind=4
 ·exact .inr (.inr (.inr (.inr (.inl h5))))
 by_cases h6:f.kind=5
 ·exact .inr (.inr (.inr (.inr (.inr h6))))
 rw [zO h0,zO h1,zO h3,zO h4,zO h5,zO h6] at h2;cases h2
theorem nw {ps:List Str} {m:Nat} (h:∀p∈ps,p.length≤m) (n:Int):(ld ps n).length≤m:=by
 unfold ld;rw [List.getD_eq_getElem?_getD];cases hg:ps[n.toNat]? with
 | none=>simp
 | some p=>exact h p (Ar hg)
theorem tH {ps:List Str} {m:Nat} {f:Fm} (h:∀p∈ps,p.length≤m) (h1:f.thn.length≤m) (h2:f.els.length≤m):(kC ps f).length≤m:=by
 have h3:=nw h f.n;have h4:=nN (ld ps f.n) f.cse;unfold kC;(repeat' split)<;>omega
def jN (s:Str) (a b:Nat):Str:=(s.drop a).take (b-a)
def mJ (s:Str) (v:Int × Int):Str:=if v.1<0 then [] else jN s v.1.toNat v.2.toNat
abbrev Mt:=Nat × Nat × List (Int × Int)
def kF (s:Str) (offs:List Nat) (m:Mt):List Str:=jN s (offs.getD m.1 0) (offs.getD m.2.1 0)::m.2.2.map (mJ s)
def putM (ps:List Str):List Fm→Str→Str
 | [],out=>out
 | f::r,out=>putM ps r (if out.length≤65536 then out++lx [f] ps else out)
def goM (s:Str) (offs:List Nat) (fs:List Fm):List Mt→Nat→Str→Option (Nat × Str)
 | [],at_,out=>some (at_,out)
 | m::r,at_,out =>
  if 65536<(putM (kF s offs m) fs (out++jN s at_ (offs.getD m.1 0))).length then none
  else goM s offs fs r (offs.getD m.2.1 0) (putM (kF s offs m) fs (out++jN s at_ (offs.getD m.1 0)))
def jy (x:Rx) (fold all:Bool) (s:Str) (fuel:Int):List Mt × Rst :=
 if all=true then allM (rcM fold s) x ((rcM fold s).offs.length+1) 0 (kH x.groups fuel)
 else((lD (rcM fold s) x ((rcM fold s).offs.length+1) 0 (kH x.groups fuel)).1.toList,(lD (rcM fold s) x ((rcM fold s).offs.length+1) 0 (kH x.groups fuel)).2)
def ti (fs:List Fm) (s:Str) (offs:List Nat) (ms:List Mt) (left:Nat):Str × Int × Int :=
 if ms=[] then(s,(left:Int),0) else
 match goM s offs fs ms 0 [] with
 | none=>([],0,4)
 | some (at_,out)=>if 65536<out.length+(s.length-at_) then([],0,4) else(out++s.drop at_,(left:Int),0)
def lW (x:Rx) (fs:List Fm) (fold all:Bool) (s:Str) (fuel:Int):Str × Int × Int :=
 if (mayB x&&lC fs)=false then([],0,10)
 else if (jy x fold all s fuel).2.out=true then([],0,9)
 else ti fs s (rcM fold s).offs (jy x fold all s fuel).1 (jy x fold all s fuel).2.fuel
theorem aw19a:lW (.mk 2 [97] false [] 0 0 false []) [⟨2,0,1,[],[]⟩] false false [98,97,98] 100=([98,65,98],98,0):=by decide +kernel
theorem aw19b:lW (.mk 2 [98] false [] 0 0 false []) [⟨0,0,0,[120],[]⟩] false true [97,98,98] 100=([97,120,120],96,0):=by decide +kernel
theorem wO:(Tryz.prog.info? 72).map (fun i=>(i.zero,i.size,i.bytes))=some (some (.agg #[.int .i64 0,.int .i64 0,.slice none 0 0]),3,40):=by kernel_rfl
def MtV (w:World) (S:Nat→Prop) (offs:List Nat) (n:Nat) (c:List Value) (m:Mt):Prop :=
 ∃aa cp,c=[.int .i64 ((offs.getD m.1 0:Nat):Int),.int .i64 ((offs.getD m.2.1 0:Nat):Int),.slice aa n cp]∧SlS w S aa 2 n (i7 m.2.2)∧m.2.2.length=n∧m.1≤m.2.1∧m.2.1+1≤offs.length
inductive MtVs (w:World) (S:Nat→Prop) (offs:List Nat) (n:Nat):List (List Value)→List Mt→Prop
 | nil:MtVs w S offs n [] []
 | cons {c:List Value} {m:Mt} {cs:List (List Value)} {ms:List Mt}:MtV w S offs n c m→MtVs w S offs n cs ms→MtVs w S offs n (c::cs) (m::ms)
theorem MtV.keep {w w':World} {S:Nat→Prop} {offs:List Nat} {n:Nat} {c:List Value} {m:Mt} (h:MtV w S offs n c m) (hk:Kept S w w'):MtV w' S offs n c m:=by
 obtain⟨aa,cp,h1,h2,h3⟩:=h;exact⟨aa,cp,h1,SlS.keep h2 hk,h3⟩
theorem MtV.mono {w:World} {S S':Nat→Prop} {offs:List Nat} {n:Nat} {c:List Value} {m:Mt} (h:MtV w S offs n c m) (hS:∀b,S b→b<w.heap.size→S' b):MtV w S' offs n c m:=by
 obtain⟨aa,cp,h1,h2,h3⟩:=h;exact⟨aa,cp,h1,SlS.mono h2 hS,h3⟩
theorem MtVs.keep {w w':World} {S:Nat→Prop} {offs:List Nat} {n:Nat} (hk:Kept S w w'):∀{cs:List (List Value)} {ms:List Mt},MtVs w S offs n cs ms→MtVs w' S offs n cs ms
 | _,_,.nil=>.nil
 | _,_,.cons h1 h2=>.cons (h1.keep hk) (h2.keep hk)
theorem MtVs.mono {w:World} {S S':Nat→Prop} {offs:List Nat} {n:Nat} (hS:∀b,S b→b<w.heap.size→S' b):∀{cs:List (List Value)} {ms:List Mt},MtVs w S offs n cs ms→MtVs w S' offs n cs ms
 | _,_,.nil=>.nil
 | _,_,.cons h1 h2=>.cons (h1.mono hS) (h2.mono hS)
theorem MtVs.snoc {w:World} {S:Nat→Prop} {offs:List Nat} {n:Nat} {c:List Value} {m:Mt}:∀{cs:List (List Value)} {ms:List Mt},MtVs w S offs n cs ms→MtV w S offs n c m→MtVs w S offs n (cs++[c]) (ms++[m])
 | _,_,.nil,h=>.cons h .nil
 | _,_,.cons h1 h2,h=>.cons h1 (h2.snoc h)
theorem MtVs.at_ {w:World} {S:Nat→Prop} {offs:List Nat} {n:Nat}:∀{cs:List (List Value)} {ms:List Mt},MtVs w S offs n cs ms→∀{k:Nat} {m:Mt},ms[k]?=some m→∃c,cs[k]?=some c∧MtV w S offs n c m
 | _,_,.nil,_,_,h=>by simp at h
 | _,_,.cons h1 _,0,_,h=>by simp at h;exact⟨_,rfl,h▸h1⟩
 | _,_,.cons _ h2,k+1,m,h=>h2.at_ (k:=k) fS
def OwnM (w:World) (D:Nat) (offs:List Nat) (n:Nat) (v:Value) (ms:List Mt):Prop :=
 ∃css,w.ownsRow D 72 3 v ms.length css.flatten∧MtVs w (fun b=>D≤b∧v.ownBlock≠some b) offs n css ms
theorem OwnM.nil (w:World) (D:Nat) (offs:List Nat) (n:Nat):OwnM w D offs n (.slice none 0 0) []:=⟨[],World.ownsRow_nil _ _ _ _,.nil⟩
theorem OwnM.gx {X:Nat→Prop} {w w':World} {D:Nat} {offs:List Nat} {n:Nat} {v:Value} {ms:List Mt} (h:OwnM w D offs n v ms) (hg:Gx X w w') (hX:∀k,D≤k→¬X k):OwnM w' D offs n v ms:=by
 obtain⟨css,h1,h2⟩:=h;exact⟨css,nW h1 hg (fun k hk=>hX k (h1.lt k hk).1),h2.keep (hg.kept fun b hb=>hX b hb.1)⟩
theorem OwnM.later {w w':World} {D:Nat} {offs:List Nat} {n:Nat} {v:Value} {ms:List Mt} (h:OwnM w D offs n v ms) (hb:Below w.heap.size w w'):OwnM w' D offs n v ms :=
 h.gx (X:=fun _=>False) (Gx.of_below hb) (fun _ _ h=>h)
theorem OwnM.form {w:World} {D:Nat} {offs:List Nat} {n:Nat} {v:Value} {ms:List Mt} (h:OwnM w D offs n v ms):∃a c,v=.slice a ms.length c∧ms.length≤c:=by
 exact cU
theorem OwnM.base {w:World} {D D':Nat} {offs:List Nat} {n:Nat} {v:Value} {ms:List Mt} (h:OwnM w D offs n v ms) (hD:D'≤D):OwnM w D' offs n v ms:=by
 obtain⟨css,h1,h2⟩:=h;refine⟨css,⟨h1.1,?_⟩,h2.mono fun b hb _=>⟨zR hD hb.1,hb.2⟩⟩;rcases h1.2 with h3|⟨g,cap,cur,h3,h4,h5⟩
 ·exact .inl h3
 ·exact .inr ⟨g,cap,cur,h3,zR hD h4,h5⟩
theorem OwnM.app {w w':World} {D:Nat} {offs:List Nat} {n:Nat} {v v':Value} {ms:List Mt} {m:Mt} {css:List (List Value)} {c:List Value} (h1:MtVs w (fun b=>D≤b∧v.ownBlock≠some b) offs n css ms) (h2:MtV w (fun b=>D≤b∧v.ownBlock≠some b) offs n c m)
  (ho:w'.ownsRow D 72 3 v' (ms.length+1) (css.flatten++c)) (hg:w.grownBy w' v.ownBlock) (hmv:sx w v v'):OwnM w' D offs n v' (ms++[m]):=by
 refine⟨css++[c],by rw [List.flatten_append,zX];simpa using ho,?_⟩;have hk:Kept (fun b=>(D≤b∧v.ownBlock≠some b)∧b<w.heap.size) w w':=⟨hg.size,fun b hb hlt=>hg.block b hlt (fun e=>hb.1.2 e.symm)⟩;refine(((h1.snoc h2).mono (S':=fun b=>(D≤b∧v.ownBlock≠some b)∧b<w.heap.size) fun b h1 h2=>⟨h1,h2⟩).keep hk).mono fun b hb _=>⟨hb.1.1,fun e=>?_⟩
 exact dl
def allQ (x:Rx) (fold:Bool) (s:Str) (z:Int):List Mt × Rst:=allM (rcM fold s) x ((rcM fold s).offs.length+1) 0 (kH x.groups z)
def AllP (x:Rx) (fold:Bool) (s:Str) (z:Int) (w:World) (e:Ending) (w':World):Prop :=
 Below w.heap.size w w' ∧
  ((mayB x=false∧e=.returned (.tuple #[.slice none 0 0,.int .i64 0,.int .i64 10]))
  ∨ (mayB x=true∧(allQ x fold s z).2.out=true∧e=.returned (.tuple #[.slice none 0 0,.int .i64 0,.int .i64 9]))
  ∨ (mayB x=true∧(allQ x fold s z).2.out=false∧∃v,e=.returned (.tuple #[v,.int .i64 ((allQ x fold s z).2.fuel:Int),.int .i64 0])∧OwnM w' w.heap.size (rcM fold s).offs x.groups v (allQ x fold s z).1))
def AlRel (R:Rn) (x:Rx) (Q:List Mt × Rst) (w:World) (v q:Value) (wr:World):Prop :=
 ∃(k N:Nat) (s:Rst) (acc:List Mt),k≤R.C.cs.length+1∧R.C.cs.length+1-k<N∧acc.length≤k∧q=.int .i64 k∧s.out=false∧RunJ R wr s∧Gx R.Y w wr∧OwnM wr w.heap.size R.C.offs R.n v acc∧Hid ((acc++(allM R.C x N k s).1,(allM R.C x N k s).2)=Q)
theorem All_any (S:Nat→Prop) {x:Rx} {cc:List Value} {fold:Bool} {s:Str} {z:Int} (w:World) (hv:RxV w S cc x) (hm:x.parts≤1000000) (hsm:x.small) (hwf:x.wf=true) (hs:s.length≤1000000) (hg:x.groups≤1000) :
  Calls Tryz.prog 55 #[.agg cc.toArray,.bool fold,.string ⟨s.toArray⟩,.int .i64 z] w (AllP x fold s z w):=by
 have hv0:=hv;obtain⟨X,hX⟩:∃X,X=x:=⟨_,rfl⟩;obtain⟨kd,ch,ng,rs,lo,hi,lz,ks⟩:=x;obtain⟨ra,rc,ka,kc,rfl,hrs,hks⟩:=hv0.open_;rw [←hX];obtain⟨W1,hW1⟩:∃W1,W1=w.alloc (.cells (rxc kd ch ng ra rs.length rc lo hi lz ka ks.length kc).toArray 25):=⟨_,rfl⟩;have hb1:Below w.heap.size w W1:=by rw [hW1];exact(Below.refl _ _).alloc (zP _) _
 have hz1:W1.heap.size=w.heap.size+1:=by rw [hW1];simp
 have hx1:W1.heap[w.heap.size]?=some (.cells (rxc kd ch ng ra rs.length rc lo hi lz ka ks.length kc).toArray 25 (0,0)):=by rw [hW1];exact heap_alloc_new w _
 rw [←hX] at hv hm hsm hwf hg;have hv1:=hv.later hb1;have HM:=ab (pE S X _ W1 hm hsm hv1);have x0:W1.cell? ⟨w.heap.size,0,none⟩=some (.int .i64 kd):=by rw [zT hx1];rfl
 have x1:W1.cell? ⟨w.heap.size,1,none⟩=some (.string ⟨ch.toArray⟩):=by rw [zT hx1];rfl
 have x2:W1.cell? ⟨w.heap.size,2,none⟩=some (.bool ng):=by rw [zT hx1];rfl
 have x3:W1.cell? ⟨w.heap.size,3,none⟩=some (.slice ra rs.length rc):=by rw [zT hx1];rfl
 have x4:W1.cell? ⟨w.heap.size,4,none⟩=some (.int .i64 lo):=by rw [zT hx1];rfl
 have x5:W1.cell? ⟨w.heap.size,5,none⟩=some (.int .i64 hi):=by rw [zT hx1];rfl
 have x6:W1.cell? ⟨w.heap.size,6,none⟩=some (.bool lz):=by rw [zT hx1];rfl
 have x7:W1.cell? ⟨w.heap.size,7,none⟩=some (.slice ka ks.length kc):=by rw [zT hx1];rfl
 have HB1:=ab hb1;have HZ1:=ab hz1;have HX1:=ab hx1;have HW1:=ab hW1;have HV1:=ab hv1;have HXe:=ab hX;clear hb1 hz1 hx1 hW1 hv1 hX hrs hks hv hv0;unfold rxc at HM HW1 ⊢;go_enter Tryz.func55,Tryz.ntmps55
 go_upto_region 1 with fail
 rw [←HW1.out];go_wp2_with (go_at_call 50;refine HM.out.mono ?_)
 first|rintro e w2 rfl hb2|rintro e w2 ⟨rfl,hb2⟩
 have HB2:=ab hb2;have keep2:∀(b:Nat) (o:Obj),W1.heap[b]?=some o→w2.heap[b]?=some o:=fun b o h=>(HB2.out.block b (iN h)).trans h
 clear hb2;cases hmb:mayB X with
 | false =>
  have HMB:=ab hmb;clear hmb;go_wp2
  go_ret3
  exact⟨bel2 HB1.out HB2.out,.inl ⟨HMB.out,rfl⟩⟩
 | true =>
  have HMB:=ab hmb;clear hmb;have hc:∀(j:Nat) (v:Value),W1.cell? ⟨w.heap.size,j,none⟩=some v→w2.cell? ⟨w.heap.size,j,none⟩=some v:=fun j v h=>by rw [←h];exact World.cell?_of_block (HB2.out.block _ (iN HX1.out))
  have x0:=hc _ _ x0;have x1:=hc _ _ x1;have x2:=hc _ _ x2;have x3:=hc _ _ x3;have x4:=hc _ _ x4;have x5:=hc _ _ x5;have x6:=hc _ _ x6;have x7:=hc _ _ x7;have HBG:=ab (tB S (fold:=fold) (s:=s) (z:=z) w2 (HV1.out.later HB2.out) hsm hwf hs hg);unfold rxc at HBG;clear hc;go_wp2_with (go_at_call 83;refine HBG.out.mono ?_)
  rintro e w3 ⟨R,rfl,hB⟩;obtain⟨Q,hQ⟩:∃Q,allM R.C X (R.C.offs.length+1) 0 (kH X.groups z)=Q:=⟨_,rfl⟩;have hqf:allQ X fold s z=Q:=by unfold allQ;rw [←hB.C];exact hQ
  have cell:∀(w9:World) (s9:Rst) (_:RunJ R w9 s9) (jj:Nat) (u:Value),[Value.bool R.C.fold,.slice R.ca R.C.cs.length R.cc,.slice R.oa (R.C.cs.length+1) R.oc,.slice R.pa R.n R.pc,.int .i64 (s9.fuel:Int),.bool s9.out][jj]?=some u→w9.cell? ⟨R.r,11+jj,none⟩=some u:=fun w9 s9 hj jj u hu=>by
   exact cJ
  have HQ:=ab hQ;have HQF:=ab hqf;have HB:=ab hB;have HCL:=ab cell;have HBW:Hid (Below w.heap.size w w3):=ab ((bel2 HB1.out HB2.out).trans (hB.bel.mono gI));have hcs:=hB.j.cs;have hol:=hB.j.of;have HI:=ab (info_parts wO);clear hQ hqf hB cell x0 x1 x2 x3 x4 x5 x6 x7 HBG HM;go_upto_region 6 with fail
  go_loopw [12,13] (fun v q wr=>AlRel R X Q w3 v q wr) (fun _ q _=>R.C.cs.length+1-(intOf q).toNat)
  case atStart=>exact⟨0,R.C.offs.length+1,kH X.groups z,[],by omega,by omega,by simp,rfl,rfl,HB.out.run,Gx.refl _ _,OwnM.nil _ _ _ _,ab (by rw [HQ.out];rfl)⟩
  case round =>
   obtain⟨k,N,st,acc,hk,hN,hal,rfl,hout,hj,hgx,hown,HF⟩:=hrel;obtain⟨N,rfl⟩:∃m,N=m+1:=⟨N-1,by omega⟩;obtain⟨va,vc,rfl,hvc⟩:=hown.form;have HJ:=ab hj;have HG:=ab hgx;have HO:=ab hown;have HOUT:=ab hout;have c13:wr.cell? ⟨R.r,13,none⟩=some (.slice R.oa (R.C.cs.length+1) R.oc):=HCL.out _ _ hj 2 _ rfl;have c15:wr.cell? ⟨R.r,15,none⟩=some (.int .i64 (st.fuel:Int)):=HCL.out _ _ hj 4 _ rfl;have hzr:=hgx.size;have brw:Below w.heap.size w wr:=HBW.out.trans (hgx.below HBW.out.size (fun b hb=>zR gI (HB.out.new b hb)));have HBR:=ab brw;clear HQ hj hgx hown hout brw hvc;by_cases hlt:k<R.C.cs.length+1
   ·have hf:=vK HB.out.j HJ.out (RunT.gx HB.out.j HB.out.tr HG.out) (k:=k) (N:=R.C.offs.length+1) fg fg
    obtain⟨q,hq⟩:∃q,lD R.C X (R.C.offs.length+1) k st=q:=⟨_,rfl⟩;rw [hq] at hf;have hal2:allM R.C X (N+1) k st=(match q.1 with|some (a,b,ps)=>if q.2.out=true then([],q.2) else(((a,b,ps)::(allM R.C X N (if a=b then b+1 else b) q.2).1,(allM R.C X N (if a=b then b+1 else b) q.2).2))|none=>([],q.2)):=by
     refine(zL (c:=k<R.C.offs.length) fg).trans ?_
     rw [←hq];rfl
    rw [hal2] at HF;have HFI:=ab hf;have hlti:(k:Int)<(R.C.cs.length:Int)+1:=fg;clear hf hal2 hq c15;go_wp2_with (go_at_call 84;refine HFI.out.mono ?_)
    rintro e w4 ⟨hj4,hg4,hm4⟩;obtain⟨ia,ib,aa,nn,cc,ok,rfl,hend⟩:∃(ia ib:Int) (aa:Option Addr) (nn cc:Nat) (ok:Bool),e=.returned (.tuple #[.agg #[.int .i64 ia,.int .i64 ib,.slice aa nn cc],.bool ok]) ∧
      ((q.1=none∧ok=false)∨(∃a b ps,q.1=some (a,b,ps)∧ok=true∧ia=((R.C.offs.getD a 0:Nat):Int)∧ib=((R.C.offs.getD b 0:Nat):Int)∧nn=R.n∧SlS w4 (fun b=>wr.heap.size≤b) aa 2 R.n (i7 ps)∧ps.length=R.n∧k≤a∧a≤b∧b≤R.C.cs.length)):=by
     cases hq1:q.1 with
     | none=>rw [hq1] at hm4;exact⟨0,0,none,0,0,false,hm4,.inl ⟨rfl,rfl⟩⟩
     | some t =>
      obtain⟨a,b,ps⟩:=t;rw [hq1] at hm4;obtain⟨aa,c,he,h1,h2,h3,h4,h5⟩:=hm4;exact⟨_,_,aa,R.n,c,true,he,.inr ⟨a,b,ps,rfl,rfl,rfl,rfl,rfl,h1,h2,h3,h4,h5⟩⟩
    obtain⟨W5,hW5⟩:∃W5,W5=w4.alloc (.cells #[.int .i64 ia,.int .i64 ib,.slice aa nn cc] 72):=⟨_,rfl⟩;have hb5:Below w4.heap.size w4 W5:=by rw [hW5];exact(Below.refl _ _).alloc (zP _) _
    have hl5:W5.heap[w4.heap.size]?=some (.cells #[.int .i64 ia,.int .i64 ib,.slice aa nn cc] 72 (0,0)):=by rw [hW5];exact heap_alloc_new w4 _
    have hj5:=hj4.later hb5;have z4:=hg4.size;have z5:W5.heap.size=w4.heap.size+1:=by rw [hW5];simp
    have hg5:Gx R.Y w3 W5:=(HG.out.to hg4 (fun _ _ h=>h)).to (Gx.of_below hb5) (fun _ _ h=>h);have hnY:∀b,w3.heap.size≤b→¬R.Y b:=fun b hb e=>by
     have h1:=HB.out.run.lt;rcases e with e|e
     ·have:=h1.1;omega
     ·have:=h1.2 b e;omega
    have ho5:OwnM W5 w3.heap.size R.C.offs R.n (.slice va acc.length vc) acc:=(HO.out.gx hg4 hnY).later hb5;have b5:Below w.heap.size w W5:=HBR.out.trans ((hg4.below HBR.out.size (fun b hb=>zR gI (HB.out.new b hb))).trans (hb5.mono (zR HBR.out.size z4)));obtain⟨oo,hoo⟩:∃o,q.2.out=o:=⟨_,rfl⟩;obtain⟨ff,hff⟩:∃f,q.2.fuel=f:=⟨_,rfl⟩;have c16:W5.cell? ⟨R.r,16,none⟩=some (.bool oo):=by rw [←hoo];exact HCL.out _ _ hj5 5 _ rfl
    have c15:W5.cell? ⟨R.r,15,none⟩=some (.int .i64 (ff:Int)):=by rw [←hff];exact HCL.out _ _ hj5 4 _ rfl
    have m0:W5.cell? ⟨w4.heap.size,0,none⟩=some (.int .i64 ia):=by rw [zT hl5];rfl
    have m1:W5.cell? ⟨w4.heap.size,1,none⟩=some (.int .i64 ib):=by rw [zT hl5];rfl
    have m2:W5.cell? ⟨w4.heap.size,2,none⟩=some (.slice aa nn cc):=by rw [zT hl5];rfl
    have hend5:(q.1=none∧ok=false)∨(∃a b ps,q.1=some (a,b,ps)∧ok=true∧ia=((R.C.offs.getD a 0:Nat):Int)∧ib=((R.C.offs.getD b 0:Nat):Int)∧nn=R.n∧SlS W5 (fun b=>wr.heap.size≤b) aa 2 R.n (i7 ps)∧ps.length=R.n∧k≤a∧a≤b∧b≤R.C.cs.length):=hend.imp id (fun⟨a,b,ps,h1,h2,h3,h4,h5,h6,h7⟩=>⟨a,b,ps,h1,h2,h3,h4,h5,SlS.keep h6 (Kept.all hb5),h7⟩);have HEND:=ab hend5;have HW5:=ab hW5;have HJ5:=ab hj5;have HG5:=ab hg5;have HO5:=ab ho5;have HB5:=ab b5;have HL5:=ab hl5;have HOO:=ab hoo;have HFF:=ab hff;have HZ5:=ab z5;have hg4z:=z4;clear hj4 hg4 hm4 hend hend5 hW5 hb5 hl5 hj5 z4 z5 hg5 ho5 b5 hoo hff HFI c13;cases oo with
    | true =>
     go_upto_region 8 with fail
     rw [←HW5.out];go_wp2
     go_ret3
     refine⟨HB5.out,.inr (.inl ⟨HMB.out,?_,rfl⟩)⟩;rw [HQF.out,←HF.out];rcases HEND.out with⟨h1,_⟩|⟨a,b,ps,h1,_⟩
     ·rw [h1];exact HOO.out
     ·rw [h1];simp only [HOO.out,if_true]
    | false =>
     rcases HEND.out with⟨h1,rfl⟩|⟨a,b,ps,h1,rfl,h2,h3,h4,h5⟩
     ·rw [h1] at HF
      go_upto_region 8 with fail
      rw [←HW5.out];go_wp2
      have e15:W5.drew.cell? ⟨R.r,15,none⟩=some (.int .i64 (ff:Int)):=c15;go_quiet (fail)
      go_wp2
      go_ret3
      refine⟨below_drewN HB5.out _,.inr (.inr ⟨HMB.out,?_,.slice va acc.length vc,?_,?_⟩)⟩
      ·rw [HQF.out,←HF.out];exact HOO.out
      ·rw [show (allQ X fold s z).2.fuel=ff by rw [HQF.out,←HF.out];exact HFF.out];rfl
      ·rw [HQF.out,←HF.out]
       have h9:=(HO5.out.later (below_drewN (Below.refl _ W5) nq)).base HBW.out.size;rw [HB.out.n,HB.out.C] at h9;simpa using h9
     ·have HF2:=HF.out
      rw [h1] at HF2;simp only [HOO.out,Ak,if_false] at HF2;have HF2:=ab HF2;clear HF HEND;obtain⟨hs5,hpl,hka,hab,hbl⟩:=h5;obtain⟨css,hrow,hms⟩:=HO5.out;have hob:∀b,(Value.slice va acc.length vc).ownBlock=some b→w3.heap.size≤b∧b<wr.heap.size:=by
       obtain⟨_,hrow0,_⟩:=HO.out;exact hrow0.lt
      have hcu:Below W5.heap.size W5 (W5.alloc (.cells #[.int .i64 ia,.int .i64 ib,.slice aa nn cc] 72)):=(Below.refl _ _).alloc (zP _) _;have ho6:=kE hrow hcu;have hsl:=Sl.lit (n:=1) (sz:=3) (heap_alloc_new W5 (.cells #[.int .i64 ia,.int .i64 ib,.slice aa nn cc] 72)) rfl;have hone:∀u∈([.int .i64 ia,.int .i64 ib,.slice aa nn cc]:List Value),u.oneCell'=true:=fz;have z5:=HZ5.out;have z4:=(hg4z:wr.heap.size≤w4.heap.size);have hmv6:MtV (W5.alloc (.cells #[.int .i64 ia,.int .i64 ib,.slice aa nn cc] 72)) (fun b=>w3.heap.size≤b∧(Value.slice va acc.length vc).ownBlock≠some b) R.C.offs R.n [.int .i64 ia,.int .i64 ib,.slice aa nn cc] (a,b,ps) :=
       ⟨aa,cc,by rw [h2,h3,h4],(SlS.keep hs5 (Kept.all hcu)).mono (fun b hb _=>⟨zR hzr hb,fun e=>by have h6:=(hob b e).2;have h7:wr.heap.size≤b:=hb;omega⟩),hpl,hab,by show b+1≤R.C.offs.length;omega⟩
      have hms6:=hms.keep (Kept.all hcu);have hszo:w3.heap.size≤(W5.alloc (.cells #[.int .i64 ia,.int .i64 ib,.slice aa nn cc] 72)).heap.size:=by simp;omega
      have hlen:acc.length≤10000000:=fg;have HO6:=ab ho6;have HSL:=ab hsl;have HONE:=ab hone;have HMV6:=ab hmv6;have HMS6:=ab hms6;have HOB:=ab hob;have HCU:=ab hcu;have H2:=ab h2;have H3:=ab h3;have HKA:=ab hka;have HAB:=ab hab;obtain⟨iM,hiM⟩:=HI.out;clear ho6 hsl hone hmv6 hms6 hob hcu hs5 hpl hrow hms h1 h2 h3 h4 z4 z5 hka hab;go_upto_region 8 with fail
      rw [←HW5.out];go_wp2_with (at_builtin;refine je w3.heap.size 72 rfl _ _ 64 rfl Tryz.underlying64 hiM rfl fo rfl HO6.out rfl HSL.out HONE.out fg fg fo hszo ?_)
      intro v1 w7 ho1 hg1 hb7 hmv;have ho7:OwnM w7 w3.heap.size R.C.offs R.n v1 (acc++[(a,b,ps)]):=OwnM.app HMS6.out HMV6.out (by simpa using ho1) hg1 hmv;have hgx1:Gx (fun b=>(Value.slice va acc.length vc).ownBlock=some b) (W5.alloc (.cells #[.int .i64 ia,.int .i64 ib,.slice aa nn cc] 72)) w7:=Gx.of_grown hg1 (fun k hk=>hk);have hrl:=HB.out.run.lt;have hj7:RunJ R w7 q.2:=(HJ5.out.later HCU.out).gx hgx1 (fun e=>by have:=(HOB.out _ e).1;have:=hrl.1;omega) (fun b hb e=>by have:=(HOB.out _ e).1;have:=hrl.2 b hb;omega) (fun b hb e=>by have:=(HOB.out _ e).1;have:=HB.out.tr.lt b hb;omega);have hG7:Gx R.Y w3 w7:=(HG5.out.to (Gx.of_below (X:=R.Y) HCU.out) (fun _ _ h=>h)).to hgx1 (fun b hb e=>by have:=(HOB.out _ e).1;omega);have z5:=HZ5.out;have hx7:w7.heap[w4.heap.size]?=some (.cells #[.int .i64 ia,.int .i64 ib,.slice aa nn cc] 72 (0,0)):=Gx.heap hgx1 ((HCU.out.block _ (iN HL5.out)).trans HL5.out) (fun e=>by have:=(HOB.out _ e).2;omega);have e13:=ExtOf.cell (HCL.out _ _ hj7 2 _ rfl:w7.cell? ⟨R.r,13,none⟩=some (.slice R.oa (R.C.cs.length+1) R.oc));have n0:=ExtOf.cell (show w7.cell? ⟨w4.heap.size,0,none⟩=some (.int .i64 ia) by rw [zT hx7];rfl);have n1:=ExtOf.cell (show w7.cell? ⟨w4.heap.size,1,none⟩=some (.int .i64 ib) by rw [zT hx7];rfl);have HPL:Hid (∀x:ExtOf w7,Calls Tryz.prog 85 #[.slice R.oa (R.C.cs.length+1) R.oc,.int .i64 ib] x.val fun e w'=>e=.returned (.tuple #[.int .i64 b,.bool true])∧x.val=w'):=ab (fun x=>by
       have h9:=tG R.S R.oa R.oc R.C.offs x.val (by rw [hol];exact hj7.of.keep (Kept.all x.ext)) fg HB.out.up b fg (R.C.offs.getD b 0) rfl;rw [hol,←H3.out] at h9;exact h9)
      have hii:(a=b∧ia=ib)∨(a≠b∧ia≠ib):=by
       have h6:=HAB.out;rcases Nat.lt_or_ge a b with h7|h7
       ·have h8:=HB.out.up a b h7 fg
        refine .inr ⟨by omega,?_⟩;rw [H2.out,H3.out];omega
       ·have h8:a=b:=fg
        exact .inl ⟨h8,by rw [H2.out,H3.out,h8]⟩
      have HJ7:=ab hj7;have HG7:=ab hG7;have HO7:=ab ho7;clear ho1 hg1 hb7 hmv ho7 hgx1 hrl hj7 hG7 hx7 z5;go_upto_region 12 with fail
      refine iS fp fp ?_;repeat (go_big_quiet_step ((go_at_call 85;exact se (HPL.out _))))
      refine wpQuiet_nil ?_;rintro _ ⟨xq,rfl⟩;have n0:=n0 xq;have n1:=n1 xq;have HXQ:=ab xq.ext;have h6:=HAB.out;have h7:=HKA.out;have hfin:∀(k':Nat) (w9:World),Below xq.val.heap.size xq.val w9→k'=(if a=b then b+1 else b)→k<k'∧AlRel R X Q w3 v1 (.int .i64 k') w9:=fun k' w9 hb hk'=>by
       have hb9:=bel2 HXQ.out hb;have hkk:k<k'∧k'≤R.C.cs.length+1:=by rw [hk'];split<;>omega
       refine⟨hkk.1,k',N,q.2,acc++[(a,b,ps)],hkk.2,by omega,by simp;omega,rfl,HOO.out,HJ7.out.later hb9,HG7.out.to (Gx.of_below (X:=R.Y) hb9) (fun _ _ h=>h),HO7.out.later hb9,ab ?_⟩;rw [←HF2.out,hk'];simp
      have HFIN:=ab hfin;clear hfin e13 h6 h7;rcases hii with⟨h8,h9⟩|⟨h8,h9⟩
      ·go_wp2
       go_roundw
       case rel=>exact(HFIN.out (b+1) _ (Below.refl _ _) (by rw [zL h8])).2
       case measure=>have:=(HFIN.out (b+1) _ (Below.refl _ _) (by rw [zL h8])).1;simp [intOf];omega
      ·go_wp2
       go_roundw
       case rel=>exact(HFIN.out b _ (Below.refl _ _) (by rw [zO h8])).2
       case measure=>have:=(HFIN.out b _ (Below.refl _ _) (by rw [zO h8])).1;simp [intOf];omega
   ·have hge:¬(k:Int)<(R.C.cs.length:Int)+1:=fg
    have hk2:k=R.C.cs.length+1:=fg;have hal3:allM R.C X (N+1) k st=([],st):=zO (c:=k<R.C.offs.length) fg;rw [hal3] at HF;have e15:wr.drew.cell? ⟨R.r,15,none⟩=some (.int .i64 (st.fuel:Int)):=c15;clear hal3 hk2;go_wp2
    go_quiet (fail)
    go_wp2
    go_ret3
    refine⟨below_drewN HBR.out _,.inr (.inr ⟨HMB.out,?_,.slice va acc.length vc,?_,?_⟩)⟩
    ·rw [HQF.out,←HF.out];exact HOUT.out
    ·rw [show (allQ X fold s z).2.fuel=st.fuel by rw [HQF.out,←HF.out]];rfl
    ·rw [HQF.out,←HF.out]
     have h9:=(HO.out.later (below_drewN (Below.refl _ wr) nq)).base HBW.out.size;rw [HB.out.n,HB.out.C] at h9;simpa using h9
def FouP (f:Tf) (s:Str) (z:Int) (w:World) (e:Ending) (w':World):Prop :=
 Below w.heap.size w w' ∧
  ((mayB f.rx=false∧∃u:Int,e=.returned (.tuple #[.slice none 0 0,.int .i64 u,.int .i64 10]))
  ∨ (mayB f.rx=true∧(jy f.rx f.fold f.all s z).2.out=true∧∃u:Int,e=.returned (.tuple #[.slice none 0 0,.int .i64 u,.int .i64 9]))
  ∨ (mayB f.rx=true∧(jy f.rx f.fold f.all s z).2.out=false∧∃v,e=.returned (.tuple #[v,.int .i64 ((jy f.rx f.fold f.all s z).2.fuel:Int),.int .i64 0])∧OwnM w' w.heap.size (rcM f.fold s).offs f.rx.groups v (jy f.rx f.fold f.all s z).1))
theorem yS (S:Nat→Prop) (f:Tf) (fc:List Value) (w:World) (hv:TfV w S fc f) {s:Str} {z:Int} (hm:f.rx.parts≤1000000) (hsm:f.rx.small) (hwf:f.rx.wf=true) (hs:s.length≤1000000) (hg:f.rx.groups≤1000) :
  Calls Tryz.prog 28 #[.agg fc.toArray,.string ⟨s.toArray⟩,.int .i64 z] w (FouP f s z w):=by
 obtain⟨rk,rch,rng,rrs,rlo,rhi,rlz,rks,ra,rcp,rka,rkc,fa,fcp,hc⟩:=hv.open_;obtain⟨X,fs,fd,al⟩:=f;have hx1:X=.mk rk rch rng rrs rlo rhi rlz rks:=hc.rx;have hfce:fc=[.int .i64 rk,.string ⟨rch.toArray⟩,.bool rng,.slice ra rrs.length rcp,.int .i64 rlo,.int .i64 rhi,.bool rlz,.slice rka rks.length rkc,.slice fa fs.length fcp,.bool fd,.bool al]:=hc.eq;obtain⟨W0,hW0⟩:∃W0,W0=w.alloc (.cells fc.toArray 28):=⟨_,rfl⟩;have hb0:Below w.heap.size w W0:=by rw [hW0];exact(Below.refl _ _).alloc (zP _) _
 have HB1:Hid (W0.heap[w.heap.size]?=some (.cells fc.toArray 28 (0,0))):=ab (by rw [hW0];exact heap_alloc_new w _);have HXV:Hid (RxV W0 S [.int .i64 rk,.string ⟨rch.toArray⟩,.bool rng,.slice ra rrs.length rcp,.int .i64 rlo,.int .i64 rhi,.bool rlz,.slice rka rks.length rkc] X):=ab (hx1▸hc.rv.later hb0);subst hfce;have HW0:=ab hW0;have HB0:=ab hb0;have z9:=iQ HB1.out 9 rfl;have z10:=iQ HB1.out 10 rfl;clear hv hc hx1 hW0 hb0;cases al with
 | true =>
  have HA:=ab (All_any S (fold:=fd) (s:=s) (z:=z) W0 HXV.out hm hsm hwf hs hg);go_enter Tryz.func28,Tryz.ntmps28
  go_upto_region 1 with fail
  rw [←HW0.out];clear HW0;go_wp2_with (first
   | (refine jr rfl 25 (.tmp 15) rfl w.heap.size 0 rfl [.int .i64 rk,.string ⟨rch.toArray⟩,.bool rng,.slice ra rrs.length rcp,.int .i64 rlo,.int .i64 rhi,.bool rlz,.slice rka rks.length rkc] _ (jt (ds:=[.slice fa fs.length fcp,.bool fd,.bool true]) HB1.out) me rfl g8 ?_)
   | (go_at_call 55;refine HA.out.mono ?_))
  rintro e w1 ⟨hb1,h⟩;have HB2:=ab (bel2 HB0.out hb1);have hle:=HB0.out.size;clear hb1;rcases h with⟨h1,rfl⟩|⟨h1,h2,rfl⟩|⟨h1,h2,v,rfl,h3⟩
  ·have H1:=ab h1
   clear h1;go_wp2
   go_ret3
   exact⟨HB2.out,.inl ⟨H1.out,_,rfl⟩⟩
  ·have H1:=ab h1
   have H2:=ab h2;clear h1 h2;go_wp2
   go_ret3
   exact⟨HB2.out,.inr (.inl ⟨H1.out,H2.out,_,rfl⟩)⟩
  ·have H1:=ab h1
   have H2:=ab h2;have H3:=ab h3;clear h1 h2 h3;go_wp2
   go_ret3
   exact⟨HB2.out,.inr (.inr ⟨H1.out,H2.out,v,rfl,H3.out.base hle⟩)⟩
 | false =>
  have HA:=ab (Find_any S (fold:=fd) (s:=s) (z:=z) W0 HXV.out hm hsm hwf hs hg);go_enter Tryz.func28,Tryz.ntmps28
  go_upto_region 1 with fail
  rw [←HW0.out];clear HW0;go_wp2_with (first
   | (refine jr rfl 25 (.tmp 26) rfl w.heap.size 0 rfl [.int .i64 rk,.string ⟨rch.toArray⟩,.bool rng,.slice ra rrs.length rcp,.int .i64 rlo,.int .i64 rhi,.bool rlz,.slice rka rks.length rkc] _ (jt (ds:=[.slice fa fs.length fcp,.bool fd,.bool false]) HB1.out) me rfl g8 ?_)
   | (go_at_call 56;refine HA.out.mono ?_))
  rintro e w1 ⟨hb1,h⟩;have HB2:=ab (bel2 HB0.out hb1);have hle:=HB0.out.size;rcases h with⟨h1,rfl⟩|⟨h1,h2,rfl⟩|⟨h1,h2,h3,rfl⟩|⟨h1,h2,a,b,ps,aa,c,h3,rfl,h4,h5,h6,h7⟩
  ·have H1:=ab h1
   clear h1 hb1;unfold mz;go_wp2
   go_ret3
   exact⟨HB2.out.trans ((Below.refl _ _).alloc HB2.out.size _),.inl ⟨H1.out,_,rfl⟩⟩
  ·have H1:=ab h1
   have H2:=ab h2;clear h1 h2 hb1;unfold mz;go_wp2
   go_ret3
   exact⟨HB2.out.trans ((Below.refl _ _).alloc HB2.out.size _),.inr (.inl ⟨H1.out,H2.out,_,rfl⟩)⟩
  ·have H1:=ab h1
   have H2:=ab h2;have H3:=ab h3;clear h1 h2 h3 hb1;unfold mz;go_wp2
   go_ret3
   refine⟨HB2.out.trans ((Below.refl _ _).alloc HB2.out.size _),.inr (.inr ⟨H1.out,H2.out,_,rfl,?_⟩)⟩;show OwnM _ _ _ _ _ (qF X fd s z).1.toList
   rw [H3.out];exact OwnM.nil _ _ _ _
  ·have H1:=ab h1
   have H2:=ab h2;have H3:=ab h3;have H4:=ab h4;have H5:=ab h5;have H6:=ab h6;have H7:=ab h7;generalize hua:(rcM fd s).offs.getD a 0=ua
   generalize hub:(rcM fd s).offs.getD b 0=ub
   have HUA:=ab hua;have HUB:=ab hub;have hz1:=HB2.out.size;have ho:((w1.alloc (.cells #[.int .i64 (ua:Int),.int .i64 (ub:Int),.slice aa X.groups c] 72)).alloc (.cells #[.int .i64 (ua:Int),.int .i64 (ub:Int),.slice aa X.groups c] 72)).ownsRow w.heap.size 72 3 (.slice (some ⟨w1.heap.size+1,0,none⟩) 1 1) 1 [.int .i64 (ua:Int),.int .i64 (ub:Int),.slice aa X.groups c]:=by
    have:=World.ownsRow_lit (w1.alloc (.cells #[.int .i64 (ua:Int),.int .i64 (ub:Int),.slice aa X.groups c] 72)) #[.int .i64 (ua:Int),.int .i64 (ub:Int),.slice aa X.groups c] 1 (base:=w.heap.size) (e:=72) (size:=3) fr fo rfl
    simpa using this
   have HO:=ab ho;clear h1 h2 h3 h4 h5 h6 h7 hb1 hua hub ho;go_wp2
   go_ret3
   refine⟨(HB2.out.trans ((Below.refl _ _).alloc HB2.out.size _)).trans ((Below.refl _ _).alloc fr _),.inr (.inr ⟨H1.out,H2.out,_,rfl,?_⟩)⟩;show OwnM _ _ _ _ _ (qF X fd s z).1.toList
   rw [H3.out];refine⟨[[.int .i64 (ua:Int),.int .i64 (ub:Int),.slice aa X.groups c]],HO.out,.cons ⟨aa,c,by rw [HUA.out,HUB.out],?_,H5.out,H6.out,by show b+1≤(rcM fd s).offs.length;have h8:(rcM fd s).offs.length=(rcM fd s).cs.length+1:=kS _ _;have:=H7.out;omega⟩ .nil⟩;have h9:=SlS.mono H4.out (S':=fun b=>W0.heap.size≤b∧b<w1.heap.size) (fun b hb hlt=>⟨hb,hlt⟩);refine SlS.mono (SlS.keep (SlS.keep h9 (Kept.all ((Below.refl _ _).alloc (zP _) _))) (Kept.all ((Below.refl _ _).alloc (zP _) _))) (fun d hd _=>⟨zR hle hd.1,fun e=>?_⟩);have h12:=hd.2;have e2:w1.heap.size+1=d:=by injection e
   omega
theorem vm (s:Str) (u v:Int) (w:World) (h:(u=-1∧v=-1)∨∃a b:Nat,a≤b∧b≤s.length∧u=a∧v=b) :
  Calls Tryz.prog 29 #[.string ⟨s.toArray⟩,.agg #[.int .i64 u,.int .i64 v]] w fun e w'=>e=.returned (.string ⟨(mJ s (u,v)).toArray⟩)∧Below w.heap.size w w':=by
 have hb:Below w.heap.size w (w.alloc (.cells #[.int .i64 u,.int .i64 v] 69)):=(Below.refl _ _).alloc (zP _) _;obtain⟨m,hm⟩:∃m,mJ s (u,v)=m:=⟨_,rfl⟩;rw [hm];have HM:=ab hm;have HB:=ab hb;clear hm hb;rcases h with⟨rfl,rfl⟩|⟨a,b,hab,hbl,rfl,rfl⟩
 ·go_enter Tryz.func29,Tryz.ntmps29
  go_wp2
  go_ret
  exact⟨by rw [←HM.out];rfl,HB.out⟩
 ·have ha:¬(a:Int)<0:=fg
  go_enter Tryz.func29,Tryz.ntmps29
  go_wp2
  go_ret
  refine⟨?_,HB.out⟩;rw [←HM.out];unfold mJ jN;rw [zO (show ¬(a:Int)<0 by omega)];simp
def Spans (C:Rc) (ps:List (Int × Int)):Prop:=∀v∈ps,v=(-1,-1)∨∃a b:Nat,a≤b∧b≤C.cs.length∧v=((C.offs.getD a 0:Int),(C.offs.getD b 0:Int))
theorem mA (fold:Bool) (s:Str):(rcM fold s).offs.length=(iP s).length+1:=kS _ _
theorem one_in (C:Rc) (x:Rx) {k:Nat} (hk:k≤C.cs.length) (st:Rst) {e:Nat} {ps:List (Int × Int)} (h:(oneM C x k st).1=some (e,ps)):k≤e∧e≤C.cs.length∧Spans C ps:=by
 have hi:Inv C x.groups st.fuel (fun en=>en=-1∨∃e:Nat,en=(e:Int)∧k≤e∧e≤C.cs.length) (tryM C x 0 k (fun e s=>(true,{ s with en:=(e:Int) })) { st with ps:=List.replicate x.groups (-1,-1),en:=-1 }).2 :=
  pM x 0 k _ _ fg hk (fun e s h1 h2 h3=>⟨h3.len,h3.sp,.inr ⟨e,rfl,h1,h2⟩,h3.fu⟩) ⟨by simp,fun v hv=>.inl (List.mem_replicate.1 hv).2,.inl rfl,zP _⟩
 unfold oneM at h;simp only at h
 split at h
 ·cases h
 ·rename_i hn
  injection h with h
  injection h with h1 h2
  rcases hi.en with h3|⟨e',h3,h4,h5⟩
  ·exact absurd (.inl (by rw [h3];decide)) hn
  ·rw [h3] at h1
   simp at h1
   subst h1;subst h2;exact⟨h4,h5,hi.sp⟩
theorem uy (C:Rc) (x:Rx) (hC:C.offs.length=C.cs.length+1):∀(N k:Nat) (st:Rst) {a b:Nat} {ps:List (Int × Int)},(lD C x N k st).1=some (a,b,ps)→k≤a∧a≤b∧b≤C.cs.length∧Spans C ps
 | 0,_,_,_,_,_,h=>by simp [lD] at h
 | N+1,k,st,a,b,ps,h=>by
  unfold lD at h;by_cases h1:k<C.offs.length∧st.out=false
  ·rw [zL h1] at h
   simp only at h
   cases hc:(oneM C x k st).1 with
   | none =>
    rw [hc] at h;obtain⟨h5,h6⟩:=uy C x hC N (k+1) _ h;exact⟨by omega,h6⟩
   | some q =>
    obtain⟨e,qs⟩:=q;rw [hc] at h;injection h with h
    injection h with h2 h3
    injection h3 with h3 h4
    subst h2;subst h3;subst h4;obtain⟨h5,h6⟩:=one_in C x fg st hc;exact⟨zP _,h5,h6⟩
  ·rw [zO h1] at h;cases h
def Chain (C:Rc):Nat→List Mt→Prop
 | _,[]=>True
 | k,m::r=>k≤m.1∧m.1≤m.2.1∧m.2.1≤C.cs.length∧Spans C m.2.2∧Chain C (if m.1=m.2.1 then m.2.1+1 else m.2.1) r
theorem th (C:Rc) (x:Rx) (hC:C.offs.length=C.cs.length+1):∀(N k:Nat) (st:Rst),Chain C k (allM C x N k st).1
 | 0,_,_=>by simp [allM,Chain]
 | N+1,k,st=>by
  unfold allM;by_cases h1:k<C.offs.length
  ·rw [zL h1]
   simp only
   cases hc:(lD C x (C.offs.length+1) k st).1 with
   | none=>simp [Chain]
   | some q =>
    obtain⟨a,b,ps⟩:=q;have h2:=uy C x hC _ _ _ hc;simp only
    split
    ·simp [Chain]
    ·exact⟨h2.1,h2.2.1,h2.2.2.1,h2.2.2.2,th C x hC N _ _⟩
  ·rw [zO h1];simp [Chain]
theorem nT (x:Rx) (fold all:Bool) (s:Str) (z:Int):Chain (rcM fold s) 0 (jy x fold all s z).1:=by
 unfold jy;cases all with
 | true=>rw [zL rfl];exact th (rcM fold s) x (mA fold s) _ _ _
 | false =>
  rw [zO fo];cases hc:(lD (rcM fold s) x ((rcM fold s).offs.length+1) 0 (kH x.groups z)).1 with
  | none=>simp [Chain]
  | some q =>
   obtain⟨a,b,ps⟩:=q;have h2:=uy (rcM fold s) x (mA fold s) _ _ _ hc;exact⟨h2.1,h2.2.1,h2.2.2.1,h2.2.2.2,trivial⟩
theorem Chain.at_ {C:Rc}:∀{ms:List Mt} {j k:Nat} {m:Mt},Chain C j ms→ms[k]?=some m→j≤m.1∧m.1≤m.2.1∧m.2.1≤C.cs.length∧Spans C m.2.2∧∀m',ms[k+1]?=some m'→m.2.1≤m'.1
 | [],_,_,_,_,h=>by simp at h
 | q::r,j,0,m,hc,h=>by
  simp at h;subst h
  obtain⟨h1,h2,h3,h4,h5⟩:=hc;refine⟨h1,h2,h3,h4,fun m' h6=>?_⟩;cases r with
  | nil=>simp at h6
  | cons q' r =>
   simp at h6;subst h6
   have:=h5.1
   split at this<;>omega
 | q::r,j,k+1,m,hc,h=>by
  obtain⟨h1,h2,h3,h4,h5⟩:=hc;obtain⟨h6,h7⟩:=h5.at_ (k:=k) fS;refine⟨?_,h7.1,h7.2.1,h7.2.2.1,fun m' hm'=>h7.2.2.2 m' (by simpa using hm')⟩;split at h6<;>omega
theorem Chain.len {C:Rc}:∀{ms:List Mt} {j:Nat},Chain C j ms→ms≠[]→ms.length+j≤C.cs.length+1
 | [],_,_,h=>absurd rfl h
 | [m],j,hc,_=>by
  obtain⟨h1,h2,h3,_⟩:=hc;simp only [zW,zY];omega
 | m::q::r,j,hc,_=>by
  obtain⟨h1,h2,h3,_,h5⟩:=hc;have h6:=h5.len fq;simp only [zW] at h6 ⊢;split at h6<;>omega
theorem pK {s:Str} {a b:Nat} (h:a≤b) (hb:b≤(iP s).length):(jl (iP s) 0).getD a 0≤(jl (iP s) 0).getD b 0:=by
 rw [jI _ a fg,jI _ b hb];exact mM _ h
theorem Spans.took {fold:Bool} {s:Str} {ps:List (Int × Int)} (h:Spans (rcM fold s) ps) {v:Int × Int} (hv:v∈ps):(v.1=-1∧v.2=-1)∨∃a b:Nat,a≤b∧b≤s.length∧v.1=a∧v.2=b:=by
 rcases h v hv with h|⟨a,b,h1,h2,h3⟩
 ·exact .inl ⟨by rw [h],by rw [h]⟩
 ·exact .inr ⟨_,_,pK h1 h2,sf s h2,by rw [h3];rfl,by rw [h3];rfl⟩
theorem sM (s:Str) (a b:Nat):(jN s a b).length≤s.length:=by
 unfold jN;rw [Ac,Aw];omega
theorem mZ (s:Str) (offs:List Nat) (m:Mt):∀p∈kF s offs m,p.length≤s.length:=by
 intro p hp;unfold kF at hp;rcases An.1 hp with rfl|hp
 ·exact sM _ _ _
 ·obtain⟨v,_,rfl⟩:=List.mem_map.1 hp
  unfold mJ;split
  ·simp
  ·exact sM _ _ _
theorem SlP.at_ {w:World} {B:Nat} {a:Option Addr} {n:Nat} {ps:List (Int × Int)} (h:Sl w B a 2 n (i7 ps)) {k:Nat} {v:Int × Int} (hk:ps[k]?=some v) :
  ∃b o,a=some ⟨b,o,none⟩∧b<B∧w.cell? ⟨b,o+k*2,none⟩=some (.int .i64 v.1)∧w.cell? ⟨b,o+k*2+1,none⟩=some (.int .i64 v.2):=by
 have hlt:=(zQ.1 hk).1;have hn:n=ps.length:=by have:=h.1;rw [jq] at this;omega
 obtain⟨b,o,h1,h2,h3⟩:=h.2 fg;obtain⟨e1,e2⟩:=ol hk;exact⟨b,o,h1,h2,h3 _ _ e1,h3 _ _ e2⟩
theorem MtVs.three {w:World} {S:Nat→Prop} {offs:List Nat} {n:Nat}:∀{cs:List (List Value)} {ms:List Mt},MtVs w S offs n cs ms→∀c∈cs,c.length=3
 | _,_,.nil=>by simp
 | _,_,.cons h1 h2=>by
  intro c hc;rcases An.1 hc with rfl|hc
  ·obtain⟨aa,cp,rfl,_⟩:=h1;rfl
  ·exact h2.three c hc
theorem OwnM.rd {w:World} {D:Nat} {offs:List Nat} {n:Nat} {v:Value} {ms:List Mt} (h:OwnM w D offs n v ms) {k:Nat} {m:Mt} (hk:ms[k]?=some m) :
  ∃b c aa cp,v=.slice (some ⟨b,0,none⟩) ms.length c∧b<w.heap.size∧w.cell? ⟨b,k*3,none⟩=some (.int .i64 ((offs.getD m.1 0:Nat):Int))∧w.cell? ⟨b,k*3+1,none⟩=some (.int .i64 ((offs.getD m.2.1 0:Nat):Int)) ∧
   w.cell? ⟨b,k*3+2,none⟩=some (.slice aa n cp)∧Sl w w.heap.size aa 2 n (i7 m.2.2)∧m.2.2.length=n:=by
 obtain⟨css,h1,h2⟩:=h;obtain⟨cc,e1,aa,cp,rfl,h3,h4,_⟩:=h2.at_ hk;have hlt:=(zQ.1 hk).1;rcases h1.2 with⟨_,h0⟩|⟨b,cap,cur,rfl,_,_,_,_⟩
 ·omega
 ·obtain⟨b',o,e2,hlt',hc⟩:=(Sl.of_own h1).2 fg
  injection e2 with e2
  injection e2 with e2 e3 _
  subst e2;subst e3;have hh:=h2.three;refine⟨b,cap,aa,cp,rfl,hlt',?_,?_,?_,SlS.sl h3,h4⟩
  ·have:=hc (k*3+0) _ (oZ hh e1 (j:=0) rfl);simpa using this
  ·have:=hc (k*3+1) _ (oZ hh e1 (j:=1) rfl);simpa using this
  ·have:=hc (k*3+2) _ (oZ hh e1 (j:=2) rfl);simpa using this
def PtRel (s p0:Str) (sp:List (Int × Int)) (W0:World) (v q:Value) (wr:World):Prop :=
 ∃j:Nat,j≤sp.length∧q=.int .i64 j∧wr.ownsRow W0.heap.size 9 1 v (j+1) (j7 (p0::(sp.take j).map (mJ s)))∧Below W0.heap.size W0 wr
def FoRel (fs:List Fm) (ps:List Str) (W1:World) (D2:Nat) (pv:Value) (np:Nat) (g15:Nat) (mo:Obj) (PO:Str) (v q:Value) (wr:World):Prop :=
 ∃(j:Nat) (out:Str),j≤fs.length∧q=.int .i64 j∧wr.ownsRow W1.heap.size 5 1 v out.length (jF out)∧wr.ownsRow D2 9 1 pv np (j7 ps)∧wr.heap[g15]?=some mo∧Below W1.heap.size W1 wr∧out.length≤2000000∧Hid (putM ps (fs.drop j) out=PO)
def AlyRel (s:Str) (offs:List Nat) (fs:List Fm) (ms:List Mt) (W1:World) (G:Option (Nat × Str)) (v12 v13 q:Value) (wr:World):Prop :=
 ∃(k at_:Nat) (out:Str),k≤ms.length∧q=.int .i64 k∧v13=.int .i64 at_∧wr.ownsRow W1.heap.size 5 1 v12 out.length (jF out)∧Below W1.heap.size W1 wr∧at_≤s.length∧out.length≤65536∧Hid (∀m,ms[k]?=some m→at_≤offs.getD m.1 0)∧Hid (goM s offs fs (ms.drop k) at_ out=G)
theorem XMay_any (S:Nat→Prop) (f:Tf) (hsm:f.small) (fc:List Value) (w:World) (hv:TfV w S fc f) :
  Calls Tryz.prog 25 #[.agg fc.toArray] w fun e w'=>e=.returned (.bool (wX f))∧Below w.heap.size w w':=by
 obtain⟨rk,rch,rng,rrs,rlo,rhi,rlz,rks,ra,rcp,rka,rkc,fa,fcp,hc⟩:=hv.open_;obtain⟨X,fs,fd,al⟩:=f;obtain⟨hx,hp,hfs⟩:=hsm;have hx1:X=.mk rk rch rng rrs rlo rhi rlz rks:=hc.rx;have hfce:fc=[.int .i64 rk,.string ⟨rch.toArray⟩,.bool rng,.slice ra rrs.length rcp,.int .i64 rlo,.int .i64 rhi,.bool rlz,.slice rka rks.length rkc,.slice fa fs.length fcp,.bool fd,.bool al]:=hc.eq;obtain⟨W0,hW0⟩:∃W0,W0=w.alloc (.cells fc.toArray 28):=⟨_,rfl⟩;have hb0:Below w.heap.size w W0:=by rw [hW0];exact(Below.refl _ _).alloc (zP _) _
 have HB1:Hid (W0.heap[w.heap.size]?=some (.cells fc.toArray 28 (0,0))):=ab (by rw [hW0];exact heap_alloc_new w _);have HXV:Hid (RxV W0 S [.int .i64 rk,.string ⟨rch.toArray⟩,.bool rng,.slice ra rrs.length rcp,.int .i64 rlo,.int .i64 rhi,.bool rlz,.slice rka rks.length rkc] X):=ab (hx1▸hc.rv.later hb0);have HFS:Hid (SlS W0 S fa 5 fs.length (kk fs)):=ab (hc.fv.keep (Kept.all hb0));have HXS:=ab hx;have HP:=ab hp;have HFL:=ab hfs;have HTM:Hid (wX ⟨X,fs,fd,al⟩=(mayB X&&lC fs)):=ab rfl;subst hfce;have HW0:=ab hW0;rw [HTM.out];clear hv hc hx hx1 hW0 hfs hp HTM;have HRM:=ab (pE S X _ W0 HP.out HXS.out HXV.out);cases hm:mayB X with
 | false =>
  rw [hm] at HRM;clear hm;go_enter Tryz.func25,Tryz.ntmps25
  go_upto_region 1 with fail
  rw [←HW0.out];clear HW0;go_wp2_with (first
   | (refine jr rfl 25 (.tmp 3) rfl w.heap.size 0 rfl [.int .i64 rk,.string ⟨rch.toArray⟩,.bool rng,.slice ra rrs.length rcp,.int .i64 rlo,.int .i64 rhi,.bool rlz,.slice rka rks.length rkc] _ (jt (ds:=[.slice fa fs.length fcp,.bool fd,.bool al]) HB1.out) me rfl g8 ?_)
   | (go_at_call 50;refine HRM.out.mono ?_))
  first|rintro e w1 rfl hb1|rintro e w1 ⟨rfl,hb1⟩
  go_wp2
  go_ret
  exact⟨rfl,bel2 hb0 hb1⟩
 | true =>
  rw [hm] at HRM;clear hm;go_enter Tryz.func25,Tryz.ntmps25
  go_upto_region 1 with fail
  rw [←HW0.out];clear HW0;go_wp2_with (first
   | (refine jr rfl 25 (.tmp 3) rfl w.heap.size 0 rfl [.int .i64 rk,.string ⟨rch.toArray⟩,.bool rng,.slice ra rrs.length rcp,.int .i64 rlo,.int .i64 rhi,.bool rlz,.slice rka rks.length rkc] _ (jt (ds:=[.slice fa fs.length fcp,.bool fd,.bool al]) HB1.out) me rfl g8 ?_)
   | (go_at_call 50;refine HRM.out.mono ?_))
  first|rintro e w1 rfl hb1|rintro e w1 ⟨rfl,hb1⟩
  have hx1:=(hb1.block _ (iN HB1.out)).trans HB1.out;have z8:=iQ hx1 8 rfl;have HM:=ab (uE fa fs.length fcp fs w1 (HFS.out.keep (Kept.all hb1)).sl HFL.out);clear hx1;go_wp2_with (go_at_call 51;refine HM.out.mono ?_)
  first|rintro e w2 rfl hb2|rintro e w2 ⟨rfl,hb2⟩
  go_wp2
  go_ret
  exact⟨by simp,bel2 (bel2 hb0 hb1) hb2⟩
end Go.Proofs.YtbnkaecmgfolpaaGreat
