/- walk of rxrun.All -/
import Derived.Test.YtjggmmaojklmpaaGreatDoorKb24
import Derived.LaidMore
import Derived.Stop.Joined
set_option maxRecDepth 100000
set_option maxHeartbeats 4000000
namespace Go.Proofs.YtjggmmaojklmpaaGreatDoor
open Go.RowKit
def allQ (x:Rx) (fold:Bool) (s:Str) (z:Int):List Mt × Rst:=allM (rcM fold s) x ((rcM fold s).offs.length+1) 0 (o4 x.groups z)
def AllP (x:Rx) (fold:Bool) (s:Str) (z:Int) (w:World) (e:Ending) (w':World):Prop :=
 Below w.heap.size w w' ∧
  ((mayB x=false∧e=.returned (.tuple #[.slice none 0 0,.int .i64 0,.int .i64 10]))
  ∨ (mayB x=true∧(allQ x fold s z).2.out=true∧e=.returned (.tuple #[.slice none 0 0,.int .i64 0,.int .i64 9]))
  ∨ (mayB x=true∧(allQ x fold s z).2.out=false∧∃v,e=.returned (.tuple #[v,.int .i64 ((allQ x fold s z).2.fuel:Int),.int .i64 0])∧OwnM w' w.heap.size (rcM fold s).offs x.groups v (allQ x fold s z).1))
def AlRel (R:Rn) (x:Rx) (Q:List Mt × Rst) (w:World) (v q:Value) (wr:World):Prop :=
 ∃(k N:Nat) (s:Rst) (acc:List Mt),k≤R.C.cs.length+1∧R.C.cs.length+1-k<N∧acc.length≤k∧q=.int .i64 k∧s.out=false∧RunJ R wr s∧Gx R.Y w wr∧OwnM wr w.heap.size R.C.offs R.n v acc∧Hid ((acc++(allM R.C x N k s).1,(allM R.C x N k s).2)=Q)
theorem All_any (S:Nat→Prop) {x:Rx} {cc:List Value} {fold:Bool} {s:Str} {z:Int} (w:World) (hv:RxV w S cc x) (hm:x.parts≤1000000) (hsm:x.small) (hwf:x.wf=true) (hs:s.length≤1000000) (hg:x.groups≤1000) :
  Calls Tryz.prog 58 #[.agg cc.toArray,.bool fold,.string ⟨s.toArray⟩,.int .i64 z] w (AllP x fold s z w):=by
 have hv0:=hv;obtain⟨X,hX⟩:∃X,X=x:=⟨_,rfl⟩;obtain⟨kd,ch,ng,rs,lo,hi,lz,ks⟩:=x;obtain⟨ra,rc,ka,kc,rfl,hrs,hks⟩:=hv0.open_;rw [←hX];obtain⟨W1,hW1⟩:∃W1,W1=w.alloc (.cells (rxc kd ch ng ra rs.length rc lo hi lz ka ks.length kc).toArray 25):=⟨_,rfl⟩;have hb1:Below w.heap.size w W1:=by rw [hW1];exact(Below.refl _ _).alloc (Dv _) _
 have hz1:W1.heap.size=w.heap.size+1:=by rw [hW1];simp
 have hx1:W1.heap[w.heap.size]?=some (.cells (rxc kd ch ng ra rs.length rc lo hi lz ka ks.length kc).toArray 25 (0,0)):=by rw [hW1];exact heap_alloc_new w _
 rw [←hX] at hv hm hsm hwf hg;have hv1:=hv.later hb1;have HM:=ab (pG S X _ W1 hm hsm hv1);have x0:W1.cell? ⟨w.heap.size,0,none⟩=some (.int .i64 kd):=by rw [DB hx1];rfl
 have x1:W1.cell? ⟨w.heap.size,1,none⟩=some (.string ⟨ch.toArray⟩):=by rw [DB hx1];rfl
 have x2:W1.cell? ⟨w.heap.size,2,none⟩=some (.bool ng):=by rw [DB hx1];rfl
 have x3:W1.cell? ⟨w.heap.size,3,none⟩=some (.slice ra rs.length rc):=by rw [DB hx1];rfl
 have x4:W1.cell? ⟨w.heap.size,4,none⟩=some (.int .i64 lo):=by rw [DB hx1];rfl
 have x5:W1.cell? ⟨w.heap.size,5,none⟩=some (.int .i64 hi):=by rw [DB hx1];rfl
 have x6:W1.cell? ⟨w.heap.size,6,none⟩=some (.bool lz):=by rw [DB hx1];rfl
 have x7:W1.cell? ⟨w.heap.size,7,none⟩=some (.slice ka ks.length kc):=by rw [DB hx1];rfl
 have HB1:=ab hb1;have HZ1:=ab hz1;have HX1:=ab hx1;have HW1:=ab hW1;have HV1:=ab hv1;have HXe:=ab hX;clear hb1 hz1 hx1 hW1 hv1 hX hrs hks hv hv0;unfold rxc at HM HW1 ⊢;go_enter Tryz.func58,Tryz.ntmps58
 go_upto_region 1 with fail
 rw [←HW1.out];go_wp2_with (go_at_call 20;refine HM.out.mono ?_)
 first|rintro e w2 rfl hb2|rintro e w2 ⟨rfl,hb2⟩
 have HB2:=ab hb2;have keep2:∀(b:Nat) (o:Obj),W1.heap[b]?=some o→w2.heap[b]?=some o:=fun b o h=>(HB2.out.block b (jA h)).trans h
 clear hb2;cases hmb:mayB X with
 | false =>
  have HMB:=ab hmb;clear hmb;go_wp2
  go_ret3
  exact⟨bel2 HB1.out HB2.out,.inl ⟨HMB.out,rfl⟩⟩
 | true =>
  have HMB:=ab hmb;clear hmb;have hc:∀(j:Nat) (v:Value),W1.cell? ⟨w.heap.size,j,none⟩=some v→w2.cell? ⟨w.heap.size,j,none⟩=some v:=fun j v h=>by rw [←h];exact World.cell?_of_block (HB2.out.block _ (jA HX1.out))
  have x0:=hc _ _ x0;have x1:=hc _ _ x1;have x2:=hc _ _ x2;have x3:=hc _ _ x3;have x4:=hc _ _ x4;have x5:=hc _ _ x5;have x6:=hc _ _ x6;have x7:=hc _ _ x7;have HBG:=ab (uX S (fold:=fold) (s:=s) (z:=z) w2 (HV1.out.later HB2.out) hsm hwf hs hg);unfold rxc at HBG;clear hc;go_wp2_with (go_at_call 83;refine HBG.out.mono ?_)
  rintro e w3 ⟨R,rfl,hB⟩;obtain⟨Q,hQ⟩:∃Q,allM R.C X (R.C.offs.length+1) 0 (o4 X.groups z)=Q:=⟨_,rfl⟩;have hqf:allQ X fold s z=Q:=by unfold allQ;rw [←hB.C];exact hQ
  have cell:∀(w9:World) (s9:Rst) (_:RunJ R w9 s9) (jj:Nat) (u:Value),[Value.bool R.C.fold,.slice R.ca R.C.cs.length R.cc,.slice R.oa (R.C.cs.length+1) R.oc,.slice R.pa R.n R.pc,.int .i64 (s9.fuel:Int),.bool s9.out][jj]?=some u→w9.cell? ⟨R.r,11+jj,none⟩=some u:=fun w9 s9 hj jj u hu=>by
   exact de
  have HQ:=ab hQ;have HQF:=ab hqf;have HB:=ab hB;have HCL:=ab cell;have HBW:Hid (Below w.heap.size w w3):=ab ((bel2 HB1.out HB2.out).trans (hB.bel.mono iz));have hcs:=hB.j.cs;have hol:=hB.j.of;have HI:=ab (info_parts zX);clear hQ hqf hB cell x0 x1 x2 x3 x4 x5 x6 x7 HBG HM;go_upto_region 6 with fail
  go_loopw [12,13] (fun v q wr=>AlRel R X Q w3 v q wr) (fun _ q _=>R.C.cs.length+1-(intOf q).toNat)
  case atStart=>exact⟨0,R.C.offs.length+1,o4 X.groups z,[],by omega,by omega,by simp,rfl,rfl,HB.out.run,Gx.refl _ _,OwnM.nil _ _ _ _,ab (by rw [HQ.out];rfl)⟩
  case round =>
   obtain⟨k,N,st,acc,hk,hN,hal,rfl,hout,hj,hgx,hown,HF⟩:=hrel;obtain⟨N,rfl⟩:∃m,N=m+1:=⟨N-1,by omega⟩;obtain⟨va,vc,rfl,hvc⟩:=hown.form;have HJ:=ab hj;have HG:=ab hgx;have HO:=ab hown;have HOUT:=ab hout;have c13:wr.cell? ⟨R.r,13,none⟩=some (.slice R.oa (R.C.cs.length+1) R.oc):=HCL.out _ _ hj 2 _ rfl;have c15:wr.cell? ⟨R.r,15,none⟩=some (.int .i64 (st.fuel:Int)):=HCL.out _ _ hj 4 _ rfl;have hzr:=hgx.size;have brw:Below w.heap.size w wr:=HBW.out.trans (hgx.below HBW.out.size (fun b hb=>Dz iz (HB.out.new b hb)));have HBR:=ab brw;clear HQ hj hgx hown hout brw hvc;by_cases hlt:k<R.C.cs.length+1
   ·have hf:=yy HB.out.j HJ.out (RunT.gx HB.out.j HB.out.tr HG.out) (k:=k) (N:=R.C.offs.length+1) fR fR
    obtain⟨q,hq⟩:∃q,od R.C X (R.C.offs.length+1) k st=q:=⟨_,rfl⟩;rw [hq] at hf;have hal2:allM R.C X (N+1) k st=(match q.1 with|some (a,b,ps)=>if q.2.out=true then([],q.2) else(((a,b,ps)::(allM R.C X N (if a=b then b+1 else b) q.2).1,(allM R.C X N (if a=b then b+1 else b) q.2).2))|none=>([],q.2)):=by
     refine(Dr (c:=k<R.C.offs.length) fR).trans ?_
     rw [←hq];rfl
    rw [hal2] at HF;have HFI:=ab hf;have hlti:(k:Int)<(R.C.cs.length:Int)+1:=fR;clear hf hal2 hq c15;go_wp2_with (go_at_call 84;refine HFI.out.mono ?_)
    rintro e w4 ⟨hj4,hg4,hm4⟩;obtain⟨ia,ib,aa,nn,cc,ok,rfl,hend⟩:∃(ia ib:Int) (aa:Option Addr) (nn cc:Nat) (ok:Bool),e=.returned (.tuple #[.agg #[.int .i64 ia,.int .i64 ib,.slice aa nn cc],.bool ok]) ∧
      ((q.1=none∧ok=false)∨(∃a b ps,q.1=some (a,b,ps)∧ok=true∧ia=((R.C.offs.getD a 0:Nat):Int)∧ib=((R.C.offs.getD b 0:Nat):Int)∧nn=R.n∧SlS w4 (fun b=>wr.heap.size≤b) aa 2 R.n (jV ps)∧ps.length=R.n∧k≤a∧a≤b∧b≤R.C.cs.length)):=by
     cases hq1:q.1 with
     | none=>rw [hq1] at hm4;exact⟨0,0,none,0,0,false,hm4,.inl ⟨rfl,rfl⟩⟩
     | some t =>
      obtain⟨a,b,ps⟩:=t;rw [hq1] at hm4;obtain⟨aa,c,he,h1,h2,h3,h4,h5⟩:=hm4;exact⟨_,_,aa,R.n,c,true,he,.inr ⟨a,b,ps,rfl,rfl,rfl,rfl,rfl,h1,h2,h3,h4,h5⟩⟩
    obtain⟨W5,hW5⟩:∃W5,W5=w4.alloc (.cells #[.int .i64 ia,.int .i64 ib,.slice aa nn cc] 70):=⟨_,rfl⟩;have hb5:Below w4.heap.size w4 W5:=by rw [hW5];exact(Below.refl _ _).alloc (Dv _) _
    have hl5:W5.heap[w4.heap.size]?=some (.cells #[.int .i64 ia,.int .i64 ib,.slice aa nn cc] 70 (0,0)):=by rw [hW5];exact heap_alloc_new w4 _
    have hj5:=hj4.later hb5;have z4:=hg4.size;have z5:W5.heap.size=w4.heap.size+1:=by rw [hW5];simp
    have hg5:Gx R.Y w3 W5:=(HG.out.to hg4 (fun _ _ h=>h)).to (Gx.of_below hb5) (fun _ _ h=>h);have hnY:∀b,w3.heap.size≤b→¬R.Y b:=fun b hb e=>by
     have h1:=HB.out.run.lt;rcases e with e|e
     ·have:=h1.1;omega
     ·have:=h1.2 b e;omega
    have ho5:OwnM W5 w3.heap.size R.C.offs R.n (.slice va acc.length vc) acc:=(HO.out.gx hg4 hnY).later hb5;have b5:Below w.heap.size w W5:=HBR.out.trans ((hg4.below HBR.out.size (fun b hb=>Dz iz (HB.out.new b hb))).trans (hb5.mono (Dz HBR.out.size z4)));obtain⟨oo,hoo⟩:∃o,q.2.out=o:=⟨_,rfl⟩;obtain⟨ff,hff⟩:∃f,q.2.fuel=f:=⟨_,rfl⟩;have c16:W5.cell? ⟨R.r,16,none⟩=some (.bool oo):=by rw [←hoo];exact HCL.out _ _ hj5 5 _ rfl
    have c15:W5.cell? ⟨R.r,15,none⟩=some (.int .i64 (ff:Int)):=by rw [←hff];exact HCL.out _ _ hj5 4 _ rfl
    have m0:W5.cell? ⟨w4.heap.size,0,none⟩=some (.int .i64 ia):=by rw [DB hl5];rfl
    have m1:W5.cell? ⟨w4.heap.size,1,none⟩=some (.int .i64 ib):=by rw [DB hl5];rfl
    have m2:W5.cell? ⟨w4.heap.size,2,none⟩=some (.slice aa nn cc):=by rw [DB hl5];rfl
    have hend5:(q.1=none∧ok=false)∨(∃a b ps,q.1=some (a,b,ps)∧ok=true∧ia=((R.C.offs.getD a 0:Nat):Int)∧ib=((R.C.offs.getD b 0:Nat):Int)∧nn=R.n∧SlS W5 (fun b=>wr.heap.size≤b) aa 2 R.n (jV ps)∧ps.length=R.n∧k≤a∧a≤b∧b≤R.C.cs.length):=hend.imp id (fun⟨a,b,ps,h1,h2,h3,h4,h5,h6,h7⟩=>⟨a,b,ps,h1,h2,h3,h4,h5,SlS.keep h6 (Kept.all hb5),h7⟩);have HEND:=ab hend5;have HW5:=ab hW5;have HJ5:=ab hj5;have HG5:=ab hg5;have HO5:=ab ho5;have HB5:=ab b5;have HL5:=ab hl5;have HOO:=ab hoo;have HFF:=ab hff;have HZ5:=ab z5;have hg4z:=z4;clear hj4 hg4 hm4 hend hend5 hW5 hb5 hl5 hj5 z4 z5 hg5 ho5 b5 hoo hff HFI c13;cases oo with
    | true =>
     go_upto_region 8 with fail
     rw [←HW5.out];go_wp2
     go_ret3
     refine⟨HB5.out,.inr (.inl ⟨HMB.out,?_,rfl⟩)⟩;rw [HQF.out,←HF.out];rcases HEND.out with⟨h1,_⟩|⟨a,b,ps,h1,_⟩
     ·rw [h1];exact HOO.out
     ·rw [h1];simp only [HOO.out,if_true]
    | false =>
     rcases HEND.out with⟨h1,rfl⟩|⟨a,b,ps,h1,rfl,h2,h3,h4,h5⟩
     ·rw [h1] at HF
      go_upto_region 8 with fail
      rw [←HW5.out];go_wp2
      have e15:W5.drew.cell? ⟨R.r,15,none⟩=some (.int .i64 (ff:Int)):=c15;go_quiet (fail)
      go_wp2
      go_ret3
      refine⟨below_drewN HB5.out _,.inr (.inr ⟨HMB.out,?_,.slice va acc.length vc,?_,?_⟩)⟩
      ·rw [HQF.out,←HF.out];exact HOO.out
      ·rw [show (allQ X fold s z).2.fuel=ff by rw [HQF.out,←HF.out];exact HFF.out];rfl
      ·rw [HQF.out,←HF.out]
       have h9:=(HO5.out.later (below_drewN (Below.refl _ W5) nq)).base HBW.out.size;rw [HB.out.n,HB.out.C] at h9;simpa using h9
     ·have HF2:=HF.out
      rw [h1] at HF2;simp only [HOO.out,DW,if_false] at HF2;have HF2:=ab HF2;clear HF HEND;obtain⟨hs5,hpl,hka,hab,hbl⟩:=h5;obtain⟨css,hrow,hms⟩:=HO5.out;have hob:∀b,(Value.slice va acc.length vc).ownBlock=some b→w3.heap.size≤b∧b<wr.heap.size:=by
       obtain⟨_,hrow0,_⟩:=HO.out;exact hrow0.lt
      have hcu:Below W5.heap.size W5 (W5.alloc (.cells #[.int .i64 ia,.int .i64 ib,.slice aa nn cc] 70)):=(Below.refl _ _).alloc (Dv _) _;have ho6:=lX hrow hcu;have hsl:=Sl.lit (n:=1) (sz:=3) (heap_alloc_new W5 (.cells #[.int .i64 ia,.int .i64 ib,.slice aa nn cc] 70)) rfl;have hone:∀u∈([.int .i64 ia,.int .i64 ib,.slice aa nn cc]:List Value),u.oneCell'=true:=gd;have z5:=HZ5.out;have z4:=(hg4z:wr.heap.size≤w4.heap.size);have hmv6:MtV (W5.alloc (.cells #[.int .i64 ia,.int .i64 ib,.slice aa nn cc] 70)) (fun b=>w3.heap.size≤b∧(Value.slice va acc.length vc).ownBlock≠some b) R.C.offs R.n [.int .i64 ia,.int .i64 ib,.slice aa nn cc] (a,b,ps) :=
       ⟨aa,cc,by rw [h2,h3,h4],(SlS.keep hs5 (Kept.all hcu)).mono (fun b hb _=>⟨Dz hzr hb,fun e=>by have h6:=(hob b e).2;have h7:wr.heap.size≤b:=hb;omega⟩),hpl,hab,by show b+1≤R.C.offs.length;omega⟩
      have hms6:=hms.keep (Kept.all hcu);have hszo:w3.heap.size≤(W5.alloc (.cells #[.int .i64 ia,.int .i64 ib,.slice aa nn cc] 70)).heap.size:=by simp;omega
      have hlen:acc.length≤10000000:=fR;have HO6:=ab ho6;have HSL:=ab hsl;have HONE:=ab hone;have HMV6:=ab hmv6;have HMS6:=ab hms6;have HOB:=ab hob;have HCU:=ab hcu;have H2:=ab h2;have H3:=ab h3;have HKA:=ab hka;have HAB:=ab hab;obtain⟨iM,hiM⟩:=HI.out;clear ho6 hsl hone hmv6 hms6 hob hcu hs5 hpl hrow hms h1 h2 h3 h4 z4 z5 hka hab;go_upto_region 8 with fail
      rw [←HW5.out];go_wp2_with (at_builtin;refine kf w3.heap.size 70 rfl _ _ 63 rfl Tryz.underlying63 hiM rfl fU rfl HO6.out rfl HSL.out HONE.out fR fR fU hszo ?_)
      intro v1 w7 ho1 hg1 hb7 hmv;have ho7:OwnM w7 w3.heap.size R.C.offs R.n v1 (acc++[(a,b,ps)]):=OwnM.app HMS6.out HMV6.out (by simpa using ho1) hg1 hmv;have hgx1:Gx (fun b=>(Value.slice va acc.length vc).ownBlock=some b) (W5.alloc (.cells #[.int .i64 ia,.int .i64 ib,.slice aa nn cc] 70)) w7:=Gx.of_grown hg1 (fun k hk=>hk);have hrl:=HB.out.run.lt;have hj7:RunJ R w7 q.2:=(HJ5.out.later HCU.out).gx hgx1 (fun e=>by have:=(HOB.out _ e).1;have:=hrl.1;omega) (fun b hb e=>by have:=(HOB.out _ e).1;have:=hrl.2 b hb;omega) (fun b hb e=>by have:=(HOB.out _ e).1;have:=HB.out.tr.lt b hb;omega);have hG7:Gx R.Y w3 w7:=(HG5.out.to (Gx.of_below (X:=R.Y) HCU.out) (fun _ _ h=>h)).to hgx1 (fun b hb e=>by have:=(HOB.out _ e).1;omega);have z5:=HZ5.out;have hx7:w7.heap[w4.heap.size]?=some (.cells #[.int .i64 ia,.int .i64 ib,.slice aa nn cc] 70 (0,0)):=Gx.heap hgx1 ((HCU.out.block _ (jA HL5.out)).trans HL5.out) (fun e=>by have:=(HOB.out _ e).2;omega);have e13:=ExtOf.cell (HCL.out _ _ hj7 2 _ rfl:w7.cell? ⟨R.r,13,none⟩=some (.slice R.oa (R.C.cs.length+1) R.oc));have n0:=ExtOf.cell (show w7.cell? ⟨w4.heap.size,0,none⟩=some (.int .i64 ia) by rw [DB hx7];rfl);have n1:=ExtOf.cell (show w7.cell? ⟨w4.heap.size,1,none⟩=some (.int .i64 ib) by rw [DB hx7];rfl);have HPL:Hid (∀x:ExtOf w7,Calls Tryz.prog 85 #[.slice R.oa (R.C.cs.length+1) R.oc,.int .i64 ib] x.val fun e w'=>e=.returned (.tuple #[.int .i64 b,.bool true])∧x.val=w'):=ab (fun x=>by
       have h9:=vx R.S R.oa R.oc R.C.offs x.val (by rw [hol];exact hj7.of.keep (Kept.all x.ext)) fR HB.out.up b fR (R.C.offs.getD b 0) rfl;rw [hol,←H3.out] at h9;exact h9)
      have hii:(a=b∧ia=ib)∨(a≠b∧ia≠ib):=by
       have h6:=HAB.out;rcases Nat.lt_or_ge a b with h7|h7
       ·have h8:=HB.out.up a b h7 fR
        refine .inr ⟨by omega,?_⟩;rw [H2.out,H3.out];omega
       ·have h8:a=b:=fR
        exact .inl ⟨h8,by rw [H2.out,H3.out,h8]⟩
      have HJ7:=ab hj7;have HG7:=ab hG7;have HO7:=ab ho7;clear ho1 hg1 hb7 hmv ho7 hgx1 hrl hj7 hG7 hx7 z5;go_upto_region 12 with fail
      refine jF fW fW ?_;repeat (go_big_quiet_step ((go_at_call 85;exact tW (HPL.out _))))
      refine wpQuiet_nil ?_;rintro _ ⟨xq,rfl⟩;have n0:=n0 xq;have n1:=n1 xq;have HXQ:=ab xq.ext;have h6:=HAB.out;have h7:=HKA.out;have hfin:∀(k':Nat) (w9:World),Below xq.val.heap.size xq.val w9→k'=(if a=b then b+1 else b)→k<k'∧AlRel R X Q w3 v1 (.int .i64 k') w9:=fun k' w9 hb hk'=>by
       have hb9:=bel2 HXQ.out hb;have hkk:k<k'∧k'≤R.C.cs.length+1:=by rw [hk'];split<;>omega
       refine⟨hkk.1,k',N,q.2,acc++[(a,b,ps)],hkk.2,by omega,by simp;omega,rfl,HOO.out,HJ7.out.later hb9,HG7.out.to (Gx.of_below (X:=R.Y) hb9) (fun _ _ h=>h),HO7.out.later hb9,ab ?_⟩;rw [←HF2.out,hk'];simp
      have HFIN:=ab hfin;clear hfin e13 h6 h7;rcases hii with⟨h8,h9⟩|⟨h8,h9⟩
      ·go_wp2
       go_roundw
       case rel=>exact(HFIN.out (b+1) _ (Below.refl _ _) (by rw [Dr h8])).2
       case measure=>have:=(HFIN.out (b+1) _ (Below.refl _ _) (by rw [Dr h8])).1;simp [intOf];omega
      ·go_wp2
       go_roundw
       case rel=>exact(HFIN.out b _ (Below.refl _ _) (by rw [Du h8])).2
       case measure=>have:=(HFIN.out b _ (Below.refl _ _) (by rw [Du h8])).1;simp [intOf];omega
   ·have hge:¬(k:Int)<(R.C.cs.length:Int)+1:=fR
    have hk2:k=R.C.cs.length+1:=fR;have hal3:allM R.C X (N+1) k st=([],st):=Du (c:=k<R.C.offs.length) fR;rw [hal3] at HF;have e15:wr.drew.cell? ⟨R.r,15,none⟩=some (.int .i64 (st.fuel:Int)):=c15;clear hal3 hk2;go_wp2
    go_quiet (fail)
    go_wp2
    go_ret3
    refine⟨below_drewN HBR.out _,.inr (.inr ⟨HMB.out,?_,.slice va acc.length vc,?_,?_⟩)⟩
    ·rw [HQF.out,←HF.out];exact HOUT.out
    ·rw [show (allQ X fold s z).2.fuel=st.fuel by rw [HQF.out,←HF.out]];rfl
    ·rw [HQF.out,←HF.out]
     have h9:=(HO.out.later (below_drewN (Below.refl _ wr) nq)).base HBW.out.size;rw [HB.out.n,HB.out.C] at h9;simpa using h9
def FouP (f:Tf) (s:Str) (z:Int) (w:World) (e:Ending) (w':World):Prop :=
 Below w.heap.size w w' ∧
  ((mayB f.rx=false∧∃u:Int,e=.returned (.tuple #[.slice none 0 0,.int .i64 u,.int .i64 10]))
  ∨ (mayB f.rx=true∧(mq f.rx f.fold f.all s z).2.out=true∧∃u:Int,e=.returned (.tuple #[.slice none 0 0,.int .i64 u,.int .i64 9]))
  ∨ (mayB f.rx=true∧(mq f.rx f.fold f.all s z).2.out=false∧∃v,e=.returned (.tuple #[v,.int .i64 ((mq f.rx f.fold f.all s z).2.fuel:Int),.int .i64 0])∧OwnM w' w.heap.size (rcM f.fold s).offs f.rx.groups v (mq f.rx f.fold f.all s z).1))
theorem Dm (S:Nat→Prop) (f:Tf) (fc:List Value) (w:World) (hv:TfV w S fc f) {s:Str} {z:Int} (hm:f.rx.parts≤1000000) (hsm:f.rx.small) (hwf:f.rx.wf=true) (hs:s.length≤1000000) (hg:f.rx.groups≤1000) :
  Calls Tryz.prog 30 #[.agg fc.toArray,.string ⟨s.toArray⟩,.int .i64 z] w (FouP f s z w):=by
 obtain⟨rk,rch,rng,rrs,rlo,rhi,rlz,rks,ra,rcp,rka,rkc,fa,fcp,hc⟩:=hv.open_;obtain⟨X,fs,fd,al⟩:=f;have hx1:X=.mk rk rch rng rrs rlo rhi rlz rks:=hc.rx;have hfce:fc=[.int .i64 rk,.string ⟨rch.toArray⟩,.bool rng,.slice ra rrs.length rcp,.int .i64 rlo,.int .i64 rhi,.bool rlz,.slice rka rks.length rkc,.slice fa fs.length fcp,.bool fd,.bool al]:=hc.eq;obtain⟨W0,hW0⟩:∃W0,W0=w.alloc (.cells fc.toArray 28):=⟨_,rfl⟩;have hb0:Below w.heap.size w W0:=by rw [hW0];exact(Below.refl _ _).alloc (Dv _) _
 have HB1:Hid (W0.heap[w.heap.size]?=some (.cells fc.toArray 28 (0,0))):=ab gE;have HXV:Hid (RxV W0 S [.int .i64 rk,.string ⟨rch.toArray⟩,.bool rng,.slice ra rrs.length rcp,.int .i64 rlo,.int .i64 rhi,.bool rlz,.slice rka rks.length rkc] X):=ab (hx1▸hc.rv.later hb0);subst hfce;have HW0:=ab hW0;have HB0:=ab hb0;have z9:=jC HB1.out 9 rfl;have z10:=jC HB1.out 10 rfl;clear hv hc hx1 hW0 hb0;cases al with
 | true =>
  have HA:=ab (All_any S (fold:=fd) (s:=s) (z:=z) W0 HXV.out hm hsm hwf hs hg);go_enter Tryz.func30,Tryz.ntmps30
  go_upto_region 1 with fail
  rw [←HW0.out];clear HW0;go_wp2_with (first
   | (refine jI rfl 25 (.tmp 15) rfl w.heap.size 0 rfl [.int .i64 rk,.string ⟨rch.toArray⟩,.bool rng,.slice ra rrs.length rcp,.int .i64 rlo,.int .i64 rhi,.bool rlz,.slice rka rks.length rkc] _ (jK (ds:=[.slice fa fs.length fcp,.bool fd,.bool true]) HB1.out) kG rfl gH ?_)
   | (go_at_call 58;refine HA.out.mono ?_))
  rintro e w1 ⟨hb1,h⟩;have HB2:=ab (bel2 HB0.out hb1);have hle:=HB0.out.size;clear hb1;rcases h with⟨h1,rfl⟩|⟨h1,h2,rfl⟩|⟨h1,h2,v,rfl,h3⟩
  ·have H1:=ab h1
   clear h1;go_wp2
   go_ret3
   exact⟨HB2.out,.inl ⟨H1.out,_,rfl⟩⟩
  ·have H1:=ab h1
   have H2:=ab h2;clear h1 h2;go_wp2
   go_ret3
   exact⟨HB2.out,.inr (.inl ⟨H1.out,H2.out,_,rfl⟩)⟩
  ·have H1:=ab h1
   have H2:=ab h2;have H3:=ab h3;clear h1 h2 h3;go_wp2
   go_ret3
   exact⟨HB2.out,.inr (.inr ⟨H1.out,H2.out,v,rfl,H3.out.base hle⟩)⟩
 | false =>
  have HA:=ab (Find_any S (fold:=fd) (s:=s) (z:=z) W0 HXV.out hm hsm hwf hs hg);go_enter Tryz.func30,Tryz.ntmps30
  go_upto_region 1 with fail
  rw [←HW0.out];clear HW0;go_wp2_with (first
   | (refine jI rfl 25 (.tmp 26) rfl w.heap.size 0 rfl [.int .i64 rk,.string ⟨rch.toArray⟩,.bool rng,.slice ra rrs.length rcp,.int .i64 rlo,.int .i64 rhi,.bool rlz,.slice rka rks.length rkc] _ (jK (ds:=[.slice fa fs.length fcp,.bool fd,.bool false]) HB1.out) kG rfl gH ?_)
   | (go_at_call 59;refine HA.out.mono ?_))
  rintro e w1 ⟨hb1,h⟩;have HB2:=ab (bel2 HB0.out hb1);have hle:=HB0.out.size;rcases h with⟨h1,rfl⟩|⟨h1,h2,rfl⟩|⟨h1,h2,h3,rfl⟩|⟨h1,h2,a,b,ps,aa,c,h3,rfl,h4,h5,h6,h7⟩
  ·have H1:=ab h1
   clear h1 hb1;unfold mz;go_wp2
   go_ret3
   exact⟨HB2.out.trans ((Below.refl _ _).alloc HB2.out.size _),.inl ⟨H1.out,_,rfl⟩⟩
  ·have H1:=ab h1
   have H2:=ab h2;clear h1 h2 hb1;unfold mz;go_wp2
   go_ret3
   exact⟨HB2.out.trans ((Below.refl _ _).alloc HB2.out.size _),.inr (.inl ⟨H1.out,H2.out,_,rfl⟩)⟩
  ·have H1:=ab h1
   have H2:=ab h2;have H3:=ab h3;clear h1 h2 h3 hb1;unfold mz;go_wp2
   go_ret3
   refine⟨HB2.out.trans ((Below.refl _ _).alloc HB2.out.size _),.inr (.inr ⟨H1.out,H2.out,_,rfl,?_⟩)⟩;show OwnM _ _ _ _ _ (rW X fd s z).1.toList
   rw [H3.out];exact OwnM.nil _ _ _ _
  ·have H1:=ab h1
   have H2:=ab h2;have H3:=ab h3;have H4:=ab h4;have H5:=ab h5;have H6:=ab h6;have H7:=ab h7;generalize hua:(rcM fd s).offs.getD a 0=ua
   generalize hub:(rcM fd s).offs.getD b 0=ub
   have HUA:=ab hua;have HUB:=ab hub;have hz1:=HB2.out.size;have ho:((w1.alloc (.cells #[.int .i64 (ua:Int),.int .i64 (ub:Int),.slice aa X.groups c] 70)).alloc (.cells #[.int .i64 (ua:Int),.int .i64 (ub:Int),.slice aa X.groups c] 70)).ownsRow w.heap.size 70 3 (.slice (some ⟨w1.heap.size+1,0,none⟩) 1 1) 1 [.int .i64 (ua:Int),.int .i64 (ub:Int),.slice aa X.groups c]:=by
    have:=World.ownsRow_lit (w1.alloc (.cells #[.int .i64 (ua:Int),.int .i64 (ub:Int),.slice aa X.groups c] 70)) #[.int .i64 (ua:Int),.int .i64 (ub:Int),.slice aa X.groups c] 1 (base:=w.heap.size) (e:=70) (size:=3) fY fU rfl
    simpa using this
   have HO:=ab ho;clear h1 h2 h3 h4 h5 h6 h7 hb1 hua hub ho;go_wp2
   go_ret3
   refine⟨(HB2.out.trans ((Below.refl _ _).alloc HB2.out.size _)).trans ((Below.refl _ _).alloc fY _),.inr (.inr ⟨H1.out,H2.out,_,rfl,?_⟩)⟩;show OwnM _ _ _ _ _ (rW X fd s z).1.toList
   rw [H3.out];refine⟨[[.int .i64 (ua:Int),.int .i64 (ub:Int),.slice aa X.groups c]],HO.out,.cons ⟨aa,c,by rw [HUA.out,HUB.out],?_,H5.out,H6.out,by show b+1≤(rcM fd s).offs.length;have h8:(rcM fd s).offs.length=(rcM fd s).cs.length+1:=mt _ _;have:=H7.out;omega⟩ .nil⟩;have h9:=SlS.mono H4.out (S':=fun b=>W0.heap.size≤b∧b<w1.heap.size) (fun b hb hlt=>⟨hb,hlt⟩);refine SlS.mono (SlS.keep (SlS.keep h9 (Kept.all ((Below.refl _ _).alloc (Dv _) _))) (Kept.all ((Below.refl _ _).alloc (Dv _) _))) (fun d hd _=>⟨Dz hle hd.1,fun e=>?_⟩);have h12:=hd.2;have e2:w1.heap.size+1=d:=by injection e
   omega
theorem SlP.at_ {w:World} {B:Nat} {a:Option Addr} {n:Nat} {ps:List (Int × Int)} (h:Sl w B a 2 n (jV ps)) {k:Nat} {v:Int × Int} (hk:ps[k]?=some v) :
  ∃b o,a=some ⟨b,o,none⟩∧b<B∧w.cell? ⟨b,o+k*2,none⟩=some (.int .i64 v.1)∧w.cell? ⟨b,o+k*2+1,none⟩=some (.int .i64 v.2):=by
 have hlt:=(Dw.1 hk).1;have hn:n=ps.length:=by have:=h.1;rw [ko] at this;omega
 obtain⟨b,o,h1,h2,h3⟩:=h.2 fR;obtain⟨e1,e2⟩:=pz hk;exact⟨b,o,h1,h2,h3 _ _ e1,h3 _ _ e2⟩
theorem MtVs.three {w:World} {S:Nat→Prop} {offs:List Nat} {n:Nat}:∀{cs:List (List Value)} {ms:List Mt},MtVs w S offs n cs ms→∀c∈cs,c.length=3
 | _,_,.nil=>by simp
 | _,_,.cons h1 h2=>by
  intro c hc;rcases DF.1 hc with rfl|hc
  ·obtain⟨aa,cp,rfl,_⟩:=h1;rfl
  ·exact h2.three c hc
theorem OwnM.rd {w:World} {D:Nat} {offs:List Nat} {n:Nat} {v:Value} {ms:List Mt} (h:OwnM w D offs n v ms) {k:Nat} {m:Mt} (hk:ms[k]?=some m) :
  ∃b c aa cp,v=.slice (some ⟨b,0,none⟩) ms.length c∧b<w.heap.size∧w.cell? ⟨b,k*3,none⟩=some (.int .i64 ((offs.getD m.1 0:Nat):Int))∧w.cell? ⟨b,k*3+1,none⟩=some (.int .i64 ((offs.getD m.2.1 0:Nat):Int)) ∧
   w.cell? ⟨b,k*3+2,none⟩=some (.slice aa n cp)∧Sl w w.heap.size aa 2 n (jV m.2.2)∧m.2.2.length=n:=by
 obtain⟨css,h1,h2⟩:=h;obtain⟨cc,e1,aa,cp,rfl,h3,h4,_⟩:=h2.at_ hk;have hlt:=(Dw.1 hk).1;rcases h1.2 with⟨_,h0⟩|⟨b,cap,cur,rfl,_,_,_,_⟩
 ·omega
 ·obtain⟨b',o,e2,hlt',hc⟩:=(Sl.of_own h1).2 fR
  injection e2 with e2
  injection e2 with e2 e3 _
  subst e2;subst e3;have hh:=h2.three;refine⟨b,cap,aa,cp,rfl,hlt',?_,?_,?_,SlS.sl h3,h4⟩
  ·have:=hc (k*3+0) _ (qu hh e1 (j:=0) rfl);simpa using this
  ·have:=hc (k*3+1) _ (qu hh e1 (j:=1) rfl);simpa using this
  ·have:=hc (k*3+2) _ (qu hh e1 (j:=2) rfl);simpa using this
def PtRel (s p0:Str) (sp:List (Int × Int)) (W0:World) (v q:Value) (wr:World):Prop :=
 ∃j:Nat,j≤sp.length∧q=.int .i64 j∧wr.ownsRow W0.heap.size 9 1 v (j+1) (kS (p0::(sp.take j).map (oZ s)))∧Below W0.heap.size W0 wr
def FoRel (fs:List Fm) (ps:List Str) (W1:World) (D2:Nat) (pv:Value) (np:Nat) (g15:Nat) (mo:Obj) (PO:Str) (v q:Value) (wr:World):Prop :=
 ∃(j:Nat) (out:Str),j≤fs.length∧q=.int .i64 j∧wr.ownsRow W1.heap.size 5 1 v out.length (kx out)∧wr.ownsRow D2 9 1 pv np (kS ps)∧wr.heap[g15]?=some mo∧Below W1.heap.size W1 wr∧out.length≤2000000∧Hid (putM ps (fs.drop j) out=PO)
def AlyRel (s:Str) (offs:List Nat) (fs:List Fm) (ms:List Mt) (W1:World) (G:Option (Nat × Str)) (v12 v13 q:Value) (wr:World):Prop :=
 ∃(k at_:Nat) (out:Str),k≤ms.length∧q=.int .i64 k∧v13=.int .i64 at_∧wr.ownsRow W1.heap.size 5 1 v12 out.length (kx out)∧Below W1.heap.size W1 wr∧at_≤s.length∧out.length≤65536∧Hid (∀m,ms[k]?=some m→at_≤offs.getD m.1 0)∧Hid (goM s offs fs (ms.drop k) at_ out=G)
theorem mayB_wf {x:Rx} (h:mayB x=true):x.wf=true∧x.parts≤512:=by
 unfold mayB okB at h;simp only [Dy,Dp] at h;exact⟨h.1.1,by omega⟩
theorem AQ {f:Fm} {ps:List Str} {m:Nat} (h:∀p∈ps,p.length≤m) (h1:f.thn.length≤m∧f.els.length≤m):(qF [f] ps).length≤m:=by
 unfold qF;split
 ·simp only [DD,List.flatMap_nil,D8]
  exact wc h h1.1 h1.2
 ·simp
theorem TfV.later {w w':World} {S:Nat→Prop} {c:List Value} {f:Tf} (h:TfV w S c f) (hb:Below w.heap.size w w'):TfV w' S c f:=h.keep (Kept.all hb)
def AskM (s:Str) (offs:List Nat) (ms:List Mt):Prop:=∀(k:Nat) (m:Mt),ms[k]?=some m→offs.getD m.1 0≤offs.getD m.2.1 0∧offs.getD m.2.1 0≤s.length ∧
 (∀v:Int × Int,v∈m.2.2→(v.1=-1∧v.2=-1)∨∃a b:Nat,a≤b∧b≤s.length∧v.1=(a:Int)∧v.2=(b:Int))∧∀m':Mt,ms[k+1]?=some m'→offs.getD m.2.1 0≤offs.getD m'.1 0
theorem BG {fold:Bool} {s:Str} {ms:List Mt} (h:Chain (rcM fold s) 0 ms):AskM s (rcM fold s).offs ms:=fun k m hk=>by
 obtain⟨_,h2,h3,h4,h5⟩:=h.at_ hk;refine⟨si h2 h3,uv s h3,fun v hv=>h4.took hv,fun m' hm'=>?_⟩;obtain⟨_,h7,h8,_⟩:=h.at_ hm';exact si (h5 m' hm') (Dz h7 h8)
def endG (s:Str) (left:Nat):Option (Nat × Str)→Str × Int × Int
 | none=>([],0,4)
 | some (at_,out)=>if 65536<out.length+(s.length-at_) then([],0,4) else(out++s.drop at_,(left:Int),0)
theorem CR {fs:List Fm} {s:Str} {offs:List Nat} {ms:List Mt} {left:Nat} (h:ms≠[]):madeM fs s offs ms left=endG s left (goM s offs fs ms 0 []):=by
 unfold madeM endG;rw [Du h];rfl
set_option maxRecDepth 100000 in
theorem tw (S:Nat→Prop) (f:Tf) (fc:List Value) (w:World) (hv:TfV w S fc f) {s:Str} {z:Int} {R:Str × Int × Int} (hR:BW f.rx f.fs f.fold f.all s z=R) (hsm:f.small) (hfs:f.fs.length≤1000) {mf:Nat} (hmf:mf≤10000)
  (hf:∀g∈f.fs,g.thn.length≤mf∧g.els.length≤mf) (hs:s.length≤1000000) (hps:∀m∈(mq f.rx f.fold f.all s z).1,∀p∈pY s (rcM f.fold s).offs m,p.length≤mf) :
  Calls Tryz.prog 16 #[.agg fc.toArray,.string ⟨s.toArray⟩,.int .i64 z] w fun e w'=>e=.returned (.tuple #[.string ⟨(R.1).toArray⟩,.int .i64 R.2.1,.int .i64 R.2.2])∧Below w.heap.size w w':=by
 obtain⟨rk,rch,rng,rrs,rlo,rhi,rlz,rks,ra,rcp,rka,rkc,fa,fcp,hc⟩:=hv.open_;obtain⟨X,fs,fd,al⟩:=f;have hfce:fc=[.int .i64 rk,.string ⟨rch.toArray⟩,.bool rng,.slice ra rrs.length rcp,.int .i64 rlo,.int .i64 rhi,.bool rlz,.slice rka rks.length rkc,.slice fa fs.length fcp,.bool fd,.bool al]:=hc.eq;subst hfce;replace hfs:fs.length≤1000:=hfs;obtain⟨W0,hW0⟩:∃W0,W0=w.alloc (.cells #[.int .i64 rk,.string ⟨rch.toArray⟩,.bool rng,.slice ra rrs.length rcp,.int .i64 rlo,.int .i64 rhi,.bool rlz,.slice rka rks.length rkc,.slice fa fs.length fcp,.bool fd,.bool al] 28):=⟨_,rfl⟩;have hb0:Below w.heap.size w W0:=by rw [hW0];exact(Below.refl _ _).alloc (Dv _) _
 have hl0:W0.heap[w.heap.size]?=some (.cells #[.int .i64 rk,.string ⟨rch.toArray⟩,.bool rng,.slice ra rrs.length rcp,.int .i64 rlo,.int .i64 rhi,.bool rlz,.slice rka rks.length rkc,.slice fa fs.length fcp,.bool fd,.bool al] 28 (0,0)):=by rw [hW0];exact heap_alloc_new w _
 have HM:=ab (qb S ⟨X,fs,fd,al⟩ hsm _ W0 (hv.later hb0));have HV:=ab hv;have HSF:=ab (SlS.sl hc.fv);have HL0:=ab hl0;have HW0:=ab hW0;have HB0:=ab hb0;have HR:=ab hR;have HS:=ab hsm;have HF:=ab hf;have HPS:=ab hps;clear hv hc hW0 hb0 hl0 hR hsm hf hps;go_enter Tryz.func16,Tryz.ntmps16
 go_upto_region 1 with fail
 rw [←HW0.out];clear HW0;go_wp2_with (first
  | (refine jI rfl 28 (.tmp 3) rfl w.heap.size 0 rfl [.int .i64 rk,.string ⟨rch.toArray⟩,.bool rng,.slice ra rrs.length rcp,.int .i64 rlo,.int .i64 rhi,.bool rlz,.slice rka rks.length rkc,.slice fa fs.length fcp,.bool fd,.bool al] _ (jK (ds:=[]) HL0.out) j0 rfl gG ?_)
  | (go_at_call 9;refine HM.out.mono ?_))
 first|rintro e w1 rfl hb1|rintro e w1 ⟨rfl,hb1⟩
 have hl1:=(hb1.block _ (jA HL0.out)).trans HL0.out;have HB1:=ab (bel2 HB0.out hb1);have HL1:=ab hl1;have HV1:=ab (HV.out.later (bel2 HB0.out hb1));clear hb1 hl1 HM;cases hmay:mP ⟨X,fs,fd,al⟩ with
 | false =>
  have HRE:Hid (R=([],0,10)):=ab (by rw [←HR.out];exact Dr hmay);clear hmay;go_wp2
  go_ret3
  exact⟨by rw [HRE.out];rfl,HB1.out⟩
 | true =>
  have hmx:mayB X=true:=by unfold mP at hmay;simp only [Dy] at hmay;exact hmay.1
  have hwf:=mayB_wf hmx;have HRE:Hid (R=if (mq X fd al s z).2.out=true then([],0,9) else madeM fs s (rcM fd s).offs (mq X fd al s z).1 (mq X fd al s z).2.fuel):=ab (by
   rw [←HR.out];unfold mP at hmay;exact Du (by rw [hmay];decide))
  have HFO:=ab (Dm S ⟨X,fs,fd,al⟩ (s:=s) (z:=z) _ w1 HV1.out (by have:=hwf.2;show X.parts≤1000000;omega) HS.out.1 hwf.1 hs (by have:=Rx.groups_parts X;show X.groups≤1000;omega));have HMX:=ab hmx;have hgr:X.groups≤512:=Dz (Rx.groups_parts X) hwf.2;clear hmay hmx hwf HR;go_wp2_with (first
   | (refine jI rfl 28 (.tmp 3) rfl w.heap.size 0 rfl [.int .i64 rk,.string ⟨rch.toArray⟩,.bool rng,.slice ra rrs.length rcp,.int .i64 rlo,.int .i64 rhi,.bool rlz,.slice rka rks.length rkc,.slice fa fs.length fcp,.bool fd,.bool al] _ (jK (ds:=[]) HL1.out) j0 rfl gG ?_)
   | (go_at_call 30;refine HFO.out.mono ?_))
  rintro e w2 ⟨hb2,hfo⟩;have hl2:=(hb2.block _ (jA HL1.out)).trans HL1.out;have HB2:=ab (bel2 HB1.out hb2);have HL2:=ab hl2;have HSF2:=ab (HSF.out.keep HB2.out);clear hb2 hl2 HFO HSF;rcases hfo with⟨h1,_⟩|⟨_,h2,u,rfl⟩|⟨_,h2,v,rfl,h3⟩
  ·exact absurd (HMX.out.symm.trans h1) fU
  ·have HR2:Hid (R=([],0,9)):=ab (by rw [HRE.out];exact Dr h2)
   clear h2 HRE;go_wp2
   go_ret3
   exact⟨by rw [HR2.out];rfl,HB2.out⟩
  ·replace h2:(mq X fd al s z).2.out=false:=h2
   obtain⟨ms,hms⟩:∃ms,(mq X fd al s z).1=ms:=⟨_,rfl⟩;obtain⟨left,hleft⟩:∃left,(mq X fd al s z).2.fuel=left:=⟨_,rfl⟩;have hask:=BG (rq X fd al s z);have hfl:((mq (Tf.rx ⟨X,fs,fd,al⟩) (Tf.fold ⟨X,fs,fd,al⟩) (Tf.all ⟨X,fs,fd,al⟩) s z).2.fuel:Int)=(left:Int):=by rw [←hleft]
   replace h3:OwnM w2 w1.heap.size (rcM fd s).offs X.groups v ms:=by rw [←hms];exact h3
   have hRE:=HRE.out;have hps:=HPS.out;rw [Du (by rw [h2];decide),hms,hleft] at hRE;replace hps:∀m∈ms,∀p∈pY s (rcM fd s).offs m,p.length≤mf:=by rw [←hms];exact hps
   have hml:ms.length≤1000001:=by
    by_cases h:ms=[]
    ·rw [h];simp
    ·have h1:=(hms▸rq X fd al s z:Chain (rcM fd s) 0 ms).len h
     have h2:(rcM fd s).cs.length≤s.length:=vR s;omega
   rw [hms] at hask;rw [hfl];obtain⟨offs,hoffs⟩:∃offs,(rcM fd s).offs=offs:=⟨_,rfl⟩;obtain⟨n,hn⟩:∃n,X.groups=n:=⟨_,rfl⟩;rw [hoffs] at hask hRE hps h3;rw [hn] at h3 hgr;obtain⟨va,vc,rfl,hvc⟩:=h3.form;clear HPS HRE hleft hms h2 hfl hoffs HMX;cases hms0:ms with
   | nil =>
    subst hms0;have HR2:Hid (R=(s,(left:Int),0)):=ab (by rw [hRE];rfl);clear hRE hps hask h3 hvc;go_wp2
    go_ret3
    exact⟨by rw [HR2.out];rfl,HB2.out⟩
   | cons m0 mr =>
    have hmp:0<ms.length:=by rw [hms0];simp
    have hRG:R=endG s left (goM s offs fs ms 0 []):=by rw [hRE];exact CR (by rw [hms0];simp)
    obtain⟨b0,c0,_,_,hv0,hb0,_⟩:=h3.rd (k:=0) (m:=m0) (by rw [hms0];rfl);injection hv0 with hv0 _ _
    subst hv0;rw [←hms0] at *;clear hms0;have hgz:((ms.length:Int)==0)=false:=by rw [DV];omega
    obtain⟨G,hG⟩:∃G,goM s offs fs ms 0 []=G:=⟨_,rfl⟩;rw [hG] at hRG;have HRG:=ab hRG;have HG:=ab hG;have HASK:=ab hask;have HPS:=ab hps;have HOM:=ab h3;have HVC:=ab hvc;clear hRE hask hps h3 hRG hG hvc;have HI8:=ab (info_parts qC);have HIS:=ab (info_parts wl);go_wp2
    go_loopw [12,13,42] (fun v12 v13 q wr=>AlyRel s offs fs ms w2 G v12 v13 q wr) (fun _ _ q _=>ms.length-(intOf q).toNat)
    case atStart=>exact⟨0,0,[],Nat.zero_le _,rfl,rfl,World.ownsRow_nil _ _ _ _,Below.refl _ _,Nat.zero_le _,by simp,ab (fun _ _=>Nat.zero_le _),ab (by rw [DO];exact HG.out)⟩
    case round =>
     obtain⟨wo,rfl⟩:∃wo:World,wo=wr:=⟨_,rfl⟩;obtain⟨k,at_,out,hk,rfl,rfl,hown,hb,hat,hol,HAT,HGK⟩:=hrel;obtain⟨oa,oc,rfl⟩:=jX hown;have HOWN:=ab hown;have HB:=ab hb;have hz2:=HB2.out.size;clear HG hown hb;by_cases hlt:k<ms.length
     ·obtain⟨m,hm⟩:∃m,ms[k]?=some m:=⟨_,Dt hlt⟩
      obtain⟨b9,c9,aa,cp,hv9,hb9,c0,c1,c2,hsl,hmn⟩:=(HOM.out.later HB.out).rd hm;injection hv9 with hv9 _ _
      injection hv9 with hv9
      injection hv9 with hv9 _ _
      subst hv9;obtain⟨hu1,hu2,hu3,hu4⟩:=HASK.out k m hm;have hu5:=HAT.out m hm;have hgo:goM s offs fs (ms.drop k) at_ out=if 65536<(putM (pY s offs m) fs (out++l6 s at_ (offs.getD m.1 0))).length then none else goM s offs fs (ms.drop (k+1)) (offs.getD m.2.1 0) (putM (pY s offs m) fs (out++l6 s at_ (offs.getD m.1 0))):=by
       have e:ms.drop k=m::ms.drop (k+1):=by
        rw [List.drop_eq_getElem_cons hlt];rw [Dt hlt] at hm;injection hm with hm;rw [hm]
       rw [e,goM]
      rw [hgo] at HGK;have hpl:=HPS.out m (DL hm);have hpm:pY s offs m=l6 s (offs.getD m.1 0) (offs.getD m.2.1 0)::m.2.2.map (oZ s):=rfl;obtain⟨m1,m2,sp⟩:=m;simp only at c0 c1 hsl hmn hu1 hu2 hu3 hu4 hu5 HGK hpl hpm
      generalize hou:offs.getD m1 0=u at c0 hu1 hu5 HGK hpm
      generalize hov:offs.getD m2 0=u2 at c1 hu1 hu2 hu4 HGK hpm
      rw [hpm] at HGK hpl;obtain⟨p0,hp0⟩:∃p,l6 s u u2=p:=⟨_,rfl⟩;rw [hp0] at HGK hpl;have hp0t:oZ s ((u:Int),(u2:Int))=p0:=by rw [←hp0];unfold oZ;rw [Du fR];rfl
      obtain⟨W2,hW2⟩:∃W2,W2=wo.alloc (.cells #[.int .i64 (u:Int),.int .i64 (u2:Int),.slice aa n cp] 70):=⟨_,rfl⟩;have hb3:Below wo.heap.size wo W2:=by rw [hW2];exact(Below.refl _ _).alloc (Dv _) _
      have hl3:W2.heap[wo.heap.size]?=some (.cells #[.int .i64 (u:Int),.int .i64 (u2:Int),.slice aa n cp] 70 (0,0)):=by rw [hW2];exact heap_alloc_new wo _
      have HT1:=ab (yF s (u:Int) (u2:Int) W2 (.inr ⟨u,u2,hu1,hu2,rfl,rfl⟩));rw [hp0t] at HT1;have d0:=jC hl3 0 rfl;have d1:=jC hl3 1 rfl;have HU3:=ab hu3;have HU4:=ab hu4;have HPL:=ab hpl;have HSL:=ab hsl;have HMN:=ab hmn;have HW2:=ab hW2;have HB3:=ab hb3;have HL3:=ab hl3;clear hm hou hov hpm hp0 hp0t hgo hu3 hu4 hpl hsl hmn hW2 hb3 hl3 HAT;go_upto_region 13 with fail
      rw [←HW2.out];clear HW2 c0 c1 c2;go_wp2_with (go_at_call 31;refine HT1.out.mono ?_)
      first|rintro e w3 rfl hb4|rintro e w3 ⟨rfl,hb4⟩
      obtain⟨W4,hW4⟩:∃W4,W4=w3.alloc (.cells #[.string ⟨p0.toArray⟩] 9):=⟨_,rfl⟩;have hb5:Below w3.heap.size w3 W4:=by rw [hW4];exact(Below.refl _ _).alloc (Dv _) _
      have hbr3:Below wo.heap.size wo w3:=bel2 HB3.out hb4;have hl4:=((bel2 hb4 hb5).block _ (jA HL3.out)).trans HL3.out;have ho4:W4.ownsRow w3.heap.size 9 1 (.slice (some ⟨w3.heap.size,0,none⟩) 1 1) 1 (kS [p0]):=by
       rw [hW4];exact World.ownsRow_lit w3 #[.string ⟨p0.toArray⟩] 1 (Dv _) fU rfl
      have x2:=jC hl4 2 rfl;have HO4:=ab ho4;have HL4:=ab hl4;have HW4:=ab hW4;have HBR3:=ab hbr3;have HB5:=ab hb5;have HB4:=ab hb4;clear hW4 hb4 hb5 hbr3 hl4 ho4 d0 d1 HT1;go_upto_region 14 with fail
      rw [←HW4.out];clear HW4;go_wp2
      go_loopw [16,54] (fun v q wq=>PtRel s p0 sp w3 v q wq) (fun _ q _=>n-(intOf q).toNat)
      case atStart=>exact⟨0,Nat.zero_le _,rfl,HO4.out,HB5.out⟩
      case round =>
       obtain⟨j,hj,rfl,hpo,hpb⟩:=hrel;obtain⟨pa,pc,rfl⟩:=jX hpo;rw [HMN.out] at hj;have HPO:=ab hpo;have HPB:=ab hpb;have hzq:=hpb.size;clear hpo hpb HO4 HB5;by_cases hjl:j<n
       ·obtain⟨vv,hvv⟩:∃vv,sp[j]?=some vv:=⟨_,Dt (by rw [HMN.out];exact hjl)⟩
        have hslq:=(((HSL.out.keep HBR3.out).mono HBR3.out.size).keep HPB.out);obtain⟨b5,o5,rfl,hb5,k0,k1⟩:=SlP.at_ hslq hvv;have htk:=HU3.out vv (DL hvv);have htl:=HPL.out (oZ s vv) (DI _ (List.mem_map_of_mem (DL hvv)));have hsn:(sp.take (j+1)).map (oZ s)=(sp.take j).map (oZ s)++[oZ s vv]:=by
         rw [List.take_add_one,hvv];simp
        obtain⟨v1,v2⟩:=vv;simp only at k0 k1 htk
        obtain⟨pv,hpv⟩:∃pv,oZ s (v1,v2)=pv:=⟨_,rfl⟩;rw [hpv] at hsn htl;obtain⟨W5,hW5⟩:∃W5,W5=wr.alloc (.cells #[.int .i64 v1,.int .i64 v2] 67):=⟨_,rfl⟩;have hb6:Below wr.heap.size wr W5:=by rw [hW5];exact(Below.refl _ _).alloc (Dv _) _
        have hl6:W5.heap[wr.heap.size]?=some (.cells #[.int .i64 v1,.int .i64 v2] 67 (0,0)):=by rw [hW5];exact heap_alloc_new wr _
        have HT2:=ab (yF s v1 v2 W5 htk);rw [hpv] at HT2;have e0:=jC hl6 0 rfl;have e1:=jC hl6 1 rfl;have HSN:=ab hsn;have HTL:=ab htl;have HB6:=ab hb6;have HW5:=ab hW5;clear hvv hslq htk htl hsn hpv hW5 hb6 hl6;go_upto_region 17 with fail
        rw [←HW5.out];clear HW5 k0 k1;go_wp2_with (go_at_call 31;refine HT2.out.mono ?_)
        first|rintro e w6 rfl hb7|rintro e w6 ⟨rfl,hb7⟩
        have hbq6:=bel2 HB6.out hb7;have ho6:=jP HPO.out hbq6;have hb8:Below w6.heap.size w6 (w6.alloc (.cells #[.string ⟨pv.toArray⟩] 9)):=(Below.refl _ _).alloc (Dv _) _;have HO6:=ab (jP ho6 hb8);have HSL6:=ab (Sl.lit (n:=1) (sz:=1) (heap_alloc_new w6 (.cells #[.string ⟨pv.toArray⟩] 9)) rfl);have hz6:w3.heap.size≤(w6.alloc (.cells #[.string ⟨pv.toArray⟩] 9)).heap.size:=by have:=hbq6.size;rw [D0];omega
        have HBA:=ab ((HPB.out.trans (hbq6.mono hzq)).trans (hb8.mono (Dz hzq hbq6.size)));clear ho6 hb8 hbq6 hb7 HT2 e0 e1;obtain⟨iis,hiis⟩:=HIS.out;go_wp2_with (at_builtin;refine kf w3.heap.size 9 rfl _ _ 72 rfl Tryz.underlying72 hiis rfl fU rfl HO6.out rfl HSL6.out gd fR fR fU hz6 ?_)
        intro v7 w7 ho7 hg7 hb7 hmv;have HB7:=ab (HBA.out.trans hb7);have ho8:w7.ownsRow w3.heap.size 9 1 v7 (j+1+1) (kS (p0::(sp.take (j+1)).map (oZ s))):=by
         rw [HSN.out,←D5,sM];rw [←List.map_take] at ho7;exact ho7
        have HO8:=ab ho8;clear ho7 ho8 hg7 hb7 hmv;go_wp2
        go_roundw
        case rel=>exact⟨j+1,by rw [HMN.out];omega,by go_num,HO8.out,HB7.out⟩
        case measure=>simp [intOf];omega
       ·have hjn:j=n:=fR
        subst hjn;obtain⟨PS,hPS⟩:∃PS,p0::sp.map (oZ s)=PS:=⟨_,rfl⟩;have hpsl:PS.length=j+1:=by rw [←hPS,Dx,DS,HMN.out]
        have hpo:=HPO.out;rw [List.take_of_length_le (by rw [HMN.out];exact Dv _),hPS,←hpsl] at hpo;have hgk:=HGK.out;have hplm:=HPL.out;rw [hPS] at hgk hplm;have hown2:=lY (lY HOWN.out HBR3.out) HPB.out;have hl7:=(HPB.out.block _ (jA (((HB4.out).block _ (jA HL3.out)).trans HL3.out))).trans (((HB4.out).block _ (jA HL3.out)).trans HL3.out);have hb7:Below w2.heap.size w2 wr:=(HB.out.trans (HBR3.out.mono HB.out.size)).trans (HPB.out.mono (Dz HB.out.size HBR3.out.size));have f0:=jC hl7 0 rfl;have hzz:w2.heap.size≤wr.heap.size:=hb7.size;have HPO2:=ab hpo;have HGK2:=ab hgk;have HPL2:=ab hplm;have HPSL:=ab hpsl;have HOW2:=ab hown2;have HL7:=ab hl7;have HB7:=ab hb7;have hsll:(l6 s at_ u).length=u-at_:=by unfold l6;rw [DT,D3];omega
        have HSLL:=ab hsll;have hsl2:((s.drop at_).take (u-at_)).length≤1000000:=by rw [DT,D3];omega
        clear hpo hgk hplm hpsl hown2 hl7 hb7 hsll hjl HPO HOWN HGK HPL;obtain⟨i8,hi8,hz0,hz1,hz9⟩:=HI8.out;go_upto_region 19 with fail
        go_wp2_with (at_builtin;refine Lib.wpList_append_own_string _ rfl _ _ 48 9 rfl w2.heap.size 5 i8 Tryz.underlying48 Tryz.underlying9 hi8 hz0 hz1 hz9 _ _ _ rfl HOW2.out _ rfl iA jc hzz ?_)
        intro v8 w8 ho8 hg8 _;have hout1:out.length+min (u-at_) (s.length-at_)=(out++l6 s at_ u).length:=by
         rw [DE,HSLL.out];omega
        have ho9:w8.ownsRow w2.heap.size 5 1 v8 (out++l6 s at_ u).length (kx (out++l6 s at_ u)):=by
         rw [←hout1];simpa [kx,Lib.strCells,l6] using ho8
        have hb8:Below w2.heap.size w2 w8:=HB7.out.grown hg8 hzz fun k hk=>(HOW2.out.lt k hk).1
        have hp8:=HPO2.out.kept hg8 (ui HPO2.out HOW2.out fU);have hl8:=(hg8.block wo.heap.size (jA HL7.out) (fun e=>lm HOW2.out HL7.out fU e.symm)).trans HL7.out;have y8:=jC ((hb8.block _ (jA HL2.out)).trans HL2.out) 8 rfl;rw [HPSL.out] at hp8;obtain⟨out1,hou1⟩:∃o,out++l6 s at_ u=o:=⟨_,rfl⟩;have ho1l:out1.length≤2000000:=by rw [←hou1,DE,HSLL.out];omega
        have hgk3:=HGK2.out;rw [hou1] at ho9 hgk3;obtain⟨PO,hPO⟩:∃o,putM PS fs out1=o:=⟨_,rfl⟩;rw [hPO] at hgk3;have HGK3:=ab hgk3;have HPOE:=ab hPO;have HO9:=ab ho9;have HB8:=ab hb8;have HP8:=ab hp8;have HL8:=ab hl8;clear ho8 hg8 hout1 ho9 hb8 hp8 hl8 hou1 hgk3 hPO HGK2 f0 hsl2 HSLL HOW2 HB7 HL7 HPO2 x2;go_wp2
        clear y8;go_loopw [12,76] (fun v q wq=>FoRel fs PS w2 w3.heap.size (.slice pa (j+1) pc) (j+1) wo.heap.size (.cells #[.int .i64 (u:Int),.int .i64 (u2:Int),.slice aa j cp] 70 (0,0)) PO v q wq) (fun _ q _=>fs.length-(intOf q).toNat)
        case atStart=>exact⟨0,out1,Nat.zero_le _,rfl,HO9.out,HP8.out,HL8.out,HB8.out,ho1l,ab (by rw [DO];exact HPOE.out)⟩
        case round =>
         obtain⟨i,o2,hi,rfl,ho,hp,hl,hb,hol2,HP⟩:=hrel;obtain⟨xa,xc,rfl⟩:=jX ho;clear HPOE HO9 HP8 HL8 HB8;have HBQ:=ab hb;have HO:=ab ho;have HPP:=ab hp;have HLL:=ab hl;have hzw:w2.heap.size≤wr.heap.size:=hb.size;clear ho hp hl hb;by_cases hil:i<fs.length
         ·obtain⟨g,hg⟩:∃g,fs[i]?=some g:=⟨_,Dt hil⟩
          have hst:putM PS (fs.drop i) o2=putM PS (fs.drop (i+1)) (if o2.length≤65536 then o2++qF [g] PS else o2):=by
           have e:fs.drop i=g::fs.drop (i+1):=by
            rw [List.drop_eq_getElem_cons hil];rw [Dt hil] at hg;injection hg with hg;rw [hg]
           rw [e,putM]
          rw [hst] at HP;obtain⟨b3,o3,rfl,hb3,k0,k1,k2,k3,k4⟩:=(HSF2.out.keep (HBQ.out.mono hz2)).fm hg;have hgl:=HF.out g (DL hg);have hal:=AQ (f:=g) HPL2.out hgl;obtain⟨gk,gn,gc,gt,ge⟩:=g;simp only at k0 k1 k2 k3 k4
          obtain⟨W9,hW9⟩:∃W9,W9=wr.alloc (.cells #[.int .i64 gk,.int .i64 gn,.int .i64 gc,.string ⟨gt.toArray⟩,.string ⟨ge.toArray⟩] 60):=⟨_,rfl⟩;have hb9:Below wr.heap.size wr W9:=by rw [hW9];exact(Below.refl _ _).alloc (Dv _) _
          have hl9:W9.heap[wr.heap.size]?=some (.cells #[.int .i64 gk,.int .i64 gn,.int .i64 gc,.string ⟨gt.toArray⟩,.string ⟨ge.toArray⟩] 60 (0,0)):=by rw [hW9];exact heap_alloc_new wr _
          have g0:=jC hl9 0 rfl;have g1:=jC hl9 1 rfl;have g2:=jC hl9 2 rfl;have g3:=jC hl9 3 rfl;have g4:=jC hl9 4 rfl;have hbA:Below W9.heap.size W9 (W9.alloc (.cells #[.int .i64 gk,.int .i64 gn,.int .i64 gc,.string ⟨gt.toArray⟩,.string ⟨ge.toArray⟩] 60)):=(Below.refl _ _).alloc (Dv _) _;have hbB:=bel2 hb9 hbA;have hslp:Sl (W9.alloc (.cells #[.int .i64 gk,.int .i64 gn,.int .i64 gc,.string ⟨gt.toArray⟩,.string ⟨ge.toArray⟩] 60)) (W9.alloc (.cells #[.int .i64 gk,.int .i64 gn,.int .i64 gc,.string ⟨gt.toArray⟩,.string ⟨ge.toArray⟩] 60)).heap.size pa 1 (j+1) (kS PS):=Sl.of_own (lY HPP.out hbB);have hsll:Sl (W9.alloc (.cells #[.int .i64 gk,.int .i64 gn,.int .i64 gc,.string ⟨gt.toArray⟩,.string ⟨ge.toArray⟩] 60)) (W9.alloc (.cells #[.int .i64 gk,.int .i64 gn,.int .i64 gc,.string ⟨gt.toArray⟩,.string ⟨ge.toArray⟩] 60)).heap.size (some ⟨W9.heap.size,0,none⟩) 5 1 (kT [⟨gk,gn,gc,gt,ge⟩]):=Sl.lit (n:=1) (sz:=5) (heap_alloc_new W9 (.cells #[.int .i64 gk,.int .i64 gn,.int .i64 gc,.string ⟨gt.toArray⟩,.string ⟨ge.toArray⟩] 60)) rfl;have HAP:=ab (CZ (some ⟨W9.heap.size,0,none⟩) pa 1 (j+1) pc mf [⟨gk,gn,gc,gt,ge⟩] PS _ hsll hslp (by simpa using hgl) HPL2.out hmf fX fR);have HW9:=ab hW9;have HB9:=ab hbB;have HAL:=ab hal;clear hst hg hgl hal hW9 hb9 hl9 hbA hbB hslp hsll;by_cases hle:o2.length≤65536
          ·rw [Dr hle] at HP
           go_upto_region 23 with fail
           rw [←HW9.out];clear HW9 k0 k1 k2 k3 k4;go_wp2_with (go_at_call 32;refine HAP.out.mono ?_)
           first|rintro e wA rfl hbA|rintro e wA ⟨rfl,hbA⟩
           obtain⟨AP,hAP⟩:∃A,qF [⟨gk,gn,gc,gt,ge⟩] PS=A:=⟨_,rfl⟩;have hal:=HAL.out;rw [hAP] at hal HP;rw [hAP];have hbC:=bel2 HB9.out hbA;have HOC:=ab (lY HO.out hbC);have HPC:=ab (lY HPP.out hbC);have HLC:=ab ((hbC.block _ (jA HLL.out)).trans HLL.out);have HBC:=ab (HBQ.out.trans (hbC.mono hzw));have hzC:w2.heap.size≤wA.heap.size:=Dz hzw hbC.size;clear hAP hbC hbA HAP HB9 HAL g0 g1 g2 g3 g4 HO HPP HLL HBQ;obtain⟨i8,hi8,hz0,hz1,hz2'⟩:=HI8.out;go_wp2_with (at_builtin;refine Lib.wpList_append_own_string _ rfl _ _ 48 9 rfl w2.heap.size 5 i8 Tryz.underlying48 Tryz.underlying9 hi8 hz0 hz1 hz2' _ _ _ rfl HOC.out _ rfl iA jc hzC ?_)
           intro vD wD hoD hgD _;have hoE:wD.ownsRow w2.heap.size 5 1 vD (o2++AP).length (kx (o2++AP)):=by
            rw [DE];simpa [kx,Lib.strCells] using hoD
           have HOE:=ab hoE;have HBD:=ab (HBC.out.grown hgD hzC fun k hk=>(HOC.out.lt k hk).1);have HPD:=ab (HPC.out.kept hgD (ui HPC.out HOC.out fU));have HLD:=ab ((hgD.block wo.heap.size (jA HLC.out) (fun e=>lm HOC.out HLC.out fU e.symm)).trans HLC.out);have hlE:(o2++AP).length≤2000000:=by rw [DE];omega
           have HLE:=ab hlE;clear hoD hgD hoE HOC HPC HLC HBC hlE;go_wp2
           go_roundw
           case rel=>exact⟨i+1,o2++AP,by omega,by go_num,HOE.out,HPD.out,HLD.out,HBD.out,HLE.out,HP⟩
           case measure=>simp [intOf];omega
          ·rw [Du hle] at HP
           have HBE:=ab (bel2 (Below.refl wr.heap.size wr) (Below.refl wr.heap.size wr));have hbX:Below wr.heap.size wr W9:=by rw [HW9.out];exact(Below.refl _ _).alloc (Dv _) _
           have HOC:=ab (lY HO.out hbX);have HPC:=ab (lY HPP.out hbX);have HLC:=ab ((hbX.block _ (jA HLL.out)).trans HLL.out);have HBC:=ab (HBQ.out.trans (hbX.mono hzw));clear hbX HBE HO HPP HLL HBQ HAP HAL HB9;go_upto_region 23 with fail
           rw [←HW9.out];clear HW9 k0 k1 k2 k3 k4 g0 g1 g2 g3 g4;go_wp2
           go_roundw
           case rel=>exact⟨i+1,o2,by omega,by go_num,HOC.out,HPC.out,HLC.out,HBC.out,hol2,HP⟩
           case measure=>simp [intOf];omega
         ·have hin:i=fs.length:=fR
          subst hin;have hpo2:o2=PO:=by rw [←HP.out,List.drop_length];rfl
          have hgk4:=HGK3.out;rw [←hpo2] at hgk4;have HGK4:=ab hgk4;have n1:=jC HLL.out 1 rfl;clear hpo2 hgk4 HGK3 HP hil;by_cases hbig:65536<o2.length
          ·have HRE2:Hid (R=([],0,4)):=ab (by
            have h:=HGK4.out;rw [Dr hbig] at h;rw [HRG.out,←h];rfl)
           clear HGK4;go_wp2
           go_ret3
           exact⟨by rw [HRE2.out];rfl,HB2.out.trans (HBQ.out.mono hz2)⟩
          ·have HGK5:Hid (goM s offs fs (ms.drop (k+1)) u2 o2=G):=ab (by
            have h:=HGK4.out;rw [Du hbig] at h;exact h)
           clear HGK4;go_wp2
           go_roundw
           case rel=>exact⟨k+1,u2,o2,by omega,by go_num,rfl,HO.out,HBQ.out,hu2,by omega,HU4,HGK5⟩
           case measure=>simp [intOf];omega
     ·have hkm:k=ms.length:=fR
      subst hkm;have hGe:G=some (at_,out):=by rw [←HGK.out,List.drop_length];rfl
      have hRE:=HRG.out;rw [hGe] at hRE;have hown:=HOWN.out;clear hGe HGK HAT hlt;by_cases hbig:65536<out.length+(s.length-at_)
      ·have HRE2:Hid (R=([],0,4)):=ab (by rw [hRE];exact Dr hbig)
       have hbi:(65536:Int)-out.length<(s.length:Int)-at_:=fR;clear hRE hown;go_wp2
       go_ret3
       exact⟨by rw [HRE2.out];rfl,HB2.out.trans (HB.out.mono hz2)⟩
      ·have HRE2:Hid (R=(out++s.drop at_,(left:Int),0)):=ab (by rw [hRE];exact Du hbig)
       have hbi:¬(65536:Int)-out.length<(s.length:Int)-at_:=fR;have hsl2:(s.drop at_).length≤1000000:=by rw [D3];omega
       obtain⟨i8,hi8,hz0,hz1,hz9⟩:=HI8.out;have hzo:w2.heap.size≤wo.heap.size:=HB.out.size;clear hRE hown;go_wp2_with (at_builtin;refine Lib.wpList_append_own_string _ rfl _ _ 48 9 rfl w2.heap.size 5 i8 Tryz.underlying48 Tryz.underlying9 hi8 hz0 hz1 hz9 _ _ _ rfl HOWN.out _ rfl iA jc hzo ?_)
       intro v8 w8 ho8 hg8 _;have ho9:w8.ownsRow w2.heap.size 5 1 v8 (out++s.drop at_).length (kx (out++s.drop at_)):=by
        rw [DE];simpa [kx,Lib.strCells] using ho8
       have hcv:=oH (P:=Tryz.prog) (src:=48) (dst:=9) Tryz.underlying48 Tryz.underlying5 Tryz.underlying9 ho9;have HBE:=ab (HB2.out.trans ((HB.out.grown hg8 hzo fun k hk=>(HOWN.out.lt k hk).1).mono hz2));clear ho8 ho9 hg8;go_wp2
       go_ret3
       exact⟨by rw [HRE2.out];rfl,HBE.out⟩
def awF1:Str:=[47,97,47,36,123,48,58,47,117,112,99,97,115,101,125,47,125]
def awF2:Str:=[47,98,47,120,47,103,125]
def awT1:Tf:=⟨.mk 2 [97] false [] 0 0 false [],[⟨2,0,1,[],[]⟩],false,false⟩
def awT2:Tf:=⟨.mk 2 [98] false [] 0 0 false [],[⟨0,0,0,[120],[]⟩],false,true⟩
theorem CM:pS awF1=some (awT1,[]):=by kernel_rfl
theorem Bf:pS awF2=some (awT2,[]):=by kernel_rfl
theorem vM {s:Str} {c:UInt8} {f:Fm} {al:Bool} {n:Int} (hn:((s.length-1:Nat):Int)=n) (hs:s.length≤600000) (h:pS s=some (⟨.mk 2 [c] false [] 0 0 false [],[f],false,al⟩,[])) (w:World) :
  Calls Tryz.prog 12 #[.string ⟨s.toArray⟩,.int .i64 0] w fun e w'=>∃(ra:Option Addr) (rcp:Nat) (rka:Option Addr) (rkc:Nat) (fa:Option Addr) (fcp:Nat),
   e=.returned (.tuple #[.agg #[.int .i64 2,.string ⟨([c]).toArray⟩,.bool false,.slice ra 0 rcp,.int .i64 0,.int .i64 0,.bool false,.slice rka 0 rkc,.slice fa 1 fcp,.bool false,.bool al],.int .i64 n,.bool true]) ∧
   TfV w' (fun b=>w.heap.size≤b) [.int .i64 2,.string ⟨([c]).toArray⟩,.bool false,.slice ra 0 rcp,.int .i64 0,.int .i64 0,.bool false,.slice rka 0 rkc,.slice fa 1 fcp,.bool false,.bool al] ⟨.mk 2 [c] false [] 0 0 false [],[f],false,al⟩∧Below w.heap.size w w':=by
 refine(wz s 0 w (Nat.zero_le _) hs).mono fun e w'=>?_
 rintro⟨hb,hp⟩;rw [DO,h] at hp;obtain⟨fc,j,he,hv,h1,h2,h3⟩:=hp;have hj:j=s.length-1:=by
  have:=DQ List.length h3
  rw [D3,DP] at this;omega
 subst hj;rw [hn] at he;obtain⟨rk,rch,rng,rrs,rlo,rhi,rlz,rks,ra,rcp,rka,rkc,fa,fcp,hc⟩:=hv.open_;have hx:=hc.rx;injection hx with q1 q2 q3 q4 q5 q6 q7 q8
 subst q1 q2 q3 q4 q5 q6 q7 q8;have hfc:=hc.eq;subst hfc;exact⟨ra,rcp,rka,rkc,fa,fcp,he,hv,hb⟩
theorem Ag:awT1.small:=⟨⟨⟨by decide,by decide,by simp,by decide⟩,trivial⟩,by decide,by decide⟩
theorem AA:awT2.small:=⟨⟨⟨by decide,by decide,by simp,by decide⟩,trivial⟩,by decide,by decide⟩
theorem qi (w:World):Calls Tryz.prog 6 #[] w fun e w'=>e=.returned (.bool true)∧Below w.heap.size w w':=by
 have H1:=ab (fun w=>vM (s:=awF1) (n:=16) fU fU CM w);have H2:=ab (fun w=>vM (s:=awF2) (n:=6) fU fU Bf w);have H3:Hid (∀(S:Nat→Prop) (fc:List Value) (w:World),TfV w S fc awT1→Calls Tryz.prog 16 #[.agg fc.toArray,.string ⟨([98,97,98]).toArray⟩,.int .i64 100] w fun e w'=>e=.returned (.tuple #[.string ⟨([98,65,98]).toArray⟩,.int .i64 98,.int .i64 0])∧Below w.heap.size w w'):=ab fun S fc w hv =>
  tw S awT1 fc w hv aw19a Ag fU (mf:=10) fU (by simp [awT1]) fU (fun m _ p hp=>Dz (C0 _ _ m p hp) fU)
 have H4:Hid (∀(S:Nat→Prop) (fc:List Value) (w:World),TfV w S fc awT2→Calls Tryz.prog 16 #[.agg fc.toArray,.string ⟨([97,98,98]).toArray⟩,.int .i64 100] w fun e w'=>e=.returned (.tuple #[.string ⟨([97,120,120]).toArray⟩,.int .i64 96,.int .i64 0])∧Below w.heap.size w w'):=ab fun S fc w hv =>
  tw S awT2 fc w hv aw19b AA fU (mf:=10) fU (by simp [awT2]) fU (fun m _ p hp=>Dz (C0 _ _ m p hp) fU)
 unfold awF1 at H1;unfold awF2 at H2;go_enter Tryz.func6,Tryz.ntmps6
 go_wp2_with (go_at_call 12;refine(H1.out _).mono ?_)
 rintro e w1 ⟨ra,rcp,rka,rkc,fa,fcp,rfl,hv1,hb1⟩;obtain⟨W1,hW1⟩:∃W1,W1=w1.alloc (.cells #[.int .i64 2,.string ⟨([97]).toArray⟩,.bool false,.slice ra 0 rcp,.int .i64 0,.int .i64 0,.bool false,.slice rka 0 rkc,.slice fa 1 fcp,.bool false,.bool false] 28):=⟨_,rfl⟩;have hbW1:Below w1.heap.size w1 W1:=by rw [hW1];exact(Below.refl _ _).alloc (Dv _) _
 have hl1:W1.heap[w1.heap.size]?=some (.cells #[.int .i64 2,.string ⟨([97]).toArray⟩,.bool false,.slice ra 0 rcp,.int .i64 0,.int .i64 0,.bool false,.slice rka 0 rkc,.slice fa 1 fcp,.bool false,.bool false] 28 (0,0)):=by rw [hW1];exact heap_alloc_new w1 _
 have HA1:=ab (H3.out _ _ W1 (hv1.later hbW1));have HW1:=ab hW1;have HL1:=ab hl1;have HB1:=ab (bel2 hb1 hbW1);clear hv1 hb1 hW1 hbW1 hl1 H1 H3;go_upto_region 2 with fail
 rw [←HW1.out];clear HW1;go_wp2_with (first
  | (refine jI rfl 28 (.tmp 1) rfl w1.heap.size 0 rfl [.int .i64 2,.string ⟨([97]).toArray⟩,.bool false,.slice ra 0 rcp,.int .i64 0,.int .i64 0,.bool false,.slice rka 0 rkc,.slice fa 1 fcp,.bool false,.bool false] _ (jK (ds:=[]) HL1.out) j0 rfl gG ?_)
  | (go_at_call 16;refine HA1.out.mono ?_))
 first|rintro e w2 rfl hb2|rintro e w2 ⟨rfl,hb2⟩
 have HB2:=ab (bel2 HB1.out hb2);clear hb2 HA1 HL1;go_wp2_with (go_at_call 12;refine(H2.out _).mono ?_)
 rintro e w3 ⟨ra2,rcp2,rka2,rkc2,fa2,fcp2,rfl,hv3,hb3⟩;obtain⟨W3,hW3⟩:∃W3,W3=w3.alloc (.cells #[.int .i64 2,.string ⟨([98]).toArray⟩,.bool false,.slice ra2 0 rcp2,.int .i64 0,.int .i64 0,.bool false,.slice rka2 0 rkc2,.slice fa2 1 fcp2,.bool false,.bool true] 28):=⟨_,rfl⟩;have hbW3:Below w3.heap.size w3 W3:=by rw [hW3];exact(Below.refl _ _).alloc (Dv _) _
 have hl3:W3.heap[w3.heap.size]?=some (.cells #[.int .i64 2,.string ⟨([98]).toArray⟩,.bool false,.slice ra2 0 rcp2,.int .i64 0,.int .i64 0,.bool false,.slice rka2 0 rkc2,.slice fa2 1 fcp2,.bool false,.bool true] 28 (0,0)):=by rw [hW3];exact heap_alloc_new w3 _
 have HA3:=ab (H4.out _ _ W3 (hv3.later hbW3));have HW3:=ab hW3;have HL3:=ab hl3;have HB3:=ab (bel2 (bel2 HB2.out hb3) hbW3);clear hv3 hb3 hW3 hbW3 hl3 H2 H4;go_upto_region 4 with fail
 rw [←HW3.out];clear HW3;go_wp2_with (first
  | (refine jI rfl 28 (.tmp 7) rfl w3.heap.size 0 rfl [.int .i64 2,.string ⟨([98]).toArray⟩,.bool false,.slice ra2 0 rcp2,.int .i64 0,.int .i64 0,.bool false,.slice rka2 0 rkc2,.slice fa2 1 fcp2,.bool false,.bool true] _ (jK (ds:=[]) HL3.out) j0 rfl gG ?_)
  | (go_at_call 16;refine HA3.out.mono ?_))
 first|rintro e w4 rfl hb4|rintro e w4 ⟨rfl,hb4⟩
 have HB4:=ab (bel2 HB3.out hb4);clear hb4 HA3 HL3;go_wp2
 go_ret
 exact⟨rfl,HB4.out⟩
open Go.ChangeShapes Go.WideShapes Go.RowKit
theorem ze {W : World} (h : laidMetH Tryz.prog [("math/bits.deBruijn32tab", Rows.laid_math_bits_deBruijn32tab), ("math/bits.deBruijn64tab", Rows.laid_math_bits_deBruijn64tab), ("internal/strconv.uint64pow10", Rows.laid_internal_strconv_uint64pow10)] W) : Tab W := by
 rw [MakeChecks.laidMetH_plain _ _ _ fW] at h;obtain⟨ps,⟨g0,t0,cs0,f0,p0,q0,hg0,ht0,hv0,hd0,⟨g1,t1,cs1,f1,p1,q1,hg1,ht1,hv1,hd1,⟨g2,t2,cs2,f2,p2,q2,hg2,ht2,hv2,hd2,_,_⟩,_⟩,_⟩,_⟩:=h;have hg : Tryz.prog.globalNamed "internal/strconv.uint64pow10" = some 1 := by kernel_rfl
 have ht:(Tryz.prog.globals[1]?).map (·.type)=some 165:=fW;obtain rfl:=Option.some.inj (hg.symm.trans hg2);obtain rfl:=Option.some.inj (ht.symm.trans ht2);have hc:=Lib.cells_of_tab (zs:=Lib.pow10Tab) (k:=.u64) Tryz.underlying165 Tryz.underlying146 fW fW hd2;unfold Tab Lib.TabIs;rw [hv2,←hc]
end Go.Proofs.YtjggmmaojklmpaaGreatDoor
