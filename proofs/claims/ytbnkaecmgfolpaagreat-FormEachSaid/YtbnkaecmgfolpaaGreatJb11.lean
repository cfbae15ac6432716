/- What was found, in a row that a call owns. -/
import Derived.Test.YtbnkaecmgfolpaaGreatJb10
import Derived.Lib.Bytealg
set_option maxRecDepth 100000
set_option maxHeartbeats 4000000
namespace Go.Proofs.YtbnkaecmgfolpaaGreat
open Go.RowKit
theorem uq:(Tryz.prog.info? 72).map (fun i=>(i.zero,i.size,i.bytes))=some (some (.agg #[.int .i64 0,.int .i64 0,.slice none 0 0]),3,40):=by kernel_rfl
def MtV (w:World) (S:Nat→Prop) (offs:List Nat) (n:Nat) (c:List Value) (m:Mt):Prop :=
 ∃aa cp,c=[.int .i64 ((offs.getD m.1 0:Nat):Int),.int .i64 ((offs.getD m.2.1 0:Nat):Int),.slice aa n cp]∧SlS w S aa 2 n (gV m.2.2)∧m.2.2.length=n∧m.1≤m.2.1∧m.2.1+1≤offs.length
inductive MtVs (w:World) (S:Nat→Prop) (offs:List Nat) (n:Nat):List (List Value)→List Mt→Prop
 | nil:MtVs w S offs n [] []
 | cons {c:List Value} {m:Mt} {cs:List (List Value)} {ms:List Mt}:MtV w S offs n c m→MtVs w S offs n cs ms→MtVs w S offs n (c::cs) (m::ms)
theorem MtV.keep {w w':World} {S:Nat→Prop} {offs:List Nat} {n:Nat} {c:List Value} {m:Mt} (h:MtV w S offs n c m) (hk:Kept S w w'):MtV w' S offs n c m:=by
 obtain⟨aa,cp,h1,h2,h3⟩:=h;exact⟨aa,cp,h1,SlS.keep h2 hk,h3⟩
theorem MtV.mono {w:World} {S S':Nat→Prop} {offs:List Nat} {n:Nat} {c:List Value} {m:Mt} (h:MtV w S offs n c m) (hS:∀b,S b→b<w.heap.size→S' b):MtV w S' offs n c m:=by
 obtain⟨aa,cp,h1,h2,h3⟩:=h;exact⟨aa,cp,h1,SlS.mono h2 hS,h3⟩
theorem MtVs.keep {w w':World} {S:Nat→Prop} {offs:List Nat} {n:Nat} (hk:Kept S w w'):∀{cs:List (List Value)} {ms:List Mt},MtVs w S offs n cs ms→MtVs w' S offs n cs ms
 | _,_,.nil=>.nil
 | _,_,.cons h1 h2=>.cons (h1.keep hk) (h2.keep hk)
theorem MtVs.mono {w:World} {S S':Nat→Prop} {offs:List Nat} {n:Nat} (hS:∀b,S b→b<w.heap.size→S' b):∀{cs:List (List Value)} {ms:List Mt},MtVs w S offs n cs ms→MtVs w S' offs n cs ms
 | _,_,.nil=>.nil
 | _,_,.cons h1 h2=>.cons (h1.mono hS) (h2.mono hS)
theorem MtVs.snoc {w:World} {S:Nat→Prop} {offs:List Nat} {n:Nat} {c:List Value} {m:Mt}:∀{cs:List (List Value)} {ms:List Mt},MtVs w S offs n cs ms→MtV w S offs n c m→MtVs w S offs n (cs++[c]) (ms++[m])
 | _,_,.nil,h=>.cons h .nil
 | _,_,.cons h1 h2,h=>.cons h1 (h2.snoc h)
theorem MtVs.at_ {w:World} {S:Nat→Prop} {offs:List Nat} {n:Nat}:∀{cs:List (List Value)} {ms:List Mt},MtVs w S offs n cs ms→∀{k:Nat} {m:Mt},ms[k]?=some m→∃c,cs[k]?=some c∧MtV w S offs n c m
 | _,_,.nil,_,_,h=>by simp at h
 | _,_,.cons h1 _,0,_,h=>by simp at h;exact⟨_,rfl,h▸h1⟩
 | _,_,.cons _ h2,k+1,m,h=>h2.at_ (k:=k) eV
def OwnM (w:World) (D:Nat) (offs:List Nat) (n:Nat) (v:Value) (ms:List Mt):Prop :=
 ∃css,w.ownsRow D 72 3 v ms.length css.flatten∧MtVs w (fun b=>D≤b∧v.ownBlock≠some b) offs n css ms
theorem OwnM.nil (w:World) (D:Nat) (offs:List Nat) (n:Nat):OwnM w D offs n (.slice none 0 0) []:=⟨[],World.ownsRow_nil _ _ _ _,.nil⟩
theorem OwnM.gx {X:Nat→Prop} {w w':World} {D:Nat} {offs:List Nat} {n:Nat} {v:Value} {ms:List Mt} (h:OwnM w D offs n v ms) (hg:Gx X w w') (hX:∀k,D≤k→¬X k):OwnM w' D offs n v ms:=by
 obtain⟨css,h1,h2⟩:=h;exact⟨css,mE h1 hg (fun k hk=>hX k (h1.lt k hk).1),h2.keep (hg.kept fun b hb=>hX b hb.1)⟩
theorem OwnM.later {w w':World} {D:Nat} {offs:List Nat} {n:Nat} {v:Value} {ms:List Mt} (h:OwnM w D offs n v ms) (hb:Below w.heap.size w w'):OwnM w' D offs n v ms :=
 h.gx (X:=fun _=>False) (Gx.of_below hb) (fun _ _ h=>h)
theorem OwnM.form {w:World} {D:Nat} {offs:List Nat} {n:Nat} {v:Value} {ms:List Mt} (h:OwnM w D offs n v ms):∃a c,v=.slice a ms.length c∧ms.length≤c:=by
 exact cA
theorem OwnM.base {w:World} {D D':Nat} {offs:List Nat} {n:Nat} {v:Value} {ms:List Mt} (h:OwnM w D offs n v ms) (hD:D'≤D):OwnM w D' offs n v ms:=by
 obtain⟨css,h1,h2⟩:=h;refine⟨css,⟨h1.1,?_⟩,h2.mono fun b hb _=>⟨xb hD hb.1,hb.2⟩⟩;rcases h1.2 with h3|⟨g,cap,cur,h3,h4,h5⟩
 ·exact .inl h3
 ·exact .inr ⟨g,cap,cur,h3,xb hD h4,h5⟩
theorem OwnM.app {w w':World} {D:Nat} {offs:List Nat} {n:Nat} {v v':Value} {ms:List Mt} {m:Mt} {css:List (List Value)} {c:List Value} (h1:MtVs w (fun b=>D≤b∧v.ownBlock≠some b) offs n css ms) (h2:MtV w (fun b=>D≤b∧v.ownBlock≠some b) offs n c m)
  (ho:w'.ownsRow D 72 3 v' (ms.length+1) (css.flatten++c)) (hg:w.grownBy w' v.ownBlock) (hmv:pX w v v'):OwnM w' D offs n v' (ms++[m]):=by
 refine⟨css++[c],by rw [List.flatten_append,xm];simpa using ho,?_⟩;have hk:Kept (fun b=>(D≤b∧v.ownBlock≠some b)∧b<w.heap.size) w w':=⟨hg.size,fun b hb hlt=>hg.block b hlt (fun e=>hb.1.2 e.symm)⟩;refine(((h1.snoc h2).mono (S':=fun b=>(D≤b∧v.ownBlock≠some b)∧b<w.heap.size) fun b h1 h2=>⟨h1,h2⟩).keep hk).mono fun b hb _=>⟨hb.1.1,fun e=>?_⟩
 exact cM
open Go.RowKit
def allQ (x:Rx) (fold:Bool) (s:Str) (z:Int):List Mt × Rst:=allM (rcM fold s) x ((rcM fold s).offs.length+1) 0 (j9 x.groups z)
def AllP (x:Rx) (fold:Bool) (s:Str) (z:Int) (w:World) (e:Ending) (w':World):Prop :=
 Below w.heap.size w w' ∧
  ((mayB x=false∧e=.returned (.tuple #[.slice none 0 0,.int .i64 0,.int .i64 10]))
  ∨ (mayB x=true∧(allQ x fold s z).2.out=true∧e=.returned (.tuple #[.slice none 0 0,.int .i64 0,.int .i64 9]))
  ∨ (mayB x=true∧(allQ x fold s z).2.out=false∧∃v,e=.returned (.tuple #[v,.int .i64 ((allQ x fold s z).2.fuel:Int),.int .i64 0])∧OwnM w' w.heap.size (rcM fold s).offs x.groups v (allQ x fold s z).1))
def AlRel (R:Rn) (x:Rx) (Q:List Mt × Rst) (w:World) (v q:Value) (wr:World):Prop :=
 ∃(k N:Nat) (s:Rst) (acc:List Mt),k≤R.C.cs.length+1∧R.C.cs.length+1-k<N∧acc.length≤k∧q=.int .i64 k∧s.out=false∧RunJ R wr s∧Gx R.Y w wr∧OwnM wr w.heap.size R.C.offs R.n v acc∧Hid ((acc++(allM R.C x N k s).1,(allM R.C x N k s).2)=Q)
theorem All_any (S:Nat→Prop) {x:Rx} {cc:List Value} {fold:Bool} {s:Str} {z:Int} (w:World) (hv:RxV w S cc x) (hm:x.parts≤1000000) (hsm:x.small) (hwf:x.wf=true) (hs:s.length≤1000000) (hg:x.groups≤1000) :
  Calls Tryz.prog 55 #[.agg cc.toArray,.bool fold,.string ⟨s.toArray⟩,.int .i64 z] w (AllP x fold s z w):=by
 have hv0:=hv;obtain⟨X,hX⟩:∃X,X=x:=⟨_,rfl⟩;obtain⟨kd,ch,ng,rs,lo,hi,lz,ks⟩:=x;obtain⟨ra,rc,ka,kc,rfl,hrs,hks⟩:=hv0.open_;rw [←hX];obtain⟨W1,hW1⟩:∃W1,W1=w.alloc (.cells (rxc kd ch ng ra rs.length rc lo hi lz ka ks.length kc).toArray 25):=⟨_,rfl⟩;have hb1:Below w.heap.size w W1:=by rw [hW1];exact(Below.refl _ _).alloc (wY _) _
 have hz1:W1.heap.size=w.heap.size+1:=by rw [hW1];simp
 have hx1:W1.heap[w.heap.size]?=some (.cells (rxc kd ch ng ra rs.length rc lo hi lz ka ks.length kc).toArray 25 (0,0)):=by rw [hW1];exact heap_alloc_new w _
 rw [←hX] at hv hm hsm hwf hg;have hv1:=hv.later hb1;have HM:=ab (ou S X _ W1 hm hsm hv1);have x0:W1.cell? ⟨w.heap.size,0,none⟩=some (.int .i64 kd):=by rw [xe hx1];rfl
 have x1:W1.cell? ⟨w.heap.size,1,none⟩=some (.string ⟨ch.toArray⟩):=by rw [xe hx1];rfl
 have x2:W1.cell? ⟨w.heap.size,2,none⟩=some (.bool ng):=by rw [xe hx1];rfl
 have x3:W1.cell? ⟨w.heap.size,3,none⟩=some (.slice ra rs.length rc):=by rw [xe hx1];rfl
 have x4:W1.cell? ⟨w.heap.size,4,none⟩=some (.int .i64 lo):=by rw [xe hx1];rfl
 have x5:W1.cell? ⟨w.heap.size,5,none⟩=some (.int .i64 hi):=by rw [xe hx1];rfl
 have x6:W1.cell? ⟨w.heap.size,6,none⟩=some (.bool lz):=by rw [xe hx1];rfl
 have x7:W1.cell? ⟨w.heap.size,7,none⟩=some (.slice ka ks.length kc):=by rw [xe hx1];rfl
 have HB1:=ab hb1;have HZ1:=ab hz1;have HX1:=ab hx1;have HW1:=ab hW1;have HV1:=ab hv1;have HXe:=ab hX;clear hb1 hz1 hx1 hW1 hv1 hX hrs hks hv hv0;unfold rxc at HM HW1 ⊢;go_enter Tryz.func55,Tryz.ntmps55
 go_upto_region 1 with fail
 rw [←HW1.out];go_wp2_with (go_at_call 50;refine HM.out.mono ?_)
 first|rintro e w2 rfl hb2|rintro e w2 ⟨rfl,hb2⟩
 have HB2:=ab hb2;have keep2:∀(b:Nat) (o:Obj),W1.heap[b]?=some o→w2.heap[b]?=some o:=fun b o h=>(HB2.out.block b (gI h)).trans h
 clear hb2;cases hmb:mayB X with
 | false =>
  have HMB:=ab hmb;clear hmb;go_wp2
  go_ret3
  exact⟨bel2 HB1.out HB2.out,.inl ⟨HMB.out,rfl⟩⟩
 | true =>
  have HMB:=ab hmb;clear hmb;have hc:∀(j:Nat) (v:Value),W1.cell? ⟨w.heap.size,j,none⟩=some v→w2.cell? ⟨w.heap.size,j,none⟩=some v:=fun j v h=>by rw [←h];exact World.cell?_of_block (HB2.out.block _ (gI HX1.out))
  have x0:=hc _ _ x0;have x1:=hc _ _ x1;have x2:=hc _ _ x2;have x3:=hc _ _ x3;have x4:=hc _ _ x4;have x5:=hc _ _ x5;have x6:=hc _ _ x6;have x7:=hc _ _ x7;have HBG:=ab (qW S (fold:=fold) (s:=s) (z:=z) w2 (HV1.out.later HB2.out) hsm hwf hs hg);unfold rxc at HBG;clear hc;go_wp2_with (go_at_call 83;refine HBG.out.mono ?_)
  rintro e w3 ⟨R,rfl,hB⟩;obtain⟨Q,hQ⟩:∃Q,allM R.C X (R.C.offs.length+1) 0 (j9 X.groups z)=Q:=⟨_,rfl⟩;have hqf:allQ X fold s z=Q:=by unfold allQ;rw [←hB.C];exact hQ
  have cell:∀(w9:World) (s9:Rst) (_:RunJ R w9 s9) (jj:Nat) (u:Value),[Value.bool R.C.fold,.slice R.ca R.C.cs.length R.cc,.slice R.oa (R.C.cs.length+1) R.oc,.slice R.pa R.n R.pc,.int .i64 (s9.fuel:Int),.bool s9.out][jj]?=some u→w9.cell? ⟨R.r,11+jj,none⟩=some u:=fun w9 s9 hj jj u hu=>by
   exact ck
  have HQ:=ab hQ;have HQF:=ab hqf;have HB:=ab hB;have HCL:=ab cell;have HBW:Hid (Below w.heap.size w w3):=ab ((bel2 HB1.out HB2.out).trans (hB.bel.mono fF));have hcs:=hB.j.cs;have hol:=hB.j.of;have HI:=ab (info_parts uq);clear hQ hqf hB cell x0 x1 x2 x3 x4 x5 x6 x7 HBG HM;go_upto_region 6 with fail
  go_loopw [12,13] (fun v q wr=>AlRel R X Q w3 v q wr) (fun _ q _=>R.C.cs.length+1-(intOf q).toNat)
  case atStart=>exact⟨0,R.C.offs.length+1,j9 X.groups z,[],by omega,by omega,by simp,rfl,rfl,HB.out.run,Gx.refl _ _,OwnM.nil _ _ _ _,ab (by rw [HQ.out];rfl)⟩
  case round =>
   obtain⟨k,N,st,acc,hk,hN,hal,rfl,hout,hj,hgx,hown,HF⟩:=hrel;obtain⟨N,rfl⟩:∃m,N=m+1:=⟨N-1,by omega⟩;obtain⟨va,vc,rfl,hvc⟩:=hown.form;have HJ:=ab hj;have HG:=ab hgx;have HO:=ab hown;have HOUT:=ab hout;have c13:wr.cell? ⟨R.r,13,none⟩=some (.slice R.oa (R.C.cs.length+1) R.oc):=HCL.out _ _ hj 2 _ rfl;have c15:wr.cell? ⟨R.r,15,none⟩=some (.int .i64 (st.fuel:Int)):=HCL.out _ _ hj 4 _ rfl;have hzr:=hgx.size;have brw:Below w.heap.size w wr:=HBW.out.trans (hgx.below HBW.out.size (fun b hb=>xb fF (HB.out.new b hb)));have HBR:=ab brw;clear HQ hj hgx hown hout brw hvc;by_cases hlt:k<R.C.cs.length+1
   ·have hf:=th HB.out.j HJ.out (RunT.gx HB.out.j HB.out.tr HG.out) (k:=k) (N:=R.C.offs.length+1) eu eu
    obtain⟨q,hq⟩:∃q,kK R.C X (R.C.offs.length+1) k st=q:=⟨_,rfl⟩;rw [hq] at hf;have hal2:allM R.C X (N+1) k st=(match q.1 with|some (a,b,ps)=>if q.2.out=true then([],q.2) else(((a,b,ps)::(allM R.C X N (if a=b then b+1 else b) q.2).1,(allM R.C X N (if a=b then b+1 else b) q.2).2))|none=>([],q.2)):=by
     refine(wU (c:=k<R.C.offs.length) eu).trans ?_
     rw [←hq];rfl
    rw [hal2] at HF;have HFI:=ab hf;have hlti:(k:Int)<(R.C.cs.length:Int)+1:=eu;clear hf hal2 hq c15;go_wp2_with (go_at_call 84;refine HFI.out.mono ?_)
    rintro e w4 ⟨hj4,hg4,hm4⟩;obtain⟨ia,ib,aa,nn,cc,ok,rfl,hend⟩:∃(ia ib:Int) (aa:Option Addr) (nn cc:Nat) (ok:Bool),e=.returned (.tuple #[.agg #[.int .i64 ia,.int .i64 ib,.slice aa nn cc],.bool ok]) ∧
      ((q.1=none∧ok=false)∨(∃a b ps,q.1=some (a,b,ps)∧ok=true∧ia=((R.C.offs.getD a 0:Nat):Int)∧ib=((R.C.offs.getD b 0:Nat):Int)∧nn=R.n∧SlS w4 (fun b=>wr.heap.size≤b) aa 2 R.n (gV ps)∧ps.length=R.n∧k≤a∧a≤b∧b≤R.C.cs.length)):=by
     cases hq1:q.1 with
     | none=>rw [hq1] at hm4;exact⟨0,0,none,0,0,false,hm4,.inl ⟨rfl,rfl⟩⟩
     | some t =>
      obtain⟨a,b,ps⟩:=t;rw [hq1] at hm4;obtain⟨aa,c,he,h1,h2,h3,h4,h5⟩:=hm4;exact⟨_,_,aa,R.n,c,true,he,.inr ⟨a,b,ps,rfl,rfl,rfl,rfl,rfl,h1,h2,h3,h4,h5⟩⟩
    obtain⟨W5,hW5⟩:∃W5,W5=w4.alloc (.cells #[.int .i64 ia,.int .i64 ib,.slice aa nn cc] 72):=⟨_,rfl⟩;have hb5:Below w4.heap.size w4 W5:=by rw [hW5];exact(Below.refl _ _).alloc (wY _) _
    have hl5:W5.heap[w4.heap.size]?=some (.cells #[.int .i64 ia,.int .i64 ib,.slice aa nn cc] 72 (0,0)):=by rw [hW5];exact heap_alloc_new w4 _
    have hj5:=hj4.later hb5;have z4:=hg4.size;have z5:W5.heap.size=w4.heap.size+1:=by rw [hW5];simp
    have hg5:Gx R.Y w3 W5:=(HG.out.to hg4 (fun _ _ h=>h)).to (Gx.of_below hb5) (fun _ _ h=>h);have hnY:∀b,w3.heap.size≤b→¬R.Y b:=fun b hb e=>by
     have h1:=HB.out.run.lt;rcases e with e|e
     ·have:=h1.1;omega
     ·have:=h1.2 b e;omega
    have ho5:OwnM W5 w3.heap.size R.C.offs R.n (.slice va acc.length vc) acc:=(HO.out.gx hg4 hnY).later hb5;have b5:Below w.heap.size w W5:=HBR.out.trans ((hg4.below HBR.out.size (fun b hb=>xb fF (HB.out.new b hb))).trans (hb5.mono (xb HBR.out.size z4)));obtain⟨oo,hoo⟩:∃o,q.2.out=o:=⟨_,rfl⟩;obtain⟨ff,hff⟩:∃f,q.2.fuel=f:=⟨_,rfl⟩;have c16:W5.cell? ⟨R.r,16,none⟩=some (.bool oo):=by rw [←hoo];exact HCL.out _ _ hj5 5 _ rfl
    have c15:W5.cell? ⟨R.r,15,none⟩=some (.int .i64 (ff:Int)):=by rw [←hff];exact HCL.out _ _ hj5 4 _ rfl
    have m0:W5.cell? ⟨w4.heap.size,0,none⟩=some (.int .i64 ia):=by rw [xe hl5];rfl
    have m1:W5.cell? ⟨w4.heap.size,1,none⟩=some (.int .i64 ib):=by rw [xe hl5];rfl
    have m2:W5.cell? ⟨w4.heap.size,2,none⟩=some (.slice aa nn cc):=by rw [xe hl5];rfl
    have hend5:(q.1=none∧ok=false)∨(∃a b ps,q.1=some (a,b,ps)∧ok=true∧ia=((R.C.offs.getD a 0:Nat):Int)∧ib=((R.C.offs.getD b 0:Nat):Int)∧nn=R.n∧SlS W5 (fun b=>wr.heap.size≤b) aa 2 R.n (gV ps)∧ps.length=R.n∧k≤a∧a≤b∧b≤R.C.cs.length):=hend.imp id (fun⟨a,b,ps,h1,h2,h3,h4,h5,h6,h7⟩=>⟨a,b,ps,h1,h2,h3,h4,h5,SlS.keep h6 (Kept.all hb5),h7⟩);have HEND:=ab hend5;have HW5:=ab hW5;have HJ5:=ab hj5;have HG5:=ab hg5;have HO5:=ab ho5;have HB5:=ab b5;have HL5:=ab hl5;have HOO:=ab hoo;have HFF:=ab hff;have HZ5:=ab z5;have hg4z:=z4;clear hj4 hg4 hm4 hend hend5 hW5 hb5 hl5 hj5 z4 z5 hg5 ho5 b5 hoo hff HFI c13;cases oo with
    | true =>
     go_upto_region 8 with fail
     rw [←HW5.out];go_wp2
     go_ret3
     refine⟨HB5.out,.inr (.inl ⟨HMB.out,?_,rfl⟩)⟩;rw [HQF.out,←HF.out];rcases HEND.out with⟨h1,_⟩|⟨a,b,ps,h1,_⟩
     ·rw [h1];exact HOO.out
     ·rw [h1];simp only [HOO.out,if_true]
    | false =>
     rcases HEND.out with⟨h1,rfl⟩|⟨a,b,ps,h1,rfl,h2,h3,h4,h5⟩
     ·rw [h1] at HF
      go_upto_region 8 with fail
      rw [←HW5.out];go_wp2
      have e15:W5.drew.cell? ⟨R.r,15,none⟩=some (.int .i64 (ff:Int)):=c15;go_quiet (fail)
      go_wp2
      go_ret3
      refine⟨below_drewN HB5.out _,.inr (.inr ⟨HMB.out,?_,.slice va acc.length vc,?_,?_⟩)⟩
      ·rw [HQF.out,←HF.out];exact HOO.out
      ·rw [show (allQ X fold s z).2.fuel=ff by rw [HQF.out,←HF.out];exact HFF.out];rfl
      ·rw [HQF.out,←HF.out]
       have h9:=(HO5.out.later (below_drewN (Below.refl _ W5) nq)).base HBW.out.size;rw [HB.out.n,HB.out.C] at h9;simpa using h9
     ·have HF2:=HF.out
      rw [h1] at HF2;simp only [HOO.out,xX,if_false] at HF2;have HF2:=ab HF2;clear HF HEND;obtain⟨hs5,hpl,hka,hab,hbl⟩:=h5;obtain⟨css,hrow,hms⟩:=HO5.out;have hob:∀b,(Value.slice va acc.length vc).ownBlock=some b→w3.heap.size≤b∧b<wr.heap.size:=by
       obtain⟨_,hrow0,_⟩:=HO.out;exact hrow0.lt
      have hcu:Below W5.heap.size W5 (W5.alloc (.cells #[.int .i64 ia,.int .i64 ib,.slice aa nn cc] 72)):=(Below.refl _ _).alloc (wY _) _;have ho6:=jB hrow hcu;have hsl:=Sl.lit (n:=1) (sz:=3) (heap_alloc_new W5 (.cells #[.int .i64 ia,.int .i64 ib,.slice aa nn cc] 72)) rfl;have hone:∀u∈([.int .i64 ia,.int .i64 ib,.slice aa nn cc]:List Value),u.oneCell'=true:=eG;have z5:=HZ5.out;have z4:=(hg4z:wr.heap.size≤w4.heap.size);have hmv6:MtV (W5.alloc (.cells #[.int .i64 ia,.int .i64 ib,.slice aa nn cc] 72)) (fun b=>w3.heap.size≤b∧(Value.slice va acc.length vc).ownBlock≠some b) R.C.offs R.n [.int .i64 ia,.int .i64 ib,.slice aa nn cc] (a,b,ps) :=
       ⟨aa,cc,by rw [h2,h3,h4],(SlS.keep hs5 (Kept.all hcu)).mono (fun b hb _=>⟨xb hzr hb,fun e=>by have h6:=(hob b e).2;have h7:wr.heap.size≤b:=hb;omega⟩),hpl,hab,by show b+1≤R.C.offs.length;omega⟩
      have hms6:=hms.keep (Kept.all hcu);have hszo:w3.heap.size≤(W5.alloc (.cells #[.int .i64 ia,.int .i64 ib,.slice aa nn cc] 72)).heap.size:=by simp;omega
      have hlen:acc.length≤10000000:=eu;have HO6:=ab ho6;have HSL:=ab hsl;have HONE:=ab hone;have HMV6:=ab hmv6;have HMS6:=ab hms6;have HOB:=ab hob;have HCU:=ab hcu;have H2:=ab h2;have H3:=ab h3;have HKA:=ab hka;have HAB:=ab hab;obtain⟨iM,hiM⟩:=HI.out;clear ho6 hsl hone hmv6 hms6 hob hcu hs5 hpl hrow hms h1 h2 h3 h4 z4 z5 hka hab;go_upto_region 8 with fail
      rw [←HW5.out];go_wp2_with (at_builtin;refine g9 w3.heap.size 72 rfl _ _ 64 rfl Tryz.underlying64 hiM rfl ez rfl HO6.out rfl HSL.out HONE.out eu eu ez hszo ?_)
      intro v1 w7 ho1 hg1 hb7 hmv;have ho7:OwnM w7 w3.heap.size R.C.offs R.n v1 (acc++[(a,b,ps)]):=OwnM.app HMS6.out HMV6.out (by simpa using ho1) hg1 hmv;have hgx1:Gx (fun b=>(Value.slice va acc.length vc).ownBlock=some b) (W5.alloc (.cells #[.int .i64 ia,.int .i64 ib,.slice aa nn cc] 72)) w7:=Gx.of_grown hg1 (fun k hk=>hk);have hrl:=HB.out.run.lt;have hj7:RunJ R w7 q.2:=(HJ5.out.later HCU.out).gx hgx1 (fun e=>by have:=(HOB.out _ e).1;have:=hrl.1;omega) (fun b hb e=>by have:=(HOB.out _ e).1;have:=hrl.2 b hb;omega) (fun b hb e=>by have:=(HOB.out _ e).1;have:=HB.out.tr.lt b hb;omega);have hG7:Gx R.Y w3 w7:=(HG5.out.to (Gx.of_below (X:=R.Y) HCU.out) (fun _ _ h=>h)).to hgx1 (fun b hb e=>by have:=(HOB.out _ e).1;omega);have z5:=HZ5.out;have hx7:w7.heap[w4.heap.size]?=some (.cells #[.int .i64 ia,.int .i64 ib,.slice aa nn cc] 72 (0,0)):=Gx.heap hgx1 ((HCU.out.block _ (gI HL5.out)).trans HL5.out) (fun e=>by have:=(HOB.out _ e).2;omega);have e13:=ExtOf.cell (HCL.out _ _ hj7 2 _ rfl:w7.cell? ⟨R.r,13,none⟩=some (.slice R.oa (R.C.cs.length+1) R.oc));have n0:=ExtOf.cell (show w7.cell? ⟨w4.heap.size,0,none⟩=some (.int .i64 ia) by rw [xe hx7];rfl);have n1:=ExtOf.cell (show w7.cell? ⟨w4.heap.size,1,none⟩=some (.int .i64 ib) by rw [xe hx7];rfl);have HPL:Hid (∀x:ExtOf w7,Calls Tryz.prog 85 #[.slice R.oa (R.C.cs.length+1) R.oc,.int .i64 ib] x.val fun e w'=>e=.returned (.tuple #[.int .i64 b,.bool true])∧x.val=w'):=ab (fun x=>by
       have h9:=qE R.S R.oa R.oc R.C.offs x.val (by rw [hol];exact hj7.of.keep (Kept.all x.ext)) eu HB.out.up b eu (R.C.offs.getD b 0) rfl;rw [hol,←H3.out] at h9;exact h9)
      have hii:(a=b∧ia=ib)∨(a≠b∧ia≠ib):=by
       have h6:=HAB.out;rcases Nat.lt_or_ge a b with h7|h7
       ·have h8:=HB.out.up a b h7 eu
        refine .inr ⟨by omega,?_⟩;rw [H2.out,H3.out];omega
       ·have h8:a=b:=eu
        exact .inl ⟨h8,by rw [H2.out,H3.out,h8]⟩
      have HJ7:=ab hj7;have HG7:=ab hG7;have HO7:=ab ho7;clear ho1 hg1 hb7 hmv ho7 hgx1 hrl hj7 hG7 hx7 z5;go_upto_region 12 with fail
      refine gN eA eA ?_;repeat (go_big_quiet_step ((go_at_call 85;exact mw (HPL.out _))))
      refine wpQuiet_nil ?_;rintro _ ⟨xq,rfl⟩;have n0:=n0 xq;have n1:=n1 xq;have HXQ:=ab xq.ext;have h6:=HAB.out;have h7:=HKA.out;have hfin:∀(k':Nat) (w9:World),Below xq.val.heap.size xq.val w9→k'=(if a=b then b+1 else b)→k<k'∧AlRel R X Q w3 v1 (.int .i64 k') w9:=fun k' w9 hb hk'=>by
       have hb9:=bel2 HXQ.out hb;have hkk:k<k'∧k'≤R.C.cs.length+1:=by rw [hk'];split<;>omega
       refine⟨hkk.1,k',N,q.2,acc++[(a,b,ps)],hkk.2,by omega,by simp;omega,rfl,HOO.out,HJ7.out.later hb9,HG7.out.to (Gx.of_below (X:=R.Y) hb9) (fun _ _ h=>h),HO7.out.later hb9,ab ?_⟩;rw [←HF2.out,hk'];simp
      have HFIN:=ab hfin;clear hfin e13 h6 h7;rcases hii with⟨h8,h9⟩|⟨h8,h9⟩
      ·go_wp2
       go_roundw
       case rel=>exact(HFIN.out (b+1) _ (Below.refl _ _) (by rw [wU h8])).2
       case measure=>have:=(HFIN.out (b+1) _ (Below.refl _ _) (by rw [wU h8])).1;simp [intOf];omega
      ·go_wp2
       go_roundw
       case rel=>exact(HFIN.out b _ (Below.refl _ _) (by rw [wX h8])).2
       case measure=>have:=(HFIN.out b _ (Below.refl _ _) (by rw [wX h8])).1;simp [intOf];omega
   ·have hge:¬(k:Int)<(R.C.cs.length:Int)+1:=eu
    have hk2:k=R.C.cs.length+1:=eu;have hal3:allM R.C X (N+1) k st=([],st):=wX (c:=k<R.C.offs.length) eu;rw [hal3] at HF;have e15:wr.drew.cell? ⟨R.r,15,none⟩=some (.int .i64 (st.fuel:Int)):=c15;clear hal3 hk2;go_wp2
    go_quiet (fail)
    go_wp2
    go_ret3
    refine⟨below_drewN HBR.out _,.inr (.inr ⟨HMB.out,?_,.slice va acc.length vc,?_,?_⟩)⟩
    ·rw [HQF.out,←HF.out];exact HOUT.out
    ·rw [show (allQ X fold s z).2.fuel=st.fuel by rw [HQF.out,←HF.out]];rfl
    ·rw [HQF.out,←HF.out]
     have h9:=(HO.out.later (below_drewN (Below.refl _ wr) nq)).base HBW.out.size;rw [HB.out.n,HB.out.C] at h9;simpa using h9
open Go.RowKit
theorem lm (l:Str) (c:Int) (w:World) :
  Calls Tryz.prog 70 #[.string ⟨l.toArray⟩,.int .u8 c] w fun e w'=>e=.returned (.int .i64 (Lib.indexByte l c.toNat.toUInt8))∧w=w':=by
 go_enter Tryz.func70,Tryz.ntmps70
 go_wp2
 rw [run_callFunc_extern Tryz.func101 eA eA eA (e:=Extern.BytealgIndexByte.indexByte) eA,Lib.run_indexByteString];simp only [Result.andThen];rw [Oper.upon_value];exact cn
theorem kj (l:Str) (c:Int) (w:World) :
  Calls Tryz.prog 36 #[.string ⟨l.toArray⟩,.int .u8 c] w fun e w'=>e=.returned (.int .i64 (Lib.indexByte l c.toNat.toUInt8))∧w=w':=by
 go_enter Tryz.func36,Tryz.ntmps36
 go_wp2_with (go_at_call 70;refine(lm _ _ _).mono ?_;rintro e w1 ⟨rfl,rfl⟩)
 go_ret
 exact⟨rfl,rfl⟩
theorem idx_ge (l:Str) (c:UInt8):0≤Lib.indexByte l c↔l.contains c=true:=by
 induction l with
 | nil=>simp [Lib.indexByte]
 | cons b l ih =>
  have:=Lib.indexByte_ge l c
  unfold Lib.indexByte;rw [List.contains_cons,xB,←ih];by_cases h:b=c
  ·simp [h]
  ·have h':(b==c)=false:=eV
   have h'':¬(c==b)=true:=by simpa using (fun e=>h e.symm)
   rw [h',wX eB];by_cases h1:Lib.indexByte l c=-1
   ·simp [h1];exact fun e=>h e.symm
   ·have h2:¬(Lib.indexByte l c==-1)=true:=by simpa using h1
    rw [wX h2];simp [h''];omega
theorem idx_dec (l:Str) (c:UInt8):decide (0≤Lib.indexByte l c)=l.contains c:=by
 rw [Bool.eq_iff_iff,decide_eq_true_iff];exact idx_ge l c
theorem iU {l:Str} {c k:Int} (w:World) (h:Lib.indexByte l c.toNat.toUInt8=k) :
  Calls Tryz.prog 36 #[.string ⟨l.toArray⟩,.int .u8 c] w fun e w'=>e=.returned (.int .i64 k)∧w=w':=by
 subst h;exact kj l c w
open Go.RowKit
theorem pre_eq (l p:Str):p.isPrefixOf l=(List.take p.length l==p):=by
 rw [Bool.eq_iff_iff,List.isPrefixOf_iff_prefix,wR,List.prefix_iff_eq_take];exact⟨fun h=>h.symm,fun h=>h.symm⟩
theorem jc (l p:Str) (i:Int) (w:World) (h0:0≤i) (hs:l.length≤100000000) (hp:p.length≤100000000) :
  Calls Tryz.prog 99 #[.string ⟨l.toArray⟩,.int .i64 i,.string ⟨p.toArray⟩] w fun e w'=>e=.returned (.bool (p.isPrefixOf (l.drop i.toNat)))∧w=w':=by
 obtain⟨n,rfl⟩:=Int.eq_ofNat_of_zero_le h0;rw [Int.toNat_natCast];generalize hR:List.isPrefixOf p (List.drop n l)=R
 have HR:=ab hR;clear hR;go_enter Tryz.func99,Tryz.ntmps99
 go_wp2
 ·rename_i h1 h2
  go_ret;refine⟨?_,rfl⟩;rw [←HR.out,List.drop_of_length_le eu,h2];rfl
 ·rename_i h1 h2
  go_ret;refine⟨?_,rfl⟩;rw [←HR.out,List.drop_of_length_le eu];cases p<;>simp_all
 ·go_ret;refine⟨?_,rfl⟩;rw [←HR.out,pre_eq];simp
 ·rename_i h1 h2
  go_ret;refine⟨?_,rfl⟩;rw [←HR.out,pre_eq]
  have:(List.take p.length (List.drop n l))≠p:=fun h=>by
   have:=xM List.length h;simp at this;omega
  simp [this]
theorem lE (l p:Str) (i:Int) (w:World) (h0:0≤i) (h1:i≤100000000) (_hs:l.length≤100000000) (_hp:p.length≤100000000) :
  Calls Tryz.prog 69 #[.string ⟨l.toArray⟩,.int .i64 i,.string ⟨p.toArray⟩] w fun e w'=>e=.returned (.bool (kP (l.drop (i.toNat+1)) p))∧w=w':=by
 obtain⟨n,rfl⟩:=Int.eq_ofNat_of_zero_le h0;rw [Int.toNat_natCast];cases hd:l.drop (n+1) with
 | nil =>
  have h2:=jg hd;clear hd;go_enter Tryz.func69,Tryz.ntmps69
  exact cn
 | cons c r =>
  obtain⟨h2,h3,_⟩:=iv hd;clear hd;go_enter Tryz.func69,Tryz.ntmps69
  go_wp2_with (go_at_call 36;refine(kj _ _ _).mono ?_;rintro e w1 ⟨rfl,rfl⟩)
  go_ret
  refine⟨?_,rfl⟩;simp [kP,idx_dec]
def pG (l:Str) (i:Int) (R:Option (Nat × Str)) (e:Ending):Prop :=
 match R with
 | none=>e=.returned (.tuple #[.int .i64 0,.int .i64 i,.bool false])
 | some (n,r)=>n<10000∧∃j:Nat,i<j∧j≤l.length∧l.drop j=r∧e=.returned (.tuple #[.int .i64 n,.int .i64 j,.bool true])
theorem si (l:Str) (i:Int) (w:World) (h0:0≤i) (h1:i≤100000000) (hs:l.length≤100000000) :
  Calls Tryz.prog 98 #[.string ⟨l.toArray⟩,.int .i64 i] w fun e w'=>w=w'∧pG l i (mB (l.drop i.toNat)) e:=by
 obtain⟨i,rfl⟩:=Int.eq_ofNat_of_zero_le h0;rw [Int.toNat_natCast];generalize hR:mB (l.drop i)=R
 have HR:Hid (mQ (l.drop (i+0)) 0 0=R):=ab hR;clear hR;go_enter Tryz.func98,Tryz.ntmps98
 go_wp2
 go_loop [7,8] (fun n q=>∃k m:Nat,k≤4∧(k=0∨i+k≤l.length)∧m<10 ^ k∧q=.int .i64 ((i+k:Nat):Int)∧n=.int .i64 (m:Int)∧Hid (mQ (l.drop (i+k)) k m=R)) (fun _ q=>l.length-(intOf q).toNat)
 case atStart=>exact⟨0,0,by omega,by omega,by omega,by simp,rfl,HR⟩
 case round =>
  obtain⟨k,m,hk,hik,hm,rfl,rfl,HF⟩:=hrel;clear HR;have hm4:m<10000:=xd hm (Nat.pow_le_pow_right eu hk);have Hm:=ab hm;clear hm;cases hd:l.drop (i+k) with
  | nil =>
   have h2:=jg hd;have HF':Hid (mQ [] k m=R):=ab eW;clear hd HF;go_wp2
   go_ret3
   refine⟨rfl,?_⟩;rw [←HF'.out];unfold mQ;by_cases h0k:0<k
   ·rw [wU h0k];exact⟨hm4,i+k,by omega,by omega,List.drop_of_length_le h2,by simp;omega⟩
   ·exact dj
  | cons c r =>
   obtain⟨h2,h3,hr⟩:=iv hd;have HF':Hid (mQ (c::r) k m=R):=ab eW;have Hr:=ab hr;clear hd HF hr;go_wp2
   ·rename_i g1 g2
    go_ret3
    refine⟨rfl,?_⟩;have hk4:k=4:=by simp at g2;omega
    rw [←HF'.out];unfold mQ;rw [wU eu,wU hk4];unfold pG;simp
   ·rename_i g1 g2
    go_round
    have hk4:¬k=4:=by simp at g2;omega
    case rel =>
     refine⟨k+1,10*m+(c.toNat-48),by omega,by omega,?_,by go_num,?_,?_⟩
     ·have:=Hm.out;rw [Nat.pow_succ];omega
     ·congr 1;omega
     ·refine ab ?_
      rw [←HF'.out,show i+(k+1)=i+k+1 from rfl,Hr.out];conv=>rhs;unfold mQ
      rw [wU eu,wX hk4]
    case measure=>simp [intOf];omega
   all_goals
    go_ret3
    refine⟨rfl,?_⟩;rw [←HF'.out];unfold mQ;rw [wX eu];by_cases h0k:0<k
    ·rw [wU h0k];exact⟨hm4,i+k,by omega,by omega,by rw [List.drop_eq_getElem_cons h2,h3,Hr.out],by simp;omega⟩
    ·exact dj
open Go.RowKit
def iz (c:UInt8):List Row:=if c=100 then [([48],[57])] else if c=119 then [([48],[57]),([65],[90]),([95],[95]),([97],[122])] else if c=115 then [([9],[13]),([32],[32])] else []
def j7 (c:UInt8):Bool:=c==100||c==119||c==115
def l8 (L:List Row) (b:Bool) (w:World) (e:Ending) (w':World):Prop :=
 ∃a k,e=.returned (.tuple #[.slice a L.length k,.bool b])∧SlS w' (fun x=>w.heap.size≤x) a 2 L.length (gR L)∧Below w.heap.size w w'∧(b=true→∃x,a=some x)
theorem sv {w:World} {B:Nat} {n sz:Nat} {cs:Array Value} {t:TypeId} (hB:B≤w.heap.size) (hl:cs.toList.length=n*sz) (h:Sl (w.alloc (.cells cs t)) (w.alloc (.cells cs t)).heap.size (some ⟨w.heap.size,0,none⟩) sz n cs.toList) :
  SlS (w.alloc (.cells cs t)) (fun x=>B≤x) (some ⟨w.heap.size,0,none⟩) sz n cs.toList :=
 ⟨hl,fun hn=>by
  obtain⟨b,o,h1,h2,h3⟩:=h.2 hn;injection h1 with h1
  injection h1 with h1 h4
  subst h1 h4;exact⟨_,_,rfl,hB,h2,h3⟩⟩
theorem qR (c:UInt8) (w:World):Calls Tryz.prog 171 #[.int .u8 c.toNat] w fun e w'=>l8 (iz c) (j7 c) w e w':=by
 have hb:=(Below.refl w.heap.size w).alloc (wY _) (.cells #[.string ⟨(([48]:Str)).toArray⟩,.string ⟨(([57]:Str)).toArray⟩] 58);by_cases h1:c=100
 ·subst h1
  show Calls Tryz.prog 171 #[.int .u8 (100:Nat)] w fun e w'=>l8 [([48],[57])] true w e w'
  go_enter Tryz.func171,Tryz.ntmps171
  go_wp2
  go_ret2
  refine⟨_,_,rfl,?_,hb.alloc eB _,fun _=>⟨_,rfl⟩⟩;have hs:=sv (B:=w.heap.size) (w:=w.alloc (.cells #[.string ⟨(([48]:Str)).toArray⟩,.string ⟨(([57]:Str)).toArray⟩] 58)) (t:=58) (cs:=#[.string ⟨(([48]:Str)).toArray⟩,.string ⟨(([57]:Str)).toArray⟩]) (n:=1) (sz:=2) eB rfl (Sl.lit (heap_alloc_new _ _) rfl);rw [xG] at hs;exact hs
 by_cases h2:c=119
 ·subst h2
  show Calls Tryz.prog 171 #[.int .u8 (119:Nat)] w fun e w'=>l8 [([48],[57]),([65],[90]),([95],[95]),([97],[122])] true w e w'
  go_enter Tryz.func171,Tryz.ntmps171
  go_wp2
  go_ret2
  refine⟨_,_,rfl,?_,hb.alloc eB _,fun _=>⟨_,rfl⟩⟩;have hs:=sv (B:=w.heap.size) (w:=w.alloc (.cells #[.string ⟨(([48]:Str)).toArray⟩,.string ⟨(([57]:Str)).toArray⟩] 58)) (t:=58) (cs:=#[.string ⟨(([48]:Str)).toArray⟩,.string ⟨(([57]:Str)).toArray⟩,.string ⟨(([65]:Str)).toArray⟩,.string ⟨(([90]:Str)).toArray⟩,.string ⟨(([95]:Str)).toArray⟩,.string ⟨(([95]:Str)).toArray⟩,.string ⟨(([97]:Str)).toArray⟩,.string ⟨(([122]:Str)).toArray⟩]) (n:=4) (sz:=2) eB rfl (Sl.lit (heap_alloc_new _ _) rfl);rw [xG] at hs;exact hs
 by_cases h3:c=115
 ·subst h3
  show Calls Tryz.prog 171 #[.int .u8 (115:Nat)] w fun e w'=>l8 [([9],[13]),([32],[32])] true w e w'
  go_enter Tryz.func171,Tryz.ntmps171
  go_wp2
  go_ret2
  refine⟨_,_,rfl,?_,hb.alloc eB _,fun _=>⟨_,rfl⟩⟩;have hs:=sv (B:=w.heap.size) (w:=w.alloc (.cells #[.string ⟨(([48]:Str)).toArray⟩,.string ⟨(([57]:Str)).toArray⟩] 58)) (t:=58) (cs:=#[.string ⟨(([9]:Str)).toArray⟩,.string ⟨(([13]:Str)).toArray⟩,.string ⟨(([32]:Str)).toArray⟩,.string ⟨(([32]:Str)).toArray⟩]) (n:=2) (sz:=2) eB rfl (Sl.lit (heap_alloc_new _ _) rfl);rw [xG] at hs;exact hs
 ·have hL:iz c=[]:=by simp [iz,h1,h2,h3]
  have hB:j7 c=false:=by simp [j7,h1,h2,h3]
  have n1:c.toNat≠100:=fun e=>h1 (wT.1 e)
  have n2:c.toNat≠119:=fun e=>h2 (wT.1 e)
  have n3:c.toNat≠115:=fun e=>h3 (wT.1 e)
  rw [hL,hB];clear hL hB h1 h2 h3;go_enter Tryz.func171,Tryz.ntmps171
  go_wp2
  go_ret2
  exact⟨none,0,rfl,SlS.none_ _ _ _ _,hb,fun h=>by cases h⟩
abbrev Res:=Except Int (Rx × List Str)
def rx0:Rx:=.mk 0 [] false [] 0 0 false []
def rxK (k:Int):Rx:=.mk k [] false [] 0 0 false []
def chrR (c:Str):Rx:=.mk 2 c false [] 0 0 false []
def setR (rows:List Row) (ng:Bool):Rx:=.mk 4 [] ng rows 0 0 false []
def grpR (k:Int) (x:Rx):Rx:=.mk k [] false [] 0 0 false [x]
def repR (lo hi:Int) (lz:Bool) (x:Rx):Rx:=.mk 7 [] false [] lo hi lz [x]
def jx (c:Str):Option Str :=
 if c=[] then none else if c=[110] then some [10] else if c=[114] then some [13] else if c=[116] then some [9] else if c=[102] then some [12] else if c=[118] then some [11]
 else if c=[95]∨lO c=false then some c else none
def kl (c:Str):Option (List Row):=match c with
 | [b]=>if j7 b=true then some (iz b) else none
 | _=>none
def bigS (c:Str):Option (List Row):=if c=[68] then some (iz 100) else if c=[87] then some (iz 119) else if c=[83] then some (iz 115) else none
def escM:List Str→Res
 | []=>.error 10
 | c::r=>match kl c with
  | some rows=>.ok (setR rows false,r)
  | none=>match bigS c with
   | some rows=>.ok (setR rows true,r)
   | none=>match jx c with
    | none=>.error 10
    | some t=>.ok (chrR t,r)
def mq:List Str→Option (Str × List Row × List Str)
 | []=>none
 | c::r=>if c=[93] then none else if c=[92] then(match r with
   | []=>none
   | c2::r2=>match kl c2 with
    | some rows=>some ([],rows,r2)
    | none=>match jx c2 with
     | none=>none
     | some t=>some (t,[],r2)) else some (c,[],r)
def io (c:Str):List Str→Option (List Str)
 | []=>none
 | x::r=>if x=c then some r else none
def iL:Nat→List Row→List Str→Option (List Row × List Str)
 | 0,_,_=>none
 | n+1,rows,r=>match io [93] r with
  | some r1=>some (rows,r1)
  | none=>match mq r with
   | none=>none
   | some (c,nm,r1) =>
    if nm≠[] then iL n (rows++nm) r1
    else match io [45] r1 with
     | none=>iL n (rows++[(c,c)]) r1
     | some r2=>if io [93] r2=none then(match mq r2 with
       | none=>none
       | some (t,nm2,r3)=>if nm2≠[]∨Op.bytesLess t c=true then none else iL n (rows++[(c,t)]) r3)
      else iL n (rows++[(c,c)]) r1
def jW (r:List Str):Res :=
 let ng:=(io [94] r).isSome
 let r0:=(io [94] r).getD r
 match iL (r0.length+1) [] r0 with
 | none=>.error 10
 | some (rows,r1)=>.ok (setR (jb rows) ng,r1)
def digS (c:Str):Option Nat:=match c with
 | [b]=>if 48≤b.toNat∧b.toNat≤57 then some (b.toNat-48) else none
 | _=>none
def numL:Nat→Nat→List Str→Option (Nat × List Str)
 | k,n,[]=>if 0<k∧n≤255 then some (n,[]) else none
 | k,n,c::r=>match digS c with
  | some d=>if k=3 then none else numL (k+1) (10*n+d) r
  | none=>if 0<k∧n≤255 then some (n,c::r) else none
def kA (r:List Str):Option (Int × Int × List Str):=match numL 0 0 r with
 | none=>none
 | some (lo,r1)=>match io [125] r1 with
  | some r2=>some (lo,lo,r2)
  | none=>match io [44] r1 with
   | none=>none
   | some r2=>match io [125] r2 with
    | some r3=>some (lo,-1,r3)
    | none=>match numL 0 0 r2 with
     | none=>none
     | some (hi,r3)=>if lo≤hi then(match io [125] r3 with
      | some r4=>some (lo,hi,r4)
      | none=>none) else none
def nl (x:Rx) (lo hi:Int) (r:List Str):Rx × List Str:=match io [63] r with
 | some r1=>(repR lo hi true x,r1)
 | none=>(repR lo hi false x,r)
def jG (x:Rx):List Str→Res
 | []=>.ok (x,[])
 | c::r=>if c=[42] then .ok (nl x 0 (-1) r) else if c=[43] then .ok (nl x 1 (-1) r) else if c=[63] then .ok (nl x 0 1 r)
  else if c=[123] then(match kA r with
   | none=>.error 10
   | some (lo,hi,r1)=>.ok (nl x lo hi r1)) else .ok (x,c::r)
def nj (r:List Str):Option (Int × List Str):=match io [63] r with
 | none=>some (5,r)
 | some r1=>match io [58] r1 with
  | none=>none
  | some r2=>some (6,r2)
def lS (pat:List Str→Nat→Res) (r:List Str) (d:Nat):Res :=
 if 16≤d then .error 8 else match nj r with
 | none=>.error 10
 | some (k,r0)=>match pat r0 (d+1) with
  | .error e=>.error e
  | .ok (x,r1)=>match io [41] r1 with
   | none=>.error 10
   | some r2=>.ok (grpR k x,r2)
def sO (c:Str):Bool:=decide (c=[42])||decide (c=[43])||decide (c=[63])||decide (c=[41])||decide (c=[123])||decide (c=[124])||decide (c=[94])||decide (c=[36])
def kU (pat:List Str→Nat→Res):List Str→Nat→Res
 | [],_=>.error 10
 | c::r,d=>if c=[46] then .ok (rxK 3,r) else if c=[40] then lS pat r d else if c=[91] then jW r else if c=[92] then escM r
  else if sO c=true then .error 10 else .ok (chrR c,r)
def qj (r:List Str):Option (Rx × List Str):=match r with
 | []=>none
 | c::r1=>if c=[94] then some (rxK 8,r1) else if c=[36] then some (rxK 9,r1) else if c=[92] then(match io [98] r1 with
  | some r2=>some (rxK 10,r2)
  | none=>match io [66] r1 with
   | some r2=>some (rxK 11,r2)
   | none=>none) else none
def lM (pat:List Str→Nat→Res) (r:List Str) (d:Nat):Res:=match qj r with
 | some y=>.ok y
 | none=>match kU pat r d with
  | .error e=>.error e
  | .ok (x,r1)=>jG x r1
def patL (trm:List Str→Res):Nat→List Rx→List Rx→List Str→Res
 | 0,_,_,_=>.error 1
 | n+1,alts,terms,r=>match r with
  | []=>.ok (altR (alts++[seqR terms]),[])
  | c::r1=>if c=[41] then .ok (altR (alts++[seqR terms]),c::r1) else if c=[124] then patL trm n (alts++[seqR terms]) [] r1
   else match trm (c::r1) with
    | .error e=>.error e
    | .ok (x,r2)=>patL trm n alts (terms++[x]) r2
def patF:Nat→List Str→Nat→Res
 | 0,_,_=>.error 1
 | n+1,r,d=>patL (fun r=>lM (patF n) r d) (r.length+1) [] [] r
def rJ (l:List Str):Except Int Rx:=match patF (l.length+1) l 0 with
 | .error e=>.error e
 | .ok (x,[])=>.ok x
 | .ok (_,_::_)=>.error 10
def oN (s:Str):Except Int Rx :=
 if 256<s.length then .error 4 else match gM s with
 | []=>rJ []
 | c::r=>if iW c=true then rJ (c::r) else .error 10
structure Tf where
 rx:Rx
 fs:List Fm
 fold:Bool
 all:Bool
def tf0:Tf:=⟨rx0,[],false,false⟩
inductive Sn where
 | mk (kind:Int) (text:Str) (n:Int) (has turned:Bool) (form:Tf) (opts:List Str) (kids:List Sn)
namespace Sn
def kind:Sn→Int|mk k _ _ _ _ _ _ _=>k
def text:Sn→Str|mk _ t _ _ _ _ _ _=>t
def n:Sn→Int|mk _ _ n _ _ _ _ _=>n
def has:Sn→Bool|mk _ _ _ h _ _ _ _=>h
def turned:Sn→Bool|mk _ _ _ _ t _ _ _=>t
def form:Sn→Tf|mk _ _ _ _ _ f _ _=>f
def opts:Sn→List Str|mk _ _ _ _ _ _ o _=>o
def kids:Sn→List Sn|mk _ _ _ _ _ _ _ k=>k
mutual
def parts:Sn→Nat
 | mk _ _ _ _ _ _ _ ks=>1+partsL ks
def partsL:List Sn→Nat
 | []=>0
 | x::r=>parts x+partsL r
end
mutual
def deep:Sn→Nat
 | mk _ _ _ h _ _ _ ks=>deepL ks+(if h then 1 else 0)
def deepL:List Sn→Nat
 | []=>0
 | x::r=>max (deep x) (deepL r)
end
theorem parts_pos:∀x:Sn,1≤parts x
 | mk _ _ _ _ _ _ _ ks=>by simp only [parts];omega
theorem parts_mem:∀{ks:List Sn} {x:Sn},x∈ks→parts x≤partsL ks
 | [],_,h=>by simp at h
 | y::r,x,h=>by
  exact di
theorem len_parts:∀ks:List Sn,ks.length≤partsL ks
 | []=>by simp
 | x::r=>by have:=parts_pos x;have:=len_parts r;simp only [partsL,xg];omega
theorem je:∀a b:List Sn,partsL (a++b)=partsL a+partsL b
 | [],b=>by simp [partsL]
 | x::a,b=>by simp only [xQ,partsL,je a b];omega
end Sn
def Sn.turn:Sn→Tf→Sn|.mk k t n h _ _ o ks,f=>.mk k t n h true f o ks
def nameC (c:UInt8):Bool:=decide (97≤c.toNat∧c.toNat≤122)||decide (65≤c.toNat∧c.toNat≤90)||decide (48≤c.toNat∧c.toNat≤57)||decide (c.toNat=95)
def nameB:Str→Bool
 | []=>false
 | c::r=>decide ((c::r).length≤64)&&(c::r).all nameC&&decide (57<c.toNat)
def three:Str:=[36,125,92]
def rxSp:Str→Str→Str × Str
 | [],a=>(a,[])
 | [c],a=>if c.toNat=47 then(a,[c]) else(a++[c],[])
 | c::d::r,a=>if c.toNat=47 then(a,c::d::r) else if c.toNat=92 then rxSp r (if d.toNat=47 then a++[d] else a++[92,d]) else rxSp (d::r) (a++[c])
def nh (fl:Str):Option (Bool × Bool) :=
 if fl=[] then some (false,false) else if fl=[103] then some (true,false) else if fl=[105] then some (false,true) else if fl=[103,105]∨fl=[105,103] then some (true,true) else none
def uC (x:Rx) (fs:List Fm) (r:Str):Option (Tf × Str):=match r.dropWhile jm with
 | []=>none
 | _::r2=>match nh (r.takeWhile jm) with
  | none=>none
  | some (a,f)=>some (⟨x,fs,f,a⟩,r2)
def qF:Str→Option (Tf × Str)
 | []=>none
 | c::r=>if c.toNat=47 then(match (rxSp r []).2 with
  | []=>none
  | _::r3=>match oN (rxSp r []).1 with
   | .error _=>none
   | .ok x=>match jZ r3 [] [] with
    | none=>none
    | some (_,[])=>none
    | some (fs,_::r5)=>uC x fs r5) else none
theorem ld:∀(k:Nat) (r tx:Str) (fs:List Fm) {gs:List Fm} {s:Str},nY k r tx fs=some (gs,s)→s.length≤r.length∧∃c s',s=c::s'∧c.toNat=47
 | 0,_,_,_,_,_,h=>by cases h
 | _+1,[],_,_,_,_,h=>by cases h
 | k+1,c::r,tx,fs,gs,s,h=>by
  simp only [nY] at h;split at h
  ·rename_i hc
   injection h with h;injection h with _ h;subst h;exact⟨wY _,_,_,rfl,hc⟩
  ·split at h
   ·split at h
    ·rename_i p hp
     obtain⟨f,s'⟩:=p;have h1:=nV hp;obtain⟨h2,h3⟩:=ld k _ _ _ h;exact⟨by simp at *;omega,h3⟩
    ·obtain⟨h2,h3⟩:=ld k _ _ _ h
     exact⟨by simp;omega,h3⟩
   ·split at h
    ·obtain⟨h2,h3⟩:=ld k _ _ _ h
     exact⟨by simp at h2 ⊢;omega,h3⟩
    ·obtain⟨h2,h3⟩:=ld k _ _ _ h
     exact⟨by simp;omega,h3⟩
open Go.RowKit
def RdT (T:TypeId) (x:List Value) (w:World) (g:Nat) (r:List Str):Prop :=
 ∃(a:Option Addr) (c:Nat) (l:List Str) (i:Nat),w.heap[g]?=some (.cells (.slice a l.length c::.int .i64 i::x).toArray T (0,0))∧SlS w (fun b=>b<g) a 1 l.length (i6 l)∧l.length≤200000∧i≤l.length ∧
  (∀p∈l,p≠[]∧p.length≤1000000)∧l.drop i=r
def hdS:List Str→Str|[]=>[]|c::_=>c
theorem RdT.cells {T:TypeId} {x:List Value} {w:World} {g:Nat} {r:List Str} (h:RdT T x w g r):∃a c l i,w.cell? ⟨g,0,none⟩=some (.slice a (l:List Str).length c)∧w.cell? ⟨g,1,none⟩=some (.int .i64 (i:Nat)) ∧
  (∀j,j<2+x.length→w.frozen? ⟨g,j,none⟩=false)∧SlS w (fun b=>b<g) a 1 l.length (i6 l)∧l.length≤200000∧i≤l.length∧(∀p∈l,p≠[]∧p.length≤1000000)∧l.drop i=r∧g<w.heap.size:=by
 obtain⟨a,c,l,i,h1,h2,h3,h4,h5,h6⟩:=h;refine⟨a,c,l,i,?_,?_,?_,h2,h3,h4,h5,h6,gI h1⟩
 ·rw [xe h1];rfl
 ·rw [xe h1];rfl
 ·intro j hj;unfold World.frozen?;rw [h1];rfl
theorem RdT.cell2 {T:TypeId} {u:Value} {w:World} {g:Nat} {r:List Str} (h:RdT T [u] w g r):w.cell? ⟨g,2,none⟩=some u:=by
 obtain⟨a,c,l,i,h1,_⟩:=h;rw [xe h1];rfl
theorem RdT.lt {T:TypeId} {x:List Value} {w:World} {g:Nat} {r:List Str} (h:RdT T x w g r):g<w.heap.size:=by
 obtain⟨a,c,l,i,h1,_⟩:=h;exact gI h1
def Still (w w':World):Prop:=w'.heap=w.heap∧w'.os=w.os∧w'.tape=w.tape∧w'.output=w.output
theorem Still.drewN (w:World) (n:Nat):Still w (w.drewN n):=⟨rfl,rfl,rfl,rfl⟩
theorem Still.trans {a b c:World} (h1:Still a b) (h2:Still b c):Still a c:=⟨h2.1.trans h1.1,h2.2.1.trans h1.2.1,h2.2.2.1.trans h1.2.2.1,h2.2.2.2.trans h1.2.2.2⟩
theorem Still.below {w w':World} (h:Still w w') (B:Nat):Below B w w':=⟨h.2.1,h.2.2.1,h.2.2.2,by rw [h.1];exact wY _,fun _ _=>by rw [h.1]⟩
theorem Still.size {w w':World} (h:Still w w'):w'.heap.size=w.heap.size:=by rw [h.1]
theorem Still.grown {w w':World} (h:Still w w') (g:Option Nat):w.grownBy w' g:=⟨h.2.1,h.2.2.1,h.2.2.2,by rw [h.1];exact wY _,fun _ _ _=>by rw [h.1]⟩
theorem RdT.later {T:TypeId} {x:List Value} {w w':World} {g:Nat} {r:List Str} (hr:RdT T x w g r) (h:Below w.heap.size w w'):RdT T x w' g r:=by
 obtain⟨a,c,l,i,h1,h2,h3⟩:=hr;exact⟨a,c,l,i,(h.block g (gI h1)).trans h1,h2.keep ⟨h.size,fun b _ hlt=>h.block b hlt⟩,h3⟩
theorem Still.rd {T:TypeId} {x:List Value} {w w':World} (h:Still w w') {g:Nat} {r:List Str} (hr:RdT T x w g r):RdT T x w' g r:=hr.later (h.below _)
abbrev Rd (w:World) (g:Nat) (r:List Str) (d:Nat):Prop:=RdT 93 [.int .i64 d] w g r
theorem pg {α:Type} {l:List α} {i:Nat} (h:l.drop i=[]):l.length≤i:=by simpa using h
theorem RdT.pos {T:TypeId} {x:List Value} {w:World} {g:Nat} {c:Str} {r:List Str} (h:RdT T x w g (c::r)):c≠[]∧c.length≤1000000:=by
 obtain⟨a,k,l,i,_,_,_,_,h5,h6⟩:=h;have:=(ig h6).2.1
 exact h5 c (xA this)
theorem iq {T:TypeId} {x:List Value} {g:Nat} {r:List Str} (w:World) (h:RdT T x w g r) :
  Calls Tryz.prog 43 #[.pointer (some ⟨g,0,none⟩)] w fun e w'=>e=.returned (.string ⟨(hdS r).toArray⟩)∧Still w w':=by
 obtain⟨a,c,l,i,c0,c1,hf,hs,hl,hi,hp,hd,hg⟩:=h.cells;clear h hf;cases r with
 | nil =>
  have h2:l.length≤i:=pg hd;show Calls Tryz.prog 43 #[.pointer (some ⟨g,0,none⟩)] w fun e w'=>e=.returned (.string ⟨(([]:Str)).toArray⟩)∧Still w w'
  clear hd hs;go_enter Tryz.func43,Tryz.ntmps43
  go_wp2
  go_quiet (fail)
  go_wp2
  go_ret
  exact⟨rfl,Still.drewN _ _⟩
 | cons p r =>
  obtain⟨h2,hx,_⟩:=ig hd;obtain⟨b,o,rfl,hb,k0⟩:=hs.sl.str hx;show Calls Tryz.prog 43 #[.pointer (some ⟨g,0,none⟩)] w fun e w'=>e=.returned (.string ⟨p.toArray⟩)∧Still w w'
  clear hx hs hd;go_enter Tryz.func43,Tryz.ntmps43
  go_wp2
  go_quiet (fail)
  go_wp2
  obtain⟨w1,hw1⟩:∃w1,w1=w.drewN nq:=⟨_,rfl⟩;have hbq:Below w.heap.size w w1:=by rw [hw1];exact below_drewN (Below.refl _ _) _
  rw [←hw1];have e0:=gW hbq _ _ c0;have e1:=gW hbq _ _ c1;have e2:=gW hbq _ _ k0;have HW:=ab hw1;clear c0 c1 k0 hw1;go_quiet (fail)
  go_wp2
  go_ret
  refine⟨rfl,?_⟩;rw [HW.out];exact(Still.drewN _ _).trans (Still.drewN _ _)
open Go.RowKit
theorem rC {w:World} {g:Nat} {y z u:Value} {x:List Value} {t:TypeId} (h:w.heap[g]?=some (.cells (y::z::x).toArray t (0,0))):(w.setCell ⟨g,1,none⟩ u).heap[g]?=some (.cells (y::u::x).toArray t (0,0)):=by
 simp [World.setCell,Array.getElem?_modify,h]
theorem RdT.setAt {T:TypeId} {x:List Value} {w:World} {g:Nat} {r r':List Str} {a:Option Addr} {c:Nat} {l:List Str} (h:RdT T x w g r)
  (h0:w.cell? ⟨g,0,none⟩=some (.slice a l.length c)) (h2:SlS w (fun b=>b<g) a 1 l.length (i6 l)) (h3:l.length≤200000) (h5:∀p∈l,p≠[]∧p.length≤1000000) (j:Nat) (hj:j≤l.length) (hd:l.drop j=r') :
  RdT T x (w.setCell ⟨g,1,none⟩ (.int .i64 j)) g r':=by
 obtain⟨a',c',l',i',h1,_⟩:=h;rw [xe h1] at h0;have e:(Value.slice a' l'.length c')=.slice a l.length c:=by simpa using h0
 rw [e] at h1;exact⟨a,c,l,j,rC h1,h2.keep (Kept.setLow _ fun b hb=>Nat.ne_of_lt hb),h3,hj,h5,hd⟩
theorem mp {l r:List Str} {i:Nat} {c:Str} (h:l.drop i=c::r):i+1≤l.length∧l.drop (i+1)=r:=⟨(ig h).1,(ig h).2.2⟩
theorem RdT.step {T:TypeId} {x:List Value} {w:World} {g:Nat} {c:Str} {r:List Str} (h:RdT T x w g (c::r)):∃i:Nat,i<1000000∧w.cell? ⟨g,1,none⟩=some (.int .i64 i)∧w.frozen? ⟨g,1,none⟩=false∧RdT T x (w.setCell ⟨g,1,none⟩ (.int .i64 ((i:Int)+1))) g r:=by
 obtain⟨a,k,l,i,c0,c1,hf,hs,hl,hi,hp,hd,hg⟩:=h.cells;obtain⟨h1,h2⟩:=mp hd;exact⟨i,by omega,c1,hf 1 eu,h.setAt (l:=l) c0 hs hl hp (i+1) h1 h2⟩
theorem RdT.step2 {T:TypeId} {x:List Value} {w:World} {g:Nat} {c c2:Str} {r:List Str} (h:RdT T x w g (c::c2::r)):∃i:Nat,i<1000000∧w.cell? ⟨g,1,none⟩=some (.int .i64 i)∧w.frozen? ⟨g,1,none⟩=false∧RdT T x (w.setCell ⟨g,1,none⟩ (.int .i64 ((i:Int)+2))) g r:=by
 obtain⟨a,k,l,i,c0,c1,hf,hs,hl,hi,hp,hd,hg⟩:=h.cells;obtain⟨h1,h2⟩:=mp hd;obtain⟨h3,h4⟩:=mp h2;exact⟨i,by omega,c1,hf 1 eu,h.setAt (l:=l) c0 hs hl hp (i+2) h3 h4⟩
theorem r8 {w w1 w2:World} {g:Option Nat} (h1:Still w w1) (h2:w1.grownBy w2 g):w.grownBy w2 g:=gG (h1.grown g) h2
theorem take_yes {T:TypeId} {x:List Value} {g:Nat} {r:List Str} (c:Str) (w:World) (h:RdT T x w g (c::r)) :
  Calls Tryz.prog 149 #[.pointer (some ⟨g,0,none⟩),.string ⟨c.toArray⟩] w fun e w'=>e=.returned (.bool true)∧RdT T x w' g r∧w.grownBy w' (some g):=by
 have HS:=ab (iq w h);have HR:=ab h;clear h;go_enter Tryz.func149,Tryz.ntmps149
 exact bQ
theorem take_no {T:TypeId} {x:List Value} {g:Nat} {r:List Str} (c:Str) (w:World) (h:RdT T x w g r) (hc:io c r=none) (hc0:c≠[]) :
  Calls Tryz.prog 149 #[.pointer (some ⟨g,0,none⟩),.string ⟨c.toArray⟩] w fun e w'=>e=.returned (.bool false)∧Still w w':=by
 have HS:=ab (iq w h);obtain⟨u,hu⟩:∃u,hdS r=u:=⟨_,rfl⟩;have hne:u≠c:=by
  rw [←hu];cases r with
  | nil=>exact fun e=>hc0 e.symm
  | cons p r=>intro e;simp only [hdS] at e;rw [io,wU e] at hc;cases hc
 have h1:(u==c)=false:=xH.2 hne;have h2:(u != c)=true:=by simp [bne,h1]
 rw [hu] at HS;clear h hc hc0 hu;go_enter Tryz.func149,Tryz.ntmps149
 go_wp2_with (go_at_call 43;refine HS.out.mono ?_)
 rintro e w1 ⟨rfl,hst⟩;go_wp2
 go_ret
 exact⟨rfl,hst⟩
theorem next_nil {T:TypeId} {x:List Value} {g:Nat} (w:World) (h:RdT T x w g []) :
  Calls Tryz.prog 144 #[.pointer (some ⟨g,0,none⟩)] w fun e w'=>e=.returned (.string ⟨(([]:Str)).toArray⟩)∧Still w w':=by
 have HS:=ab (iq w h);clear h;go_enter Tryz.func144,Tryz.ntmps144
 go_wp2_with (go_at_call 43;refine HS.out.mono ?_)
 rintro e w1 ⟨rfl,hst⟩;unfold hdS;go_wp2
 go_ret
 exact⟨rfl,hst⟩
theorem hZ {T:TypeId} {x:List Value} {g:Nat} {c:Str} {r:List Str} (w:World) (h:RdT T x w g (c::r)) :
  Calls Tryz.prog 144 #[.pointer (some ⟨g,0,none⟩)] w fun e w'=>e=.returned (.string ⟨c.toArray⟩)∧RdT T x w' g r∧w.grownBy w' (some g):=by
 have HS:=ab (iq w h);have hc:=h.pos.1;have HR:=ab h;cases c with
 | nil=>exact absurd rfl hc
 | cons b c =>
  clear h hc;go_enter Tryz.func144,Tryz.ntmps144
  exact bQ
end Go.Proofs.YtbnkaecmgfolpaaGreat
