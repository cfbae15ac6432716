/- walk of sread: parts, outside of braces -/
import Derived.Test.YtdcnncgpomcaaaaGreatDoorRc30
set_option maxRecDepth 100000
set_option maxHeartbeats 4000000
namespace Go.Proofs.YtdcnncgpomcaaaaGreatDoor
open Go.RowKit Go.Maps Go.MapKept
open Go.ChangeMaps (setBlock)
theorem FI {g m:Nat} {s:Str} {N:Nat} (hs:s.length≤100000) (HP:PartC g m s N) (S:Nat→Prop) (w:World) (i:Nat) (h:Rs S w g m s i) (hN:s.length-i≤N) :
  Calls Tryz.prog 24 #[.pointer (some ⟨g,0,none⟩),.bool false] w fun e w'=>PartsPost S g m s false (lu false [] [] (s.drop i)) w e w':=by
 obtain⟨RX,hRX⟩:∃RX,lu false [] [] (s.drop i)=RX:=⟨_,rfl⟩;rw [hRX];have HR:=ab hRX;have HPP:=ab HP;have hgB:=h.pl.lt;have hmg:=h.gm;have HRS0:=ab h;obtain⟨iu,hiu⟩:=info_parts qP;obtain⟨iN,hiN⟩:=info_parts px;clear h hRX HP;go_enter Tryz.func24,Tryz.ntmps24
 go_wp2
 go_loopg [6,7] (s.length+1) (fun k v6 v7 wr=>PtRel S g m s false i w RX k v6 v7 wr)
 case atStart=>exact cQ
 case round =>
  clear HR HRS0;obtain⟨v6,v7,S1,j,o,t,rfl,rfl,hrs,hij,hk,hS1,hS2,ho,ht,hg,hol,htl,hn6,hn7,HF⟩:=hrel;have hj:=hrs.pl.2.1;have hB:=hg.size;have HRS:=ab hrs;have HG:=ab hg;have HS1:=ab hS1;have HS2:=ab hS2;have HN6:=ab hn6;have HN7:=ab hn7;have d0:∀x':ExtOf wr,x'.val.cell? ⟨g,0,none⟩=some (.string ⟨s.toArray⟩):=ExtOf.cell hrs.pl.c0;have d1:∀x':ExtOf wr,x'.val.cell? ⟨g,1,none⟩=some (.int .i64 j):=ExtOf.cell hrs.pl.c1;clear hrs hg hS1 hS2 hn6 hn7;cases hd:s.drop j with
  | nil =>
   have h2:=ms hd;have gl:decide ((j:Int)<(s.length:Int))=false:=JT gN;have gln:decide (j<s.length)=false:=JT gN;have HX:Hid (RX=(lO o t,s.drop j)):=ab iE;clear hd HF;go_wp2
   refine kZ gT gT ?_;repeat (go_big_quiet_step ((fail)))
   refine wpQuiet_nil ?_;rintro _ ⟨xq,rfl⟩;have hba:=xq.ext;have hra:=HRS.out.later hba;have hoa:=ho.later hba;have hta:=lh ht hba;have hga:=HG.out.trans (Gr2.below hba);generalize xq.val=wa at *
   clear d0 d1 ho ht HRS HG;have hBd:Below wa.heap.size wa wa.drew:=(Below.refl _ _).drew;have HOA:=ab (hoa.later hBd);have HTA:=ab (lh hta hBd);have HRA:=ab (hra.later hBd);have HGA:=ab (hga.trans (Gr2.below hBd));have hzA:w.heap.size≤wa.drew.heap.size:=hga.size;have hsl:=hra.pl.2.2;clear hba hra hoa hta hga hBd;go_wp2
   refine mn 20 gT gT (fun A0 W0 L a w'=>R8I false S1 g m j s w (lO o t) v6 v7 A0 W0 L a w') ?_;intro A0 HA;have hsz:A0.tmps.size=70:=by rw [HA.out];rfl
   have hnd:[51,52,53,54,55,56,57,58,59,60,61,62,63,64,65,66,67,68,69,4].Nodup:=gR;have hbd:∀d∈[51,52,53,54,55,56,57,58,59,60,61,62,63,64,65,66,67,68,69,4],d<A0.tmps.size:=by rw [hsz];decide
   have e0:A0.tmps[0]?=some (.pointer (some ⟨g,0,none⟩)):=by rw [HA.out];rfl
   have e1:A0.tmps[1]?=some (.bool false):=by rw [HA.out];rfl
   have e6:A0.tmps[6]?=some v6:=by rw [HA.out];rfl
   have e7:A0.tmps[7]?=some v7:=by rw [HA.out];rfl
   refine⟨?_,?_,?_⟩
   ·obtain⟨V,hV⟩:=nT A0 [51,52,53,54,55,56,57,58,59,60,61,62,63,64,65,66,67,68,69,4]
    exact gJ
   ·refine⟨?_,?_,?_,?_,?_,?_,?_,?_,?_,?_,?_,?_,?_,?_,?_,?_,?_,?_,?_,?_,trivial⟩
    ·exact fw
    ·exact fx
    ·exact fg
    ·exact fy
    ·intro L a w' hL hd hI
     obtain⟨V,hf,hO,h25,h19⟩:=hI;simp [lm,Region.binds] at hd
     have e:=(lU ((hf.ins hnd hbd 3 rfl).trans (Jp some (hO.vs 3 gW))));refine lR (lg rfl) (w':=w') (v:=.bool (!false)) ig ?_;exact fQ
    ·exact fq
    ·intro L a w' hL hd hI
     obtain⟨V,hf,hO,h25,h19⟩:=hI;simp [lm,Region.binds] at hd
     refine oX (mf rfl (nQ rfl ((hf.ins hnd hbd 5 rfl).trans (Jp some (hO.vs 5 gW)))) gR) ?_;exact⟨_,hf.put hnd hbd 6 rfl _,hO.pure 6 gR (fun e=>by cases e),(fun h=>by simpa using h25 gQ),(fun h=>⟨by simpa using (h19 gQ).1,(h19 gQ).2⟩)⟩
    ·intro L a w' hL hd hI
     obtain⟨V,hf,hO,h25,h19⟩:=hI;simp [lm,Region.binds] at hd
     refine oX (mf rfl (nQ rfl ((hf.ins hnd hbd 5 rfl).trans (Jp some (hO.vs 5 gW)))) gR) ?_;exact⟨_,hf.put hnd hbd 7 rfl _,hO.pure 7 gR (fun e=>by cases e),(fun h=>by simpa using h25 gQ),(fun h=>⟨by simpa using (h19 gQ).1,(h19 gQ).2⟩)⟩
    ·intro L a w' hL hd hI
     obtain⟨V,hf,hO,h25,h19⟩:=hI;simp [lm,Region.binds] at hd
     refine oX (mf rfl (nQ rfl ((hf.ins hnd hbd 5 rfl).trans (Jp some (hO.vs 5 gW)))) gR) ?_;exact⟨_,hf.put hnd hbd 8 rfl _,hO.pure 8 gR (fun e=>by cases e),(fun h=>by simpa using h25 gQ),(fun h=>⟨by simpa using (h19 gQ).1,(h19 gQ).2⟩)⟩
    ·intro L a w' hL hd hI
     obtain⟨V,hf,hO,h25,h19⟩:=hI;simp [lm,Region.binds] at hd
     refine oX (mf rfl (nQ rfl ((hf.ins hnd hbd 5 rfl).trans (Jp some (hO.vs 5 gW)))) gR) ?_;exact⟨_,hf.put hnd hbd 9 rfl _,hO.pure 9 gR (fun e=>by cases e),(fun h=>by simpa using h25 gQ),(fun h=>⟨by simpa using (h19 gQ).1,(h19 gQ).2⟩)⟩
    ·intro L a w' hL hd hI
     obtain⟨V,hf,hO,h25,h19⟩:=hI;simp [lm,Region.binds] at hd
     refine oX (mf rfl (nQ rfl ((hf.ins hnd hbd 5 rfl).trans (Jp some (hO.vs 5 gW)))) gR) ?_;exact⟨_,hf.put hnd hbd 10 rfl _,hO.pure 10 gR (fun e=>by cases e),(fun h=>by simpa using h25 gQ),(fun h=>⟨by simpa using (h19 gQ).1,(h19 gQ).2⟩)⟩
    ·intro L a w' hL hd hI
     obtain⟨V,hf,hO,h25,h19⟩:=hI;simp [lm,Region.binds] at hd
     refine oX (mf rfl (nQ rfl ((hf.ins hnd hbd 5 rfl).trans (Jp some (hO.vs 5 gW)))) gR) ?_;exact⟨_,hf.put hnd hbd 11 rfl _,hO.pure 11 gR (fun e=>by cases e),(fun h=>by simpa using h25 gQ),(fun h=>⟨by simpa using (h19 gQ).1,(h19 gQ).2⟩)⟩
    ·intro L a w' hL hd hI
     obtain⟨V,hf,hO,h25,h19⟩:=hI;simp [lm,Region.binds] at hd
     refine oX (mf rfl (nQ rfl ((hf.ins hnd hbd 5 rfl).trans (Jp some (hO.vs 5 gW)))) gR) ?_;exact⟨_,hf.put hnd hbd 12 rfl _,hO.pure 12 gR (fun e=>by cases e),(fun h=>by simpa using h25 gQ),(fun h=>⟨by simpa using (h19 gQ).1,(h19 gQ).2⟩)⟩
    ·intro L a w' hL hd hI
     obtain⟨V,hf,hO,h25,h19⟩:=hI;simp [lm,Region.binds] at hd
     refine oX (mf rfl (nQ rfl ((hf.ins hnd hbd 5 rfl).trans (Jp some (hO.vs 5 gW)))) gR) ?_;exact⟨_,hf.put hnd hbd 13 rfl _,hO.pure 13 gR (fun e=>by cases e),(fun h=>by simpa using h25 gQ),(fun h=>⟨by simpa using (h19 gQ).1,(h19 gQ).2⟩)⟩
    ·intro L a w' hL hd hI
     obtain⟨V,hf,hO,h25,h19⟩:=hI;simp [lm,Region.binds] at hd
     refine oX (mf rfl (nQ rfl ((hf.ins hnd hbd 5 rfl).trans (Jp some (hO.vs 5 gW)))) gR) ?_;exact⟨_,hf.put hnd hbd 14 rfl _,hO.pure 14 gR (fun e=>by cases e),(fun h=>by simpa using h25 gQ),(fun h=>⟨by simpa using (h19 gQ).1,(h19 gQ).2⟩)⟩
    ·intro L a w' hL hd hI
     obtain⟨V,hf,hO,h25,h19⟩:=hI;simp [lm,Region.binds] at hd
     refine oX (mf rfl (nQ rfl ((hf.ins hnd hbd 5 rfl).trans (Jp some (hO.vs 5 gW)))) gR) ?_;exact⟨_,hf.put hnd hbd 15 rfl _,hO.pure 15 gR (fun e=>by cases e),(fun h=>by simpa using h25 gQ),(fun h=>⟨by simpa using (h19 gQ).1,(h19 gQ).2⟩)⟩
    ·intro L a w' hL hd hI
     obtain⟨V,hf,hO,h25,h19⟩:=hI;simp [lm,Region.binds] at hd
     refine oX (mf rfl (nQ rfl ((hf.ins hnd hbd 5 rfl).trans (Jp some (hO.vs 5 gW)))) gR) ?_;exact⟨_,hf.put hnd hbd 16 rfl _,hO.pure 16 gR (fun e=>by cases e),(fun h=>by simpa using h25 gQ),(fun h=>⟨by simpa using (h19 gQ).1,(h19 gQ).2⟩)⟩
    ·intro L a w' hL hd hI
     obtain⟨V,hf,hO,h25,h19⟩:=hI;simp [lm,Region.binds] at hd
     refine oX (mf rfl (nQ rfl ((hf.ins hnd hbd 5 rfl).trans (Jp some (hO.vs 5 gW)))) gR) ?_;exact⟨_,hf.put hnd hbd 17 rfl _,hO.pure 17 gR (fun e=>by cases e),(fun h=>by simpa using h25 gQ),(fun h=>⟨by simpa using (h19 gQ).1,(h19 gQ).2⟩)⟩
    ·intro L a w' hL hd hI
     obtain⟨V,hf,hO,h25,h19⟩:=hI;simp [lm,Region.binds] at hd
     have e:=(lU ((hf.ins hnd hbd 5 rfl).trans (Jp some (hO.vs 5 gW))));refine lR (lg rfl) (zd rfl e) ?_;rw [Jl gR];exact fP
    ·exact fC
   ·intro L a w' hL hI
    obtain⟨V,hf,hO,h25,h19⟩:=hI;obtain⟨a8,c8,hv2,hG8,hR8,ho8⟩:=hO.h1 (hL 2 gR);have hv18:V 18=.bool (!false||decide (j<s.length)):=hO.vs 18 (hL 18 gR);have hv19:=(h19 (hL 19 gR)).2;rw [hv2] at hv19;have ha:=hf.eq;have hA:=HA.out;subst ha;subst hA;simp only [mW,hv2,hv18,hv19,List.drop_succ_cons,JZ];clear e0 e1 e6 e7 hsz hbd hf HA hO h25 h19;go_wp2
    go_ret2
    exact PartsPost.mk' (o':=lO o t) (rest:=s.drop j) HX.out hG8 rfl rfl kQ hR8 HS1.out HS2.out ho8 hgB rfl
  | cons c r =>
   obtain⟨h2,h3,hr⟩:=lG hd;have gl:decide ((j:Int)<(s.length:Int))=true:=JR gN;have gln:decide (j<s.length)=true:=JR gN;have HD:=ab hd;have HNC:=ab hk;have HF:Hid (lu false o t (c::r)=RX):=ab iL;clear hd h3 hr;go_wp2
   refine kZ gT gT ?_;repeat (go_big_quiet_step ((fail)))
   refine wpQuiet_nil ?_;rintro _ ⟨xq,rfl⟩;have hba:=xq.ext;have hra:=HRS.out.later hba;have hoa:=ho.later hba;have hta:=lh ht hba;have hga:=HG.out.trans (Gr2.below hba);generalize xq.val=wa at *
   clear d0 d1 ho ht HRS HG;have hBd:=hba;have HOA:=ab hoa;have HTA:=ab hta;have HRA:=ab hra;have HGA:=ab hga;have HPC:=ab (HPP.out S1 wa j c r hra HD.out gN);clear hba hra hoa hta hga hBd;cases hdo:dolM l7 c r with
   | none =>
    have HDO:=ab hdo;have HXN:Hid (lu false o (t++[(nxtM three (c::r)).1]) (nxtM three (c::r)).2=RX):=ab iv;have HLN:Hid ((nxtM three (c::r)).2.length≤r.length∧r.length+1=s.length-j):=ab ⟨nU _ _ _,by have:=Jp List.length HD.out;simp at this;omega⟩;clear hdo HF;go_wp2_with (go_at_call 40;refine HPC.out.mono ?_)
    rintro e w4 ⟨hg4,S4,j4,cc,x,ok,rfl,hr4,hT1,hT2,hxv,hm⟩;have hok:ok=false:=by have h:=hm;rw [HDO.out] at h;exact h.1
    have hj4:j4=j:=by have h:=hm;rw [HDO.out] at h;exact h.2 rfl
    subst hok;subst hj4;have hcl:=hxv.len;have hone:=hxv.one;have hnS4:NotOwn S4 v6:=HN6.out.wide (fun k hk=>(HOA.out.lt k hk).2) hT2;have hnS4':NotOwn S4 v7:=HN7.out.wide (fun k hk=>(HTA.out.lt k hk).2) hT2;have hgm:=hr4.gm;have ho4:=(HOA.out.gr2 hg4 hgB gN HRA.out.ng HRA.out.nm).mono (S':=S4) fun b hb _=>hT1 b hb
    have ht4:=wS HTA.out hg4 hgB gN;obtain⟨W5,hW5⟩:∃W5,W5=w4.alloc (.cells cc.toArray 44):=⟨_,rfl⟩;have HW5:Hid ((w4.alloc s0).setRow w4.heap.size cc.toArray=W5):=ab jg;have hb5:Below w4.heap.size w4 W5:=by rw [hW5];exact(Below.refl _ _).alloc (Ju _) _
    have HR5:=ab (hr4.later hb5);have HO5:=ab (ho4.later hb5);have HT5:=ab (lh ht4 hb5);have HG5:=ab (HGA.out.trans (hg4.trans (Gr2.below hb5)));have HS14:Hid (∀b,S b→S4 b):=ab fun b hb=>hT1 b (HS1.out b hb)
    have HS24:Hid (∀b,S4 b→S b∨w.heap.size≤b):=ab fun b hb=>by
     exact fW
    have HN64:=ab hnS4;have HN74:=ab hnS4';have HONE:Hid (∀u∈cc.toArray.toList,u.oneCell'=true):=ab (fun u hu=>hone u iY);clear hW5 hb5 hr4 ho4 ht4 hg4 hT1 hT2 hxv hm hone hnS4 hnS4';go_upto_region 7 with(refine ll rfl 44 (.tmp 8) (.tmp 35) rfl (w4.heap.size) (cc.toArray) rfl rfl 44 _ (heap_alloc_new w4 _) (ld) iH rfl (HONE.out) (W:=W5) (HW5.out) ?_)
    clear HW5 HPC HOA HTA HRA HGA HONE;have HNX:=ab (F4 (th:=[36,125,92]) W5 HR5.out.pl HD.out gU);go_wp2_with (go_at_call 42;refine HNX.out.mono ?_)
    rintro e w6 ⟨rfl,⟨j2,hp2,hd2,hj2⟩,hg6⟩;have hr6:=HR5.out.place hp2 hg6;have ho6:=HO5.out.gr2 (Gr2.grown (m:=m) hg6) hgB gN HR5.out.ng HR5.out.nm;have ht6:=wS HT5.out (Gr2.grown (m:=m) hg6) hgB gN;have hg6':=HG5.out.trans (Gr2.grown hg6);have hls:s.length-j2<s.length-j4∧j4<j2:=by
     exact cY
    obtain⟨nb,hnb⟩:∃nb,nb=(nxtM [36,125,92] (c::r)).1:=⟨_,rfl⟩;have HX2:Hid (lu false o (t++[nb]) (s.drop j2)=RX):=ab (by rw [hd2,hnb];exact HXN.out);exact aW
   | some y =>
    obtain⟨y1,y2⟩:=y;have HDO:=ab hdo;have HXN:Hid (lu false (lO o t++[y1]) [] y2=RX):=ab iv;exact ak
end Go.Proofs.YtdcnncgpomcaaaaGreatDoor
