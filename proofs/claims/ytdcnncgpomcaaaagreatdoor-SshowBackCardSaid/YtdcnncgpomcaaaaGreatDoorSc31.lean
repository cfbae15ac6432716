/- walk of sread: parts, outside of braces -/
import Derived.Test.YtdcnncgpomcaaaaGreatDoorSc30
set_option maxRecDepth 100000
set_option maxHeartbeats 4000000
namespace Go.Proofs.YtdcnncgpomcaaaaGreatDoor
open Go.RowKit Go.Maps Go.MapKept
open Go.ChangeMaps (setBlock)
theorem DY {g m:Nat} {s:Str} {N:Nat} (hs:s.length≤100000) (HP:PartC g m s N) (S:Nat→Prop) (w:World) (i:Nat) (h:Rs S w g m s i) (hN:s.length-i≤N) :
  Calls Tryz.prog 24 #[.pointer (some ⟨g,0,none⟩),.bool false] w fun e w'=>PartsPost S g m s false (kP false [] [] (s.drop i)) w e w':=by
 obtain⟨RX,hRX⟩:∃RX,kP false [] [] (s.drop i)=RX:=⟨_,rfl⟩;rw [hRX];have HR:=ab hRX;have HPP:=ab HP;have hgB:=h.pl.lt;have hmg:=h.gm;have HRS0:=ab h;obtain⟨iu,hiu⟩:=info_parts qj;obtain⟨iN,hiN⟩:=info_parts oV;clear h hRX HP;go_enter Tryz.func24,Tryz.ntmps24
 go_wp2
 go_loopg [6,7] (s.length+1) (fun k v6 v7 wr=>PtRel S g m s false i w RX k v6 v7 wr)
 case atStart=>exact cK
 case round =>
  clear HR HRS0;obtain⟨v6,v7,S1,j,o,t,rfl,rfl,hrs,hij,hk,hS1,hS2,ho,ht,hg,hol,htl,hn6,hn7,HF⟩:=hrel;have hj:=hrs.pl.2.1;have hB:=hg.size;have HRS:=ab hrs;have HG:=ab hg;have HS1:=ab hS1;have HS2:=ab hS2;have HN6:=ab hn6;have HN7:=ab hn7;have d0:∀x':ExtOf wr,x'.val.cell? ⟨g,0,none⟩=some (.string ⟨s.toArray⟩):=ExtOf.cell hrs.pl.c0;have d1:∀x':ExtOf wr,x'.val.cell? ⟨g,1,none⟩=some (.int .i64 j):=ExtOf.cell hrs.pl.c1;clear hrs hg hS1 hS2 hn6 hn7;cases hd:s.drop j with
  | nil =>
   have h2:=lX hd;have gl:decide ((j:Int)<(s.length:Int))=false:=Ix gj;have gln:decide (j<s.length)=false:=Ix gj;have HX:Hid (RX=(lw o t,s.drop j)):=ab ic;clear hd HF;go_wp2
   refine kE gC gC ?_;repeat (go_big_quiet_step ((fail)))
   refine wpQuiet_nil ?_;rintro _ ⟨xq,rfl⟩;have hba:=xq.ext;have hra:=HRS.out.later hba;have hoa:=ho.later hba;have hta:=kJ ht hba;have hga:=HG.out.trans (Gr2.below hba);generalize xq.val=wa at *
   clear d0 d1 ho ht HRS HG;have hBd:Below wa.heap.size wa wa.drew:=(Below.refl _ _).drew;have HOA:=ab (hoa.later hBd);have HTA:=ab (kJ hta hBd);have HRA:=ab (hra.later hBd);have HGA:=ab (hga.trans (Gr2.below hBd));have hzA:w.heap.size≤wa.drew.heap.size:=hga.size;have hsl:=hra.pl.2.2;clear hba hra hoa hta hga hBd;go_wp2
   refine lT 20 gC gC (fun A0 W0 L a w'=>R8I false S1 g m j s w (lw o t) v6 v7 A0 W0 L a w') ?_;intro A0 HA;have hsz:A0.tmps.size=70:=by rw [HA.out];rfl
   have hnd:[51,52,53,54,55,56,57,58,59,60,61,62,63,64,65,66,67,68,69,4].Nodup:=gv;have hbd:∀d∈[51,52,53,54,55,56,57,58,59,60,61,62,63,64,65,66,67,68,69,4],d<A0.tmps.size:=by rw [hsz];decide
   have e0:A0.tmps[0]?=some (.pointer (some ⟨g,0,none⟩)):=by rw [HA.out];rfl
   have e1:A0.tmps[1]?=some (.bool false):=by rw [HA.out];rfl
   have e6:A0.tmps[6]?=some v6:=by rw [HA.out];rfl
   have e7:A0.tmps[7]?=some v7:=by rw [HA.out];rfl
   refine⟨?_,?_,?_⟩
   ·obtain⟨V,hV⟩:=nd A0 [51,52,53,54,55,56,57,58,59,60,61,62,63,64,65,66,67,68,69,4]
    exact fY
   ·refine⟨?_,?_,?_,?_,?_,?_,?_,?_,?_,?_,?_,?_,?_,?_,?_,?_,?_,?_,?_,?_,trivial⟩
    ·exact eU
    ·exact eV
    ·exact eN
    ·exact eW
    ·intro L a w' hL hd hI
     obtain⟨V,hf,hO,h25,h19⟩:=hI;simp [kL,Region.binds] at hd
     have e:=(lx ((hf.ins hnd hbd 3 rfl).trans (Hy some (hO.vs 3 gE))));refine lr (kH rfl) (w':=w') (v:=.bool (!false)) gO ?_;exact fB
    ·exact eS
    ·intro L a w' hL hd hI
     obtain⟨V,hf,hO,h25,h19⟩:=hI;simp [kL,Region.binds] at hd
     refine oi (lM rfl (na rfl ((hf.ins hnd hbd 5 rfl).trans (Hy some (hO.vs 5 gE)))) gv) ?_;exact⟨_,hf.put hnd hbd 6 rfl _,hO.pure 6 gv (fun e=>by cases e),(fun h=>by simpa using h25 gu),(fun h=>⟨by simpa using (h19 gu).1,(h19 gu).2⟩)⟩
    ·intro L a w' hL hd hI
     obtain⟨V,hf,hO,h25,h19⟩:=hI;simp [kL,Region.binds] at hd
     refine oi (lM rfl (na rfl ((hf.ins hnd hbd 5 rfl).trans (Hy some (hO.vs 5 gE)))) gv) ?_;exact⟨_,hf.put hnd hbd 7 rfl _,hO.pure 7 gv (fun e=>by cases e),(fun h=>by simpa using h25 gu),(fun h=>⟨by simpa using (h19 gu).1,(h19 gu).2⟩)⟩
    ·intro L a w' hL hd hI
     obtain⟨V,hf,hO,h25,h19⟩:=hI;simp [kL,Region.binds] at hd
     refine oi (lM rfl (na rfl ((hf.ins hnd hbd 5 rfl).trans (Hy some (hO.vs 5 gE)))) gv) ?_;exact⟨_,hf.put hnd hbd 8 rfl _,hO.pure 8 gv (fun e=>by cases e),(fun h=>by simpa using h25 gu),(fun h=>⟨by simpa using (h19 gu).1,(h19 gu).2⟩)⟩
    ·intro L a w' hL hd hI
     obtain⟨V,hf,hO,h25,h19⟩:=hI;simp [kL,Region.binds] at hd
     refine oi (lM rfl (na rfl ((hf.ins hnd hbd 5 rfl).trans (Hy some (hO.vs 5 gE)))) gv) ?_;exact⟨_,hf.put hnd hbd 9 rfl _,hO.pure 9 gv (fun e=>by cases e),(fun h=>by simpa using h25 gu),(fun h=>⟨by simpa using (h19 gu).1,(h19 gu).2⟩)⟩
    ·intro L a w' hL hd hI
     obtain⟨V,hf,hO,h25,h19⟩:=hI;simp [kL,Region.binds] at hd
     refine oi (lM rfl (na rfl ((hf.ins hnd hbd 5 rfl).trans (Hy some (hO.vs 5 gE)))) gv) ?_;exact⟨_,hf.put hnd hbd 10 rfl _,hO.pure 10 gv (fun e=>by cases e),(fun h=>by simpa using h25 gu),(fun h=>⟨by simpa using (h19 gu).1,(h19 gu).2⟩)⟩
    ·intro L a w' hL hd hI
     obtain⟨V,hf,hO,h25,h19⟩:=hI;simp [kL,Region.binds] at hd
     refine oi (lM rfl (na rfl ((hf.ins hnd hbd 5 rfl).trans (Hy some (hO.vs 5 gE)))) gv) ?_;exact⟨_,hf.put hnd hbd 11 rfl _,hO.pure 11 gv (fun e=>by cases e),(fun h=>by simpa using h25 gu),(fun h=>⟨by simpa using (h19 gu).1,(h19 gu).2⟩)⟩
    ·intro L a w' hL hd hI
     obtain⟨V,hf,hO,h25,h19⟩:=hI;simp [kL,Region.binds] at hd
     refine oi (lM rfl (na rfl ((hf.ins hnd hbd 5 rfl).trans (Hy some (hO.vs 5 gE)))) gv) ?_;exact⟨_,hf.put hnd hbd 12 rfl _,hO.pure 12 gv (fun e=>by cases e),(fun h=>by simpa using h25 gu),(fun h=>⟨by simpa using (h19 gu).1,(h19 gu).2⟩)⟩
    ·intro L a w' hL hd hI
     obtain⟨V,hf,hO,h25,h19⟩:=hI;simp [kL,Region.binds] at hd
     refine oi (lM rfl (na rfl ((hf.ins hnd hbd 5 rfl).trans (Hy some (hO.vs 5 gE)))) gv) ?_;exact⟨_,hf.put hnd hbd 13 rfl _,hO.pure 13 gv (fun e=>by cases e),(fun h=>by simpa using h25 gu),(fun h=>⟨by simpa using (h19 gu).1,(h19 gu).2⟩)⟩
    ·intro L a w' hL hd hI
     obtain⟨V,hf,hO,h25,h19⟩:=hI;simp [kL,Region.binds] at hd
     refine oi (lM rfl (na rfl ((hf.ins hnd hbd 5 rfl).trans (Hy some (hO.vs 5 gE)))) gv) ?_;exact⟨_,hf.put hnd hbd 14 rfl _,hO.pure 14 gv (fun e=>by cases e),(fun h=>by simpa using h25 gu),(fun h=>⟨by simpa using (h19 gu).1,(h19 gu).2⟩)⟩
    ·intro L a w' hL hd hI
     obtain⟨V,hf,hO,h25,h19⟩:=hI;simp [kL,Region.binds] at hd
     refine oi (lM rfl (na rfl ((hf.ins hnd hbd 5 rfl).trans (Hy some (hO.vs 5 gE)))) gv) ?_;exact⟨_,hf.put hnd hbd 15 rfl _,hO.pure 15 gv (fun e=>by cases e),(fun h=>by simpa using h25 gu),(fun h=>⟨by simpa using (h19 gu).1,(h19 gu).2⟩)⟩
    ·intro L a w' hL hd hI
     obtain⟨V,hf,hO,h25,h19⟩:=hI;simp [kL,Region.binds] at hd
     refine oi (lM rfl (na rfl ((hf.ins hnd hbd 5 rfl).trans (Hy some (hO.vs 5 gE)))) gv) ?_;exact⟨_,hf.put hnd hbd 16 rfl _,hO.pure 16 gv (fun e=>by cases e),(fun h=>by simpa using h25 gu),(fun h=>⟨by simpa using (h19 gu).1,(h19 gu).2⟩)⟩
    ·intro L a w' hL hd hI
     obtain⟨V,hf,hO,h25,h19⟩:=hI;simp [kL,Region.binds] at hd
     refine oi (lM rfl (na rfl ((hf.ins hnd hbd 5 rfl).trans (Hy some (hO.vs 5 gE)))) gv) ?_;exact⟨_,hf.put hnd hbd 17 rfl _,hO.pure 17 gv (fun e=>by cases e),(fun h=>by simpa using h25 gu),(fun h=>⟨by simpa using (h19 gu).1,(h19 gu).2⟩)⟩
    ·intro L a w' hL hd hI
     obtain⟨V,hf,hO,h25,h19⟩:=hI;simp [kL,Region.binds] at hd
     have e:=(lx ((hf.ins hnd hbd 5 rfl).trans (Hy some (hO.vs 5 gE))));refine lr (kH rfl) (yN rfl e) ?_;rw [Hu gv];exact fA
    ·exact fb
   ·intro L a w' hL hI
    obtain⟨V,hf,hO,h25,h19⟩:=hI;obtain⟨a8,c8,hv2,hG8,hR8,ho8⟩:=hO.h1 (hL 2 gv);have hv18:V 18=.bool (!false||decide (j<s.length)):=hO.vs 18 (hL 18 gv);have hv19:=(h19 (hL 19 gv)).2;rw [hv2] at hv19;have ha:=hf.eq;have hA:=HA.out;subst ha;subst hA;simp only [ms,hv2,hv18,hv19,List.drop_succ_cons,ID];clear e0 e1 e6 e7 hsz hbd hf HA hO h25 h19;go_wp2
    go_ret2
    exact PartsPost.mk' (o':=lw o t) (rest:=s.drop j) HX.out hG8 rfl rfl ku hR8 HS1.out HS2.out ho8 hgB rfl
  | cons c r =>
   obtain⟨h2,h3,hr⟩:=kY hd;have gl:decide ((j:Int)<(s.length:Int))=true:=Iw gj;have gln:decide (j<s.length)=true:=Iw gj;have HD:=ab hd;have HNC:=ab hk;have HF:Hid (kP false o t (c::r)=RX):=ab io;clear hd h3 hr;go_wp2
   refine kE gC gC ?_;repeat (go_big_quiet_step ((fail)))
   refine wpQuiet_nil ?_;rintro _ ⟨xq,rfl⟩;have hba:=xq.ext;have hra:=HRS.out.later hba;have hoa:=ho.later hba;have hta:=kJ ht hba;have hga:=HG.out.trans (Gr2.below hba);generalize xq.val=wa at *
   clear d0 d1 ho ht HRS HG;have hBd:=hba;have HOA:=ab hoa;have HTA:=ab hta;have HRA:=ab hra;have HGA:=ab hga;have HPC:=ab (HPP.out S1 wa j c r hra HD.out gj);clear hba hra hoa hta hga hBd;cases hdo:dolM lI c r with
   | none =>
    have HDO:=ab hdo;have HXN:Hid (kP false o (t++[(nxtM three (c::r)).1]) (nxtM three (c::r)).2=RX):=ab gY;have HLN:Hid ((nxtM three (c::r)).2.length≤r.length∧r.length+1=s.length-j):=ab ⟨nV _ _ _,by have:=Hy List.length HD.out;simp at this;omega⟩;clear hdo HF;go_wp2_with (go_at_call 40;refine HPC.out.mono ?_)
    rintro e w4 ⟨hg4,S4,j4,cc,x,ok,rfl,hr4,hT1,hT2,hxv,hm⟩;have hok:ok=false:=by have h:=hm;rw [HDO.out] at h;exact h.1
    have hj4:j4=j:=by have h:=hm;rw [HDO.out] at h;exact h.2 rfl
    subst hok;subst hj4;have hcl:=hxv.len;have hone:=hxv.one;have hnS4:NotOwn S4 v6:=HN6.out.wide (fun k hk=>(HOA.out.lt k hk).2) hT2;have hnS4':NotOwn S4 v7:=HN7.out.wide (fun k hk=>(HTA.out.lt k hk).2) hT2;have hgm:=hr4.gm;have ho4:=(HOA.out.gr2 hg4 hgB gj HRA.out.ng HRA.out.nm).mono (S':=S4) fun b hb _=>hT1 b hb
    have ht4:=vx HTA.out hg4 hgB gj;obtain⟨W5,hW5⟩:∃W5,W5=w4.alloc (.cells cc.toArray 44):=⟨_,rfl⟩;have HW5:Hid ((w4.alloc (.cells #[.int .i64 0,.string ⟨#[]⟩,.int .i64 0,.bool false,.bool false,.int .i64 0,.string ⟨#[]⟩,.bool false,.slice none 0 0,.int .i64 0,.int .i64 0,.bool false,.slice none 0 0,.slice none 0 0,.bool false,.bool false,.slice none 0 0,.slice none 0 0] 44)).setRow w4.heap.size cc.toArray=W5):=ab gS;have hb5:Below w4.heap.size w4 W5:=by rw [hW5];exact(Below.refl _ _).alloc (Ia _) _
    have HR5:=ab (hr4.later hb5);have HO5:=ab (ho4.later hb5);have HT5:=ab (kJ ht4 hb5);have HG5:=ab (HGA.out.trans (hg4.trans (Gr2.below hb5)));have HS14:Hid (∀b,S b→S4 b):=ab fun b hb=>hT1 b (HS1.out b hb)
    have HS24:Hid (∀b,S4 b→S b∨w.heap.size≤b):=ab fun b hb=>by
     exact fH
    have HN64:=ab hnS4;have HN74:=ab hnS4';have HONE:Hid (∀u∈cc.toArray.toList,u.oneCell'=true):=ab (fun u hu=>hone u iD);clear hW5 hb5 hr4 ho4 ht4 hg4 hT1 hT2 hxv hm hone hnS4 hnS4';go_upto_region 7 with(refine kK rfl 44 (.tmp 8) (.tmp 35) rfl (w4.heap.size) (cc.toArray) rfl rfl 44 (#[.int .i64 0,.string ⟨#[]⟩,.int .i64 0,.bool false,.bool false,.int .i64 0,.string ⟨#[]⟩,.bool false,.slice none 0 0,.int .i64 0,.int .i64 0,.bool false,.slice none 0 0,.slice none 0 0,.bool false,.bool false,.slice none 0 0,.slice none 0 0]) (heap_alloc_new w4 _) (kF) ii rfl (HONE.out) (W:=W5) (HW5.out) ?_)
    clear HW5 HPC HOA HTA HRA HGA HONE;have HNX:=ab (Gz (th:=[36,125,92]) W5 HR5.out.pl HD.out gz);go_wp2_with (go_at_call 42;refine HNX.out.mono ?_)
    rintro e w6 ⟨rfl,⟨j2,hp2,hd2,hj2⟩,hg6⟩;have hr6:=HR5.out.place hp2 hg6;have ho6:=HO5.out.gr2 (Gr2.grown (m:=m) hg6) hgB gj HR5.out.ng HR5.out.nm;have ht6:=vx HT5.out (Gr2.grown (m:=m) hg6) hgB gj;have hg6':=HG5.out.trans (Gr2.grown hg6);have hls:s.length-j2<s.length-j4∧j4<j2:=by
     exact cS
    obtain⟨nb,hnb⟩:∃nb,nb=(nxtM [36,125,92] (c::r)).1:=⟨_,rfl⟩;have HX2:Hid (kP false o (t++[nb]) (s.drop j2)=RX):=ab (by rw [hd2,hnb];exact HXN.out);exact aW
   | some y =>
    obtain⟨y1,y2⟩:=y;have HDO:=ab hdo;have HXN:Hid (kP false (lw o t++[y1]) [] y2=RX):=ab gY;exact aj
end Go.Proofs.YtdcnncgpomcaaaaGreatDoor
