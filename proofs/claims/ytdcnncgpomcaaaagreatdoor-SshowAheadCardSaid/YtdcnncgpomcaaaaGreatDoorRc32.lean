/- walk of sread: parts, inside of braces -/
import Derived.Test.YtdcnncgpomcaaaaGreatDoorRc30
set_option maxRecDepth 100000
set_option maxHeartbeats 4000000
namespace Go.Proofs.YtdcnncgpomcaaaaGreatDoor
open Go.RowKit Go.Maps Go.MapKept
open Go.ChangeMaps (setBlock)
theorem Jc {g m:Nat} {s:Str} {N:Nat} (hs:s.length≤100000) (HP:PartC g m s N) (S:Nat→Prop) (w:World) (i:Nat) (h:Rs S w g m s i) (hN:s.length-i≤N) :
  Calls Tryz.prog 24 #[.pointer (some ⟨g,0,none⟩),.bool true] w fun e w'=>PartsPost S g m s true (lu true [] [] (s.drop i)) w e w':=by
 obtain⟨RX,hRX⟩:∃RX,lu true [] [] (s.drop i)=RX:=⟨_,rfl⟩;rw [hRX];have HR:=ab hRX;have HPP:=ab HP;have hgB:=h.pl.lt;have hmg:=h.gm;have HRS0:=ab h;obtain⟨iu,hiu⟩:=info_parts qP;obtain⟨iN,hiN⟩:=info_parts px;clear h hRX HP;go_enter Tryz.func24,Tryz.ntmps24
 go_wp2
 go_loopg [6,7] (s.length+1) (fun k v6 v7 wr=>PtRel S g m s true i w RX k v6 v7 wr)
 case atStart=>exact cQ
 case round =>
  clear HR HRS0;obtain⟨v6,v7,S1,j,o,t,rfl,rfl,hrs,hij,hk,hS1,hS2,ho,ht,hg,hol,htl,hn6,hn7,HF⟩:=hrel;have hj:=hrs.pl.2.1;have hB:=hg.size;have HRS:=ab hrs;have HG:=ab hg;have HS1:=ab hS1;have HS2:=ab hS2;have HN6:=ab hn6;have HN7:=ab hn7;have d0:∀x':ExtOf wr,x'.val.cell? ⟨g,0,none⟩=some (.string ⟨s.toArray⟩):=ExtOf.cell hrs.pl.c0;have d1:∀x':ExtOf wr,x'.val.cell? ⟨g,1,none⟩=some (.int .i64 j):=ExtOf.cell hrs.pl.c1;clear hrs hg hS1 hS2 hn6 hn7;cases hd:s.drop j with
  | nil =>
   have h2:=ms hd;have gl:decide ((j:Int)<(s.length:Int))=false:=JT gN;have gln:decide (j<s.length)=false:=JT gN;have HX:Hid (RX=(lO o t,s.drop j)):=ab iE;have HOK:Hid ((!true||!(s.drop j).isEmpty)=false):=ab (by rw [hd];rfl);clear hd HF;go_wp2
   refine kZ gT gT ?_;repeat (go_big_quiet_step ((fail)))
   refine wpQuiet_nil ?_;rintro _ ⟨xq,rfl⟩;have hba:=xq.ext;have hra:=HRS.out.later hba;have hoa:=ho.later hba;have hta:=lh ht hba;have hga:=HG.out.trans (Gr2.below hba);generalize xq.val=wa at *
   clear d0 d1 ho ht HRS HG;exact ag
  | cons c r =>
   obtain⟨h2,h3,hr⟩:=lG hd;have gl:decide ((j:Int)<(s.length:Int))=true:=JR gN;have gln:decide (j<s.length)=true:=JR gN;have HD:=ab hd;have HSEE:Hid (∀x':ExtOf wr,Calls Tryz.prog 39 #[.pointer (some ⟨g,0,none⟩),.string ⟨([125]).toArray⟩] x'.val fun e w'=>e=.returned (.bool (decide (c.toNat=125)))∧Below x'.val.heap.size x'.val w'):=ab fun x'=>(CQ (p:=[125]) _ (HRS.out.pl.later x'.ext) gU).mono fun _ _ ⟨h1,h2⟩=>⟨by rw [h1,hd,pre1];rfl,h2⟩
   by_cases h125:c.toNat=125
   ·rw [JR h125] at HSEE
    have HX:Hid (RX=(lO o t,s.drop j)):=ab (by rw [←HF.out,hd,l6,Jl ⟨rfl,h125⟩]);have HOK:Hid ((!true||!(s.drop j).isEmpty)=true):=ab (by rw [hd];rfl);clear hd h3 hr HF h125;go_wp2
    refine kZ gT gT ?_;repeat (go_big_quiet_step ((go_at_call 39;exact lW (HSEE.out _))))
    refine wpQuiet_nil ?_;rintro _ ⟨xq,rfl⟩;have hba:=xq.ext;have hra:=HRS.out.later hba;have hoa:=ho.later hba;have hta:=lh ht hba;have hga:=HG.out.trans (Gr2.below hba);generalize xq.val=wa at *
    clear d0 d1 ho ht HRS HG;clear HSEE;exact ag
   ·rw [JT h125] at HSEE
    have HNC:Hid (c.toNat≠125):=ab h125;have HF:Hid (lu true o t (c::r)=RX):=ab iL;clear hd h3 hr h125;go_wp2
    refine kZ gT gT ?_;repeat (go_big_quiet_step ((go_at_call 39;exact lW (HSEE.out _))))
    refine wpQuiet_nil ?_;rintro _ ⟨xq,rfl⟩;have hba:=xq.ext;have hra:=HRS.out.later hba;have hoa:=ho.later hba;have hta:=lh ht hba;have hga:=HG.out.trans (Gr2.below hba);generalize xq.val=wa at *
    clear d0 d1 ho ht HRS HG;clear HSEE;have hBd:=hba;have HOA:=ab hoa;have HTA:=ab hta;have HRA:=ab hra;have HGA:=ab hga;have HPC:=ab (HPP.out S1 wa j c r hra HD.out gN);clear hba hra hoa hta hga hBd;cases hdo:dolM l7 c r with
    | none =>
     have HDO:=ab hdo;have HXN:Hid (lu true o (t++[(nxtM three (c::r)).1]) (nxtM three (c::r)).2=RX):=ab iv;have HLN:Hid ((nxtM three (c::r)).2.length≤r.length∧r.length+1=s.length-j):=ab ⟨nU _ _ _,by have:=Jp List.length HD.out;simp at this;omega⟩;clear hdo HF;go_wp2_with (go_at_call 40;refine HPC.out.mono ?_)
     rintro e w4 ⟨hg4,S4,j4,cc,x,ok,rfl,hr4,hT1,hT2,hxv,hm⟩;have hok:ok=false:=by have h:=hm;rw [HDO.out] at h;exact h.1
     have hj4:j4=j:=by have h:=hm;rw [HDO.out] at h;exact h.2 rfl
     subst hok;subst hj4;have hcl:=hxv.len;have hone:=hxv.one;have hnS4:NotOwn S4 v6:=HN6.out.wide (fun k hk=>(HOA.out.lt k hk).2) hT2;have hnS4':NotOwn S4 v7:=HN7.out.wide (fun k hk=>(HTA.out.lt k hk).2) hT2;have hgm:=hr4.gm;have ho4:=(HOA.out.gr2 hg4 hgB gN HRA.out.ng HRA.out.nm).mono (S':=S4) fun b hb _=>hT1 b hb
     have ht4:=wS HTA.out hg4 hgB gN;obtain⟨W5,hW5⟩:∃W5,W5=w4.alloc (.cells cc.toArray 44):=⟨_,rfl⟩;have HW5:Hid ((w4.alloc s0).setRow w4.heap.size cc.toArray=W5):=ab jg;have hb5:Below w4.heap.size w4 W5:=by rw [hW5];exact(Below.refl _ _).alloc (Ju _) _
     have HR5:=ab (hr4.later hb5);have HO5:=ab (ho4.later hb5);have HT5:=ab (lh ht4 hb5);have HG5:=ab (HGA.out.trans (hg4.trans (Gr2.below hb5)));have HS14:Hid (∀b,S b→S4 b):=ab fun b hb=>hT1 b (HS1.out b hb)
     have HS24:Hid (∀b,S4 b→S b∨w.heap.size≤b):=ab fun b hb=>by
      exact fW
     have HN64:=ab hnS4;have HN74:=ab hnS4';have HONE:Hid (∀u∈cc.toArray.toList,u.oneCell'=true):=ab (fun u hu=>hone u iY);clear hW5 hb5 hr4 ho4 ht4 hg4 hT1 hT2 hxv hm hone hnS4 hnS4';go_upto_region 7 with(refine ll rfl 44 (.tmp 8) (.tmp 35) rfl (w4.heap.size) (cc.toArray) rfl rfl 44 _ (heap_alloc_new w4 _) (ld) iH rfl (HONE.out) (W:=W5) (HW5.out) ?_)
     clear HW5 HPC HOA HTA HRA HGA HONE;have HNX:=ab (F4 (th:=[36,125,92]) W5 HR5.out.pl HD.out gU);go_wp2_with (go_at_call 42;refine HNX.out.mono ?_)
     rintro e w6 ⟨rfl,⟨j2,hp2,hd2,hj2⟩,hg6⟩;have hr6:=HR5.out.place hp2 hg6;have ho6:=HO5.out.gr2 (Gr2.grown (m:=m) hg6) hgB gN HR5.out.ng HR5.out.nm;have ht6:=wS HT5.out (Gr2.grown (m:=m) hg6) hgB gN;have hg6':=HG5.out.trans (Gr2.grown hg6);have hls:s.length-j2<s.length-j4∧j4<j2:=by
      exact cY
     obtain⟨nb,hnb⟩:∃nb,nb=(nxtM [36,125,92] (c::r)).1:=⟨_,rfl⟩;have HX2:Hid (lu true o (t++[nb]) (s.drop j2)=RX):=ab (by rw [hd2,hnb];exact HXN.out);exact aW
    | some y =>
     obtain⟨y1,y2⟩:=y;have HDO:=ab hdo;have HXN:Hid (lu true (lO o t++[y1]) [] y2=RX):=ab iv;exact ak
open Go.RowKit Go.Maps Go.MapKept
open Go.ChangeMaps (setBlock)
theorem uG {c:UInt8} {s:Str} {i:Nat} (h:¬∃r1,s.drop i=c::r1):List.isPrefixOf [c] (s.drop i)=false:=by
 cases hd:s.drop i with
 | nil=>rfl
 | cons d r=>rw [pre1];exact JT fun e=>h ⟨r,by rw [hd,show d=c from Jk.1 e]⟩
theorem ES {g m:Nat} {s:Str} (S:Nat→Prop) (w:World) (i:Nat) {k:Int} {t:Str} {n:Int} (h:Rs S w g m s i) {r1:Str} (hd:s.drop i=125::r1) :
  Calls Tryz.prog 76 #[.pointer (some ⟨g,0,none⟩),.agg #[.int .i64 k,.string ⟨t.toArray⟩,.int .i64 n,.bool false,.bool false,.int .i64 0,.string ⟨#[]⟩,.bool false,.slice none 0 0,.int .i64 0,.int .i64 0,.bool false,.slice none 0 0,.slice none 0 0,.bool false,.bool false,.slice none 0 0,.slice none 0 0]] w fun e w'=>OutX S g m s (lE (lu true [] []) (hdN k t n) (s.drop i)) false i w e w':=by
 have HRS:=ab h;have hgB:=h.pl.lt;have hi:=h.pl.2.1;have hmg:=h.gm;have hnb3:¬S w.heap.size∧w.heap.size≠g∧w.heap.size≠m:=⟨fun e=>by have:=h.lt _ e;omega,by omega,by omega⟩;have hnb4:¬S (w.heap.size+1)∧w.heap.size+1≠g∧w.heap.size+1≠m:=⟨fun e=>by have:=h.lt _ e;omega,by omega,by omega⟩;obtain⟨W0,hW0⟩:∃W0,W0=(w.alloc (.cells #[.int .i64 k,.string ⟨t.toArray⟩,.int .i64 n,.bool false,.bool false,.int .i64 0,.string ⟨#[]⟩,.bool false,.slice none 0 0,.int .i64 0,.int .i64 0,.bool false,.slice none 0 0,.slice none 0 0,.bool false,.bool false,.slice none 0 0,.slice none 0 0] 44)).alloc s0:=⟨_,rfl⟩;have hb0:Below w.heap.size w W0:=by rw [hW0];exact((Below.refl _ _).alloc (Ju _) _).alloc gU _
 have HX0:Hid (W0.heap[w.heap.size]?=some (.cells #[.int .i64 k,.string ⟨t.toArray⟩,.int .i64 n,.bool false,.bool false,.int .i64 0,.string ⟨#[]⟩,.bool false,.slice none 0 0,.int .i64 0,.int .i64 0,.bool false,.slice none 0 0,.slice none 0 0,.bool false,.bool false,.slice none 0 0,.slice none 0 0] 44 (0,0))):=ab ib;have HB0:Hid (W0.heap[w.heap.size+1]?=some s0):=ab (by
  have:=heap_alloc_new (w.alloc (.cells #[.int .i64 k,.string ⟨t.toArray⟩,.int .i64 n,.bool false,.bool false,.int .i64 0,.string ⟨#[]⟩,.bool false,.slice none 0 0,.int .i64 0,.int .i64 0,.bool false,.slice none 0 0,.slice none 0 0,.bool false,.bool false,.slice none 0 0,.slice none 0 0] 44)) s0
  rw [hW0];simpa using this)
 have HRS0:=ab (h.later hb0);have HG0:Hid (Gr2 g m w W0):=ab (Gr2.below hb0);have hz0:W0.heap.size=w.heap.size+2:=by rw [hW0];simp
 have HW0:=ab hW0;obtain⟨R,hR⟩:∃R,lE (lu true [] []) (hdN k t n) (s.drop i)=R:=⟨_,rfl⟩;rw [hR];have HE:Hid (R=some (hdN k t n,r1)):=ab (by rw [←hR,hd];exact uA _ _);have htk:=nK (p:=[125]) _ HRS0.out.pl gU (by rw [hd];rfl);rw [hW0] at htk;have HTK:=ab htk;have HDJ:Hid (s.drop (i+1)=r1):=ab (lG hd).2.2;clear h hd hR hW0 hb0 htk;go_enter Tryz.func76,Tryz.ntmps76
 go_wp2_with (go_at_call 73;refine HTK.out.mono ?_)
 first|rintro e w1 rfl hp1 hg1|rintro e w1 ⟨rfl,hp1,hg1⟩
 rw [←HW0.out] at hg1;have HR5:Hid (Rs S w1 g m s (i+1)):=ab (HRS0.out.place hp1 hg1);have HX5:=ab (lN HX0.out hg1 gN);have HB5:=ab (lN HB0.out hg1 gN);have HG5:Hid (Gr2 g m w w1):=ab (HG0.out.trans (Gr2.grown hg1));have HV5:=ab (hd_v w1 S k t n);have HON5:=ab (tm w k t n);have hS1:∀b,S b→S b:=fun _ h=>h
 have hS2:∀b,S b→S b∨w.heap.size≤b:=fun _ h=>.inl h
 have HB9:=ab (mF (w:=w1) (cs:=#[.int .i64 k,.string ⟨t.toArray⟩,.int .i64 n,.bool false,.bool false,.int .i64 0,.string ⟨#[]⟩,.bool false,.slice none 0 0,.int .i64 0,.int .i64 0,.bool false,.slice none 0 0,.slice none 0 0,.bool false,.bool false,.slice none 0 0,.slice none 0 0]) HB5.out);go_wp2_with (first|(fail)|(refine kV rfl 44 (.tmp 3) rfl (w.heap.size) 0 rfl ([.int .i64 k,.string ⟨t.toArray⟩,.int .i64 n,.bool false,.bool false,.int .i64 0,.string ⟨#[]⟩,.bool false,.slice none 0 0,.int .i64 0,.int .i64 0,.bool false,.slice none 0 0,.slice none 0 0,.bool false,.bool false,.slice none 0 0,.slice none 0 0]) _ (lc (ds:=[]) (HX5.out)) kX rfl iD ?_)|(refine ll rfl 44 (.tmp 4) (.tmp 12) rfl ((w.heap.size+1)) (#[.int .i64 k,.string ⟨t.toArray⟩,.int .i64 n,.bool false,.bool false,.int .i64 0,.string ⟨#[]⟩,.bool false,.slice none 0 0,.int .i64 0,.int .i64 0,.bool false,.slice none 0 0,.slice none 0 0,.bool false,.bool false,.slice none 0 0,.slice none 0 0]) rfl rfl 44 _ (HB5.out) (ld) rfl rfl (HON5.out) (W:=((w1).setRow (w.heap.size+1) #[.int .i64 k,.string ⟨t.toArray⟩,.int .i64 n,.bool false,.bool false,.int .i64 0,.string ⟨#[]⟩,.bool false,.slice none 0 0,.int .i64 0,.int .i64 0,.bool false,.slice none 0 0,.slice none 0 0,.bool false,.bool false,.slice none 0 0,.slice none 0 0])) (rfl) ?_))
 refine JM (nv Tryz.results76 kX ld HB9.out rfl rfl rfl) rfl ?_;rw [HE.out];exact⟨HG5.out.setRow gN _,S,_,_,(hdN k t n),true,rfl,HR5.out.setRow hnb4 _,hS1,hS2,HV5.out.setRow hnb4.1 _,⟨rfl,rfl,HDJ.out⟩⟩
theorem Fx {g m:Nat} {s:Str} (S:Nat→Prop) (w:World) (i:Nat) {t:Str} {n:Int} (h:Rs S w g m s i) {r1:Str} (hn125:List.isPrefixOf [125] (s.drop i)=false) (hn58:List.isPrefixOf [58] (s.drop i)=false) (hd:s.drop i=124::r1) :
  Calls Tryz.prog 76 #[.pointer (some ⟨g,0,none⟩),.agg #[.int .i64 1,.string ⟨t.toArray⟩,.int .i64 n,.bool false,.bool false,.int .i64 0,.string ⟨#[]⟩,.bool false,.slice none 0 0,.int .i64 0,.int .i64 0,.bool false,.slice none 0 0,.slice none 0 0,.bool false,.bool false,.slice none 0 0,.slice none 0 0]] w fun e w'=>OutX S g m s (lE (lu true [] []) (hdN 1 t n) (s.drop i)) false i w e w':=by
 have HRS:=ab h;have hgB:=h.pl.lt;have hi:=h.pl.2.1;have hmg:=h.gm;have hnb3:¬S w.heap.size∧w.heap.size≠g∧w.heap.size≠m:=⟨fun e=>by have:=h.lt _ e;omega,by omega,by omega⟩;have hnb4:¬S (w.heap.size+1)∧w.heap.size+1≠g∧w.heap.size+1≠m:=⟨fun e=>by have:=h.lt _ e;omega,by omega,by omega⟩;obtain⟨W0,hW0⟩:∃W0,W0=(w.alloc (.cells #[.int .i64 1,.string ⟨t.toArray⟩,.int .i64 n,.bool false,.bool false,.int .i64 0,.string ⟨#[]⟩,.bool false,.slice none 0 0,.int .i64 0,.int .i64 0,.bool false,.slice none 0 0,.slice none 0 0,.bool false,.bool false,.slice none 0 0,.slice none 0 0] 44)).alloc s0:=⟨_,rfl⟩;have hb0:Below w.heap.size w W0:=by rw [hW0];exact((Below.refl _ _).alloc (Ju _) _).alloc gU _
 have HX0:Hid (W0.heap[w.heap.size]?=some (.cells #[.int .i64 1,.string ⟨t.toArray⟩,.int .i64 n,.bool false,.bool false,.int .i64 0,.string ⟨#[]⟩,.bool false,.slice none 0 0,.int .i64 0,.int .i64 0,.bool false,.slice none 0 0,.slice none 0 0,.bool false,.bool false,.slice none 0 0,.slice none 0 0] 44 (0,0))):=ab ib;have HB0:Hid (W0.heap[w.heap.size+1]?=some s0):=ab (by
  have:=heap_alloc_new (w.alloc (.cells #[.int .i64 1,.string ⟨t.toArray⟩,.int .i64 n,.bool false,.bool false,.int .i64 0,.string ⟨#[]⟩,.bool false,.slice none 0 0,.int .i64 0,.int .i64 0,.bool false,.slice none 0 0,.slice none 0 0,.bool false,.bool false,.slice none 0 0,.slice none 0 0] 44)) s0
  rw [hW0];simpa using this)
 have HRS0:=ab (h.later hb0);have HG0:Hid (Gr2 g m w W0):=ab (Gr2.below hb0);have hz0:W0.heap.size=w.heap.size+2:=by rw [hW0];simp
 have HW0:=ab hW0;obtain⟨R,hR⟩:∃R,lE (lu true [] []) (hdN 1 t n) (s.drop i)=R:=⟨_,rfl⟩;rw [hR];have htk:=nl (p:=[125]) _ HRS0.out.pl gU hn125;rw [hW0] at htk;have HTK:=ab htk;clear htk hW0;have HN58:=ab hn58;have HE:Hid (R=re (hdN 1 t n) r1):=ab (by rw [←hR,hd];simp only [lE];rw [Jo gR,Jo gR,Jl ⟨by decide,rfl⟩]);have hyes:List.isPrefixOf [124] (s.drop i)=true:=by rw [hd];rfl
 have HYES:=ab hyes;have HDJ:Hid (s.drop (i+1)=r1):=ab (lG hd).2.2;clear h hd hR hb0 hn125 hn58 hyes;go_enter Tryz.func76,Tryz.ntmps76
 go_wp2_with (go_at_call 73;refine HTK.out.mono ?_)
 first|rintro e w1 rfl hp1 hg1|rintro e w1 ⟨rfl,hp1,hg1⟩
 rw [←HW0.out] at hg1;have HTK2:=ab (nl (p:=[58]) _ hp1 gU HN58.out);go_wp2_with (go_at_call 73;refine HTK2.out.mono ?_)
 first|rintro e w2 rfl hp2 hg2|rintro e w2 ⟨rfl,hp2,hg2⟩
 have hx2:=lN (lN HX0.out hg1 gN) hg2 gN;have kc:=kU hx2 0 rfl;have HTK3:=ab (nK (p:=[124]) _ hp2 gU HYES.out);go_wp2_with (go_at_call 73;refine HTK3.out.mono ?_)
 first|rintro e w3 rfl hp3 hg3|rintro e w3 ⟨rfl,hp3,hg3⟩
 have hx3:=lN hx2 hg3 gN;have kc3:=kU hx3 0 rfl;have kf3:=mg hx3 0;have hg03:=kR (kR hg1 hg2) hg3;obtain⟨W4,hW4⟩:∃W4,W4=w3.setCell ⟨w.heap.size,0,none⟩ (.int .i64 2):=⟨_,rfl⟩;have HR3:Hid (Rs S w3 g m s (i+1)):=ab (HRS0.out.place hp3 hg03);have HR4:=ab (hW4▸HR3.out.setCell (a:=⟨w.heap.size,0,none⟩) hnb3 (.int .i64 2));have HG4:=ab (hW4▸(HG0.out.trans (Gr2.grown hg03)).setNew (a:=⟨w.heap.size,0,none⟩) (Ju _) (.int .i64 2));have HX4:Hid (W4.heap[w.heap.size]?=some (.cells #[.int .i64 2,.string ⟨t.toArray⟩,.int .i64 n,.bool false,.bool false,.int .i64 0,.string ⟨#[]⟩,.bool false,.slice none 0 0,.int .i64 0,.int .i64 0,.bool false,.slice none 0 0,.slice none 0 0,.bool false,.bool false,.slice none 0 0,.slice none 0 0] 44 (0,0))):=ab i6;have HB4:Hid (W4.heap[w.heap.size+1]?=some s0):=ab g7;have hz4:w.heap.size+2≤W4.heap.size:=by rw [hW4];simp only [World.size_setCell];have:=hg03.size;omega
 have hop:=F8 W4 HR4.out.pl;rw [HDJ.out] at hop;have HE2:Hid (R=if List.isPrefixOf [124,125] (optL r1 [] []).2=true then some ((hdN 1 t n).choose (optL r1 [] []).1,(optL r1 [] []).2.drop 2) else none):=ab (by rw [HE.out,optsM_eq]);generalize optL r1 [] []=q at hop HE2
 have HOP:=ab hop;clear hop HE HDJ;go_upto_region 10 with fail
 rw [←hW4];clear hW4 hx3 kc3 kf3 hp3 hg3 hg03 hx2 kc hp1 hg1 hp2 hg2 HTK HTK2 HTK3 HR3;go_wp2_with (go_at_call 93;refine HOP.out.mono ?_)
 rintro e w5 ⟨hg5,a,cp,j5,rfl,hsl,hln,hp5,hd5⟩;have hz5:=hg5.size;have hx5:=lN HX4.out hg5 gN;have kc5:=kU hx5 16 rfl;have kf5:=mg hx5 16;obtain⟨W6,hW6⟩:∃W6,W6=w5.setCell ⟨w.heap.size,16,none⟩ (.slice a q.1.length cp):=⟨_,rfl⟩;have hz6:W6.heap.size=w5.heap.size:=by rw [hW6];simp
 have hR5:=HR4.out.place hp5 hg5;have HR5:Hid (Rs (fun b=>S b∨(W4.heap.size≤b∧b<w5.heap.size)) W6 g m s j5):=ab (by
  rw [hW6];refine(hR5.setCell (a:=⟨w.heap.size,16,none⟩) hnb3 _).mono (fun b hb=>.inl hb) ?_ ?_ ?_
  ·exact eP
  ·exact eQ
  ·rintro b (e|⟨_,e⟩)
   ·simp only [World.size_setCell];have:=HRS.out.lt b e;omega
   ·simpa using e)
 have hnb4':¬(S (w.heap.size+1)∨(W4.heap.size≤w.heap.size+1∧w.heap.size+1<w5.heap.size)):=by
  rintro(e|⟨e,_⟩)
  ·exact hnb4.1 e
  ·omega
 have HG5:Hid (Gr2 g m w W6):=ab (by rw [hW6];exact(HG4.out.trans (Gr2.grown hg5)).setNew (a:=⟨w.heap.size,16,none⟩) (Ju _) _);have HX5:Hid (W6.heap[w.heap.size]?=some (.cells #[.int .i64 2,.string ⟨t.toArray⟩,.int .i64 n,.bool false,.bool false,.int .i64 0,.string ⟨#[]⟩,.bool false,.slice none 0 0,.int .i64 0,.int .i64 0,.bool false,.slice none 0 0,.slice none 0 0,.bool false,.bool false,.slice a q.1.length cp,.slice none 0 0] 44 (0,0))):=ab ju;have HB5:Hid (W6.heap[w.heap.size+1]?=some s0):=ab (by rw [hW6];exact(heap_setCell_other _ _ _ _ iJ).trans (lN HB4.out hg5 gN));have HV5:Hid (SnV W6 (fun b=>S b∨(W4.heap.size≤b∧b<w5.heap.size)) [.int .i64 2,.string ⟨t.toArray⟩,.int .i64 n,.bool false,.bool false,.int .i64 0,.string ⟨#[]⟩,.bool false,.slice none 0 0,.int .i64 0,.int .i64 0,.bool false,.slice none 0 0,.slice none 0 0,.bool false,.bool false,.slice a q.1.length cp,.slice none 0 0] (.mk 2 t n false false tf0 q.1 [])):=ab (by
  refine hx_v (ks:=[]) ?_ (SnSl.nil _ _ _);rw [hW6];refine SlS.keep (hsl.mono fun b hb hlt=>.inr ⟨hb,hlt⟩) (Kept.setLow _ fun b hb=>?_);rcases hb with hb|⟨hb,_⟩
  ·rintro rfl;exact hnb3.1 hb
  ·show b≠w.heap.size;omega)
 have HON5:=ab HV5.out.one;have hS1:∀b,S b→(S b∨(W4.heap.size≤b∧b<w5.heap.size)):=fun _ h=>.inl h
 have hS2:∀b,(S b∨(W4.heap.size≤b∧b<w5.heap.size))→S b∨w.heap.size≤b:=fun b h=>h.imp id fun h=>by omega
 have HD5:=ab hd5;go_upto_region 11 with fail
 rw [←hW6];clear hW6 hx5 kc5 kf5 hp5 hg5 hd5 hsl hR5 HOP;have hnb4:¬(S (w.heap.size+1)∨(W4.heap.size≤w.heap.size+1∧w.heap.size+1<w5.heap.size))∧w.heap.size+1≠g∧w.heap.size+1≠m:=⟨hnb4',hnb4.2⟩;cases hok:List.isPrefixOf [124,125] q.2 with
 | true =>
  have HE:Hid (R=some ((hdN 1 t n).choose q.1,q.2.drop 2)):=ab (by rw [HE2.out,hok];rfl);have HDD:Hid (s.drop j5=q.2.drop 2):=ab (by rw [HD5.out,hok];rfl);clear HE2 hok;have HB9:=ab (mF (w:=W6) (cs:=#[.int .i64 2,.string ⟨t.toArray⟩,.int .i64 n,.bool false,.bool false,.int .i64 0,.string ⟨#[]⟩,.bool false,.slice none 0 0,.int .i64 0,.int .i64 0,.bool false,.slice none 0 0,.slice none 0 0,.bool false,.bool false,.slice a q.1.length cp,.slice none 0 0]) HB5.out);go_wp2_with (first|(fail)|(refine kV rfl 44 (.tmp 3) rfl (w.heap.size) 0 rfl ([.int .i64 2,.string ⟨t.toArray⟩,.int .i64 n,.bool false,.bool false,.int .i64 0,.string ⟨#[]⟩,.bool false,.slice none 0 0,.int .i64 0,.int .i64 0,.bool false,.slice none 0 0,.slice none 0 0,.bool false,.bool false,.slice a q.1.length cp,.slice none 0 0]) _ (lc (ds:=[]) (HX5.out)) kX rfl iD ?_)|(refine ll rfl 44 (.tmp 4) (.tmp 50) rfl ((w.heap.size+1)) (#[.int .i64 2,.string ⟨t.toArray⟩,.int .i64 n,.bool false,.bool false,.int .i64 0,.string ⟨#[]⟩,.bool false,.slice none 0 0,.int .i64 0,.int .i64 0,.bool false,.slice none 0 0,.slice none 0 0,.bool false,.bool false,.slice a q.1.length cp,.slice none 0 0]) rfl rfl 44 _ (HB5.out) (ld) rfl rfl (HON5.out) (W:=((W6).setRow (w.heap.size+1) #[.int .i64 2,.string ⟨t.toArray⟩,.int .i64 n,.bool false,.bool false,.int .i64 0,.string ⟨#[]⟩,.bool false,.slice none 0 0,.int .i64 0,.int .i64 0,.bool false,.slice none 0 0,.slice none 0 0,.bool false,.bool false,.slice a q.1.length cp,.slice none 0 0])) (rfl) ?_))
  refine JM (nv Tryz.results76 kX ld HB9.out rfl rfl rfl) rfl ?_;rw [HE.out];exact⟨HG5.out.setRow gN _,(fun b=>S b∨(W4.heap.size≤b∧b<w5.heap.size)),_,_,(.mk 2 t n false false tf0 q.1 []),true,rfl,HR5.out.setRow hnb4 _,hS1,hS2,HV5.out.setRow hnb4.1 _,⟨rfl,rfl,HDD.out⟩⟩
 | false =>
  have HE:Hid (R=none):=ab (by rw [HE2.out,hok];rfl);clear HE2 hok;have HB9:=ab (mF (w:=W6) (cs:=#[.int .i64 2,.string ⟨t.toArray⟩,.int .i64 n,.bool false,.bool false,.int .i64 0,.string ⟨#[]⟩,.bool false,.slice none 0 0,.int .i64 0,.int .i64 0,.bool false,.slice none 0 0,.slice none 0 0,.bool false,.bool false,.slice a q.1.length cp,.slice none 0 0]) HB5.out);go_wp2_with (first|(fail)|(refine kV rfl 44 (.tmp 3) rfl (w.heap.size) 0 rfl ([.int .i64 2,.string ⟨t.toArray⟩,.int .i64 n,.bool false,.bool false,.int .i64 0,.string ⟨#[]⟩,.bool false,.slice none 0 0,.int .i64 0,.int .i64 0,.bool false,.slice none 0 0,.slice none 0 0,.bool false,.bool false,.slice a q.1.length cp,.slice none 0 0]) _ (lc (ds:=[]) (HX5.out)) kX rfl iD ?_)|(refine ll rfl 44 (.tmp 4) (.tmp 50) rfl ((w.heap.size+1)) (#[.int .i64 2,.string ⟨t.toArray⟩,.int .i64 n,.bool false,.bool false,.int .i64 0,.string ⟨#[]⟩,.bool false,.slice none 0 0,.int .i64 0,.int .i64 0,.bool false,.slice none 0 0,.slice none 0 0,.bool false,.bool false,.slice a q.1.length cp,.slice none 0 0]) rfl rfl 44 _ (HB5.out) (ld) rfl rfl (HON5.out) (W:=((W6).setRow (w.heap.size+1) #[.int .i64 2,.string ⟨t.toArray⟩,.int .i64 n,.bool false,.bool false,.int .i64 0,.string ⟨#[]⟩,.bool false,.slice none 0 0,.int .i64 0,.int .i64 0,.bool false,.slice none 0 0,.slice none 0 0,.bool false,.bool false,.slice a q.1.length cp,.slice none 0 0])) (rfl) ?_))
  refine JM (nv Tryz.results76 kX ld HB9.out rfl rfl rfl) rfl ?_;rw [HE.out];exact⟨HG5.out.setRow gN _,(fun b=>S b∨(W4.heap.size≤b∧b<w5.heap.size)),_,_,(.mk 2 t n false false tf0 q.1 []),false,rfl,HR5.out.setRow hnb4 _,hS1,hS2,HV5.out.setRow hnb4.1 _,⟨rfl,fun e=>by cases e⟩⟩
end Go.Proofs.YtdcnncgpomcaaaaGreatDoor
