/- walk of sread: parts, inside of braces -/
import Derived.Test.YtbgcjpefocdkkaaGreatSm1
import Derived.Test.YtbgcjpefocdkkaaGreatSm2
import Derived.Test.YtbgcjpefocdkkaaGreatSm3
import Derived.Test.YtbgcjpefocdkkaaGreatSm4
import Derived.Test.YtbgcjpefocdkkaaGreatSm5
import Derived.Test.YtbgcjpefocdkkaaGreatSm6
import Derived.Test.YtbgcjpefocdkkaaGreatSm7
import Derived.Test.YtbgcjpefocdkkaaGreatSm8
import Derived.Test.YtbgcjpefocdkkaaGreatSm9
import Derived.Test.YtbgcjpefocdkkaaGreatSm10
import Derived.Test.YtbgcjpefocdkkaaGreatSm11
import Derived.Test.YtbgcjpefocdkkaaGreatSm12
import Derived.Test.YtbgcjpefocdkkaaGreatSm13
import Derived.Lib.ItoaMem
import Derived.Test.YtbgcjpefocdkkaaGreatSm14
import Derived.Test.YtbgcjpefocdkkaaGreatSm15
import Derived.Test.YtbgcjpefocdkkaaGreatSm16
import Derived.Test.YtbgcjpefocdkkaaGreatSm17
import Derived.Test.YtbgcjpefocdkkaaGreatSm18
import Derived.Test.YtbgcjpefocdkkaaGreatSm19
import Derived.Test.YtbgcjpefocdkkaaGreatSm20
import Derived.Test.YtbgcjpefocdkkaaGreatSm21
import Derived.Test.YtbgcjpefocdkkaaGreatSm23
import Derived.Test.YtbgcjpefocdkkaaGreatSm24
import Derived.Test.YtbgcjpefocdkkaaGreatSm27
set_option maxRecDepth 100000
namespace Go.Proofs.YtbgcjpefocdkkaaGreat
open Go.RowKit Go.Maps Go.MapKept
open Go.ChangeMaps (setBlock)
set_option maxHeartbeats 4000000 in
theorem parts_win {g m:Nat} {s:Str} {N:Nat} (hs:s.length≤100000) (HP:PartC g m s N) (S:Nat→Prop) (w:World) (i:Nat) (h:Rs S w g m s i) (hN:s.length-i≤N) :
  Calls Tryz.prog 12 #[.pointer (some ⟨g,0,none⟩),.bool true] w fun e w'=>PartsPost S g m s true (partsS true [] [] (s.drop i)) w e w':=by
 obtain⟨RX,hRX⟩:∃RX,partsS true [] [] (s.drop i)=RX:=⟨_,rfl⟩;rw [hRX];have HR:=Lib.hid hRX;have HPP:=Lib.hid HP;have hgB:=h.pl.lt;have hmg:=h.gm;have HRS0:=Lib.hid h;obtain⟨iu,hiu⟩:=info_parts u8_info;obtain⟨iN,hiN⟩:=info_parts snip_info;clear h hRX HP;go_enter Tryz.func12,Tryz.ntmps12
 go_wp2
 go_loopg [6,7] (s.length+1) (fun k v6 v7 wr=>PtRel S g m s true i w RX k v6 v7 wr)
 case atStart=>exact⟨_,_,S,i,[],[],rfl,rfl,HRS0.out,Nat.le_refl _,by omega,fun _ h=>h,fun _ h=>.inl h,OwnN.nil _ _ _,World.ownsRow_nil _ _ _ _,Gr2.refl _ _ _,by simp,by simp,NotOwn.nil _,NotOwn.nil _,HR⟩
 case round =>
  clear HR HRS0;obtain⟨v6,v7,S1,j,o,t,rfl,rfl,hrs,hij,hk,hS1,hS2,ho,ht,hg,hol,htl,hn6,hn7,HF⟩:=hrel;have hj:=hrs.pl.2.1;have hB:=hg.size;have HRS:=Lib.hid hrs;have HG:=Lib.hid hg;have HS1:=Lib.hid hS1;have HS2:=Lib.hid hS2;have HN6:=Lib.hid hn6;have HN7:=Lib.hid hn7;have d0:∀x':ExtOf wr,x'.val.cell? ⟨g,0,none⟩=some (.string ⟨(s).toArray⟩):=ExtOf.cell hrs.pl.c0;have d1:∀x':ExtOf wr,x'.val.cell? ⟨g,1,none⟩=some (.int .i64 j):=ExtOf.cell hrs.pl.c1;clear hrs hg hS1 hS2 hn6 hn7;cases hd:s.drop j with
  | nil =>
   have h2:=drop_nil hd;have gl:decide ((j:Int)<(s.length:Int))=false:=decide_eq_false (by omega);have gln:decide (j<s.length)=false:=decide_eq_false (by omega);have HX:Hid (RX=(withT o t,s.drop j)):=Lib.hid (by rw [←HF.out,hd];rfl);have HOK:Hid ((!true||!(s.drop j).isEmpty)=false):=Lib.hid (by rw [hd];rfl);clear hd HF;go_wp2
   refine wp_region_ext (by kernel_rfl) (by kernel_rfl) ?_;repeat (go_big_quiet_step ((fail)))
   refine wpQuiet_nil ?_;rintro _ ⟨xq,rfl⟩;have hba:=xq.ext;have hra:=HRS.out.later hba;have hoa:=ho.later hba;have hta:=own_below ht hba;have hga:=HG.out.trans (Gr2.below hba);generalize xq.val=wa at *
   clear d0 d1 ho ht HRS HG;have hBd:Below wa.heap.size wa wa.drew:=(Below.refl _ _).drew;have HOA:=Lib.hid (hoa.later hBd);have HTA:=Lib.hid (own_below hta hBd);have HRA:=Lib.hid (hra.later hBd);have HGA:=Lib.hid (hga.trans (Gr2.below hBd));have hzA:w.heap.size≤wa.drew.heap.size:=hga.size;have hsl:=hra.pl.2.2;clear hba hra hoa hta hga hBd;go_wp2
   refine wp_region_relyE 20 (by kernel_rfl) (by kernel_rfl) (fun A0 W0 L a w'=>R8I true S1 g m j s w (withT o t) v6 v7 A0 W0 L a w') ?_;intro A0 HA;have hsz:A0.tmps.size=70:=by rw [HA.out];rfl
   have hnd:[51,52,53,54,55,56,57,58,59,60,61,62,63,64,65,66,67,68,69,4].Nodup:=by decide
   have hbd:∀d∈[51,52,53,54,55,56,57,58,59,60,61,62,63,64,65,66,67,68,69,4],d<A0.tmps.size:=by rw [hsz];decide
   have e0:A0.tmps[0]?=some (.pointer (some ⟨g,0,none⟩)):=by rw [HA.out];rfl
   have e1:A0.tmps[1]?=some (.bool true):=by rw [HA.out];rfl
   have e6:A0.tmps[6]?=some v6:=by rw [HA.out];rfl
   have e7:A0.tmps[7]?=some v7:=by rw [HA.out];rfl
   refine⟨?_,?_,?_⟩
   ·obtain⟨V,hV⟩:=putsL_own A0 [51,52,53,54,55,56,57,58,59,60,61,62,63,64,65,66,67,68,69,4]
    exact⟨V,⟨hV⟩,OneE.start _ _ _ _ _,(fun h=>by cases h),(fun h=>by cases h)⟩
   ·refine⟨?_,?_,?_,?_,?_,?_,?_,?_,?_,?_,?_,?_,?_,?_,?_,?_,?_,?_,?_,?_,trivial⟩
    ·skip
     intro L a w' hL hd hI;obtain⟨V,hf,hO,h25,h19⟩:=hI;simp [DepsOk,Region.binds] at hd
     have e:=ev_of ((hf.out (t:=6) (by decide)).trans e6);refine rs_val (wanted_none rfl) (ex_move (.inl rfl)) ?_;rw [e];exact⟨_,hf.put hnd hbd 0 rfl _,hO.pure 0 (by decide) (rfl),(fun h=>by simpa using h25 (by simpa using h)),(fun h=>⟨by simpa using (h19 (by simpa using h)).1,(h19 (by simpa using h)).2⟩)⟩
    ·skip
     intro L a w' hL hd hI;obtain⟨V,hf,hO,h25,h19⟩:=hI;simp [DepsOk,Region.binds] at hd
     have e:=ev_of ((hf.out (t:=7) (by decide)).trans e7);refine rs_val (wanted_none rfl) (ex_move (.inl rfl)) ?_;rw [e];exact⟨_,hf.put hnd hbd 1 rfl _,hO.pure 1 (by decide) (rfl),(fun h=>by simpa using h25 (by simpa using h)),(fun h=>⟨by simpa using (h19 (by simpa using h)).1,(h19 (by simpa using h)).2⟩)⟩
    ·skip
     intro L a w' hL hd hI;obtain⟨V,hf,hO,h25,h19⟩:=hI;simp [DepsOk,Region.binds] at hd
     have e:=(ev_of ((hf.ins hnd hbd 0 rfl).trans (congrArg some (hO.vs 0 (by simp [hd])))));have e1:=(ev_of ((hf.ins hnd hbd 1 rfl).trans (congrArg some (hO.vs 1 (by simp [hd])))));obtain rfl:=hO.h0 hL;refine rs_call (wanted_none rfl) (ex_call (vs:=#[v6,v7]) rfl Tryz.func22 (by kernel_rfl) (by rw [List.map_toArray];simp only [List.map_cons,List.map_nil,e,e1])) ((withText_any wa.drew HOA.out HTA.out hzA (by omega) (by omega)).mono ?_);rintro e9 w8 ⟨v8,rfl,ho8,hg8,hm8⟩;refine⟨_,rfl,?_⟩;obtain⟨a8,c8,rfl⟩:=ho8.form;exact⟨_,hf.put hnd hbd 2 rfl _,hO.event ⟨a8,c8,rfl,HGA.out.row (fun k hk=>(HOA.out.lt k hk).1) (Nat.le_refl _) hg8,HRA.out.grow HN6.out (fun k hk=>(HOA.out.lt k hk).1) hgB hg8,ho8⟩ trivial,(fun _=>by simp),(fun h=>by have:=(h19 (by simpa using h)).1;rw [hL] at this;cases this)⟩
    ·skip
     intro L a w' hL hd hI;obtain⟨V,hf,hO,h25,h19⟩:=hI;simp [DepsOk,Region.binds] at hd
     have e:=ev_of ((hf.out (t:=1) (by decide)).trans e1);refine rs_val (wanted_none rfl) (ex_move (.inl rfl)) ?_;rw [e];exact⟨_,hf.put hnd hbd 3 rfl _,hO.pure 3 (by decide) (rfl),(fun h=>by simpa using h25 (by simpa using h)),(fun h=>⟨by simpa using (h19 (by simpa using h)).1,(h19 (by simpa using h)).2⟩)⟩
    ·skip
     intro L a w' hL hd hI;obtain⟨V,hf,hO,h25,h19⟩:=hI;simp [DepsOk,Region.binds] at hd
     have e:=(ev_of ((hf.ins hnd hbd 3 rfl).trans (congrArg some (hO.vs 3 (by simp [hd])))));refine rs_val (wanted_none rfl) (w':=w') (v:=.bool (!true)) (by simp only [execOp,e];kernel_rfl) ?_;exact⟨_,hf.put hnd hbd 4 rfl _,hO.pure 4 (by decide) (rfl),(fun h=>by simpa using h25 (by simpa using h)),(fun h=>⟨by simpa using (h19 (by simpa using h)).1,(h19 (by simpa using h)).2⟩)⟩
    ·skip
     intro L a w' hL hd hI;obtain⟨V,hf,hO,h25,h19⟩:=hI;simp [DepsOk,Region.binds] at hd
     have e:=(ev_of ((hf.ins hnd hbd 4 rfl).trans (congrArg some (hO.vs 4 (by simp [hd])))));refine rs_val (wanted_none rfl) (ex_move (.inl rfl)) ?_;rw [e];exact⟨_,hf.put hnd hbd 5 rfl _,hO.pure 5 (by decide) (rfl),(fun _=>by simp [hd]),(fun h=>⟨by simpa using (h19 (by simpa using h)).1,(h19 (by simpa using h)).2⟩)⟩
    ·skip
     intro L a w' hL hd hI;obtain⟨V,hf,hO,h25,h19⟩:=hI;simp [DepsOk,Region.binds] at hd
     have e:=ev_of ((hf.out (t:=0) (by decide)).trans e0);refine rs_val (wanted_yes rfl (yl_of rfl ((hf.ins hnd hbd 5 rfl).trans (congrArg some (hO.vs 5 (by simp [hd])))))) (ex_move (.inl rfl)) ?_;rw [e];exact⟨_,hf.put hnd hbd 6 rfl _,hO.pure 6 (by decide) (fun _=>rfl),(fun h=>by simpa using h25 (by simpa using h)),(fun h=>⟨by simpa using (h19 (by simpa using h)).1,(h19 (by simpa using h)).2⟩)⟩
    ·skip
     intro L a w' hL hd hI;obtain⟨V,hf,hO,h25,h19⟩:=hI;simp [DepsOk,Region.binds] at hd
     refine rs_val (wanted_yes rfl (yl_of rfl ((hf.ins hnd hbd 5 rfl).trans (congrArg some (hO.vs 5 (by simp [hd])))))) (ex_nil rfl (ev_of ((hf.ins hnd hbd 6 rfl).trans (congrArg some (hO.vs 6 (by simp [hd]) rfl))))) ?_;exact⟨_,hf.put hnd hbd 7 rfl _,hO.pure 7 (by decide) (fun _=>rfl),(fun h=>by simpa using h25 (by simpa using h)),(fun h=>⟨by simpa using (h19 (by simpa using h)).1,(h19 (by simpa using h)).2⟩)⟩
    ·skip
     intro L a w' hL hd hI;obtain⟨V,hf,hO,h25,h19⟩:=hI;simp [DepsOk,Region.binds] at hd
     have e:=(ev_of ((hf.ins hnd hbd 7 rfl).trans (congrArg some (hO.vs 7 (by simp [hd]) rfl))));refine rs_val (wanted_yes rfl (yl_of rfl ((hf.ins hnd hbd 5 rfl).trans (congrArg some (hO.vs 5 (by simp [hd])))))) (v:=.pointer (some ⟨g,0,none⟩)) (w':=w') (by simp only [execOp,e];kernel_rfl) ?_;exact⟨_,hf.put hnd hbd 8 rfl _,hO.pure 8 (by decide) (fun _=>rfl),(fun h=>by simpa using h25 (by simpa using h)),(fun h=>⟨by simpa using (h19 (by simpa using h)).1,(h19 (by simpa using h)).2⟩)⟩
    ·skip
     intro L a w' hL hd hI;obtain⟨V,hf,hO,h25,h19⟩:=hI;simp [DepsOk,Region.binds] at hd
     have e:=(ev_of ((hf.ins hnd hbd 8 rfl).trans (congrArg some (hO.vs 8 (by simp [hd]) rfl))));refine rs_val (wanted_yes rfl (yl_of rfl ((hf.ins hnd hbd 5 rfl).trans (congrArg some (hO.vs 5 (by simp [hd])))))) (v:=.pointer (some ⟨g,1,none⟩)) (w':=w') (by simp only [execOp,e];kernel_rfl) ?_;exact⟨_,hf.put hnd hbd 9 rfl _,hO.pure 9 (by decide) (fun _=>rfl),(fun h=>by simpa using h25 (by simpa using h)),(fun h=>⟨by simpa using (h19 (by simpa using h)).1,(h19 (by simpa using h)).2⟩)⟩
    ·skip
     intro L a w' hL hd hI;obtain⟨V,hf,hO,h25,h19⟩:=hI;simp [DepsOk,Region.binds] at hd
     have e:=((hf.ins hnd hbd 9 rfl).trans (congrArg some (hO.vs 9 (by simp [hd]) rfl)));obtain⟨_,_,_,_,hrr,_⟩:=hO.h1 (h25 (by simp [hd]));refine rs_val (wanted_yes rfl (yl_of rfl ((hf.ins hnd hbd 5 rfl).trans (congrArg some (hO.vs 5 (by simp [hd])))))) (ex_load rfl e (ld_int hrr.pl.c1)) ?_;exact⟨_,hf.put hnd hbd 10 rfl _,hO.pure 10 (by decide) (fun _=>rfl),(fun h=>by simpa using h25 (by simpa using h)),(fun h=>⟨by simpa using (h19 (by simpa using h)).1,(h19 (by simpa using h)).2⟩)⟩
    ·skip
     intro L a w' hL hd hI;obtain⟨V,hf,hO,h25,h19⟩:=hI;simp [DepsOk,Region.binds] at hd
     have e:=ev_of ((hf.out (t:=0) (by decide)).trans e0);refine rs_val (wanted_yes rfl (yl_of rfl ((hf.ins hnd hbd 5 rfl).trans (congrArg some (hO.vs 5 (by simp [hd])))))) (ex_move (.inl rfl)) ?_;rw [e];exact⟨_,hf.put hnd hbd 11 rfl _,hO.pure 11 (by decide) (fun _=>rfl),(fun h=>by simpa using h25 (by simpa using h)),(fun h=>⟨by simpa using (h19 (by simpa using h)).1,(h19 (by simpa using h)).2⟩)⟩
    ·skip
     intro L a w' hL hd hI;obtain⟨V,hf,hO,h25,h19⟩:=hI;simp [DepsOk,Region.binds] at hd
     refine rs_val (wanted_yes rfl (yl_of rfl ((hf.ins hnd hbd 5 rfl).trans (congrArg some (hO.vs 5 (by simp [hd])))))) (ex_nil rfl (ev_of ((hf.ins hnd hbd 11 rfl).trans (congrArg some (hO.vs 11 (by simp [hd]) rfl))))) ?_;exact⟨_,hf.put hnd hbd 12 rfl _,hO.pure 12 (by decide) (fun _=>rfl),(fun h=>by simpa using h25 (by simpa using h)),(fun h=>⟨by simpa using (h19 (by simpa using h)).1,(h19 (by simpa using h)).2⟩)⟩
    ·skip
     intro L a w' hL hd hI;obtain⟨V,hf,hO,h25,h19⟩:=hI;simp [DepsOk,Region.binds] at hd
     have e:=(ev_of ((hf.ins hnd hbd 12 rfl).trans (congrArg some (hO.vs 12 (by simp [hd]) rfl))));refine rs_val (wanted_yes rfl (yl_of rfl ((hf.ins hnd hbd 5 rfl).trans (congrArg some (hO.vs 5 (by simp [hd])))))) (v:=.pointer (some ⟨g,0,none⟩)) (w':=w') (by simp only [execOp,e];kernel_rfl) ?_;exact⟨_,hf.put hnd hbd 13 rfl _,hO.pure 13 (by decide) (fun _=>rfl),(fun h=>by simpa using h25 (by simpa using h)),(fun h=>⟨by simpa using (h19 (by simpa using h)).1,(h19 (by simpa using h)).2⟩)⟩
    ·skip
     intro L a w' hL hd hI;obtain⟨V,hf,hO,h25,h19⟩:=hI;simp [DepsOk,Region.binds] at hd
     have e:=(ev_of ((hf.ins hnd hbd 13 rfl).trans (congrArg some (hO.vs 13 (by simp [hd]) rfl))));refine rs_val (wanted_yes rfl (yl_of rfl ((hf.ins hnd hbd 5 rfl).trans (congrArg some (hO.vs 5 (by simp [hd])))))) (v:=.pointer (some ⟨g,0,none⟩)) (w':=w') (by simp only [execOp,e];kernel_rfl) ?_;exact⟨_,hf.put hnd hbd 14 rfl _,hO.pure 14 (by decide) (fun _=>rfl),(fun h=>by simpa using h25 (by simpa using h)),(fun h=>⟨by simpa using (h19 (by simpa using h)).1,(h19 (by simpa using h)).2⟩)⟩
    ·skip
     intro L a w' hL hd hI;obtain⟨V,hf,hO,h25,h19⟩:=hI;simp [DepsOk,Region.binds] at hd
     have e:=((hf.ins hnd hbd 14 rfl).trans (congrArg some (hO.vs 14 (by simp [hd]) rfl)));obtain⟨_,_,_,_,hrr,_⟩:=hO.h1 (h25 (by simp [hd]));refine rs_val (wanted_yes rfl (yl_of rfl ((hf.ins hnd hbd 5 rfl).trans (congrArg some (hO.vs 5 (by simp [hd])))))) (ex_load rfl e (ld_str hrr.pl.c0)) ?_;exact⟨_,hf.put hnd hbd 15 rfl _,hO.pure 15 (by decide) (fun _=>rfl),(fun h=>by simpa using h25 (by simpa using h)),(fun h=>⟨by simpa using (h19 (by simpa using h)).1,(h19 (by simpa using h)).2⟩)⟩
    ·skip
     intro L a w' hL hd hI;obtain⟨V,hf,hO,h25,h19⟩:=hI;simp [DepsOk,Region.binds] at hd
     have e:=((hf.ins hnd hbd 15 rfl).trans (congrArg some (hO.vs 15 (by simp [hd]) rfl)));refine rs_val (wanted_yes rfl (yl_of rfl ((hf.ins hnd hbd 5 rfl).trans (congrArg some (hO.vs 5 (by simp [hd])))))) (v:=.int .i64 (s.length:Int)) (w':=w') (ex_len rfl e hsl) ?_;exact⟨_,hf.put hnd hbd 16 rfl _,hO.pure 16 (by decide) (fun _=>rfl),(fun h=>by simpa using h25 (by simpa using h)),(fun h=>⟨by simpa using (h19 (by simpa using h)).1,(h19 (by simpa using h)).2⟩)⟩
    ·skip
     intro L a w' hL hd hI;obtain⟨V,hf,hO,h25,h19⟩:=hI;simp [DepsOk,Region.binds] at hd
     have e:=((hf.ins hnd hbd 10 rfl).trans (congrArg some (hO.vs 10 (by simp [hd]) rfl)));have e2:=((hf.ins hnd hbd 16 rfl).trans (congrArg some (hO.vs 16 (by simp [hd]) rfl)));refine rs_val (wanted_yes rfl (yl_of rfl ((hf.ins hnd hbd 5 rfl).trans (congrArg some (hO.vs 5 (by simp [hd])))))) (v:=.bool (decide (j<s.length))) (w':=w') (ex_lss rfl e e2) ?_;exact⟨_,hf.put hnd hbd 17 rfl _,hO.pure 17 (by decide) (fun _=>rfl),(fun h=>by simpa using h25 (by simpa using h)),(fun h=>⟨by simpa using (h19 (by simpa using h)).1,(h19 (by simpa using h)).2⟩)⟩
    ·skip
     intro L a w' hL hd hI;obtain⟨V,hf,hO,h25,h19⟩:=hI;simp [DepsOk,Region.binds] at hd
     have e:=(ev_of ((hf.ins hnd hbd 5 rfl).trans (congrArg some (hO.vs 5 (by simp [hd])))));have e2:=(ev_of ((hf.ins hnd hbd 17 rfl).trans (congrArg some (hO.vs 17 (by simp [hd]) rfl))));refine rs_val (wanted_none rfl) (ex_pick rfl e) ?_;rw [if_neg (by decide),e2];exact⟨_,hf.put hnd hbd 18 rfl _,hO.pure 18 (by decide) (rfl),(fun h=>by simpa using h25 (by simpa using h)),(fun h=>⟨by simpa using (h19 (by simpa using h)).1,(h19 (by simpa using h)).2⟩)⟩
    ·skip
     intro L a w' hL hd hI;obtain⟨V,hf,hO,h25,h19⟩:=hI;simp [DepsOk,Region.binds] at hd
     have e:=ev_of (hf.ins hnd hbd 2 rfl);refine rs_val (wanted_none rfl) (ex_move (.inr rfl)) ?_;rw [e];exact⟨_,hf.put hnd hbd 19 rfl _,hO.pure 19 (by decide) trivial,(fun h=>by simpa using h25 (by simpa using h)),(fun _=>⟨by simp [hd],rfl⟩)⟩
   ·intro L a w' hL hI
    obtain⟨V,hf,hO,h25,h19⟩:=hI;obtain⟨a8,c8,hv2,hG8,hR8,ho8⟩:=hO.h1 (hL 2 (by decide));have hv18:V 18=.bool (!true||decide (j<s.length)):=hO.vs 18 (hL 18 (by decide));have hv19:=(h19 (hL 19 (by decide))).2;rw [hv2] at hv19;have ha:=hf.eq;have hA:=HA.out;subst ha;subst hA;simp only [putsL,hv2,hv18,hv19,List.drop_succ_cons,List.drop_zero];clear e0 e1 e6 e7 hsz hbd hf HA hO h25 h19;go_wp2
    go_ret2
    exact PartsPost.mk' (o':=withT o t) (rest:=s.drop j) HX.out hG8 rfl rfl HOK.out hR8 HS1.out HS2.out ho8 hgB rfl
  | cons c r =>
   obtain⟨h2,h3,hr⟩:=drop_cons hd;have gl:decide ((j:Int)<(s.length:Int))=true:=decide_eq_true (by omega);have gln:decide (j<s.length)=true:=decide_eq_true (by omega);have HD:=Lib.hid hd;have HSEE:Hid (∀x':ExtOf wr,Calls Tryz.prog 20 #[.pointer (some ⟨g,0,none⟩),.string ⟨([125]).toArray⟩] x'.val fun e w'=>e=.returned (.bool (decide (c.toNat=125)))∧Below x'.val.heap.size x'.val w'):=Lib.hid fun x'=>(see_s (p:=[125]) _ (HRS.out.pl.later x'.ext) (by simp)).mono fun _ _ ⟨h1,h2⟩=>⟨by rw [h1,hd,pre1];rfl,h2⟩
   by_cases h125:c.toNat=125
   ·rw [decide_eq_true h125] at HSEE
    have HX:Hid (RX=(withT o t,s.drop j)):=Lib.hid (by rw [←HF.out,hd,partsS_cons,if_pos ⟨rfl,h125⟩]);have HOK:Hid ((!true||!(s.drop j).isEmpty)=true):=Lib.hid (by rw [hd];rfl);clear hd h3 hr HF h125;go_wp2
    refine wp_region_ext (by kernel_rfl) (by kernel_rfl) ?_;repeat (go_big_quiet_step ((go_at_call 20;exact ext_call (HSEE.out _))))
    refine wpQuiet_nil ?_;rintro _ ⟨xq,rfl⟩;have hba:=xq.ext;have hra:=HRS.out.later hba;have hoa:=ho.later hba;have hta:=own_below ht hba;have hga:=HG.out.trans (Gr2.below hba);generalize xq.val=wa at *
    clear d0 d1 ho ht HRS HG;clear HSEE;have hBd:Below wa.heap.size wa wa.drew:=(Below.refl _ _).drew;have HOA:=Lib.hid (hoa.later hBd);have HTA:=Lib.hid (own_below hta hBd);have HRA:=Lib.hid (hra.later hBd);have HGA:=Lib.hid (hga.trans (Gr2.below hBd));have hzA:w.heap.size≤wa.drew.heap.size:=hga.size;have hsl:=hra.pl.2.2;clear hba hra hoa hta hga hBd;go_wp2
    refine wp_region_relyE 20 (by kernel_rfl) (by kernel_rfl) (fun A0 W0 L a w'=>R8I true S1 g m j s w (withT o t) v6 v7 A0 W0 L a w') ?_;intro A0 HA;have hsz:A0.tmps.size=70:=by rw [HA.out];rfl
    have hnd:[51,52,53,54,55,56,57,58,59,60,61,62,63,64,65,66,67,68,69,4].Nodup:=by decide
    have hbd:∀d∈[51,52,53,54,55,56,57,58,59,60,61,62,63,64,65,66,67,68,69,4],d<A0.tmps.size:=by rw [hsz];decide
    have e0:A0.tmps[0]?=some (.pointer (some ⟨g,0,none⟩)):=by rw [HA.out];rfl
    have e1:A0.tmps[1]?=some (.bool true):=by rw [HA.out];rfl
    have e6:A0.tmps[6]?=some v6:=by rw [HA.out];rfl
    have e7:A0.tmps[7]?=some v7:=by rw [HA.out];rfl
    refine⟨?_,?_,?_⟩
    ·obtain⟨V,hV⟩:=putsL_own A0 [51,52,53,54,55,56,57,58,59,60,61,62,63,64,65,66,67,68,69,4]
     exact⟨V,⟨hV⟩,OneE.start _ _ _ _ _,(fun h=>by cases h),(fun h=>by cases h)⟩
    ·refine⟨?_,?_,?_,?_,?_,?_,?_,?_,?_,?_,?_,?_,?_,?_,?_,?_,?_,?_,?_,?_,trivial⟩
     ·skip
      intro L a w' hL hd hI;obtain⟨V,hf,hO,h25,h19⟩:=hI;simp [DepsOk,Region.binds] at hd
      have e:=ev_of ((hf.out (t:=6) (by decide)).trans e6);refine rs_val (wanted_none rfl) (ex_move (.inl rfl)) ?_;rw [e];exact⟨_,hf.put hnd hbd 0 rfl _,hO.pure 0 (by decide) (rfl),(fun h=>by simpa using h25 (by simpa using h)),(fun h=>⟨by simpa using (h19 (by simpa using h)).1,(h19 (by simpa using h)).2⟩)⟩
     ·skip
      intro L a w' hL hd hI;obtain⟨V,hf,hO,h25,h19⟩:=hI;simp [DepsOk,Region.binds] at hd
      have e:=ev_of ((hf.out (t:=7) (by decide)).trans e7);refine rs_val (wanted_none rfl) (ex_move (.inl rfl)) ?_;rw [e];exact⟨_,hf.put hnd hbd 1 rfl _,hO.pure 1 (by decide) (rfl),(fun h=>by simpa using h25 (by simpa using h)),(fun h=>⟨by simpa using (h19 (by simpa using h)).1,(h19 (by simpa using h)).2⟩)⟩
     ·skip
      intro L a w' hL hd hI;obtain⟨V,hf,hO,h25,h19⟩:=hI;simp [DepsOk,Region.binds] at hd
      have e:=(ev_of ((hf.ins hnd hbd 0 rfl).trans (congrArg some (hO.vs 0 (by simp [hd])))));have e1:=(ev_of ((hf.ins hnd hbd 1 rfl).trans (congrArg some (hO.vs 1 (by simp [hd])))));obtain rfl:=hO.h0 hL;refine rs_call (wanted_none rfl) (ex_call (vs:=#[v6,v7]) rfl Tryz.func22 (by kernel_rfl) (by rw [List.map_toArray];simp only [List.map_cons,List.map_nil,e,e1])) ((withText_any wa.drew HOA.out HTA.out hzA (by omega) (by omega)).mono ?_);rintro e9 w8 ⟨v8,rfl,ho8,hg8,hm8⟩;refine⟨_,rfl,?_⟩;obtain⟨a8,c8,rfl⟩:=ho8.form;exact⟨_,hf.put hnd hbd 2 rfl _,hO.event ⟨a8,c8,rfl,HGA.out.row (fun k hk=>(HOA.out.lt k hk).1) (Nat.le_refl _) hg8,HRA.out.grow HN6.out (fun k hk=>(HOA.out.lt k hk).1) hgB hg8,ho8⟩ trivial,(fun _=>by simp),(fun h=>by have:=(h19 (by simpa using h)).1;rw [hL] at this;cases this)⟩
     ·skip
      intro L a w' hL hd hI;obtain⟨V,hf,hO,h25,h19⟩:=hI;simp [DepsOk,Region.binds] at hd
      have e:=ev_of ((hf.out (t:=1) (by decide)).trans e1);refine rs_val (wanted_none rfl) (ex_move (.inl rfl)) ?_;rw [e];exact⟨_,hf.put hnd hbd 3 rfl _,hO.pure 3 (by decide) (rfl),(fun h=>by simpa using h25 (by simpa using h)),(fun h=>⟨by simpa using (h19 (by simpa using h)).1,(h19 (by simpa using h)).2⟩)⟩
     ·skip
      intro L a w' hL hd hI;obtain⟨V,hf,hO,h25,h19⟩:=hI;simp [DepsOk,Region.binds] at hd
      have e:=(ev_of ((hf.ins hnd hbd 3 rfl).trans (congrArg some (hO.vs 3 (by simp [hd])))));refine rs_val (wanted_none rfl) (w':=w') (v:=.bool (!true)) (by simp only [execOp,e];kernel_rfl) ?_;exact⟨_,hf.put hnd hbd 4 rfl _,hO.pure 4 (by decide) (rfl),(fun h=>by simpa using h25 (by simpa using h)),(fun h=>⟨by simpa using (h19 (by simpa using h)).1,(h19 (by simpa using h)).2⟩)⟩
     ·skip
      intro L a w' hL hd hI;obtain⟨V,hf,hO,h25,h19⟩:=hI;simp [DepsOk,Region.binds] at hd
      have e:=(ev_of ((hf.ins hnd hbd 4 rfl).trans (congrArg some (hO.vs 4 (by simp [hd])))));refine rs_val (wanted_none rfl) (ex_move (.inl rfl)) ?_;rw [e];exact⟨_,hf.put hnd hbd 5 rfl _,hO.pure 5 (by decide) (rfl),(fun _=>by simp [hd]),(fun h=>⟨by simpa using (h19 (by simpa using h)).1,(h19 (by simpa using h)).2⟩)⟩
     ·skip
      intro L a w' hL hd hI;obtain⟨V,hf,hO,h25,h19⟩:=hI;simp [DepsOk,Region.binds] at hd
      have e:=ev_of ((hf.out (t:=0) (by decide)).trans e0);refine rs_val (wanted_yes rfl (yl_of rfl ((hf.ins hnd hbd 5 rfl).trans (congrArg some (hO.vs 5 (by simp [hd])))))) (ex_move (.inl rfl)) ?_;rw [e];exact⟨_,hf.put hnd hbd 6 rfl _,hO.pure 6 (by decide) (fun _=>rfl),(fun h=>by simpa using h25 (by simpa using h)),(fun h=>⟨by simpa using (h19 (by simpa using h)).1,(h19 (by simpa using h)).2⟩)⟩
     ·skip
      intro L a w' hL hd hI;obtain⟨V,hf,hO,h25,h19⟩:=hI;simp [DepsOk,Region.binds] at hd
      refine rs_val (wanted_yes rfl (yl_of rfl ((hf.ins hnd hbd 5 rfl).trans (congrArg some (hO.vs 5 (by simp [hd])))))) (ex_nil rfl (ev_of ((hf.ins hnd hbd 6 rfl).trans (congrArg some (hO.vs 6 (by simp [hd]) rfl))))) ?_;exact⟨_,hf.put hnd hbd 7 rfl _,hO.pure 7 (by decide) (fun _=>rfl),(fun h=>by simpa using h25 (by simpa using h)),(fun h=>⟨by simpa using (h19 (by simpa using h)).1,(h19 (by simpa using h)).2⟩)⟩
     ·skip
      intro L a w' hL hd hI;obtain⟨V,hf,hO,h25,h19⟩:=hI;simp [DepsOk,Region.binds] at hd
      have e:=(ev_of ((hf.ins hnd hbd 7 rfl).trans (congrArg some (hO.vs 7 (by simp [hd]) rfl))));refine rs_val (wanted_yes rfl (yl_of rfl ((hf.ins hnd hbd 5 rfl).trans (congrArg some (hO.vs 5 (by simp [hd])))))) (v:=.pointer (some ⟨g,0,none⟩)) (w':=w') (by simp only [execOp,e];kernel_rfl) ?_;exact⟨_,hf.put hnd hbd 8 rfl _,hO.pure 8 (by decide) (fun _=>rfl),(fun h=>by simpa using h25 (by simpa using h)),(fun h=>⟨by simpa using (h19 (by simpa using h)).1,(h19 (by simpa using h)).2⟩)⟩
     ·skip
      intro L a w' hL hd hI;obtain⟨V,hf,hO,h25,h19⟩:=hI;simp [DepsOk,Region.binds] at hd
      have e:=(ev_of ((hf.ins hnd hbd 8 rfl).trans (congrArg some (hO.vs 8 (by simp [hd]) rfl))));refine rs_val (wanted_yes rfl (yl_of rfl ((hf.ins hnd hbd 5 rfl).trans (congrArg some (hO.vs 5 (by simp [hd])))))) (v:=.pointer (some ⟨g,1,none⟩)) (w':=w') (by simp only [execOp,e];kernel_rfl) ?_;exact⟨_,hf.put hnd hbd 9 rfl _,hO.pure 9 (by decide) (fun _=>rfl),(fun h=>by simpa using h25 (by simpa using h)),(fun h=>⟨by simpa using (h19 (by simpa using h)).1,(h19 (by simpa using h)).2⟩)⟩
     ·skip
      intro L a w' hL hd hI;obtain⟨V,hf,hO,h25,h19⟩:=hI;simp [DepsOk,Region.binds] at hd
      have e:=((hf.ins hnd hbd 9 rfl).trans (congrArg some (hO.vs 9 (by simp [hd]) rfl)));obtain⟨_,_,_,_,hrr,_⟩:=hO.h1 (h25 (by simp [hd]));refine rs_val (wanted_yes rfl (yl_of rfl ((hf.ins hnd hbd 5 rfl).trans (congrArg some (hO.vs 5 (by simp [hd])))))) (ex_load rfl e (ld_int hrr.pl.c1)) ?_;exact⟨_,hf.put hnd hbd 10 rfl _,hO.pure 10 (by decide) (fun _=>rfl),(fun h=>by simpa using h25 (by simpa using h)),(fun h=>⟨by simpa using (h19 (by simpa using h)).1,(h19 (by simpa using h)).2⟩)⟩
     ·skip
      intro L a w' hL hd hI;obtain⟨V,hf,hO,h25,h19⟩:=hI;simp [DepsOk,Region.binds] at hd
      have e:=ev_of ((hf.out (t:=0) (by decide)).trans e0);refine rs_val (wanted_yes rfl (yl_of rfl ((hf.ins hnd hbd 5 rfl).trans (congrArg some (hO.vs 5 (by simp [hd])))))) (ex_move (.inl rfl)) ?_;rw [e];exact⟨_,hf.put hnd hbd 11 rfl _,hO.pure 11 (by decide) (fun _=>rfl),(fun h=>by simpa using h25 (by simpa using h)),(fun h=>⟨by simpa using (h19 (by simpa using h)).1,(h19 (by simpa using h)).2⟩)⟩
     ·skip
      intro L a w' hL hd hI;obtain⟨V,hf,hO,h25,h19⟩:=hI;simp [DepsOk,Region.binds] at hd
      refine rs_val (wanted_yes rfl (yl_of rfl ((hf.ins hnd hbd 5 rfl).trans (congrArg some (hO.vs 5 (by simp [hd])))))) (ex_nil rfl (ev_of ((hf.ins hnd hbd 11 rfl).trans (congrArg some (hO.vs 11 (by simp [hd]) rfl))))) ?_;exact⟨_,hf.put hnd hbd 12 rfl _,hO.pure 12 (by decide) (fun _=>rfl),(fun h=>by simpa using h25 (by simpa using h)),(fun h=>⟨by simpa using (h19 (by simpa using h)).1,(h19 (by simpa using h)).2⟩)⟩
     ·skip
      intro L a w' hL hd hI;obtain⟨V,hf,hO,h25,h19⟩:=hI;simp [DepsOk,Region.binds] at hd
      have e:=(ev_of ((hf.ins hnd hbd 12 rfl).trans (congrArg some (hO.vs 12 (by simp [hd]) rfl))));refine rs_val (wanted_yes rfl (yl_of rfl ((hf.ins hnd hbd 5 rfl).trans (congrArg some (hO.vs 5 (by simp [hd])))))) (v:=.pointer (some ⟨g,0,none⟩)) (w':=w') (by simp only [execOp,e];kernel_rfl) ?_;exact⟨_,hf.put hnd hbd 13 rfl _,hO.pure 13 (by decide) (fun _=>rfl),(fun h=>by simpa using h25 (by simpa using h)),(fun h=>⟨by simpa using (h19 (by simpa using h)).1,(h19 (by simpa using h)).2⟩)⟩
     ·skip
      intro L a w' hL hd hI;obtain⟨V,hf,hO,h25,h19⟩:=hI;simp [DepsOk,Region.binds] at hd
      have e:=(ev_of ((hf.ins hnd hbd 13 rfl).trans (congrArg some (hO.vs 13 (by simp [hd]) rfl))));refine rs_val (wanted_yes rfl (yl_of rfl ((hf.ins hnd hbd 5 rfl).trans (congrArg some (hO.vs 5 (by simp [hd])))))) (v:=.pointer (some ⟨g,0,none⟩)) (w':=w') (by simp only [execOp,e];kernel_rfl) ?_;exact⟨_,hf.put hnd hbd 14 rfl _,hO.pure 14 (by decide) (fun _=>rfl),(fun h=>by simpa using h25 (by simpa using h)),(fun h=>⟨by simpa using (h19 (by simpa using h)).1,(h19 (by simpa using h)).2⟩)⟩
     ·skip
      intro L a w' hL hd hI;obtain⟨V,hf,hO,h25,h19⟩:=hI;simp [DepsOk,Region.binds] at hd
      have e:=((hf.ins hnd hbd 14 rfl).trans (congrArg some (hO.vs 14 (by simp [hd]) rfl)));obtain⟨_,_,_,_,hrr,_⟩:=hO.h1 (h25 (by simp [hd]));refine rs_val (wanted_yes rfl (yl_of rfl ((hf.ins hnd hbd 5 rfl).trans (congrArg some (hO.vs 5 (by simp [hd])))))) (ex_load rfl e (ld_str hrr.pl.c0)) ?_;exact⟨_,hf.put hnd hbd 15 rfl _,hO.pure 15 (by decide) (fun _=>rfl),(fun h=>by simpa using h25 (by simpa using h)),(fun h=>⟨by simpa using (h19 (by simpa using h)).1,(h19 (by simpa using h)).2⟩)⟩
     ·skip
      intro L a w' hL hd hI;obtain⟨V,hf,hO,h25,h19⟩:=hI;simp [DepsOk,Region.binds] at hd
      have e:=((hf.ins hnd hbd 15 rfl).trans (congrArg some (hO.vs 15 (by simp [hd]) rfl)));refine rs_val (wanted_yes rfl (yl_of rfl ((hf.ins hnd hbd 5 rfl).trans (congrArg some (hO.vs 5 (by simp [hd])))))) (v:=.int .i64 (s.length:Int)) (w':=w') (ex_len rfl e hsl) ?_;exact⟨_,hf.put hnd hbd 16 rfl _,hO.pure 16 (by decide) (fun _=>rfl),(fun h=>by simpa using h25 (by simpa using h)),(fun h=>⟨by simpa using (h19 (by simpa using h)).1,(h19 (by simpa using h)).2⟩)⟩
     ·skip
      intro L a w' hL hd hI;obtain⟨V,hf,hO,h25,h19⟩:=hI;simp [DepsOk,Region.binds] at hd
      have e:=((hf.ins hnd hbd 10 rfl).trans (congrArg some (hO.vs 10 (by simp [hd]) rfl)));have e2:=((hf.ins hnd hbd 16 rfl).trans (congrArg some (hO.vs 16 (by simp [hd]) rfl)));refine rs_val (wanted_yes rfl (yl_of rfl ((hf.ins hnd hbd 5 rfl).trans (congrArg some (hO.vs 5 (by simp [hd])))))) (v:=.bool (decide (j<s.length))) (w':=w') (ex_lss rfl e e2) ?_;exact⟨_,hf.put hnd hbd 17 rfl _,hO.pure 17 (by decide) (fun _=>rfl),(fun h=>by simpa using h25 (by simpa using h)),(fun h=>⟨by simpa using (h19 (by simpa using h)).1,(h19 (by simpa using h)).2⟩)⟩
     ·skip
      intro L a w' hL hd hI;obtain⟨V,hf,hO,h25,h19⟩:=hI;simp [DepsOk,Region.binds] at hd
      have e:=(ev_of ((hf.ins hnd hbd 5 rfl).trans (congrArg some (hO.vs 5 (by simp [hd])))));have e2:=(ev_of ((hf.ins hnd hbd 17 rfl).trans (congrArg some (hO.vs 17 (by simp [hd]) rfl))));refine rs_val (wanted_none rfl) (ex_pick rfl e) ?_;rw [if_neg (by decide),e2];exact⟨_,hf.put hnd hbd 18 rfl _,hO.pure 18 (by decide) (rfl),(fun h=>by simpa using h25 (by simpa using h)),(fun h=>⟨by simpa using (h19 (by simpa using h)).1,(h19 (by simpa using h)).2⟩)⟩
     ·skip
      intro L a w' hL hd hI;obtain⟨V,hf,hO,h25,h19⟩:=hI;simp [DepsOk,Region.binds] at hd
      have e:=ev_of (hf.ins hnd hbd 2 rfl);refine rs_val (wanted_none rfl) (ex_move (.inr rfl)) ?_;rw [e];exact⟨_,hf.put hnd hbd 19 rfl _,hO.pure 19 (by decide) trivial,(fun h=>by simpa using h25 (by simpa using h)),(fun _=>⟨by simp [hd],rfl⟩)⟩
    ·intro L a w' hL hI
     obtain⟨V,hf,hO,h25,h19⟩:=hI;obtain⟨a8,c8,hv2,hG8,hR8,ho8⟩:=hO.h1 (hL 2 (by decide));have hv18:V 18=.bool (!true||decide (j<s.length)):=hO.vs 18 (hL 18 (by decide));have hv19:=(h19 (hL 19 (by decide))).2;rw [hv2] at hv19;have ha:=hf.eq;have hA:=HA.out;subst ha;subst hA;simp only [putsL,hv2,hv18,hv19,List.drop_succ_cons,List.drop_zero];clear e0 e1 e6 e7 hsz hbd hf HA hO h25 h19;go_wp2
     go_ret2
     exact PartsPost.mk' (o':=withT o t) (rest:=s.drop j) HX.out hG8 rfl rfl HOK.out hR8 HS1.out HS2.out ho8 hgB rfl
   ·rw [decide_eq_false h125] at HSEE
    have HNC:Hid (c.toNat≠125):=Lib.hid h125;have HF:Hid (partsS true o t (c::r)=RX):=Lib.hid (by rw [←hd];exact HF.out);clear hd h3 hr h125;go_wp2
    refine wp_region_ext (by kernel_rfl) (by kernel_rfl) ?_;repeat (go_big_quiet_step ((go_at_call 20;exact ext_call (HSEE.out _))))
    refine wpQuiet_nil ?_;rintro _ ⟨xq,rfl⟩;have hba:=xq.ext;have hra:=HRS.out.later hba;have hoa:=ho.later hba;have hta:=own_below ht hba;have hga:=HG.out.trans (Gr2.below hba);generalize xq.val=wa at *
    clear d0 d1 ho ht HRS HG;clear HSEE;have hBd:=hba;have HOA:=Lib.hid hoa;have HTA:=Lib.hid hta;have HRA:=Lib.hid hra;have HGA:=Lib.hid hga;have HPC:=Lib.hid (HPP.out S1 wa j c r hra HD.out (by omega));clear hba hra hoa hta hga hBd;cases hdo:dolM partS c r with
    | none =>
     have HDO:=Lib.hid hdo;have HXN:Hid (partsS true o (t++[(nxtM three (c::r)).1]) (nxtM three (c::r)).2=RX):=Lib.hid (by rw [←HF.out,partsS_cons,if_neg (by rintro⟨e1,e2⟩;first|(cases e1;done)|exact HNC.out e2),hdo]);have HLN:Hid ((nxtM three (c::r)).2.length≤r.length∧r.length+1=s.length-j):=Lib.hid ⟨nxtM_len _ _ _,by have:=congrArg List.length HD.out;simp at this;omega⟩;clear hdo HF;go_wp2_with (go_at_call 21;refine HPC.out.mono ?_)
     rintro e w4 ⟨hg4,S4,j4,cc,x,ok,rfl,hr4,hT1,hT2,hxv,hm⟩;have hok:ok=false:=by have h:=hm;rw [HDO.out] at h;exact h.1
     have hj4:j4=j:=by have h:=hm;rw [HDO.out] at h;exact h.2 rfl
     subst hok;subst hj4;have hcl:=hxv.len;have hone:=hxv.one;have hnS4:NotOwn S4 v6:=HN6.out.wide (fun k hk=>(HOA.out.lt k hk).2) hT2;have hnS4':NotOwn S4 v7:=HN7.out.wide (fun k hk=>(HTA.out.lt k hk).2) hT2;have hgm:=hr4.gm;have ho4:=(HOA.out.gr2 hg4 hgB (by omega) HRA.out.ng HRA.out.nm).mono (S':=S4) fun b hb _=>hT1 b hb
     have ht4:=own_gr2 HTA.out hg4 hgB (by omega);obtain⟨W5,hW5⟩:∃W5,W5=w4.alloc (.cells cc.toArray 40):=⟨_,rfl⟩;have HW5:Hid ((w4.alloc (.cells #[.int .i64 0,.string ⟨#[]⟩,.int .i64 0,.bool false,.bool false,.int .i64 0,.string ⟨#[]⟩,.bool false,.slice none 0 0,.int .i64 0,.int .i64 0,.bool false,.slice none 0 0,.slice none 0 0,.bool false,.bool false,.slice none 0 0,.slice none 0 0] 40)).setRow w4.heap.size cc.toArray=W5):=Lib.hid (by rw [hW5];exact World.setRow_alloc_new _ _ _ _);have hb5:Below w4.heap.size w4 W5:=by rw [hW5];exact(Below.refl _ _).alloc (Nat.le_refl _) _
     have HR5:=Lib.hid (hr4.later hb5);have HO5:=Lib.hid (ho4.later hb5);have HT5:=Lib.hid (own_below ht4 hb5);have HG5:=Lib.hid (HGA.out.trans (hg4.trans (Gr2.below hb5)));have HS14:Hid (∀b,S b→S4 b):=Lib.hid fun b hb=>hT1 b (HS1.out b hb)
     have HS24:Hid (∀b,S4 b→S b∨w.heap.size≤b):=Lib.hid fun b hb=>by
      rcases hT2 b hb with h|h
      ·exact HS2.out b h
      ·exact .inr (Nat.le_trans HGA.out.size h)
     have HN64:=Lib.hid hnS4;have HN74:=Lib.hid hnS4';have HONE:Hid (∀u∈cc.toArray.toList,u.oneCell'=true):=Lib.hid (fun u hu=>hone u (by simpa using hu));clear hW5 hb5 hr4 ho4 ht4 hg4 hT1 hT2 hxv hm hone hnS4 hnS4';go_upto_region 7 with(refine wpList_stW rfl 40 (.tmp 8) (.tmp 35) rfl (w4.heap.size) (cc.toArray) rfl rfl 40 (#[.int .i64 0,.string ⟨#[]⟩,.int .i64 0,.bool false,.bool false,.int .i64 0,.string ⟨#[]⟩,.bool false,.slice none 0 0,.int .i64 0,.int .i64 0,.bool false,.slice none 0 0,.slice none 0 0,.bool false,.bool false,.slice none 0 0,.slice none 0 0]) (heap_alloc_new w4 _) (snip_size) (by simp [hcl]) rfl (HONE.out) (W:=W5) (HW5.out) ?_)
     clear HW5 HPC HOA HTA HRA HGA HONE;have HNX:=Lib.hid (next_s (th:=[36,125,92]) W5 HR5.out.pl HD.out (by simp));go_wp2_with (go_at_call 23;refine HNX.out.mono ?_)
     rintro e w6 ⟨rfl,⟨j2,hp2,hd2,hj2⟩,hg6⟩;have hr6:=HR5.out.place hp2 hg6;have ho6:=HO5.out.gr2 (Gr2.grown (m:=m) hg6) hgB (by omega) HR5.out.ng HR5.out.nm;have ht6:=own_gr2 HT5.out (Gr2.grown (m:=m) hg6) hgB (by omega);have hg6':=HG5.out.trans (Gr2.grown hg6);have hls:s.length-j2<s.length-j4∧j4<j2:=by
      have h1:=HLN.out;have h2:=congrArg List.length hd2;rw [List.length_drop] at h2;have h3:=hp2.2.1;have h4:(nxtM [36,125,92] (c::r)).2.length≤r.length:=h1.1;omega
     obtain⟨nb,hnb⟩:∃nb,nb=(nxtM [36,125,92] (c::r)).1:=⟨_,rfl⟩;have HX2:Hid (partsS true o (t++[nb]) (s.drop j2)=RX):=Lib.hid (by rw [hd2,hnb];exact HXN.out);rw [←hnb];have hbx:Below w6.heap.size w6 (w6.alloc (.cells #[.int .u8 nb.toNat] 5)):=(Below.refl _ _).alloc (Nat.le_refl _) _;have HR7:=Lib.hid (hr6.later hbx);have HO7:=Lib.hid (ho6.later hbx);have HT7:=Lib.hid (own_below ht6 hbx);have HG7:=Lib.hid (hg6'.trans (Gr2.below hbx));have HSL:=Lib.hid (Sl.lit (n:=1) (sz:=1) (heap_alloc_new w6 (.cells #[.int .u8 nb.toNat] 5)) rfl);have hz6:=hg6'.size;clear hr6 ho6 ht6 hg6' hg6 hp2 hd2 HNX HR5 HO5 HT5 HG5 HXN hbx hnb;go_wp2_with (at_builtin;refine wpList_appM w.heap.size 5 rfl _ _ 61 rfl Tryz.underlying61 hiu rfl (by decide) rfl HT7.out rfl HSL.out (by simp [Value.oneCell']) (by omega) (by omega) (by decide) (by simp;omega) ?_;intro v8 w8 hown8 hg8 _ hm8)
     go_roundg (s.length-j4)
     case measure=>omega
     case rel =>
      exact⟨_,_,S4,j2,o,t++[nb],rfl,rfl,HR7.out.grow HN74.out (fun k hk=>(HT7.out.lt k hk).1) hgB hg8,by omega,by omega,HS14.out,HS24.out,HO7.out.other HN74.out (ownN_own HO7.out HT7.out) hg8,by simpa [bcells] using hown8,HG7.out.row (fun k hk=>(HT7.out.lt k hk).1) (Nat.le_refl _) hg8,by omega,by simp;omega,HN64.out,HN74.out.moved hm8 HR7.out.lt,HX2⟩
    | some y =>
     obtain⟨y1,y2⟩:=y;have HDO:=Lib.hid hdo;have HXN:Hid (partsS true (withT o t++[y1]) [] y2=RX):=Lib.hid (by rw [←HF.out,partsS_cons,if_neg (by rintro⟨e1,e2⟩;first|(cases e1;done)|exact HNC.out e2),hdo]);have HDL:Hid (y2.length<r.length∧r.length+1=s.length-j):=Lib.hid ⟨dolM_len hdo,(by have:=congrArg List.length HD.out;simp at this;omega)⟩;clear hdo HF;go_wp2_with (go_at_call 21;refine HPC.out.mono ?_)
     rintro e w4 ⟨hg4,S4,j4,cc,x,ok,rfl,hr4,hT1,hT2,hxv,hm⟩;have hmm:ok=true∧x=y1∧s.drop j4=y2:=by have h:=hm;rw [HDO.out] at h;exact h
     have hok:=hmm.1;have HXY:=Lib.hid hmm.2.1;have HD4:=Lib.hid hmm.2.2;clear hmm hm;subst hok;have hcl:=hxv.len;have hone:=hxv.one;have hnS4:NotOwn S4 v6:=HN6.out.wide (fun k hk=>(HOA.out.lt k hk).2) hT2;have hgm:=hr4.gm;have ho4:=(HOA.out.gr2 hg4 hgB (by omega) HRA.out.ng HRA.out.nm).mono (S':=S4) fun b hb _=>hT1 b hb
     have ht4:=own_gr2 HTA.out hg4 hgB (by omega);obtain⟨W5,hW5⟩:∃W5,W5=w4.alloc (.cells cc.toArray 40):=⟨_,rfl⟩;have HW5:Hid ((w4.alloc (.cells #[.int .i64 0,.string ⟨#[]⟩,.int .i64 0,.bool false,.bool false,.int .i64 0,.string ⟨#[]⟩,.bool false,.slice none 0 0,.int .i64 0,.int .i64 0,.bool false,.slice none 0 0,.slice none 0 0,.bool false,.bool false,.slice none 0 0,.slice none 0 0] 40)).setRow w4.heap.size cc.toArray=W5):=Lib.hid (by rw [hW5];exact World.setRow_alloc_new _ _ _ _);have hb5:Below w4.heap.size w4 W5:=by rw [hW5];exact(Below.refl _ _).alloc (Nat.le_refl _) _
     have HR5:=Lib.hid (hr4.later hb5);have HO5:=Lib.hid (ho4.later hb5);have HT5:=Lib.hid (own_below ht4 hb5);have HX5:=Lib.hid (hxv.later hb5);have HG5:=Lib.hid (HGA.out.trans (hg4.trans (Gr2.below hb5)));have HBX:Hid (W5.heap[w4.heap.size]?=some (.cells cc.toArray 40 (0,0))):=Lib.hid (by rw [hW5];exact heap_alloc_new _ _);have HS14:Hid (∀b,S b→S4 b):=Lib.hid fun b hb=>hT1 b (HS1.out b hb)
     have HS24:Hid (∀b,S4 b→S b∨w.heap.size≤b):=Lib.hid fun b hb=>by
      rcases hT2 b hb with h|h
      ·exact HS2.out b h
      ·exact .inr (Nat.le_trans HGA.out.size h)
     have HN64:=Lib.hid hnS4;have HO6:Hid (∀b,v6.ownBlock=some b→b<w4.heap.size):=Lib.hid fun b hb=>(ho4.lt b hb).2
     have HNX:Hid (v6.ownBlock≠some w4.heap.size):=Lib.hid fun e=>by have:=HO6.out _ e;omega
     have HONE:Hid (∀u∈cc.toArray.toList,u.oneCell'=true):=Lib.hid (fun u hu=>hone u (by simpa using hu));have hjj:j<j4:=by
      have h1:=HDL.out;have h2:=congrArg List.length HD4.out;rw [List.length_drop] at h2;have h3:=hr4.pl.2.1;omega
     clear hW5 hb5 hr4 ho4 ht4 hg4 hT1 hT2 hxv hone hnS4;go_upto_region 6 with(refine wpList_stW rfl 40 (.tmp 8) (.tmp 35) rfl (w4.heap.size) (cc.toArray) rfl rfl 40 (#[.int .i64 0,.string ⟨#[]⟩,.int .i64 0,.bool false,.bool false,.int .i64 0,.string ⟨#[]⟩,.bool false,.slice none 0 0,.int .i64 0,.int .i64 0,.bool false,.slice none 0 0,.slice none 0 0,.bool false,.bool false,.slice none 0 0,.slice none 0 0]) (heap_alloc_new w4 _) (snip_size) (by simp [hcl]) rfl (HONE.out) (W:=W5) (HW5.out) ?_)
     clear HW5 HPC HOA HTA HRA HGA;obtain⟨bx,hbxe⟩:∃bx,bx=w4.heap.size:=⟨_,rfl⟩;rw [←hbxe] at HBX HO6 HNX;refine wp_region_relyE 5 (by kernel_rfl) (by kernel_rfl) (fun A0 W0 L a w'=>R6I S4 g m j4 s w cc x bx v6 v7 o t A0 L a w') ?_;intro A0 HA;have hsz:A0.tmps.size=70:=by rw [HA.out];rfl
     have hnd:[38,39,40,41,42].Nodup:=by decide
     have hbd:∀d∈[38,39,40,41,42],d<A0.tmps.size:=by rw [hsz];decide
     have e6:A0.tmps[6]?=some v6:=by rw [HA.out];rfl
     have e7:A0.tmps[7]?=some v7:=by rw [HA.out];rfl
     have e8:A0.tmps[8]?=some (.pointer (some ⟨bx,0,none⟩)):=by rw [HA.out,hbxe];rfl
     refine⟨?_,?_,?_⟩
     ·obtain⟨V,hV⟩:=putsL_own A0 [38,39,40,41,42]
      have hdr:Below W5.heap.size W5 W5.drew:=(Below.refl _ _).drew;exact⟨V,⟨hV⟩,⟨HR5.out.later hdr,HG5.out.trans (Gr2.below hdr),HX5.out.later hdr,HBX.out,(fun _=>⟨HO5.out.later hdr,own_below HT5.out hdr⟩),(fun h=>by cases h),(fun h=>by cases h),(fun h=>by cases h),(fun h=>by cases h),(fun h=>by cases h)⟩⟩
     ·refine⟨?_,?_,?_,?_,?_,trivial⟩
      ·skip
       intro L a w' hL hd hI;obtain⟨V,hf,⟨hR,hG,hX,hbx,h20,h21,h4,v0,v1,v3⟩⟩:=hI;simp [DepsOk,Region.binds] at hd
       have e:=ev_of ((hf.out (t:=6) (by decide)).trans e6);refine rs_val (wanted_none rfl) (ex_move (.inl rfl)) ?_;rw [e];exact⟨_,hf.put hnd hbd 0 rfl _,⟨hR,hG,hX,hbx,(fun h=>h20 (by simpa using h)),(fun h=>h21 (by simpa using h)),(fun h=>by obtain⟨b4,a1,a2,a3,a4⟩:=h4 (by simpa using h);exact⟨b4,a1,a2,a3,fun h=>a4 (by simpa using h)⟩),(fun _=>rfl),(fun h=>v1 (by simpa using h)),(fun h=>v3 (by simpa using h))⟩⟩
      ·skip
       intro L a w' hL hd hI;obtain⟨V,hf,⟨hR,hG,hX,hbx,h20,h21,h4,v0,v1,v3⟩⟩:=hI;simp [DepsOk,Region.binds] at hd
       have e:=ev_of ((hf.out (t:=7) (by decide)).trans e7);refine rs_val (wanted_none rfl) (ex_move (.inl rfl)) ?_;rw [e];exact⟨_,hf.put hnd hbd 1 rfl _,⟨hR,hG,hX,hbx,(fun h=>h20 (by simpa using h)),(fun h=>h21 (by simpa using h)),(fun h=>by obtain⟨b4,a1,a2,a3,a4⟩:=h4 (by simpa using h);exact⟨b4,a1,a2,a3,fun h=>a4 (by simpa using h)⟩),(fun h=>v0 (by simpa using h)),(fun _=>rfl),(fun h=>v3 (by simpa using h))⟩⟩
      ·skip
       intro L a w' hL hd hI;obtain⟨V,hf,⟨hR,hG,hX,hbx,h20,h21,h4,v0,v1,v3⟩⟩:=hI;simp [DepsOk,Region.binds] at hd
       have e:=(ev_of ((hf.ins hnd hbd 0 rfl).trans (congrArg some (v0 (by simp [hd])))));have e1:=(ev_of ((hf.ins hnd hbd 1 rfl).trans (congrArg some (v1 (by simp [hd])))));obtain⟨ho9,ht9⟩:=h20 hL;have hz9:=hG.size;refine rs_call (wanted_none rfl) (ex_call (vs:=#[v6,v7]) rfl Tryz.func22 (by kernel_rfl) (by rw [List.map_toArray];simp only [List.map_cons,List.map_nil,e,e1])) ((withText_any w' ho9 ht9 hz9 (by omega) (by omega)).mono ?_);rintro e9 w8 ⟨v8,rfl,ho8,hg8,hm8⟩;refine⟨_,rfl,?_⟩;have hlt9:=ho9.lt;have hn8:NotOwn S4 v8:=HN64.out.moved hm8 hR.lt;exact⟨_,hf.put hnd hbd 2 rfl _,⟨(hR.grow HN64.out (fun k hk=>(hlt9 k hk).1) hgB hg8),(hG.row (fun k hk=>(hlt9 k hk).1) (Nat.le_refl _) hg8),(hX.grow HN64.out hg8),((hg8.block _ (heap_lt hbx) (fun e=>HNX.out e.symm)).trans hbx),(fun h=>by simp at h),(fun _=>⟨ho8,hn8⟩),(fun h=>by obtain⟨b4,a1,a2,a3,_⟩:=h4 (by simpa using h);exact⟨b4,a1,(hg8.block _ (heap_lt a2) (fun e=>a3 e.symm)).trans a2,a3,fun _ e=>by have:=heap_lt a2;rcases hm8 with hm|hm;exact a3 (hm▸e);have:=hm b4 e;omega⟩),(fun h=>v0 (by simpa using h)),(fun h=>v1 (by simpa using h)),(fun h=>v3 (by simpa using h))⟩⟩
      ·skip
       intro L a w' hL hd hI;obtain⟨V,hf,⟨hR,hG,hX,hbx,h20,h21,h4,v0,v1,v3⟩⟩:=hI;simp [DepsOk,Region.binds] at hd
       refine wpList_ldW rfl 40 (.tmp 8) rfl bx 0 (ev_of ((hf.out (by decide)).trans e8)) cc _ (cells_blk hbx) snip_under rfl (by rw [snip_size,hcl]) ?_;refine wpList_nil ?_;exact⟨_,hf.put hnd hbd 3 rfl _,⟨hR,hG,hX,hbx,(fun h=>h20 (by simpa using h)),(fun h=>h21 (by simpa using h)),(fun h=>by obtain⟨b4,a1,a2,a3,a4⟩:=h4 (by simpa using h);exact⟨b4,a1,a2,a3,fun h=>a4 (by simpa using h)⟩),(fun h=>v0 (by simpa using h)),(fun h=>v1 (by simpa using h)),(fun _=>rfl)⟩⟩
      ·skip
       intro L a w' hL hd hI;obtain⟨V,hf,⟨hR,hG,hX,hbx,h20,h21,h4,v0,v1,v3⟩⟩:=hI;simp [DepsOk,Region.binds] at hd
       have e:=(ev_of ((hf.ins hnd hbd 3 rfl).trans (congrArg some (v3 (by simp [hd])))));have hba:Below w'.heap.size w' (w'.alloc (.cells cc.toArray 40)):=(Below.refl _ _).alloc (Nat.le_refl _) _;refine rs_val (wanted_none rfl) (ex_bs rfl (vs:=#[(0,.agg cc.toArray)]) (by rw [List.map_toArray];simp only [List.map_cons,List.map_nil,e]) (bs_snip w' hcl)) ?_;have hlt9:∀b,v6.ownBlock=some b→b<w'.heap.size:=fun b hb=>Nat.lt_of_lt_of_le (HO6.out b hb) (by have:=heap_lt hbx;omega)
       exact⟨_,hf.put hnd hbd 4 rfl _,⟨(hR.later hba),(hG.trans (Gr2.below hba)),(hX.later hba),((hba.block _ (heap_lt hbx)).trans hbx),(fun h=>by obtain⟨a1,a2⟩:=h20 (by simpa using h);exact⟨a1.later hba,own_below a2 hba⟩),(fun h=>by obtain⟨a1,a2⟩:=h21 (by simpa using h);exact⟨a1.later hba,a2⟩),(fun _=>⟨w'.heap.size,rfl,heap_alloc_new _ _,fun e=>by have:=hlt9 _ e;omega,fun h e=>by obtain⟨a1,a2⟩:=h21 (by simpa using h);have:=(a1.lt _ e).2;omega⟩),(fun h=>v0 (by simpa using h)),(fun h=>v1 (by simpa using h)),(fun h=>v3 (by simpa using h))⟩⟩
     ·intro L a w' hL hI
      obtain⟨V,hf,⟨hR,hG,hX,hbx,h20,h21,h4,v0,v1,v3⟩⟩:=hI;obtain⟨ho9,hn9⟩:=h21 (hL 2 (by decide));obtain⟨b4,hv4,hb4,_,hne⟩:=h4 (hL 4 (by decide));have hne:=hne (hL 2 (by decide));obtain⟨a9,c9,hv2⟩:=ho9.form;have ha:=hf.eq;have hA:=HA.out;rw [hv2] at ho9 hn9 hne;obtain⟨css,hown9,hsv9⟩:=ho9;have HOW:=Lib.hid hown9;have HSL:=Lib.hid (Sl.lit (n:=1) (sz:=18) hb4 (by simp [hcl]));subst ha;subst hA;simp only [putsL,hv4,hv2,List.drop_succ_cons,List.drop_zero];clear e6 e7 e8 hsz hbd hf HA h20 h21 h4 v0 v1 v3 hbxe hown9;have hwl:(withT o t).length≤o.length+1:=by unfold withT;split<;>simp
      have hzw:=hG.size;go_wp2_with (at_builtin;refine wpList_appM w.heap.size 40 rfl _ _ 23 rfl Tryz.underlying23 hiN rfl (by decide) rfl HOW.out rfl HSL.out (by simpa using HONE.out) (by omega) (by omega) (by decide) hzw ?_)
      intro v8 w8 ho8 hg8 _ hm8;have hlt9:=HOW.out.lt;have hRR:=Lib.hid (hR.grow hn9 (fun k hk=>(hlt9 k hk).1) hgB hg8);have hGG:=Lib.hid (hG.row (fun k hk=>(hlt9 k hk).1) (Nat.le_refl _) hg8);have hOO:Hid (OwnN w8 w.heap.size S4 v8 (withT o t++[x])):=Lib.hid (OwnN.app (ds:=[cc]) (m:=1) hsv9 (.cons (hX.mono fun b hb _=>⟨hb,fun e=>hn9 b e hb⟩) .nil) rfl (by simpa using ho8) hg8 hm8);have hNN:=Lib.hid (hn9.moved hm8 hR.lt);clear hR hG hX hbx hsv9 hb4 hne ho8 hg8 hm8;go_wp2
      go_roundg (s.length-j)
      case measure=>omega
      case rel=>exact⟨_,_,S4,j4,withT o t++[x],[],rfl,rfl,hRR.out,by omega,by omega,HS14.out,HS24.out,hOO.out,World.ownsRow_nil _ _ _ _,hGG.out,by simp;omega,by simp,hNN.out,NotOwn.nil _,Lib.hid (by rw [HXY.out,HD4.out];exact HXN.out)⟩
end Go.Proofs.YtbgcjpefocdkkaaGreat
