/- walk of sread: braced: a transform, of a number -/
import Derived.Test.YtdcnncgpomcaaaaGreatDoorRc32
import Derived.Test.YtdcnncgpomcaaaaGreatDoorRc31
import Derived.Test.YtdcnncgpomcaaaaGreatDoorRc29
import Derived.Test.YtdcnncgpomcaaaaGreatDoorRows
import Derived.LaidMore
import Derived.Stop.Joined
import Derived.ProofKit
import Derived.OpenShut
import Derived.ShutString
set_option maxRecDepth 100000
set_option maxHeartbeats 4000000
namespace Go.Proofs.YtdcnncgpomcaaaaGreatDoor
open Go.RowKit Go.Maps Go.MapKept
open Go.ChangeMaps (setBlock)
theorem Bm {g m:Nat} {s:Str} (hs:s.length≤100000) (hs1:1≤s.length) (S:Nat→Prop) (w:World) (i:Nat) {t:Str} {n:Int} (h:Rs S w g m s i) (hn125:List.isPrefixOf [125] (s.drop i)=false) (hn58:List.isPrefixOf [58] (s.drop i)=false) (hn124:List.isPrefixOf [124] (s.drop i)=false)
  (hF:lE (lu true [] []) (hdN 1 t n) (s.drop i)=match oq (s.drop i) with|none=>none|some (f,r2)=>some ((hdN 1 t n).turn f,r2)) :
  Calls Tryz.prog 76 #[.pointer (some ⟨g,0,none⟩),.agg #[.int .i64 1,.string ⟨t.toArray⟩,.int .i64 n,.bool false,.bool false,.int .i64 0,.string ⟨#[]⟩,.bool false,.slice none 0 0,.int .i64 0,.int .i64 0,.bool false,.slice none 0 0,.slice none 0 0,.bool false,.bool false,.slice none 0 0,.slice none 0 0]] w fun e w'=>OutX S g m s (lE (lu true [] []) (hdN 1 t n) (s.drop i)) false i w e w':=by
 have HRS:=ab h;have hgB:=h.pl.lt;have hi:=h.pl.2.1;have hmg:=h.gm;have hnb3:¬S w.heap.size∧w.heap.size≠g∧w.heap.size≠m:=⟨fun e=>by have:=h.lt _ e;omega,by omega,by omega⟩;have hnb4:¬S (w.heap.size+1)∧w.heap.size+1≠g∧w.heap.size+1≠m:=⟨fun e=>by have:=h.lt _ e;omega,by omega,by omega⟩;obtain⟨W0,hW0⟩:∃W0,W0=(w.alloc (.cells #[.int .i64 1,.string ⟨t.toArray⟩,.int .i64 n,.bool false,.bool false,.int .i64 0,.string ⟨#[]⟩,.bool false,.slice none 0 0,.int .i64 0,.int .i64 0,.bool false,.slice none 0 0,.slice none 0 0,.bool false,.bool false,.slice none 0 0,.slice none 0 0] 44)).alloc s0:=⟨_,rfl⟩;have hb0:Below w.heap.size w W0:=by rw [hW0];exact((Below.refl _ _).alloc (Ju _) _).alloc gU _
 have HX0:Hid (W0.heap[w.heap.size]?=some (.cells #[.int .i64 1,.string ⟨t.toArray⟩,.int .i64 n,.bool false,.bool false,.int .i64 0,.string ⟨#[]⟩,.bool false,.slice none 0 0,.int .i64 0,.int .i64 0,.bool false,.slice none 0 0,.slice none 0 0,.bool false,.bool false,.slice none 0 0,.slice none 0 0] 44 (0,0))):=ab ib;have HB0:Hid (W0.heap[w.heap.size+1]?=some s0):=ab (by
  have:=heap_alloc_new (w.alloc (.cells #[.int .i64 1,.string ⟨t.toArray⟩,.int .i64 n,.bool false,.bool false,.int .i64 0,.string ⟨#[]⟩,.bool false,.slice none 0 0,.int .i64 0,.int .i64 0,.bool false,.slice none 0 0,.slice none 0 0,.bool false,.bool false,.slice none 0 0,.slice none 0 0] 44)) s0
  rw [hW0];simpa using this)
 have HRS0:=ab (h.later hb0);have HG0:Hid (Gr2 g m w W0):=ab (Gr2.below hb0);have hz0:W0.heap.size=w.heap.size+2:=by rw [hW0];simp
 have HW0:=ab hW0;obtain⟨R,hR⟩:∃R,lE (lu true [] []) (hdN 1 t n) (s.drop i)=R:=⟨_,rfl⟩;rw [hR];have HS1:=ab hs1;have htk:=nl (p:=[125]) _ HRS0.out.pl gU hn125;rw [hW0] at htk;have HTK:=ab htk;clear htk hW0;have HN58:=ab hn58;have HN124:=ab hn124;rw [hR] at hF;have HHE:=ab hF;clear hF h hR hb0 hn125 hn58 hn124;go_enter Tryz.func76,Tryz.ntmps76
 go_wp2_with (go_at_call 73;refine HTK.out.mono ?_)
 first|rintro e w1 rfl hp1 hg1|rintro e w1 ⟨rfl,hp1,hg1⟩
 rw [←HW0.out] at hg1;have HTK2:=ab (nl (p:=[58]) _ hp1 gU HN58.out);go_wp2_with (go_at_call 73;refine HTK2.out.mono ?_)
 first|rintro e w2 rfl hp2 hg2|rintro e w2 ⟨rfl,hp2,hg2⟩
 have hx2:=lN (lN HX0.out hg1 gN) hg2 gN;have kc:=kU hx2 0 rfl;have HTK3:=ab (nl (p:=[124]) _ hp2 gU (by simpa using HN124.out));go_wp2_with (go_at_call 73;refine HTK3.out.mono ?_)
 first|rintro e w3 rfl hp3 hg3|rintro e w3 ⟨rfl,hp3,hg3⟩
 have hg03:=kR (kR hg1 hg2) hg3;have hx3:=lN hx2 hg3 gN;clear hp1 hg1 hp2 hg2 hg3 HTK HTK2 HTK3 hx2 kc;have kc4:=kU hx3 4 rfl;have kf4:=mg hx3 4;obtain⟨W4,hW4⟩:∃W4,W4=w3.setCell ⟨w.heap.size,4,none⟩ (.bool true):=⟨_,rfl⟩;have HR3:Hid (Rs S w3 g m s i):=ab (HRS0.out.place hp3 hg03);have HR4:=ab (hW4▸HR3.out.setCell (a:=⟨w.heap.size,4,none⟩) hnb3 (.bool true));have HG4:=ab (hW4▸(HG0.out.trans (Gr2.grown hg03)).setNew (a:=⟨w.heap.size,4,none⟩) (Ju _) (.bool true));have HX4:Hid (W4.heap[w.heap.size]?=some (.cells #[.int .i64 1,.string ⟨t.toArray⟩,.int .i64 n,.bool false,.bool true,.int .i64 0,.string ⟨#[]⟩,.bool false,.slice none 0 0,.int .i64 0,.int .i64 0,.bool false,.slice none 0 0,.slice none 0 0,.bool false,.bool false,.slice none 0 0,.slice none 0 0] 44 (0,0))):=ab i6;have HB4:Hid (W4.heap[w.heap.size+1]?=some s0):=ab g7;have hz4:w.heap.size+2≤W4.heap.size:=by rw [hW4];simp only [World.size_setCell];have:=hg03.size;omega
 have c0:=HR4.out.pl.c0;have c1:=HR4.out.pl.c1;have HFO:Hid (∀W:World,Calls Tryz.prog 94 #[.string ⟨s.toArray⟩,.int .i64 (i:Int)] W fun e w'=>u9 s i W.heap.size W (oq (s.drop i)) e w'):=ab (fun W=>AZ s i W hi gN);go_upto_region 13 with fail
 rw [←hW4];clear hW4 hx3 kc4 kf4 hp3 hg03 HR3;go_region_with (first|(go_at_call 94;refine(HFO.out _).mono ?_;intro e w5 hpo;obtain⟨rk,rch,rng,ra,rn,rcp,rlo,rhi,rlz,rka,kn,rkc,fa,fn,fcp,fd,al,f,ej,ok,rfl,hb5,hf5,hej,hm5⟩:=xA HS1.out hpo;clear hpo;have HF5:=ab hf5;have HM5:=ab hm5;clear hf5 hm5;have hbd:=(Below.refl W4.heap.size W4).drew.trans hb5;have hx5:=(hbd.block _ (kT HX4.out)).trans HX4.out;have hr5:=HR4.out.later hbd;have pc1:=hr5.pl.c1;have pf1:=hr5.pl.free 1;have z5:=kU hx5 5 rfl;have z6:=kU hx5 6 rfl;have z7:=kU hx5 7 rfl;have z8:=kU hx5 8 rfl;have z9:=kU hx5 9 rfl;have z10:=kU hx5 10 rfl;have z11:=kU hx5 11 rfl;have z12:=kU hx5 12 rfl;have z13:=kU hx5 13 rfl;have z14:=kU hx5 14 rfl;have z15:=kU hx5 15 rfl;have zf:=mg hx5))
 all_goals
  have HF6:Hid (TfV w5 (fun b=>W4.heap.size≤b) [.int .i64 rk,.string ⟨rch.toArray⟩,.bool rng,.slice ra rn rcp,.int .i64 rlo,.int .i64 rhi,.bool rlz,.slice rka kn rkc,.slice fa fn fcp,.bool fd,.bool al] f):=HF5;have hz5:W4.heap.size≤w5.heap.size:=hbd.size;go_upto_region 15 with fail
  obtain⟨W6,hW6⟩:∃W6,W6=(((((((((((((((w5).setCell ⟨w.heap.size,5,none⟩ (.int .i64 rk)).setCell ⟨w.heap.size,6,none⟩ (.string ⟨rch.toArray⟩)).setCell ⟨w.heap.size,7,none⟩ (.bool rng)).setCell ⟨w.heap.size,8,none⟩ (.slice ra rn rcp)).setCell ⟨w.heap.size,9,none⟩ (.int .i64 rlo)).setCell ⟨w.heap.size,10,none⟩ (.int .i64 rhi)).setCell ⟨w.heap.size,11,none⟩ (.bool rlz)).setCell ⟨w.heap.size,12,none⟩ (.slice rka kn rkc)).setCell ⟨w.heap.size,13,none⟩ (.slice fa fn fcp)).setCell ⟨w.heap.size,14,none⟩ (.bool fd)).setCell ⟨w.heap.size,15,none⟩ (.bool al))).setCell ⟨g,1,none⟩ (.int .i64 (ej:Int))).setCell ⟨g,1,none⟩ (.int .i64 ((ej:Int)+1))):=⟨_,rfl⟩;have HR5:Hid (Rs (fun b=>S b∨(W4.heap.size≤b∧b<w5.heap.size)) W6 g m s (ej+1)):=ab (by
   rw [hW6,sD];refine((hr5.setsL hnb3 _ 5).twice hej).mono (fun b hb=>.inl hb) ?_ ?_ ?_
   ·exact eP
   ·exact eQ
   ·rintro b (e|⟨_,e⟩)
    ·simp only [World.size_setCell,mP];have:=HRS.out.lt b e;omega
    ·simpa only [World.size_setCell,mP] using e)
  have HG5:Hid (Gr2 g m w W6):=ab jh;have HX5:Hid (W6.heap[w.heap.size]?=some (.cells #[.int .i64 1,.string ⟨t.toArray⟩,.int .i64 n,.bool false,.bool true,.int .i64 rk,.string ⟨rch.toArray⟩,.bool rng,.slice ra rn rcp,.int .i64 rlo,.int .i64 rhi,.bool rlz,.slice rka kn rkc,.slice fa fn fcp,.bool fd,.bool al,.slice none 0 0,.slice none 0 0] 44 (0,0))):=ab (by
   rw [hW6,sD,oJ _ _ gN];exact rh (post:=[.slice none 0 0,.slice none 0 0]) [.int .i64 rk,.string ⟨rch.toArray⟩,.bool rng,.slice ra rn rcp,.int .i64 rlo,.int .i64 rhi,.bool rlz,.slice rka kn rkc,.slice fa fn fcp,.bool fd,.bool al] [.int .i64 0,.string ⟨#[]⟩,.bool false,.slice none 0 0,.int .i64 0,.int .i64 0,.bool false,.slice none 0 0,.slice none 0 0,.bool false,.bool false] [.int .i64 1,.string ⟨t.toArray⟩,.int .i64 n,.bool false,.bool true] hx5 rfl)
  have HB5:Hid (W6.heap[w.heap.size+1]?=some s0):=ab i7;have HV5:Hid (SnV W6 (fun b=>S b∨(W4.heap.size≤b∧b<w5.heap.size)) [.int .i64 1,.string ⟨t.toArray⟩,.int .i64 n,.bool false,.bool true,.int .i64 rk,.string ⟨rch.toArray⟩,.bool rng,.slice ra rn rcp,.int .i64 rlo,.int .i64 rhi,.bool rlz,.slice rka kn rkc,.slice fa fn fcp,.bool fd,.bool al,.slice none 0 0,.slice none 0 0] (.mk 1 t n false true f [] [])):=ab (by
   refine SnV.close (fc:=[.int .i64 rk,.string ⟨rch.toArray⟩,.bool rng,.slice ra rn rcp,.int .i64 rlo,.int .i64 rhi,.bool rlz,.slice rka kn rkc,.slice fa fn fcp,.bool fd,.bool al]) (os:=[]) (ks:=[]) ?_ (SlS.none_ _ _ _ _) (SnSl.nil _ _ _);refine TfV.keep ⟨?_,fun b hb hlt=>?_⟩ (HF6.out.mono fun b hb hlt=>.inr ⟨hb,hlt⟩)
   ·rw [hW6,sD];simp only [World.size_setCell,mP];exact Ju _
   ·rw [hW6,sD]
    rcases hb with hb|⟨hb,_⟩
    ·exact dS
    ·rw [oJ _ _ gN,mL gN])
  have HON5:=ab HV5.out.one;have hS1:∀b,S b→(S b∨(W4.heap.size≤b∧b<w5.heap.size)):=fun _ h=>.inl h
  have hS2:∀b,(S b∨(W4.heap.size≤b∧b<w5.heap.size))→S b∨w.heap.size≤b:=fun b h=>h.imp id fun h=>by omega
  have hnb4:¬(S (w.heap.size+1)∨(W4.heap.size≤w.heap.size+1∧w.heap.size+1<w5.heap.size))∧w.heap.size+1≠g∧w.heap.size+1≠m:=⟨by
   rintro(e|⟨e,_⟩)
   ·exact hnb4.1 e
   ·omega,hnb4.2⟩
  rw [←hW6];clear hW6 hx5 hr5 pc1 pf1 zf hbd hb5 c0 c1;clear z5 z6 z7 z8 z9 z10 z11 z12 z13 z14 z15;cases hfm:oq (s.drop i) with
  | none =>
   have HE:Hid (R=none):=ab (by rw [HHE.out,hfm]);have hok:ok=false:=by have:=HM5.out;rw [hfm] at this;exact this
   subst hok;clear hfm HM5 HHE HFO;have HB9:=ab (mF (w:=W6) (cs:=#[.int .i64 1,.string ⟨t.toArray⟩,.int .i64 n,.bool false,.bool true,.int .i64 rk,.string ⟨rch.toArray⟩,.bool rng,.slice ra rn rcp,.int .i64 rlo,.int .i64 rhi,.bool rlz,.slice rka kn rkc,.slice fa fn fcp,.bool fd,.bool al,.slice none 0 0,.slice none 0 0]) HB5.out);go_wp2_with (first|(fail)|(refine kV rfl 44 (.tmp 3) rfl (w.heap.size) 0 rfl ([.int .i64 1,.string ⟨t.toArray⟩,.int .i64 n,.bool false,.bool true,.int .i64 rk,.string ⟨rch.toArray⟩,.bool rng,.slice ra rn rcp,.int .i64 rlo,.int .i64 rhi,.bool rlz,.slice rka kn rkc,.slice fa fn fcp,.bool fd,.bool al,.slice none 0 0,.slice none 0 0]) _ (lc (ds:=[]) (HX5.out)) kX rfl iD ?_)|(refine ll rfl 44 (.tmp 4) (.tmp 82) rfl ((w.heap.size+1)) (#[.int .i64 1,.string ⟨t.toArray⟩,.int .i64 n,.bool false,.bool true,.int .i64 rk,.string ⟨rch.toArray⟩,.bool rng,.slice ra rn rcp,.int .i64 rlo,.int .i64 rhi,.bool rlz,.slice rka kn rkc,.slice fa fn fcp,.bool fd,.bool al,.slice none 0 0,.slice none 0 0]) rfl rfl 44 _ (HB5.out) (ld) rfl rfl (HON5.out) (W:=((W6).setRow (w.heap.size+1) #[.int .i64 1,.string ⟨t.toArray⟩,.int .i64 n,.bool false,.bool true,.int .i64 rk,.string ⟨rch.toArray⟩,.bool rng,.slice ra rn rcp,.int .i64 rlo,.int .i64 rhi,.bool rlz,.slice rka kn rkc,.slice fa fn fcp,.bool fd,.bool al,.slice none 0 0,.slice none 0 0])) (rfl) ?_))
   refine JM (nv Tryz.results76 kX ld HB9.out rfl rfl rfl) rfl ?_;rw [HE.out];exact⟨HG5.out.setRow gN _,(fun b=>S b∨(W4.heap.size≤b∧b<w5.heap.size)),_,_,(.mk 1 t n false true f [] []),false,rfl,HR5.out.setRow hnb4 _,hS1,hS2,HV5.out.setRow hnb4.1 _,⟨rfl,fun e=>by cases e⟩⟩
  | some p =>
   obtain⟨f0,r2⟩:=p;have HE:Hid (R=some ((hdN 1 t n).turn f0,r2)):=ab (by rw [HHE.out,hfm]);have hok:ok=true∧f=f0∧s.drop (ej+1)=r2:=by have:=HM5.out;rw [hfm] at this;exact this
   obtain⟨rfl,rfl,hdr⟩:=hok;have HDR:=ab hdr;clear hfm HM5 HHE HFO hdr;have HB9:=ab (mF (w:=W6) (cs:=#[.int .i64 1,.string ⟨t.toArray⟩,.int .i64 n,.bool false,.bool true,.int .i64 rk,.string ⟨rch.toArray⟩,.bool rng,.slice ra rn rcp,.int .i64 rlo,.int .i64 rhi,.bool rlz,.slice rka kn rkc,.slice fa fn fcp,.bool fd,.bool al,.slice none 0 0,.slice none 0 0]) HB5.out);go_wp2_with (first|(fail)|(refine kV rfl 44 (.tmp 3) rfl (w.heap.size) 0 rfl ([.int .i64 1,.string ⟨t.toArray⟩,.int .i64 n,.bool false,.bool true,.int .i64 rk,.string ⟨rch.toArray⟩,.bool rng,.slice ra rn rcp,.int .i64 rlo,.int .i64 rhi,.bool rlz,.slice rka kn rkc,.slice fa fn fcp,.bool fd,.bool al,.slice none 0 0,.slice none 0 0]) _ (lc (ds:=[]) (HX5.out)) kX rfl iD ?_)|(refine ll rfl 44 (.tmp 4) (.tmp 82) rfl ((w.heap.size+1)) (#[.int .i64 1,.string ⟨t.toArray⟩,.int .i64 n,.bool false,.bool true,.int .i64 rk,.string ⟨rch.toArray⟩,.bool rng,.slice ra rn rcp,.int .i64 rlo,.int .i64 rhi,.bool rlz,.slice rka kn rkc,.slice fa fn fcp,.bool fd,.bool al,.slice none 0 0,.slice none 0 0]) rfl rfl 44 _ (HB5.out) (ld) rfl rfl (HON5.out) (W:=((W6).setRow (w.heap.size+1) #[.int .i64 1,.string ⟨t.toArray⟩,.int .i64 n,.bool false,.bool true,.int .i64 rk,.string ⟨rch.toArray⟩,.bool rng,.slice ra rn rcp,.int .i64 rlo,.int .i64 rhi,.bool rlz,.slice rka kn rkc,.slice fa fn fcp,.bool fd,.bool al,.slice none 0 0,.slice none 0 0])) (rfl) ?_))
   refine JM (nv Tryz.results76 kX ld HB9.out rfl rfl rfl) rfl ?_;rw [HE.out];exact⟨HG5.out.setRow gN _,(fun b=>S b∨(W4.heap.size≤b∧b<w5.heap.size)),_,_,(.mk 1 t n false true f [] []),true,rfl,HR5.out.setRow hnb4 _,hS1,hS2,HV5.out.setRow hnb4.1 _,⟨rfl,rfl,HDR.out⟩⟩
open Go.RowKit Go.Maps Go.MapKept
open Go.ChangeMaps (setBlock)
theorem BF {g m:Nat} {s:Str} (hs:s.length≤100000) (hs1:1≤s.length) (S:Nat→Prop) (w:World) (i:Nat) {t:Str} {n:Int} (h:Rs S w g m s i) (hn125:List.isPrefixOf [125] (s.drop i)=false) (hn58:List.isPrefixOf [58] (s.drop i)=false)
  (hF:lE (lu true [] []) (hdN 3 t n) (s.drop i)=match oq (s.drop i) with|none=>none|some (f,r2)=>some ((hdN 3 t n).turn f,r2)) :
  Calls Tryz.prog 76 #[.pointer (some ⟨g,0,none⟩),.agg #[.int .i64 3,.string ⟨t.toArray⟩,.int .i64 n,.bool false,.bool false,.int .i64 0,.string ⟨#[]⟩,.bool false,.slice none 0 0,.int .i64 0,.int .i64 0,.bool false,.slice none 0 0,.slice none 0 0,.bool false,.bool false,.slice none 0 0,.slice none 0 0]] w fun e w'=>OutX S g m s (lE (lu true [] []) (hdN 3 t n) (s.drop i)) false i w e w':=by
 have HRS:=ab h;have hgB:=h.pl.lt;have hi:=h.pl.2.1;have hmg:=h.gm;have hnb3:¬S w.heap.size∧w.heap.size≠g∧w.heap.size≠m:=⟨fun e=>by have:=h.lt _ e;omega,by omega,by omega⟩;have hnb4:¬S (w.heap.size+1)∧w.heap.size+1≠g∧w.heap.size+1≠m:=⟨fun e=>by have:=h.lt _ e;omega,by omega,by omega⟩;obtain⟨W0,hW0⟩:∃W0,W0=(w.alloc (.cells #[.int .i64 3,.string ⟨t.toArray⟩,.int .i64 n,.bool false,.bool false,.int .i64 0,.string ⟨#[]⟩,.bool false,.slice none 0 0,.int .i64 0,.int .i64 0,.bool false,.slice none 0 0,.slice none 0 0,.bool false,.bool false,.slice none 0 0,.slice none 0 0] 44)).alloc s0:=⟨_,rfl⟩;have hb0:Below w.heap.size w W0:=by rw [hW0];exact((Below.refl _ _).alloc (Ju _) _).alloc gU _
 have HX0:Hid (W0.heap[w.heap.size]?=some (.cells #[.int .i64 3,.string ⟨t.toArray⟩,.int .i64 n,.bool false,.bool false,.int .i64 0,.string ⟨#[]⟩,.bool false,.slice none 0 0,.int .i64 0,.int .i64 0,.bool false,.slice none 0 0,.slice none 0 0,.bool false,.bool false,.slice none 0 0,.slice none 0 0] 44 (0,0))):=ab ib;have HB0:Hid (W0.heap[w.heap.size+1]?=some s0):=ab (by
  have:=heap_alloc_new (w.alloc (.cells #[.int .i64 3,.string ⟨t.toArray⟩,.int .i64 n,.bool false,.bool false,.int .i64 0,.string ⟨#[]⟩,.bool false,.slice none 0 0,.int .i64 0,.int .i64 0,.bool false,.slice none 0 0,.slice none 0 0,.bool false,.bool false,.slice none 0 0,.slice none 0 0] 44)) s0
  rw [hW0];simpa using this)
 have HRS0:=ab (h.later hb0);have HG0:Hid (Gr2 g m w W0):=ab (Gr2.below hb0);have hz0:W0.heap.size=w.heap.size+2:=by rw [hW0];simp
 have HW0:=ab hW0;obtain⟨R,hR⟩:∃R,lE (lu true [] []) (hdN 3 t n) (s.drop i)=R:=⟨_,rfl⟩;rw [hR];have HS1:=ab hs1;have htk:=nl (p:=[125]) _ HRS0.out.pl gU hn125;rw [hW0] at htk;have HTK:=ab htk;clear htk hW0;have HN58:=ab hn58;rw [hR] at hF;have HHE:=ab hF;clear hF h hR hb0 hn125 hn58;go_enter Tryz.func76,Tryz.ntmps76
 go_wp2_with (go_at_call 73;refine HTK.out.mono ?_)
 first|rintro e w1 rfl hp1 hg1|rintro e w1 ⟨rfl,hp1,hg1⟩
 rw [←HW0.out] at hg1;have HTK2:=ab (nl (p:=[58]) _ hp1 gU HN58.out);go_wp2_with (go_at_call 73;refine HTK2.out.mono ?_)
 first|rintro e w3 rfl hp3 hg3|rintro e w3 ⟨rfl,hp3,hg3⟩
 have hg03:=kR hg1 hg3;have hx3:=lN (lN HX0.out hg1 gN) hg3 gN;have kc:=kU hx3 0 rfl;clear hp1 hg1 hg3 HTK HTK2;have kc4:=kU hx3 4 rfl;have kf4:=mg hx3 4;obtain⟨W4,hW4⟩:∃W4,W4=w3.setCell ⟨w.heap.size,4,none⟩ (.bool true):=⟨_,rfl⟩;have HR3:Hid (Rs S w3 g m s i):=ab (HRS0.out.place hp3 hg03);have HR4:=ab (hW4▸HR3.out.setCell (a:=⟨w.heap.size,4,none⟩) hnb3 (.bool true));have HG4:=ab (hW4▸(HG0.out.trans (Gr2.grown hg03)).setNew (a:=⟨w.heap.size,4,none⟩) (Ju _) (.bool true));have HX4:Hid (W4.heap[w.heap.size]?=some (.cells #[.int .i64 3,.string ⟨t.toArray⟩,.int .i64 n,.bool false,.bool true,.int .i64 0,.string ⟨#[]⟩,.bool false,.slice none 0 0,.int .i64 0,.int .i64 0,.bool false,.slice none 0 0,.slice none 0 0,.bool false,.bool false,.slice none 0 0,.slice none 0 0] 44 (0,0))):=ab i6;have HB4:Hid (W4.heap[w.heap.size+1]?=some s0):=ab g7;have hz4:w.heap.size+2≤W4.heap.size:=by rw [hW4];simp only [World.size_setCell];have:=hg03.size;omega
 have c0:=HR4.out.pl.c0;have c1:=HR4.out.pl.c1;have HFO:Hid (∀W:World,Calls Tryz.prog 94 #[.string ⟨s.toArray⟩,.int .i64 (i:Int)] W fun e w'=>u9 s i W.heap.size W (oq (s.drop i)) e w'):=ab (fun W=>AZ s i W hi gN);go_upto_region 13 with fail
 rw [←hW4];clear hW4 hx3 kc4 kf4 hp3 hg03 HR3;go_region_with (first|(go_at_call 94;refine(HFO.out _).mono ?_;intro e w5 hpo;obtain⟨rk,rch,rng,ra,rn,rcp,rlo,rhi,rlz,rka,kn,rkc,fa,fn,fcp,fd,al,f,ej,ok,rfl,hb5,hf5,hej,hm5⟩:=xA HS1.out hpo;clear hpo;have HF5:=ab hf5;have HM5:=ab hm5;clear hf5 hm5;have hbd:=(Below.refl W4.heap.size W4).drew.trans hb5;have hx5:=(hbd.block _ (kT HX4.out)).trans HX4.out;have hr5:=HR4.out.later hbd;have pc1:=hr5.pl.c1;have pf1:=hr5.pl.free 1;have z5:=kU hx5 5 rfl;have z6:=kU hx5 6 rfl;have z7:=kU hx5 7 rfl;have z8:=kU hx5 8 rfl;have z9:=kU hx5 9 rfl;have z10:=kU hx5 10 rfl;have z11:=kU hx5 11 rfl;have z12:=kU hx5 12 rfl;have z13:=kU hx5 13 rfl;have z14:=kU hx5 14 rfl;have z15:=kU hx5 15 rfl;have zf:=mg hx5))
 all_goals
  have HF6:Hid (TfV w5 (fun b=>W4.heap.size≤b) [.int .i64 rk,.string ⟨rch.toArray⟩,.bool rng,.slice ra rn rcp,.int .i64 rlo,.int .i64 rhi,.bool rlz,.slice rka kn rkc,.slice fa fn fcp,.bool fd,.bool al] f):=HF5;have hz5:W4.heap.size≤w5.heap.size:=hbd.size;go_upto_region 15 with fail
  obtain⟨W6,hW6⟩:∃W6,W6=(((((((((((((((w5).setCell ⟨w.heap.size,5,none⟩ (.int .i64 rk)).setCell ⟨w.heap.size,6,none⟩ (.string ⟨rch.toArray⟩)).setCell ⟨w.heap.size,7,none⟩ (.bool rng)).setCell ⟨w.heap.size,8,none⟩ (.slice ra rn rcp)).setCell ⟨w.heap.size,9,none⟩ (.int .i64 rlo)).setCell ⟨w.heap.size,10,none⟩ (.int .i64 rhi)).setCell ⟨w.heap.size,11,none⟩ (.bool rlz)).setCell ⟨w.heap.size,12,none⟩ (.slice rka kn rkc)).setCell ⟨w.heap.size,13,none⟩ (.slice fa fn fcp)).setCell ⟨w.heap.size,14,none⟩ (.bool fd)).setCell ⟨w.heap.size,15,none⟩ (.bool al))).setCell ⟨g,1,none⟩ (.int .i64 (ej:Int))).setCell ⟨g,1,none⟩ (.int .i64 ((ej:Int)+1))):=⟨_,rfl⟩;have HR5:Hid (Rs (fun b=>S b∨(W4.heap.size≤b∧b<w5.heap.size)) W6 g m s (ej+1)):=ab (by
   rw [hW6,sD];refine((hr5.setsL hnb3 _ 5).twice hej).mono (fun b hb=>.inl hb) ?_ ?_ ?_
   ·exact eP
   ·exact eQ
   ·rintro b (e|⟨_,e⟩)
    ·simp only [World.size_setCell,mP];have:=HRS.out.lt b e;omega
    ·simpa only [World.size_setCell,mP] using e)
  have HG5:Hid (Gr2 g m w W6):=ab jh;have HX5:Hid (W6.heap[w.heap.size]?=some (.cells #[.int .i64 3,.string ⟨t.toArray⟩,.int .i64 n,.bool false,.bool true,.int .i64 rk,.string ⟨rch.toArray⟩,.bool rng,.slice ra rn rcp,.int .i64 rlo,.int .i64 rhi,.bool rlz,.slice rka kn rkc,.slice fa fn fcp,.bool fd,.bool al,.slice none 0 0,.slice none 0 0] 44 (0,0))):=ab (by
   rw [hW6,sD,oJ _ _ gN];exact rh (post:=[.slice none 0 0,.slice none 0 0]) [.int .i64 rk,.string ⟨rch.toArray⟩,.bool rng,.slice ra rn rcp,.int .i64 rlo,.int .i64 rhi,.bool rlz,.slice rka kn rkc,.slice fa fn fcp,.bool fd,.bool al] [.int .i64 0,.string ⟨#[]⟩,.bool false,.slice none 0 0,.int .i64 0,.int .i64 0,.bool false,.slice none 0 0,.slice none 0 0,.bool false,.bool false] [.int .i64 3,.string ⟨t.toArray⟩,.int .i64 n,.bool false,.bool true] hx5 rfl)
  have HB5:Hid (W6.heap[w.heap.size+1]?=some s0):=ab i7;have HV5:Hid (SnV W6 (fun b=>S b∨(W4.heap.size≤b∧b<w5.heap.size)) [.int .i64 3,.string ⟨t.toArray⟩,.int .i64 n,.bool false,.bool true,.int .i64 rk,.string ⟨rch.toArray⟩,.bool rng,.slice ra rn rcp,.int .i64 rlo,.int .i64 rhi,.bool rlz,.slice rka kn rkc,.slice fa fn fcp,.bool fd,.bool al,.slice none 0 0,.slice none 0 0] (.mk 3 t n false true f [] [])):=ab (by
   refine SnV.close (fc:=[.int .i64 rk,.string ⟨rch.toArray⟩,.bool rng,.slice ra rn rcp,.int .i64 rlo,.int .i64 rhi,.bool rlz,.slice rka kn rkc,.slice fa fn fcp,.bool fd,.bool al]) (os:=[]) (ks:=[]) ?_ (SlS.none_ _ _ _ _) (SnSl.nil _ _ _);refine TfV.keep ⟨?_,fun b hb hlt=>?_⟩ (HF6.out.mono fun b hb hlt=>.inr ⟨hb,hlt⟩)
   ·rw [hW6,sD];simp only [World.size_setCell,mP];exact Ju _
   ·rw [hW6,sD]
    rcases hb with hb|⟨hb,_⟩
    ·exact dS
    ·rw [oJ _ _ gN,mL gN])
  have HON5:=ab HV5.out.one;have hS1:∀b,S b→(S b∨(W4.heap.size≤b∧b<w5.heap.size)):=fun _ h=>.inl h
  have hS2:∀b,(S b∨(W4.heap.size≤b∧b<w5.heap.size))→S b∨w.heap.size≤b:=fun b h=>h.imp id fun h=>by omega
  have hnb4:¬(S (w.heap.size+1)∨(W4.heap.size≤w.heap.size+1∧w.heap.size+1<w5.heap.size))∧w.heap.size+1≠g∧w.heap.size+1≠m:=⟨by
   rintro(e|⟨e,_⟩)
   ·exact hnb4.1 e
   ·omega,hnb4.2⟩
  rw [←hW6];clear hW6 hx5 hr5 pc1 pf1 zf hbd hb5 c0 c1;clear z5 z6 z7 z8 z9 z10 z11 z12 z13 z14 z15;cases hfm:oq (s.drop i) with
  | none =>
   have HE:Hid (R=none):=ab (by rw [HHE.out,hfm]);have hok:ok=false:=by have:=HM5.out;rw [hfm] at this;exact this
   subst hok;clear hfm HM5 HHE HFO;have HB9:=ab (mF (w:=W6) (cs:=#[.int .i64 3,.string ⟨t.toArray⟩,.int .i64 n,.bool false,.bool true,.int .i64 rk,.string ⟨rch.toArray⟩,.bool rng,.slice ra rn rcp,.int .i64 rlo,.int .i64 rhi,.bool rlz,.slice rka kn rkc,.slice fa fn fcp,.bool fd,.bool al,.slice none 0 0,.slice none 0 0]) HB5.out);go_wp2_with (first|(fail)|(refine kV rfl 44 (.tmp 3) rfl (w.heap.size) 0 rfl ([.int .i64 3,.string ⟨t.toArray⟩,.int .i64 n,.bool false,.bool true,.int .i64 rk,.string ⟨rch.toArray⟩,.bool rng,.slice ra rn rcp,.int .i64 rlo,.int .i64 rhi,.bool rlz,.slice rka kn rkc,.slice fa fn fcp,.bool fd,.bool al,.slice none 0 0,.slice none 0 0]) _ (lc (ds:=[]) (HX5.out)) kX rfl iD ?_)|(refine ll rfl 44 (.tmp 4) (.tmp 82) rfl ((w.heap.size+1)) (#[.int .i64 3,.string ⟨t.toArray⟩,.int .i64 n,.bool false,.bool true,.int .i64 rk,.string ⟨rch.toArray⟩,.bool rng,.slice ra rn rcp,.int .i64 rlo,.int .i64 rhi,.bool rlz,.slice rka kn rkc,.slice fa fn fcp,.bool fd,.bool al,.slice none 0 0,.slice none 0 0]) rfl rfl 44 _ (HB5.out) (ld) rfl rfl (HON5.out) (W:=((W6).setRow (w.heap.size+1) #[.int .i64 3,.string ⟨t.toArray⟩,.int .i64 n,.bool false,.bool true,.int .i64 rk,.string ⟨rch.toArray⟩,.bool rng,.slice ra rn rcp,.int .i64 rlo,.int .i64 rhi,.bool rlz,.slice rka kn rkc,.slice fa fn fcp,.bool fd,.bool al,.slice none 0 0,.slice none 0 0])) (rfl) ?_))
   refine JM (nv Tryz.results76 kX ld HB9.out rfl rfl rfl) rfl ?_;rw [HE.out];exact⟨HG5.out.setRow gN _,(fun b=>S b∨(W4.heap.size≤b∧b<w5.heap.size)),_,_,(.mk 3 t n false true f [] []),false,rfl,HR5.out.setRow hnb4 _,hS1,hS2,HV5.out.setRow hnb4.1 _,⟨rfl,fun e=>by cases e⟩⟩
  | some p =>
   obtain⟨f0,r2⟩:=p;have HE:Hid (R=some ((hdN 3 t n).turn f0,r2)):=ab (by rw [HHE.out,hfm]);have hok:ok=true∧f=f0∧s.drop (ej+1)=r2:=by have:=HM5.out;rw [hfm] at this;exact this
   obtain⟨rfl,rfl,hdr⟩:=hok;have HDR:=ab hdr;clear hfm HM5 HHE HFO hdr;have HB9:=ab (mF (w:=W6) (cs:=#[.int .i64 3,.string ⟨t.toArray⟩,.int .i64 n,.bool false,.bool true,.int .i64 rk,.string ⟨rch.toArray⟩,.bool rng,.slice ra rn rcp,.int .i64 rlo,.int .i64 rhi,.bool rlz,.slice rka kn rkc,.slice fa fn fcp,.bool fd,.bool al,.slice none 0 0,.slice none 0 0]) HB5.out);go_wp2_with (first|(fail)|(refine kV rfl 44 (.tmp 3) rfl (w.heap.size) 0 rfl ([.int .i64 3,.string ⟨t.toArray⟩,.int .i64 n,.bool false,.bool true,.int .i64 rk,.string ⟨rch.toArray⟩,.bool rng,.slice ra rn rcp,.int .i64 rlo,.int .i64 rhi,.bool rlz,.slice rka kn rkc,.slice fa fn fcp,.bool fd,.bool al,.slice none 0 0,.slice none 0 0]) _ (lc (ds:=[]) (HX5.out)) kX rfl iD ?_)|(refine ll rfl 44 (.tmp 4) (.tmp 82) rfl ((w.heap.size+1)) (#[.int .i64 3,.string ⟨t.toArray⟩,.int .i64 n,.bool false,.bool true,.int .i64 rk,.string ⟨rch.toArray⟩,.bool rng,.slice ra rn rcp,.int .i64 rlo,.int .i64 rhi,.bool rlz,.slice rka kn rkc,.slice fa fn fcp,.bool fd,.bool al,.slice none 0 0,.slice none 0 0]) rfl rfl 44 _ (HB5.out) (ld) rfl rfl (HON5.out) (W:=((W6).setRow (w.heap.size+1) #[.int .i64 3,.string ⟨t.toArray⟩,.int .i64 n,.bool false,.bool true,.int .i64 rk,.string ⟨rch.toArray⟩,.bool rng,.slice ra rn rcp,.int .i64 rlo,.int .i64 rhi,.bool rlz,.slice rka kn rkc,.slice fa fn fcp,.bool fd,.bool al,.slice none 0 0,.slice none 0 0])) (rfl) ?_))
   refine JM (nv Tryz.results76 kX ld HB9.out rfl rfl rfl) rfl ?_;rw [HE.out];exact⟨HG5.out.setRow gN _,(fun b=>S b∨(W4.heap.size≤b∧b<w5.heap.size)),_,_,(.mk 3 t n false true f [] []),true,rfl,HR5.out.setRow hnb4 _,hS1,hS2,HV5.out.setRow hnb4.1 _,⟨rfl,rfl,HDR.out⟩⟩
open Go.RowKit Go.Maps Go.MapKept
open Go.ChangeMaps (setBlock)
theorem CB {g m:Nat} {s:Str} {N:Nat} (hs:s.length≤100000) (hs1:1≤s.length) (HP:Aq g m s N):GD g m s (N+1):=by
 intro S w i k t n h hk hN;by_cases c125:∃r1,s.drop i=125::r1
 ·obtain⟨r1,hd⟩:=c125
  exact ES S w i h hd
 by_cases c58:∃r1,s.drop i=58::r1
 ·obtain⟨r1,hd⟩:=c58
  exact FX HP S w i h hN (uG c125) hd
 by_cases c124:k=1∧∃r1,s.drop i=124::r1
 ·obtain⟨rfl,r1,hd⟩:=c124
  exact Fx S w i h (uG c125) (uG c58) hd
 have hHE:lE (lu true [] []) (hdN k t n) (s.drop i)=match oq (s.drop i) with|none=>none|some (f,r2)=>some ((hdN k t n).turn f,r2):=by
  cases hd:s.drop i with
  | nil=>rfl
  | cons c r =>
   simp only [lE];rw [Jo (fun e=>c125 ⟨r,by rw [hd,show c=125 from Jk.1 e]⟩),Jo (fun e=>c58 ⟨r,by rw [hd,show c=58 from Jk.1 e]⟩),Jo (fun e=>c124 ⟨e.2,r,by rw [hd,show c=124 from Jk.1 e.1]⟩)];rfl
 rcases hk with rfl|rfl
 ·exact Bm hs hs1 S w i h (uG c125) (uG c58) (uG fun e=>c124 ⟨rfl,e⟩) hHE
 ·exact BF hs hs1 S w i h (uG c125) (uG c58) hHE
open Go.RowKit
theorem sP {g m:Nat} {s:Str} {N:Nat} (hs:s.length≤100000) (HP:PartC g m s N):Aq g m s N:=by
 intro S w ins i h hN;cases ins with
 | false=>exact FI hs HP S w i h hN
 | true=>exact Jc hs HP S w i h hN
theorem BL {g m:Nat} {s:Str} (hs:s.length≤100000) (hs1:1≤s.length):∀N,Gf g m s N
 | 0=>by
  intro S w i r h hd hN;have:=Jp List.length hd
  simp at this
  omega
 | N+1=>by
  have h1:Aq g m s N:=sP hs (Bf hs (BL hs hs1 N));have h2:=CB hs hs1 h1;exact EX fun S w i k t n h hk hN=>h2 S w i k t n h hk gN
theorem If {g m:Nat} {s:Str} (hs:s.length≤100000):Aq g m s s.length:=by
 rcases Nat.eq_zero_or_pos s.length with h0|h1
 ·refine sP hs (fun S w i c r h hd hN=>?_)
  have:=Jp List.length hd
  simp at this
  omega
 ·exact sP hs (Bf hs (BL hs h1 _))
open Go.RowKit Go.Maps Go.MapKept
def GN (s:Str) (w:World) (e:Ending) (w':World):Prop:=Below w.heap.size w w' ∧
 match pz s with
 | .error q=>e=.returned (.tuple #[.slice none 0 0,.int .i64 q])
 | .ok l=>∃(a:Option Addr) (c:Nat),e=.returned (.tuple #[.slice a l.length c,.int .i64 0])∧SnSl w' (fun b=>w.heap.size≤b) a l.length l
theorem Gr2.old {g m n:Nat} {w w1 w':World} (h:Gr2 g m w1 w') (hb:Below n w w1) (hn:n≤w1.heap.size) (hg:n≤g) (hm:n≤m):Below n w w' :=
 ⟨h.os.trans hb.os,h.tape.trans hb.tape,h.output.trans hb.output,Jv hb.size h.size,fun k hk=>(h.block k gN gN gN).trans (hb.block k hk)⟩
theorem Bb (s:Str) (w:World) (hs:s.length≤1000000000):Calls Tryz.prog 13 #[.string ⟨s.toArray⟩] w fun e w'=>GN s w e w':=by
 by_cases h8:8192<s.length
 ·have HM:Hid (pz s=.error 4):=ab (by unfold pz;rw [Jl h8])
  have gl:decide ((8192:Int)<(s.length:Int))=true:=JR gN;go_enter Tryz.func13,Tryz.ntmps13
  go_wp2
  go_ret2
  exact⟨Below.refl _ _,by rw [HM.out];rfl⟩
 ·have gl:decide ((8192:Int)<(s.length:Int))=false:=JT gN
  obtain⟨hsm,hln,hpn⟩:=sr (s:=s) gN;have HPN:=ab hpn;have HSM:=ab hsm;have HLN:=ab hln;have hparts:=If (g:=w.heap.size+1) (m:=w.heap.size) (s:=s) gN;have HPP:=ab hparts;clear hparts hsm hln hpn;obtain⟨W1,hW1⟩:∃W1,W1=(w.alloc (.map #[] 0)).alloc (.cells #[.string ⟨s.toArray⟩,.int .i64 0,.map (some w.heap.size)] 64):=⟨_,rfl⟩;have hb1:Below w.heap.size w W1:=by rw [hW1];exact((Below.refl _ _).alloc (Ju _) _).alloc gU _
  have hz1:W1.heap.size=w.heap.size+2:=by rw [hW1];simp
  have hrs:Rs (fun _=>False) W1 (w.heap.size+1) w.heap.size s 0:=by
   refine⟨⟨?_,by omega,by omega⟩,by omega,⟨#[],0,?_,fun e he=>by simp at he⟩,fun h=>h,fun h=>h,fun b h=>h.elim⟩
   ·have:=heap_alloc_new (w.alloc (.map #[] 0)) (.cells #[.string ⟨s.toArray⟩,.int .i64 0,.map (some w.heap.size)] 64)
    rw [hW1];simpa using this
   ·rw [hW1,Below.heap_alloc _ _ _ gU];exact heap_alloc_new w _
  have HPA:=ab (HPP.out (fun _=>False) W1 false 0 hrs gN);have HW1:=ab hW1;clear hrs hW1;have hmk:(Instr.makeMap 62 none).run Tryz.prog w=.ok (.map (some w.heap.size)) (w.alloc (.map #[] 0)):=rfl;go_enter Tryz.func13,Tryz.ntmps13
  go_upto_region 4 with fail
  rw [←HW1.out];go_wp2_with (go_at_call 24;refine HPA.out.mono ?_)
  rintro e w2 ⟨hg2,S2,j2,a2,c2,rfl,hr2,_,hT2,hsl2,_⟩;have hq:(lu false [] [] (s.drop 0)).1=nn s:=by rw [JZ,oz]
  rw [hq] at hsl2 ⊢;have hbw2:Below w.heap.size w w2:=hg2.old hb1 gN gN (Ju _);have HDE:=ab (rq S2 (Sn.partsL (nn s)+1) (nn s) gN HPN.out a2 c2 w2 hsl2);have HSL:=ab hsl2;have HBW2:=ab hbw2;clear hg2 hr2 hT2 hsl2 hq hbw2 HPA HPP HW1 hb1;by_cases hd:32<Sn.deepL (nn s)
  ·have HM:Hid (pz s=.error 8):=ab (by unfold pz;rw [Jo h8,Jl hd])
   have gd:decide ((32:Int)<(Sn.deepL (nn s):Int))=true:=JR gN;have gdn:decide (32<Sn.deepL (nn s))=true:=JR hd;go_wp2_with (go_at_call 15;refine HDE.out.mono ?_;rintro e w3 ⟨rfl,hb3⟩)
   go_ret2
   exact⟨bel2 HBW2.out hb3,by rw [HM.out];rfl⟩
  ·have HM:Hid (pz s=.ok (nn s)):=ab (by unfold pz;rw [Jo h8,Jo hd])
   have gd:decide ((32:Int)<(Sn.deepL (nn s):Int))=false:=JT gN;have gdn:decide (32<Sn.deepL (nn s))=false:=JT hd;go_wp2_with (first|(go_at_call 15;refine HDE.out.mono ?_;rintro e w3 ⟨rfl,hb3⟩)|(go_at_call 25;refine(t7 S2 (Sn.partsL (nn s)+1) (nn s) gN HSM.out HLN.out a2 c2 _ (HSL.out.later hb3)).mono ?_))
   rintro e w4 ⟨a4,c4,rfl,hsl4,hb4⟩;have HB4:=ab (bel2 (bel2 HBW2.out hb3) hb4);have hz3:=(bel2 HBW2.out hb3).size;have HSL4:=ab (hsl4.mono (S':=fun b=>w.heap.size≤b) fun b hb _=>Jv hz3 hb);go_wp2
   go_ret2
   exact⟨HB4.out,by rw [HM.out];exact⟨a4,c4,rfl,HSL4.out⟩⟩
theorem SRead_ok {s:Str} {l:List Sn} (w:World) (hs:s.length≤1000000000) (h:pz s=.ok l) :
  Calls Tryz.prog 13 #[.string ⟨s.toArray⟩] w fun e w'=>∃(a:Option Addr) (c:Nat),e=.returned (.tuple #[.slice a l.length c,.int .i64 0])∧Below w.heap.size w w'∧SnSl w' (fun b=>w.heap.size≤b) a l.length l:=by
 refine(Bb s w hs).mono ?_
 rintro e w' ⟨h1,h2⟩;rw [h] at h2;obtain⟨a,c,h3,h4⟩:=h2;exact⟨a,c,h3,h1,h4⟩
theorem uH {T:Str} {l:List Sn} (h:pz T=.ok l) (hl:T.length≤100000):∀(s:Str) (w:World),s=T→Calls Tryz.prog 13 #[.string ⟨s.toArray⟩] w fun e w'=>∃(a:Option Addr) (c:Nat),e=.returned (.tuple #[.slice a l.length c,.int .i64 0])∧Below w.heap.size w w'∧SnSl w' (fun b=>w.heap.size≤b) a l.length l:=by
 rintro s w rfl;exact SRead_ok w gN h
theorem nsame {ks:List Sn} (hs:Sn.smallL ks) (hl:ks.length≤1000000):Eh ks:=A9 (Sn.partsL ks+1) ks gN hs hl
theorem pN {l:List Sn} (h:nM l=true):Sn.wfL l=true:=by
 unfold nM at h;rw [Jy,Jy] at h;exact h.1.2
open Go.ChangeShapes Go.WideShapes Go.RowKit
theorem zD {W : World} (h : laidMetH Tryz.prog [("math/bits.deBruijn32tab", Rows.laid_math_bits_deBruijn32tab), ("math/bits.deBruijn64tab", Rows.laid_math_bits_deBruijn64tab), ("internal/strconv.uint64pow10", Rows.laid_internal_strconv_uint64pow10)] W) : Tab W := by
 rw [MakeChecks.laidMetH_plain _ _ _ gT] at h;obtain⟨ps,⟨g0,t0,cs0,f0,p0,q0,hg0,ht0,hv0,hd0,⟨g1,t1,cs1,f1,p1,q1,hg1,ht1,hv1,hd1,⟨g2,t2,cs2,f2,p2,q2,hg2,ht2,hv2,hd2,_,_⟩,_⟩,_⟩,_⟩:=h;have hg : Tryz.prog.globalNamed "internal/strconv.uint64pow10" = some 1 := by kernel_rfl
 have ht:(Tryz.prog.globals[1]?).map (·.type)=some 140:=gT;obtain rfl:=Option.some.inj (hg.symm.trans hg2);obtain rfl:=Option.some.inj (ht.symm.trans ht2);have hc:=Lib.cells_of_tab (zs:=Lib.pow10Tab) (k:=.u64) Tryz.underlying140 Tryz.underlying126 gT gT hd2;unfold Tab Lib.TabIs;rw [hv2,←hc]
open Go.RowKit Go.WideShapes Go.ChangeShapes
theorem own:ownKnob Tryz.prog.godebug=none:=by kernel_rfl
section
variable {H:Type} {enc:TypeId × Value→H} {P:Program}
theorem rY (hl:laidOutB P=true) {W W':World} (hb:Below W.heap.size W W'):∀{ts:List TypeId} {vs:List Value} {ds:List (DataW H)} {ps:List MemPlace},
  (∀t∈ts,P.readableRec t=true∧t<P.types.size)→DataW.TrodAll enc P W 0 (fun _=>true) true ts vs ds ps→(∀p∈ps,p.block<W.heap.size)→∀sp:Nat→Bool,(∀p∈ps,sp p.block=true) →
  DataW.TrodAll enc P W' 0 sp true ts vs ds ps
 | [],vs,ds,ps,_,h,_,sp,_=>by
  obtain⟨rfl,rfl,rfl⟩:=trodAll_nil h;exact trodAll_mk0
 | t::ts,vs,ds,ps,ht,h,hlt,sp,hsp=>by
  obtain⟨v,vs',d,ds',p,q,rfl,rfl,rfl,h1,h2⟩:=trodAll_cons h;obtain⟨r1,r2⟩:=ht t (JE ..);exact trodAll_cons_mk (WideElems.Trod_stays hl r1 r2 h1 (fun x hx=>hb.same (hlt x (List.mem_append_left _ hx))) (fun x hx=>hsp x (List.mem_append_left _ hx)))
   (rY hl hb (fun t hm=>ht t (JF _ hm)) h2 (fun x hx=>hlt x (List.mem_append_right _ hx)) sp (fun x hx=>hsp x (List.mem_append_right _ hx)))
theorem zS {f:Func} {s:ChangeSpec} {apart fresh handsOn again:Bool} {W W':World} {args:Array Value} {v:Value} {ds gs:List (DataW H)} {before pa pv:List MemPlace}
  (hW:DataW.Whole enc P f.params.toList s.vars apart W args.toList ds gs before)
  (hres:∀(b:Nat) (sp:Nat→Bool) (hd:Bool),DataW.TrodAll enc P W' b sp hd f.resultTypes.toList (v.resultList f.resultTypes.size) (s.fn H (ds++gs)).results [])
  (hargs:∀sp:Nat→Bool,(∀p∈before,sp p.block=true)→DataW.TrodAll enc P W' 0 sp true f.params.toList args.toList (s.fn H (ds++gs)).args pa)
  (hvars:∀sp:Nat→Bool,(∀p∈before,sp p.block=true)→DataW.TrodVars enc P W' sp s.vars (s.fn H (ds++gs)).vars pv)
  (hps:before=pa++pv) (hb:Below W.heap.size W W')
  (hok:∀(j:Nat) (t:TypeId) (r:Value),f.resultTypes[j]?=some t→(v.resultList f.resultTypes.size)[j]?=some r→Value.okWide P W' .any 0 t r) :
  s.post enc P f apart fresh handsOn again W args v W':=by
 have hlt:∀p∈before,p.block<W.heap.size:=fun p hp=>hW.lt p hp
 have hold:∀p∈before,(fun b=>decide (b<W.heap.size)) p.block=true:=fun p hp=>by simpa using hlt p hp
 refine⟨ds,gs,before,[],pa,pv,hW,hres _ _ _,hargs _ hold,hvars _ hold,World.keptBut_mono (fun p hp=>⟨hp,?_⟩) (hb.frame (·∈before)),fun _=>?_⟩
 ·rw [hps,JX] at hp
  exact Or.inr hp
 ·obtain⟨_,_,_,_,_,hz,hn⟩:=hW
  refine⟨hok,_,_,([]++pa)++pv,⟨[]++pa,pv,trodAll_append (hargs _ (fun _ _=>rfl)) (hres _ _ _),hvars _ (fun _ _=>rfl),rfl,?_,?_⟩,?_⟩
  ·intro b off hp
   have hin:MemPlace.cell b off∈before:=by rw [hps];simpa using hp
   rw [hb.frozen (hlt _ hin)];exact hz b off hin
  ·intro ha
   have:=hn ha
   rw [hps] at this;simpa using this
  ·intro p hp _
   rw [hps];simpa using hp
end
end Go.Proofs.YtdcnncgpomcaaaaGreatDoor
