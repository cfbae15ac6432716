/- walk of sread: braced: what there is by default -/
import Derived.Test.YtdcnncgpomcaaaaGreatDoorRc22
set_option maxRecDepth 100000
set_option maxHeartbeats 4000000
namespace Go.Proofs.YtdcnncgpomcaaaaGreatDoor
open Go.RowKit Go.Maps Go.MapKept
open Go.ChangeMaps (setBlock)
def VP (ok:Bool) (v c:Value):Prop:=ok=true→v=c
structure In7 (S5:Nat→Prop) (g m:Nat) (s:Str) (b b0 j5:Nat) (CS Z:Array Value) (w:World) (x:Sn) (ok:Bool) (L:Nat→Bool) (V:Nat→Value) (w':World):Prop where
 hb:w'.heap[b]?=some (.cells CS 44 (0,0))
 hz:L 8=false→w'.heap[b0]?=some (.cells Z 44 (0,0))
 hz1:L 8=true→w'.heap[b0]?=some (.cells CS 44 (0,0))
 hg:Gr2 g m w w'
 hr0:(L 6&&ok)=false→Rs S5 w' g m s j5
 hr1:(L 6&&ok)=true→Rs S5 w' g m s (j5+1)
 hv:SnV w' S5 CS.toList x
 v0:L 0=true→V 0=.agg CS
 v1:L 1=true→V 1=.bool ok
 v2:L 2=true→V 2=.bool ok
 v3:L 3=true→VP ok (V 3) (.pointer (some ⟨g,0,none⟩))
 v4:L 4=true→VP ok (V 4) (.pointer (some ⟨g,0,none⟩))
 v5:L 5=true→VP ok (V 5) (.pointer (some ⟨g,0,none⟩))
 v6:L 6=true→VP ok (V 6) (.bool true)
 v7:L 7=true→V 7=.bool ok
def RI7 (S5:Nat→Prop) (g m:Nat) (s:Str) (b b0 j5:Nat) (CS Z:Array Value) (w:World) (x:Sn) (ok:Bool) (A0:Act) (L:Nat→Bool) (a:Act) (w':World):Prop:=∃V:Nat→Value,Fm2 [25,26,27,28,29,30,31,32] V A0 a∧In7 S5 g m s b b0 j5 CS Z w x ok L V w'
theorem FX {g m:Nat} {s:Str} {N:Nat} (HP:Aq g m s N) (S:Nat→Prop) (w:World) (i:Nat) {k:Int} {t:Str} {n:Int} (h:Rs S w g m s i) (hN:s.length-i≤N+1) {r1:Str} (hn125:List.isPrefixOf [125] (s.drop i)=false) (hd:s.drop i=58::r1) :
  Calls Tryz.prog 76 #[.pointer (some ⟨g,0,none⟩),.agg #[.int .i64 k,.string ⟨t.toArray⟩,.int .i64 n,.bool false,.bool false,.int .i64 0,.string ⟨#[]⟩,.bool false,.slice none 0 0,.int .i64 0,.int .i64 0,.bool false,.slice none 0 0,.slice none 0 0,.bool false,.bool false,.slice none 0 0,.slice none 0 0]] w fun e w'=>OutX S g m s (lE (lu true [] []) (hdN k t n) (s.drop i)) false i w e w':=by
 have HRS:=ab h;have hgB:=h.pl.lt;have hi:=h.pl.2.1;have hmg:=h.gm;have hnb3:¬S w.heap.size∧w.heap.size≠g∧w.heap.size≠m:=⟨fun e=>by have:=h.lt _ e;omega,by omega,by omega⟩;have hnb4:¬S (w.heap.size+1)∧w.heap.size+1≠g∧w.heap.size+1≠m:=⟨fun e=>by have:=h.lt _ e;omega,by omega,by omega⟩;obtain⟨W0,hW0⟩:∃W0,W0=(w.alloc (.cells #[.int .i64 k,.string ⟨t.toArray⟩,.int .i64 n,.bool false,.bool false,.int .i64 0,.string ⟨#[]⟩,.bool false,.slice none 0 0,.int .i64 0,.int .i64 0,.bool false,.slice none 0 0,.slice none 0 0,.bool false,.bool false,.slice none 0 0,.slice none 0 0] 44)).alloc s0:=⟨_,rfl⟩;have hb0:Below w.heap.size w W0:=by rw [hW0];exact((Below.refl _ _).alloc (Ju _) _).alloc gU _
 have HX0:Hid (W0.heap[w.heap.size]?=some (.cells #[.int .i64 k,.string ⟨t.toArray⟩,.int .i64 n,.bool false,.bool false,.int .i64 0,.string ⟨#[]⟩,.bool false,.slice none 0 0,.int .i64 0,.int .i64 0,.bool false,.slice none 0 0,.slice none 0 0,.bool false,.bool false,.slice none 0 0,.slice none 0 0] 44 (0,0))):=ab ib;have HB0:Hid (W0.heap[w.heap.size+1]?=some s0):=ab (by
  have:=heap_alloc_new (w.alloc (.cells #[.int .i64 k,.string ⟨t.toArray⟩,.int .i64 n,.bool false,.bool false,.int .i64 0,.string ⟨#[]⟩,.bool false,.slice none 0 0,.int .i64 0,.int .i64 0,.bool false,.slice none 0 0,.slice none 0 0,.bool false,.bool false,.slice none 0 0,.slice none 0 0] 44)) s0
  rw [hW0];simpa using this)
 have HRS0:=ab (h.later hb0);have HG0:Hid (Gr2 g m w W0):=ab (Gr2.below hb0);have hz0:W0.heap.size=w.heap.size+2:=by rw [hW0];simp
 have HW0:=ab hW0;obtain⟨R,hR⟩:∃R,lE (lu true [] []) (hdN k t n) (s.drop i)=R:=⟨_,rfl⟩;rw [hR];have HPP:=ab HP;have htk:=nl (p:=[125]) _ HRS0.out.pl gU hn125;rw [hW0] at htk;have HTK:=ab htk;clear htk hW0;have HDJ:Hid (s.drop (i+1)=r1):=ab (lG hd).2.2;have hyes:List.isPrefixOf [58] (s.drop i)=true:=by rw [hd];rfl
 have HYES:=ab hyes;have HE0:Hid (R=match (lu true [] [] r1).2 with|[]=>none|_::r2=>some ((hdN k t n).give (lu true [] [] r1).1,r2)):=ab (by rw [←hR,hd];simp only [lE];rw [Jo gR,Jl gR];cases (lu true [] [] r1).2<;>rfl);obtain⟨kids,rest,hq⟩:∃kids rest,lu true [] [] r1=(kids,rest):=⟨_,_,rfl⟩;have hqh:=fun c t=>sV r1.length [] [] r1 (Ju _) c t
 rw [hq] at HE0 hqh;have HQH:=ab hqh;have HQ:=ab hq;clear hq hqh;cases rest with
 | nil =>
  have HE:Hid (R=none):=ab (HE0.out);clear HE0 HQH;clear h hd hR hb0 hn125 hyes;go_enter Tryz.func76,Tryz.ntmps76
  go_wp2_with (go_at_call 73;refine HTK.out.mono ?_)
  first|rintro e w1 rfl hp1 hg1|rintro e w1 ⟨rfl,hp1,hg1⟩
  rw [←HW0.out] at hg1;have HTK2:=ab (nK (p:=[58]) _ hp1 gU HYES.out);go_wp2_with (go_at_call 73;refine HTK2.out.mono ?_)
  first|rintro e w3 rfl hp3 hg3|rintro e w3 ⟨rfl,hp3,hg3⟩
  have hg03:=kR hg1 hg3;have hx3:=lN (lN HX0.out hg1 gN) hg3 gN;have kc3:=kU hx3 3 rfl;have kf3:=mg hx3 3;obtain⟨W4,hW4⟩:∃W4,W4=w3.setCell ⟨w.heap.size,3,none⟩ (.bool true):=⟨_,rfl⟩;have HR3:Hid (Rs S w3 g m s (i+1)):=ab (HRS0.out.place hp3 hg03);have HR4:=ab (hW4▸HR3.out.setCell (a:=⟨w.heap.size,3,none⟩) hnb3 (.bool true));have HG4:=ab (hW4▸(HG0.out.trans (Gr2.grown hg03)).setNew (a:=⟨w.heap.size,3,none⟩) (Ju _) (.bool true));have HX4:Hid (W4.heap[w.heap.size]?=some (.cells #[.int .i64 k,.string ⟨t.toArray⟩,.int .i64 n,.bool true,.bool false,.int .i64 0,.string ⟨#[]⟩,.bool false,.slice none 0 0,.int .i64 0,.int .i64 0,.bool false,.slice none 0 0,.slice none 0 0,.bool false,.bool false,.slice none 0 0,.slice none 0 0] 44 (0,0))):=ab i6;have HB4:Hid (W4.heap[w.heap.size+1]?=some (.cells #[.int .i64 0,.string ⟨#[]⟩,.int .i64 0,.bool false,.bool false,.int .i64 0,.string ⟨#[]⟩,.bool false,.slice none 0 0,.int .i64 0,.int .i64 0,.bool false,.slice none 0 0,.slice none 0 0,.bool false,.bool false,.slice none 0 0,.slice none 0 0] 44 (0,0))):=ab g7;have hz4:w.heap.size+2≤W4.heap.size:=by rw [hW4];simp only [World.size_setCell];have:=hg03.size;omega
  have hpp:=HPP.out S W4 true (i+1) HR4.out (by have:=HR4.out.pl.2.1;omega);rw [HDJ.out] at hpp;rw [HQ.out] at hpp;have HPA:=ab hpp;clear hpp HDJ;go_upto_region 6 with fail
  rw [←hW4];clear hW4 hx3 kc3 kf3 hp3 hg3 hg03 hp1 hg1 HTK HTK2 HR3;have HPB:=HPA;clear HPA;go_wp2_with (go_at_call 24;refine HPB.out.mono ?_)
  rintro e w5 ⟨hg5,S5,j5,a5,c5',rfl,hr5,hT1,hT2,hsl5,hd5⟩;have hz5:=hg5.size;have hx5:=(hg5.block _ (kT HX4.out) gN gN).trans HX4.out;have kc5:=kU hx5 17 rfl;have kf5:=mg hx5 17;obtain⟨W6,hW6⟩:∃W6,W6=w5.setCell ⟨w.heap.size,17,none⟩ (.slice a5 (kids).length c5'):=⟨_,rfl⟩;have hnS:∀b,w.heap.size≤b→b<W4.heap.size→¬S5 b:=fun b h1 h2 e=>by
   exact dX
  have hx5n:¬S5 w.heap.size∧w.heap.size≠g∧w.heap.size≠m:=⟨hnS _ (Ju _) gN,by omega,by omega⟩;have HR5:Hid (Rs S5 W6 g m s j5):=ab (hW6▸hr5.setCell (a:=⟨w.heap.size,17,none⟩) hx5n _);have HG5:Hid (Gr2 g m w W6):=ab (hW6▸(HG4.out.trans hg5).setNew (a:=⟨w.heap.size,17,none⟩) (Ju _) _);have HX5:Hid (W6.heap[w.heap.size]?=some (.cells #[.int .i64 k,.string ⟨t.toArray⟩,.int .i64 n,.bool true,.bool false,.int .i64 0,.string ⟨#[]⟩,.bool false,.slice none 0 0,.int .i64 0,.int .i64 0,.bool false,.slice none 0 0,.slice none 0 0,.bool false,.bool false,.slice none 0 0,.slice a5 (kids).length c5'] 44 (0,0))):=ab ju;have HB5:Hid (W6.heap[w.heap.size+1]?=some s0):=ab iF;have HV5:Hid (SnV W6 S5 [.int .i64 k,.string ⟨t.toArray⟩,.int .i64 n,.bool true,.bool false,.int .i64 0,.string ⟨#[]⟩,.bool false,.slice none 0 0,.int .i64 0,.int .i64 0,.bool false,.slice none 0 0,.slice none 0 0,.bool false,.bool false,.slice none 0 0,.slice a5 (kids).length c5'] (.mk k t n true false tf0 [] (kids))):=ab (by
   refine hx_v (os:=[]) (SlS.none_ _ _ _ _) ?_;rw [hW6];exact hsl5.keep (Kept.setLow _ fun b hb=>by rintro rfl;exact hx5n.1 hb))
  have HON5:=ab HV5.out.one;have hS1:∀b,S b→S5 b:=hT1;have hS2:∀b,S5 b→S b∨w.heap.size≤b:=fun b h=>(hT2 b h).imp id fun h=>by omega
  have hnb4':¬S5 (w.heap.size+1)∧w.heap.size+1≠g∧w.heap.size+1≠m:=⟨hnS _ gN gN,by omega,by omega⟩;have HD5:Hid (s.drop j5=[]):=ab hd5;have hz6:W6.heap.size=w5.heap.size:=by rw [hW6];simp
  go_upto_region 7 with fail
  rw [←hW6];clear hW6 hx5 kc5 kf5 hr5 hg5 hd5 hsl5 HPB hnb4;obtain⟨CS,hCS⟩:∃CS:Array Value,CS=#[.int .i64 k,.string ⟨t.toArray⟩,.int .i64 n,.bool true,.bool false,.int .i64 0,.string ⟨#[]⟩,.bool false,.slice none 0 0,.int .i64 0,.int .i64 0,.bool false,.slice none 0 0,.slice none 0 0,.bool false,.bool false,.slice none 0 0,.slice a5 kids.length c5']:=⟨_,rfl⟩;obtain⟨Z,hZ⟩:∃Z:Array Value,Z=#[.int .i64 0,.string ⟨#[]⟩,.int .i64 0,.bool false,.bool false,.int .i64 0,.string ⟨#[]⟩,.bool false,.slice none 0 0,.int .i64 0,.int .i64 0,.bool false,.slice none 0 0,.slice none 0 0,.bool false,.bool false,.slice none 0 0,.slice none 0 0]:=⟨_,rfl⟩;obtain⟨X,hX⟩:∃X:Sn,X=.mk k t n true false tf0 [] kids:=⟨_,rfl⟩;have HZS:Hid (Z.size=18):=ab (by rw [hZ];rfl);have hcs:CS.size=18:=by rw [hCS];rfl
  rw [←hCS] at HX5;unfold s0 at HB5;rw [←hZ] at HB5;have HVX:Hid (SnV W6 S5 CS.toList X):=ab (by rw [hCS,hX];exact HV5.out);have HPR:Hid (false=true→List.isPrefixOf [125] (s.drop j5)=true):=ab (fun e=>by first|(cases e;done)|(rw [HD5.out];rfl));clear hCS hZ HV5 HON5;refine mn 9 gT gT (fun A0 W0 L a w'=>RI7 S5 g m s w.heap.size (w.heap.size+1) j5 CS Z w X false A0 L a w') ?_;intro A0 HA;have hsz:A0.tmps.size=84:=by rw [HA.out];rfl
  have hnd:[25,26,27,28,29,30,31,32].Nodup:=gR;have hbd:∀d∈[25,26,27,28,29,30,31,32],d<A0.tmps.size:=by rw [hsz];decide
  have e0:A0.tmps[0]?=some (.pointer (some ⟨g,0,none⟩)):=by rw [HA.out];rfl
  have e3:A0.tmps[3]?=some (.pointer (some ⟨w.heap.size,0,none⟩)):=by rw [HA.out];rfl
  have e4:A0.tmps[4]?=some (.pointer (some ⟨w.heap.size+1,0,none⟩)):=by rw [HA.out];rfl
  have e6:A0.tmps[6]?=some (.bool false):=by rw [HA.out];rfl
  refine⟨?_,?_,?_⟩
  ·exact bO
  ·refine⟨?_,?_,?_,?_,?_,?_,?_,?_,?_,trivial⟩
   ·intro L a w' hL hd hI
    obtain⟨V,hf,⟨hb,hz,hz1,hg,hr0,hr1,hv,v0,v1,v2,v3,v4,v5,v6,v7⟩⟩:=hI;simp [lm,Region.binds] at hd
    refine kV rfl 44 (.tmp 3) rfl w.heap.size 0 (lU ((hf.out gR).trans e3)) CS.toList _ (lc (ds:=[]) kL) kX rfl (by rw [ld];simp [hcs]) ?_;refine wpList_nil ?_;exact⟨_,hf.put hnd hbd 0 rfl _,⟨hb,(fun h=>hz gQ),(fun h=>hz1 gQ),hg,(fun _=>hr0 gU),(fun h=>by simp at h),hv,(fun _=>rfl),(fun h=>v1 gQ),(fun h=>v2 gQ),(fun h=>v3 gQ),(fun h=>v4 gQ),(fun h=>v5 gQ),(fun h=>v6 gQ),(fun h=>v7 gQ)⟩⟩
   ·intro L a w' hL hd hI
    obtain⟨V,hf,⟨hb,hz,hz1,hg,hr0,hr1,hv,v0,v1,v2,v3,v4,v5,v6,v7⟩⟩:=hI;simp [lm,Region.binds] at hd
    have e:=lU ((hf.out (t:=6) gR).trans e6);refine lR (lg rfl) (nY (.inl rfl)) ?_;rw [e];exact⟨_,hf.put hnd hbd 1 rfl _,⟨hb,(fun h=>hz gQ),(fun h=>hz1 gQ),hg,(fun _=>hr0 gU),(fun h=>by simp at h),hv,(fun h=>v0 gQ),(fun _=>rfl),(fun h=>v2 gQ),(fun h=>v3 gQ),(fun h=>v4 gQ),(fun h=>v5 gQ),(fun h=>v6 gQ),(fun h=>v7 gQ)⟩⟩
   ·intro L a w' hL hd hI
    obtain⟨V,hf,⟨hb,hz,hz1,hg,hr0,hr1,hv,v0,v1,v2,v3,v4,v5,v6,v7⟩⟩:=hI;simp [lm,Region.binds] at hd
    have e:=(lU ((hf.ins hnd hbd 1 rfl).trans (Jp some (v1 hd))));refine lR (lg rfl) (nY (.inl rfl)) ?_;rw [e];exact⟨_,hf.put hnd hbd 2 rfl _,⟨hb,(fun h=>hz gQ),(fun h=>hz1 gQ),hg,(fun _=>hr0 gU),(fun h=>by simp at h),hv,(fun h=>v0 gQ),(fun h=>v1 gQ),(fun _=>rfl),(fun h=>v3 gQ),(fun h=>v4 gQ),(fun h=>v5 gQ),(fun h=>v6 gQ),(fun h=>v7 gQ)⟩⟩
   ·intro L a w' hL hd hI
    obtain⟨V,hf,⟨hb,hz,hz1,hg,hr0,hr1,hv,v0,v1,v2,v3,v4,v5,v6,v7⟩⟩:=hI;simp [lm,Region.binds] at hd
    refine oX (mf rfl (nQ rfl ((hf.ins hnd hbd 2 rfl).trans (Jp some (v2 gW)))) gR) ?_;exact⟨_,hf.put hnd hbd 3 rfl _,⟨hb,(fun h=>hz gQ),(fun h=>hz1 gQ),hg,(fun _=>hr0 gU),(fun h=>by simp at h),hv,(fun h=>v0 gQ),(fun h=>v1 gQ),(fun h=>v2 gQ),(fun _ e=>by cases e),(fun h=>v4 gQ),(fun h=>v5 gQ),(fun h=>v6 gQ),(fun h=>v7 gQ)⟩⟩
   ·intro L a w' hL hd hI
    obtain⟨V,hf,⟨hb,hz,hz1,hg,hr0,hr1,hv,v0,v1,v2,v3,v4,v5,v6,v7⟩⟩:=hI;simp [lm,Region.binds] at hd
    refine oX (mf rfl (nQ rfl ((hf.ins hnd hbd 2 rfl).trans (Jp some (v2 gW)))) gR) ?_;exact⟨_,hf.put hnd hbd 4 rfl _,⟨hb,(fun h=>hz gQ),(fun h=>hz1 gQ),hg,(fun _=>hr0 gU),(fun h=>by simp at h),hv,(fun h=>v0 gQ),(fun h=>v1 gQ),(fun h=>v2 gQ),(fun h=>v3 gQ),(fun _ e=>by cases e),(fun h=>v5 gQ),(fun h=>v6 gQ),(fun h=>v7 gQ)⟩⟩
   ·intro L a w' hL hd hI
    obtain⟨V,hf,⟨hb,hz,hz1,hg,hr0,hr1,hv,v0,v1,v2,v3,v4,v5,v6,v7⟩⟩:=hI;simp [lm,Region.binds] at hd
    refine oX (mf rfl (nQ rfl ((hf.ins hnd hbd 2 rfl).trans (Jp some (v2 gW)))) gR) ?_;exact⟨_,hf.put hnd hbd 5 rfl _,⟨hb,(fun h=>hz gQ),(fun h=>hz1 gQ),hg,(fun _=>hr0 gU),(fun h=>by simp at h),hv,(fun h=>v0 gQ),(fun h=>v1 gQ),(fun h=>v2 gQ),(fun h=>v3 gQ),(fun h=>v4 gQ),(fun _ e=>by cases e),(fun h=>v6 gQ),(fun h=>v7 gQ)⟩⟩
   ·intro L a w' hL hd hI
    obtain⟨V,hf,⟨hb,hz,hz1,hg,hr0,hr1,hv,v0,v1,v2,v3,v4,v5,v6,v7⟩⟩:=hI;simp [lm,Region.binds] at hd
    refine oX (mf rfl (nQ rfl ((hf.ins hnd hbd 2 rfl).trans (Jp some (v2 gW)))) gR) ?_;exact⟨_,hf.put hnd hbd 6 rfl _,⟨hb,(fun h=>hz gQ),(fun h=>hz1 gQ),hg,(fun _=>hr0 gU),(fun h=>by simp at h),hv,(fun h=>v0 gQ),(fun h=>v1 gQ),(fun h=>v2 gQ),(fun h=>v3 gQ),(fun h=>v4 gQ),(fun h=>v5 gQ),(fun _ e=>by cases e),(fun h=>v7 gQ)⟩⟩
   ·intro L a w' hL hd hI
    obtain⟨V,hf,⟨hb,hz,hz1,hg,hr0,hr1,hv,v0,v1,v2,v3,v4,v5,v6,v7⟩⟩:=hI;simp [lm,Region.binds] at hd
    have e:=(lU ((hf.ins hnd hbd 2 rfl).trans (Jp some (v2 gW))));refine lR (lg rfl) (zd rfl e) ?_;rw [Jo gR];exact⟨_,hf.put hnd hbd 7 rfl _,⟨hb,(fun h=>hz gQ),(fun h=>hz1 gQ),hg,(fun _=>hr0 gU),(fun h=>by simp at h),hv,(fun h=>v0 gQ),(fun h=>v1 gQ),(fun h=>v2 gQ),(fun h=>v3 gQ),(fun h=>v4 gQ),(fun h=>v5 gQ),(fun h=>v6 gQ),(fun _=>rfl)⟩⟩
   ·intro L a w' hL hd hI
    obtain⟨V,hf,⟨hb,hz,hz1,hg,hr0,hr1,hv,v0,v1,v2,v3,v4,v5,v6,v7⟩⟩:=hI;simp [lm,Region.binds] at hd
    have hz0:=hz hL;refine ll rfl 44 (.tmp 4) (.tmp 25) rfl (w.heap.size+1) CS (lU ((hf.out gR).trans e4)) (lU ((hf.ins hnd hbd 0 rfl).trans (Jp some (v0 gW)))) 44 Z hz0 ld (by simp [hcs]) HZS.out (fun u hu=>hv.one u iY) rfl ?_;refine wpList_nil ?_;exact⟨_,hf.skip _,⟨((nj _ gN).trans hb),(fun h=>by simp at h),(fun _=>mF hz0),(hg.setRow gN _),(fun _=>(hr0 gU).setRow hnb4' _),(fun h=>by simp at h),(hv.setRow hnb4'.1 _),(fun h=>v0 gQ),(fun h=>v1 gQ),(fun h=>v2 gQ),(fun h=>v3 gQ),(fun h=>v4 gQ),(fun h=>v5 gQ),(fun h=>v6 gQ),(fun h=>v7 gQ)⟩⟩
  ·intro L a w' hL hI
   obtain⟨V,hf,⟨hb,hz,hz1,hg,hr0,hr1,hv,v0,v1,v2,v3,v4,v5,v6,v7⟩⟩:=hI;have ha:=hf.eq;have h7:=v7 (hL 7 gR);have HB9:=ab (hz1 (hL 8 gR));have hr9:=hr0 gU;have hA:=HA.out;subst ha;subst hA;simp only [mW,h7];clear e0 e3 e4 e6 hsz hbd hf HA;go_wp2
   refine JM (nv Tryz.results76 kX ld HB9.out (by simp [hcs]) rfl rfl) rfl ?_;rw [HE.out];exact⟨hg,S5,j5,CS.toList,X,false,rfl,hr9,hS1,hS2,hv,⟨rfl,fun e=>by cases e⟩⟩
 | cons c5 r5 =>
  have hc5:c5=125:=Jk.1 (HQH.out c5 r5 rfl);subst hc5;have HE:Hid (R=some ((hdN k t n).give kids,r5)):=ab (HE0.out);clear HE0 HQH;clear h hd hR hb0 hn125 hyes;go_enter Tryz.func76,Tryz.ntmps76
  go_wp2_with (go_at_call 73;refine HTK.out.mono ?_)
  first|rintro e w1 rfl hp1 hg1|rintro e w1 ⟨rfl,hp1,hg1⟩
  rw [←HW0.out] at hg1;have HTK2:=ab (nK (p:=[58]) _ hp1 gU HYES.out);go_wp2_with (go_at_call 73;refine HTK2.out.mono ?_)
  first|rintro e w3 rfl hp3 hg3|rintro e w3 ⟨rfl,hp3,hg3⟩
  have hg03:=kR hg1 hg3;have hx3:=lN (lN HX0.out hg1 gN) hg3 gN;have kc3:=kU hx3 3 rfl;have kf3:=mg hx3 3;obtain⟨W4,hW4⟩:∃W4,W4=w3.setCell ⟨w.heap.size,3,none⟩ (.bool true):=⟨_,rfl⟩;have HR3:Hid (Rs S w3 g m s (i+1)):=ab (HRS0.out.place hp3 hg03);have HR4:=ab (hW4▸HR3.out.setCell (a:=⟨w.heap.size,3,none⟩) hnb3 (.bool true));have HG4:=ab (hW4▸(HG0.out.trans (Gr2.grown hg03)).setNew (a:=⟨w.heap.size,3,none⟩) (Ju _) (.bool true));have HX4:Hid (W4.heap[w.heap.size]?=some (.cells #[.int .i64 k,.string ⟨t.toArray⟩,.int .i64 n,.bool true,.bool false,.int .i64 0,.string ⟨#[]⟩,.bool false,.slice none 0 0,.int .i64 0,.int .i64 0,.bool false,.slice none 0 0,.slice none 0 0,.bool false,.bool false,.slice none 0 0,.slice none 0 0] 44 (0,0))):=ab i6;have HB4:Hid (W4.heap[w.heap.size+1]?=some (.cells #[.int .i64 0,.string ⟨#[]⟩,.int .i64 0,.bool false,.bool false,.int .i64 0,.string ⟨#[]⟩,.bool false,.slice none 0 0,.int .i64 0,.int .i64 0,.bool false,.slice none 0 0,.slice none 0 0,.bool false,.bool false,.slice none 0 0,.slice none 0 0] 44 (0,0))):=ab g7;have hz4:w.heap.size+2≤W4.heap.size:=by rw [hW4];simp only [World.size_setCell];have:=hg03.size;omega
  have hpp:=HPP.out S W4 true (i+1) HR4.out (by have:=HR4.out.pl.2.1;omega);rw [HDJ.out] at hpp;rw [HQ.out] at hpp;have HPA:=ab hpp;clear hpp HDJ;go_upto_region 6 with fail
  rw [←hW4];clear hW4 hx3 kc3 kf3 hp3 hg3 hg03 hp1 hg1 HTK HTK2 HR3;have HPB:=HPA;clear HPA;go_wp2_with (go_at_call 24;refine HPB.out.mono ?_)
  rintro e w5 ⟨hg5,S5,j5,a5,c5',rfl,hr5,hT1,hT2,hsl5,hd5⟩;have hz5:=hg5.size;have hx5:=(hg5.block _ (kT HX4.out) gN gN).trans HX4.out;have kc5:=kU hx5 17 rfl;have kf5:=mg hx5 17;obtain⟨W6,hW6⟩:∃W6,W6=w5.setCell ⟨w.heap.size,17,none⟩ (.slice a5 (kids).length c5'):=⟨_,rfl⟩;have hnS:∀b,w.heap.size≤b→b<W4.heap.size→¬S5 b:=fun b h1 h2 e=>by
   exact dX
  have hx5n:¬S5 w.heap.size∧w.heap.size≠g∧w.heap.size≠m:=⟨hnS _ (Ju _) gN,by omega,by omega⟩;have HR5:Hid (Rs S5 W6 g m s j5):=ab (hW6▸hr5.setCell (a:=⟨w.heap.size,17,none⟩) hx5n _);have HG5:Hid (Gr2 g m w W6):=ab (hW6▸(HG4.out.trans hg5).setNew (a:=⟨w.heap.size,17,none⟩) (Ju _) _);have HX5:Hid (W6.heap[w.heap.size]?=some (.cells #[.int .i64 k,.string ⟨t.toArray⟩,.int .i64 n,.bool true,.bool false,.int .i64 0,.string ⟨#[]⟩,.bool false,.slice none 0 0,.int .i64 0,.int .i64 0,.bool false,.slice none 0 0,.slice none 0 0,.bool false,.bool false,.slice none 0 0,.slice a5 (kids).length c5'] 44 (0,0))):=ab ju;have HB5:Hid (W6.heap[w.heap.size+1]?=some s0):=ab iF;have HV5:Hid (SnV W6 S5 [.int .i64 k,.string ⟨t.toArray⟩,.int .i64 n,.bool true,.bool false,.int .i64 0,.string ⟨#[]⟩,.bool false,.slice none 0 0,.int .i64 0,.int .i64 0,.bool false,.slice none 0 0,.slice none 0 0,.bool false,.bool false,.slice none 0 0,.slice a5 (kids).length c5'] (.mk k t n true false tf0 [] (kids))):=ab (by
   refine hx_v (os:=[]) (SlS.none_ _ _ _ _) ?_;rw [hW6];exact hsl5.keep (Kept.setLow _ fun b hb=>by rintro rfl;exact hx5n.1 hb))
  have HON5:=ab HV5.out.one;have hS1:∀b,S b→S5 b:=hT1;have hS2:∀b,S5 b→S b∨w.heap.size≤b:=fun b h=>(hT2 b h).imp id fun h=>by omega
  have hnb4':¬S5 (w.heap.size+1)∧w.heap.size+1≠g∧w.heap.size+1≠m:=⟨hnS _ gN gN,by omega,by omega⟩;have HD5:Hid (s.drop j5=(125::r5)):=ab hd5;have hz6:W6.heap.size=w5.heap.size:=by rw [hW6];simp
  go_upto_region 7 with fail
  rw [←hW6];clear hW6 hx5 kc5 kf5 hr5 hg5 hd5 hsl5 HPB hnb4;obtain⟨CS,hCS⟩:∃CS:Array Value,CS=#[.int .i64 k,.string ⟨t.toArray⟩,.int .i64 n,.bool true,.bool false,.int .i64 0,.string ⟨#[]⟩,.bool false,.slice none 0 0,.int .i64 0,.int .i64 0,.bool false,.slice none 0 0,.slice none 0 0,.bool false,.bool false,.slice none 0 0,.slice a5 kids.length c5']:=⟨_,rfl⟩;obtain⟨Z,hZ⟩:∃Z:Array Value,Z=#[.int .i64 0,.string ⟨#[]⟩,.int .i64 0,.bool false,.bool false,.int .i64 0,.string ⟨#[]⟩,.bool false,.slice none 0 0,.int .i64 0,.int .i64 0,.bool false,.slice none 0 0,.slice none 0 0,.bool false,.bool false,.slice none 0 0,.slice none 0 0]:=⟨_,rfl⟩;obtain⟨X,hX⟩:∃X:Sn,X=.mk k t n true false tf0 [] kids:=⟨_,rfl⟩;have HZS:Hid (Z.size=18):=ab (by rw [hZ];rfl);have hcs:CS.size=18:=by rw [hCS];rfl
  rw [←hCS] at HX5;unfold s0 at HB5;rw [←hZ] at HB5;have HVX:Hid (SnV W6 S5 CS.toList X):=ab (by rw [hCS,hX];exact HV5.out);have HPR:Hid (true=true→List.isPrefixOf [125] (s.drop j5)=true):=ab (fun e=>by first|(cases e;done)|(rw [HD5.out];rfl));clear hCS hZ HV5 HON5;refine mn 9 gT gT (fun A0 W0 L a w'=>RI7 S5 g m s w.heap.size (w.heap.size+1) j5 CS Z w X true A0 L a w') ?_;intro A0 HA;have hsz:A0.tmps.size=84:=by rw [HA.out];rfl
  have hnd:[25,26,27,28,29,30,31,32].Nodup:=gR;have hbd:∀d∈[25,26,27,28,29,30,31,32],d<A0.tmps.size:=by rw [hsz];decide
  have e0:A0.tmps[0]?=some (.pointer (some ⟨g,0,none⟩)):=by rw [HA.out];rfl
  have e3:A0.tmps[3]?=some (.pointer (some ⟨w.heap.size,0,none⟩)):=by rw [HA.out];rfl
  have e4:A0.tmps[4]?=some (.pointer (some ⟨w.heap.size+1,0,none⟩)):=by rw [HA.out];rfl
  have e6:A0.tmps[6]?=some (.bool true):=by rw [HA.out];rfl
  refine⟨?_,?_,?_⟩
  ·exact bO
  ·have HPR:=ab (HPR.out rfl)
   refine⟨?_,?_,?_,?_,?_,?_,?_,?_,?_,trivial⟩
   ·intro L a w' hL hd hI
    obtain⟨V,hf,⟨hb,hz,hz1,hg,hr0,hr1,hv,v0,v1,v2,v3,v4,v5,v6,v7⟩⟩:=hI;simp [lm,Region.binds] at hd
    refine kV rfl 44 (.tmp 3) rfl w.heap.size 0 (lU ((hf.out gR).trans e3)) CS.toList _ (lc (ds:=[]) kL) kX rfl (by rw [ld];simp [hcs]) ?_;refine wpList_nil ?_;exact⟨_,hf.put hnd hbd 0 rfl _,⟨hb,(fun h=>hz gQ),(fun h=>hz1 gQ),hg,(fun h=>hr0 gQ),(fun h=>hr1 gQ),hv,(fun _=>rfl),(fun h=>v1 gQ),(fun h=>v2 gQ),(fun h=>v3 gQ),(fun h=>v4 gQ),(fun h=>v5 gQ),(fun h=>v6 gQ),(fun h=>v7 gQ)⟩⟩
   ·intro L a w' hL hd hI
    obtain⟨V,hf,⟨hb,hz,hz1,hg,hr0,hr1,hv,v0,v1,v2,v3,v4,v5,v6,v7⟩⟩:=hI;simp [lm,Region.binds] at hd
    have e:=lU ((hf.out (t:=6) gR).trans e6);refine lR (lg rfl) (nY (.inl rfl)) ?_;rw [e];exact⟨_,hf.put hnd hbd 1 rfl _,⟨hb,(fun h=>hz gQ),(fun h=>hz1 gQ),hg,(fun h=>hr0 gQ),(fun h=>hr1 gQ),hv,(fun h=>v0 gQ),(fun _=>rfl),(fun h=>v2 gQ),(fun h=>v3 gQ),(fun h=>v4 gQ),(fun h=>v5 gQ),(fun h=>v6 gQ),(fun h=>v7 gQ)⟩⟩
   ·intro L a w' hL hd hI
    obtain⟨V,hf,⟨hb,hz,hz1,hg,hr0,hr1,hv,v0,v1,v2,v3,v4,v5,v6,v7⟩⟩:=hI;simp [lm,Region.binds] at hd
    have e:=(lU ((hf.ins hnd hbd 1 rfl).trans (Jp some (v1 hd))));refine lR (lg rfl) (nY (.inl rfl)) ?_;rw [e];exact⟨_,hf.put hnd hbd 2 rfl _,⟨hb,(fun h=>hz gQ),(fun h=>hz1 gQ),hg,(fun h=>hr0 gQ),(fun h=>hr1 gQ),hv,(fun h=>v0 gQ),(fun h=>v1 gQ),(fun _=>rfl),(fun h=>v3 gQ),(fun h=>v4 gQ),(fun h=>v5 gQ),(fun h=>v6 gQ),(fun h=>v7 gQ)⟩⟩
   ·intro L a w' hL hd hI
    obtain⟨V,hf,⟨hb,hz,hz1,hg,hr0,hr1,hv,v0,v1,v2,v3,v4,v5,v6,v7⟩⟩:=hI;simp [lm,Region.binds] at hd
    have e:=lU ((hf.out (t:=0) gR).trans e0);refine lR (mc rfl (nQ rfl ((hf.ins hnd hbd 2 rfl).trans (Jp some (v2 gW))))) (nY (.inl rfl)) ?_;rw [e];exact⟨_,hf.put hnd hbd 3 rfl _,⟨hb,(fun h=>hz gQ),(fun h=>hz1 gQ),hg,(fun h=>hr0 gQ),(fun h=>hr1 gQ),hv,(fun h=>v0 gQ),(fun h=>v1 gQ),(fun h=>v2 gQ),(fun _=>(fun _=>rfl)),(fun h=>v4 gQ),(fun h=>v5 gQ),(fun h=>v6 gQ),(fun h=>v7 gQ)⟩⟩
   ·intro L a w' hL hd hI
    obtain⟨V,hf,⟨hb,hz,hz1,hg,hr0,hr1,hv,v0,v1,v2,v3,v4,v5,v6,v7⟩⟩:=hI;simp [lm,Region.binds] at hd
    refine lR (mc rfl (nQ rfl ((hf.ins hnd hbd 2 rfl).trans (Jp some (v2 gW))))) (IQ rfl (lU ((hf.ins hnd hbd 3 rfl).trans (Jp some (v3 gW rfl))))) ?_;exact⟨_,hf.put hnd hbd 4 rfl _,⟨hb,(fun h=>hz gQ),(fun h=>hz1 gQ),hg,(fun h=>hr0 gQ),(fun h=>hr1 gQ),hv,(fun h=>v0 gQ),(fun h=>v1 gQ),(fun h=>v2 gQ),(fun h=>v3 gQ),(fun _=>(fun _=>rfl)),(fun h=>v5 gQ),(fun h=>v6 gQ),(fun h=>v7 gQ)⟩⟩
   ·intro L a w' hL hd hI
    obtain⟨V,hf,⟨hb,hz,hz1,hg,hr0,hr1,hv,v0,v1,v2,v3,v4,v5,v6,v7⟩⟩:=hI;simp [lm,Region.binds] at hd
    have e:=(lU ((hf.ins hnd hbd 4 rfl).trans (Jp some (v4 gW rfl))));refine lR (mc rfl (nQ rfl ((hf.ins hnd hbd 2 rfl).trans (Jp some (v2 gW))))) (v:=.pointer (some ⟨g,0,none⟩)) (w':=w') ig ?_;exact⟨_,hf.put hnd hbd 5 rfl _,⟨hb,(fun h=>hz gQ),(fun h=>hz1 gQ),hg,(fun h=>hr0 gQ),(fun h=>hr1 gQ),hv,(fun h=>v0 gQ),(fun h=>v1 gQ),(fun h=>v2 gQ),(fun h=>v3 gQ),(fun h=>v4 gQ),(fun _=>(fun _=>rfl)),(fun h=>v6 gQ),(fun h=>v7 gQ)⟩⟩
   ·intro L a w' hL hd hI
    obtain⟨V,hf,⟨hb,hz,hz1,hg,hr0,hr1,hv,v0,v1,v2,v3,v4,v5,v6,v7⟩⟩:=hI;simp [lm,Region.binds] at hd
    have hr:=hr0 (by simp [hL]);have htk:=nK (p:=[125]) _ hr.pl gU HPR.out;have e:=(lU ((hf.ins hnd hbd 5 rfl).trans (Jp some (v5 gW rfl))));refine qS (mc rfl (nQ rfl ((hf.ins hnd hbd 2 rfl).trans (Jp some (v2 gW))))) (qV (vs:=#[.pointer (some ⟨g,0,none⟩),.string ⟨#[125]⟩]) rfl Tryz.func73 gT (by rw [List.map_toArray];simp only [List.map_cons,List.map_nil,e];rfl)) (htk.mono ?_);first|rintro e w8 rfl hp8 hg8|rintro e w8 ⟨rfl,hp8,hg8⟩
    refine⟨_,rfl,?_⟩;have hne:∀b',w.heap.size≤b'→b'≠g:=fun b' h=>by omega
    exact⟨_,hf.put hnd hbd 6 rfl _,⟨(lN hb hg8 (hne _ (Ju _))),(fun h=>lN (hz gQ) hg8 (hne _ (Nat.le_succ _))),(fun h=>lN (hz1 gQ) hg8 (hne _ (Nat.le_succ _))),(hg.trans (Gr2.grown hg8)),(fun h=>by simp at h),(fun _=>hr.place hp8 hg8),(hv.keep ⟨hg8.size,fun b' hb' hlt=>hg8.block b' hlt (fun e=>hr.ng (by injection e with e;exact e▸hb'))⟩),(fun h=>v0 gQ),(fun h=>v1 gQ),(fun h=>v2 gQ),(fun h=>v3 gQ),(fun h=>v4 gQ),(fun h=>v5 gQ),(fun _=>(fun _=>rfl)),(fun h=>v7 gQ)⟩⟩
   ·intro L a w' hL hd hI
    obtain⟨V,hf,⟨hb,hz,hz1,hg,hr0,hr1,hv,v0,v1,v2,v3,v4,v5,v6,v7⟩⟩:=hI;simp [lm,Region.binds] at hd
    have e:=(lU ((hf.ins hnd hbd 2 rfl).trans (Jp some (v2 gW))));have e1:=(lU ((hf.ins hnd hbd 6 rfl).trans (Jp some (v6 gW rfl))));refine lR (lg rfl) (zd rfl e) ?_;rw [Jl rfl,e1];exact⟨_,hf.put hnd hbd 7 rfl _,⟨hb,(fun h=>hz gQ),(fun h=>hz1 gQ),hg,(fun h=>hr0 gQ),(fun h=>hr1 gQ),hv,(fun h=>v0 gQ),(fun h=>v1 gQ),(fun h=>v2 gQ),(fun h=>v3 gQ),(fun h=>v4 gQ),(fun h=>v5 gQ),(fun h=>v6 gQ),(fun _=>rfl)⟩⟩
   ·intro L a w' hL hd hI
    obtain⟨V,hf,⟨hb,hz,hz1,hg,hr0,hr1,hv,v0,v1,v2,v3,v4,v5,v6,v7⟩⟩:=hI;simp [lm,Region.binds] at hd
    have hz0:=hz hL;refine ll rfl 44 (.tmp 4) (.tmp 25) rfl (w.heap.size+1) CS (lU ((hf.out gR).trans e4)) (lU ((hf.ins hnd hbd 0 rfl).trans (Jp some (v0 gW)))) 44 Z hz0 ld (by simp [hcs]) HZS.out (fun u hu=>hv.one u iY) rfl ?_;refine wpList_nil ?_;exact⟨_,hf.skip _,⟨((nj _ gN).trans hb),(fun h=>by simp at h),(fun _=>mF hz0),(hg.setRow gN _),(fun h=>(hr0 gQ).setRow hnb4' _),(fun h=>(hr1 gQ).setRow hnb4' _),(hv.setRow hnb4'.1 _),(fun h=>v0 gQ),(fun h=>v1 gQ),(fun h=>v2 gQ),(fun h=>v3 gQ),(fun h=>v4 gQ),(fun h=>v5 gQ),(fun h=>v6 gQ),(fun h=>v7 gQ)⟩⟩
  ·intro L a w' hL hI
   obtain⟨V,hf,⟨hb,hz,hz1,hg,hr0,hr1,hv,v0,v1,v2,v3,v4,v5,v6,v7⟩⟩:=hI;have ha:=hf.eq;have h7:=v7 (hL 7 gR);have HB9:=ab (hz1 (hL 8 gR));have hr9:=hr1 (by simp [hL 6 gR]);have hA:=HA.out;subst ha;subst hA;simp only [mW,h7];clear e0 e3 e4 e6 hsz hbd hf HA;go_wp2
   refine JM (nv Tryz.results76 kX ld HB9.out (by simp [hcs]) rfl rfl) rfl ?_;rw [HE.out];exact⟨hg,S5,(j5+1),CS.toList,X,true,rfl,hr9,hS1,hS2,hv,⟨rfl,by rw [hX];rfl,by rw [←List.drop_drop,HD5.out];rfl⟩⟩
open Go.RowKit Go.Maps Go.MapKept
open Go.ChangeMaps (setBlock)
def NotOwn (S:Nat→Prop) (v:Value):Prop:=∀b,v.ownBlock=some b→¬S b
theorem NotOwn.nil (S:Nat→Prop):NotOwn S (.slice none 0 0):=fun b h=>by cases h
theorem NotOwn.wide {S S':Nat→Prop} {v:Value} {n:Nat} (h:NotOwn S v) (hl:∀k,v.ownBlock=some k→k<n) (hS:∀b,S' b→S b∨n≤b):NotOwn S' v:=fun b hb hs=>by
 rcases hS b hs with h1|h1
 ·exact h b hb h1
 ·have:=hl b hb;omega
theorem NotOwn.moved {S:Nat→Prop} {w:World} {v v':Value} (h:NotOwn S v) (hm:xj w v v') (hl:∀b,S b→b<w.heap.size):NotOwn S v':=fun b hb hs=>by
 rcases hm with hm|hm
 ·exact h b (hm▸hb) hs
 ·have:=hm b hb;have:=hl b hs;omega
theorem Rs.grow {S:Nat→Prop} {w w':World} {g m:Nat} {s:Str} {i:Nat} (h:Rs S w g m s i) {v:Value} {B:Nat} (hn:NotOwn S v) (hl:∀k,v.ownBlock=some k→B≤k) (hgB:g<B) (hg:w.grownBy w' v.ownBlock):Rs S w' g m s i :=
 h.aside hg fun b hb=>⟨hn b hb,by have:=hl b hb;omega,by have:=hl b hb;have:=h.gm;omega⟩
theorem SnV.grow {S:Nat→Prop} {w w':World} {c:List Value} {x:Sn} (h:SnV w S c x) {v:Value} (hn:NotOwn S v) (hg:w.grownBy w' v.ownBlock):SnV w' S c x :=
 h.keep ⟨hg.size,fun b hb hlt=>hg.block b hlt (fun e=>hn b e.symm hb)⟩
theorem OwnN.other {w w':World} {B:Nat} {S:Nat→Prop} {v v2:Value} {xs:List Sn} (h:OwnN w B S v xs) (hn:NotOwn S v2) (hne:v.ownBlock=none∨v.ownBlock≠v2.ownBlock) (hg:w.grownBy w' v2.ownBlock):OwnN w' B S v xs:=by
 obtain⟨css,h1,h2⟩:=h;exact⟨css,h1.kept hg hne,h2.keep ⟨hg.size,fun b hb hlt=>hg.block b hlt (fun e=>hn b e.symm hb.1)⟩⟩
theorem OwnN.gr2 {w w':World} {g m B:Nat} {S:Nat→Prop} {v:Value} {xs:List Sn} (h:OwnN w B S v xs) (hg:Gr2 g m w w') (hgB:g<B) (hmB:m<B) (ng:¬S g) (nm:¬S m):OwnN w' B S v xs:=by
 obtain⟨css,h1,h2⟩:=h;refine⟨css,⟨h1.1,?_⟩,h2.keep ⟨hg.size,fun b hb hlt=>hg.block b hlt (fun e=>ng (e▸hb.1)) (fun e=>nm (e▸hb.1))⟩⟩;exact cZ
theorem wS {w w':World} {g m B:Nat} {e:TypeId} {sz:Nat} {v:Value} {n:Nat} {xs:List Value} (h1:w.ownsRow B e sz v n xs) (hg:Gr2 g m w w') (hgB:g<B) (hmB:m<B):w'.ownsRow B e sz v n xs:=by
 refine⟨h1.1,?_⟩;exact cZ
theorem ownN_own {w:World} {B B':Nat} {S:Nat→Prop} {v v':Value} {xs:List Sn} {n:Nat} {ys:List Value} (h:OwnN w B S v xs) (h':w.ownsRow B' 5 1 v' n ys):v.ownBlock=none∨v.ownBlock≠v'.ownBlock:=by
 obtain⟨css,h1,_⟩:=h;exact sU h1 h' gR
def PtRel (S:Nat→Prop) (g m:Nat) (s:Str) (ins:Bool) (i:Nat) (w:World) (RX:List Sn × Str) (k:Nat) (v6 v7:Value) (wr:World):Prop :=
 ∃(V6 V7:Value) (S1:Nat→Prop) (j:Nat) (o:List Sn) (t:Str),V6=v6∧V7=v7∧Rs S1 wr g m s j∧i≤j∧s.length-j<k∧(∀b,S b→S1 b)∧(∀b,S1 b→S b∨w.heap.size≤b)∧OwnN wr w.heap.size S1 v6 o∧wr.ownsRow w.heap.size 5 1 v7 t.length (mt t)∧Gr2 g m w wr ∧
  o.length≤2*j∧t.length≤j∧NotOwn S1 v6∧NotOwn S1 v7∧Hid (lu ins o t (s.drop j)=RX)
theorem PartsPost.mk' {S S1:Nat→Prop} {g m:Nat} {s:Str} {ins ok:Bool} {RX:List Sn × Str} {w w8:World} {e:Ending} {a:Option Addr} {n c j:Nat} {o':List Sn} {rest:Str} (hX:RX=(o',rest)) (hg:Gr2 g m w w8) (he:e=.returned (.tuple #[.slice a n c,.bool ok])) (hn:o'.length=n)
  (hok:(!ins||!rest.isEmpty)=ok) (hr:Rs S1 w8 g m s j) (h1:∀b,S b→S1 b) (h2:∀b,S1 b→S b∨w.heap.size≤b) (ho:OwnN w8 w.heap.size S1 (.slice a n c) o') (hgB:g<w.heap.size) (hd:s.drop j=rest):PartsPost S g m s ins RX w e w8:=by
 subst hX;subst hn;subst hok;refine⟨hg,(fun b=>S1 b∨(w.heap.size≤b∧b<w8.heap.size)),j,a,c,he,hr.mono (fun b hb=>.inl hb) ?_ ?_ ?_,fun b hb=>.inl (h1 b hb),?_,ho.sl.2.mono fun b hb hlt=>?_,hd⟩
 ·rintro(e|⟨e,_⟩)
  ·exact hr.ng e
  ·omega
 ·have:=hr.gm
  rintro(e|⟨e,_⟩)
  ·exact hr.nm e
  ·omega
 ·rintro b (e|⟨_,e⟩)
  ·exact hr.lt b e
  ·exact e
 ·rintro b (e|⟨e,_⟩)
  ·exact h2 b e
  ·exact .inr e
 ·rcases hb with hb|hb
  ·exact .inl hb
  ·exact .inr ⟨hb,hlt⟩
theorem GG {w:World} {g:Nat} {cc:List Value} {t:TypeId} {f:Nat × Nat} (h:w.heap[g]?=some (.cells cc.toArray t f)):w.rangeAt g 0 cc:=lc (ds:=[]) gQ
theorem Ce (w:World) {cc:List Value} (h:cc.length=18):(Instr.buildSlice 22 1 #[(0,.agg cc.toArray)]).run Tryz.prog w=.ok (.slice (some ⟨w.heap.size,0,none⟩) 1 1) (w.alloc (.cells cc.toArray 44)):=by
 go_simp
 exact Jp (fun c=>w.alloc (.cells c 44)) (fold_all (by rw [h];rfl))
theorem dolM_len {c:UInt8} {r:Str} {y1:Sn} {y2:Str} (h:dolM l7 c r=some (y1,y2)):y2.length<r.length:=by
 unfold dolM at h;split at h
 ·exact nR h
 ·cases h
def WtE (S1:Nat→Prop) (g m:Nat) (s:Str) (j:Nat) (w:World) (o':List Sn) (v:Value) (w':World):Prop :=
 ∃(a:Option Addr) (c:Nat),v=.slice a o'.length c∧Gr2 g m w w'∧Rs S1 w' g m s j∧OwnN w' w.heap.size S1 (.slice a o'.length c) o'
def VC8 (ins:Bool) (g j:Nat) (s:Str) (v6 v7:Value):Nat→Value→Prop
 | 0,v=>v=v6
 | 1,v=>v=v7
 | 2,_=>True
 | 3,v=>v=.bool ins
 | 4,v=>v=.bool (!ins)
 | 5,v=>v=.bool (!ins)
 | 6,v=>VP ins v (.pointer (some ⟨g,0,none⟩))
 | 7,v=>VP ins v (.pointer (some ⟨g,0,none⟩))
 | 8,v=>VP ins v (.pointer (some ⟨g,0,none⟩))
 | 9,v=>VP ins v (.pointer (some ⟨g,1,none⟩))
 | 10,v=>VP ins v (.int .i64 (j:Int))
 | 11,v=>VP ins v (.pointer (some ⟨g,0,none⟩))
 | 12,v=>VP ins v (.pointer (some ⟨g,0,none⟩))
 | 13,v=>VP ins v (.pointer (some ⟨g,0,none⟩))
 | 14,v=>VP ins v (.pointer (some ⟨g,0,none⟩))
 | 15,v=>VP ins v (.string ⟨s.toArray⟩)
 | 16,v=>VP ins v (.int .i64 (s.length:Int))
 | 17,v=>VP ins v (.bool (decide (j<s.length)))
 | 18,v=>v=.bool (!ins||decide (j<s.length))
 | _,_=>True
def R8I (ins:Bool) (S1:Nat→Prop) (g m j:Nat) (s:Str) (w:World) (o':List Sn) (v6 v7:Value) (A0:Act) (W0:World) (L:Nat→Bool) (a:Act) (w':World):Prop :=
 ∃V:Nat→Value,Fm2 [51,52,53,54,55,56,57,58,59,60,61,62,63,64,65,66,67,68,69,4] V A0 a∧OneE 2 W0.drew (WtE S1 g m s j w o') (VC8 ins g j s v6 v7) V L w'∧(L 5=true→L 2=true)∧(L 19=true→L 2=true∧V 19=V 2)
structure In6 (S4:Nat→Prop) (g m j:Nat) (s:Str) (w:World) (cc:List Value) (x:Sn) (bx:Nat) (v6 v7:Value) (o:List Sn) (t:Str) (V:Nat→Value) (L:Nat→Bool) (w':World):Prop where
 hR:Rs S4 w' g m s j
 hG:Gr2 g m w w'
 hX:SnV w' S4 cc x
 hbx:w'.heap[bx]?=some (.cells cc.toArray 44 (0,0))
 h20:L 2=false→OwnN w' w.heap.size S4 v6 o∧w'.ownsRow w.heap.size 5 1 v7 t.length (mt t)
 h21:L 2=true→OwnN w' w.heap.size S4 (V 2) (lO o t)∧NotOwn S4 (V 2)
 h4:L 4=true→∃b4,V 4=.slice (some ⟨b4,0,none⟩) 1 1∧w'.heap[b4]?=some (.cells cc.toArray 44 (0,0))∧v6.ownBlock≠some b4∧(L 2=true→(V 2).ownBlock≠some b4)
 v0:L 0=true→V 0=v6
 v1:L 1=true→V 1=v7
 v3:L 3=true→V 3=.agg cc.toArray
def R6I (S4:Nat→Prop) (g m j:Nat) (s:Str) (w:World) (cc:List Value) (x:Sn) (bx:Nat) (v6 v7:Value) (o:List Sn) (t:Str) (A0:Act) (L:Nat→Bool) (a:Act) (w':World):Prop :=
 ∃V:Nat→Value,Fm2 [38,39,40,41,42] V A0 a∧In6 S4 g m j s w cc x bx v6 v7 o t V L w'
end Go.Proofs.YtdcnncgpomcaaaaGreatDoor
