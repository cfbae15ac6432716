/- walk of sread: whole -/
import Derived.Test.YtbgcjpefocdkkaaGreatSm1
import Derived.Test.YtbgcjpefocdkkaaGreatSm2
import Derived.Test.YtbgcjpefocdkkaaGreatSm3
import Derived.Test.YtbgcjpefocdkkaaGreatSm4
import Derived.Test.YtbgcjpefocdkkaaGreatSm5
import Derived.Test.YtbgcjpefocdkkaaGreatSm6
import Derived.Test.YtbgcjpefocdkkaaGreatSm7
import Derived.Test.YtbgcjpefocdkkaaGreatSm8
import Derived.Test.YtbgcjpefocdkkaaGreatSm9
import Derived.Test.YtbgcjpefocdkkaaGreatSm10
import Derived.Test.YtbgcjpefocdkkaaGreatSm11
import Derived.Test.YtbgcjpefocdkkaaGreatSm12
import Derived.Test.YtbgcjpefocdkkaaGreatSm13
import Derived.Lib.ItoaMem
import Derived.Test.YtbgcjpefocdkkaaGreatSm14
import Derived.Test.YtbgcjpefocdkkaaGreatSm15
import Derived.Test.YtbgcjpefocdkkaaGreatSm16
import Derived.Test.YtbgcjpefocdkkaaGreatSm17
import Derived.Test.YtbgcjpefocdkkaaGreatSm18
import Derived.Test.YtbgcjpefocdkkaaGreatSm19
import Derived.Test.YtbgcjpefocdkkaaGreatSm20
import Derived.Test.YtbgcjpefocdkkaaGreatSm21
import Derived.StillTail
set_option maxRecDepth 100000
namespace Go.Proofs.YtbgcjpefocdkkaaGreat
open Go.RowKit Go.Maps Go.MapKept
open Go.ChangeMaps (setBlock)
theorem hd_v (w:World) (S:Nat→Prop) (k:Int) (t:Str) (n:Int):SnV w S [.int .i64 k,.string ⟨(t).toArray⟩,.int .i64 n,.bool false,.bool false,.int .i64 0,.string ⟨#[]⟩,.bool false,.slice none 0 0,.int .i64 0,.int .i64 0,.bool false,.slice none 0 0,.slice none 0 0,.bool false,.bool false,.slice none 0 0,.slice none 0 0] (.mk k t n false false tf0 [] []) :=
 SnV.close (os:=[]) (ks:=[]) (TfV.zero w S) (SlS.none_ _ _ _ _) (SnSl.nil _ _ _)
def hdN (k:Int) (t:Str) (n:Int):Sn:=.mk k t n false false tf0 [] []
def BracedC (g m:Nat) (s:Str) (N:Nat):Prop:=∀(S:Nat→Prop) (w:World) (i:Nat) (k:Int) (t:Str) (n:Int),Rs S w g m s i→(k=1∨k=3)→s.length-i≤N →
 Calls Tryz.prog 52 #[.pointer (some ⟨g,0,none⟩),.agg #[.int .i64 k,.string ⟨(t).toArray⟩,.int .i64 n,.bool false,.bool false,.int .i64 0,.string ⟨#[]⟩,.bool false,.slice none 0 0,.int .i64 0,.int .i64 0,.bool false,.slice none 0 0,.slice none 0 0,.bool false,.bool false,.slice none 0 0,.slice none 0 0]] w fun e w'=>OutX S g m s (bracedS (partsS true [] []) (hdN k t n) (s.drop i)) false i w e w'
theorem nameS_M (r:Str):nameM r=match nameS r with|some (n,r2)=>some (varS n,r2)|none=>none:=by
 unfold nameM nameS;split<;>rfl
theorem hd_one (w:World) (k:Int) (t:Str) (n:Int):∀u∈(#[.int .i64 k,.string ⟨(t).toArray⟩,.int .i64 n,.bool false,.bool false,.int .i64 0,.string ⟨#[]⟩,.bool false,.slice none 0 0,.int .i64 0,.int .i64 0,.bool false,.slice none 0 0,.slice none 0 0,.bool false,.bool false,.slice none 0 0,.slice none 0 0]:Array Value).toList,u.oneCell'=true:=(hd_v w (fun _=>True) k t n).one
theorem partS_no (r:Str) (h:∀c t,r=c::t→c.toNat≠123):partS r=headM r:=by
 cases r with
 | nil=>rfl
 | cons c t=>exact partS_bare (h c t rfl) t
theorem box_same {w w':World} {g b:Nat} {o:Obj} (h:w.heap[b]?=some o) (hg:w.grownBy w' (some g)) (hne:b≠g):w'.heap[b]?=some o:=box_grown h hg hne
set_option maxHeartbeats 4000000 in
theorem whole_step {g m:Nat} {s:Str} {N:Nat} (HB:BracedC g m s N):WholeC g m s (N+1):=by
 intro S w i r h hd hN;have HRS:=Lib.hid h;have hgB:=h.pl.lt;have hi:=h.pl.2.1;have hmg:=h.gm;obtain⟨h2,_,hr⟩:=drop_cons hd;have HD:Hid (s.drop (i+1)=r):=Lib.hid hr;have HBB:=Lib.hid HB;have hnb:¬S w.heap.size∧w.heap.size≠g∧w.heap.size≠m:=⟨fun e=>by have:=h.lt _ e;omega,by omega,by omega⟩;have HZO:Hid (∀u∈(#[.int .i64 0,.string ⟨#[]⟩,.int .i64 0,.bool false,.bool false,.int .i64 0,.string ⟨#[]⟩,.bool false,.slice none 0 0,.int .i64 0,.int .i64 0,.bool false,.slice none 0 0,.slice none 0 0,.bool false,.bool false,.slice none 0 0,.slice none 0 0]:Array Value).toList,u.oneCell'=true):=Lib.hid (sn0_v w S).one;have hb0:Below w.heap.size w (w.alloc (.cells #[.int .i64 0,.string ⟨#[]⟩,.int .i64 0,.bool false,.bool false,.int .i64 0,.string ⟨#[]⟩,.bool false,.slice none 0 0,.int .i64 0,.int .i64 0,.bool false,.slice none 0 0,.slice none 0 0,.bool false,.bool false,.slice none 0 0,.slice none 0 0] 40)):=(Below.refl _ _).alloc (Nat.le_refl _) _;have HRS0:=Lib.hid (h.later hb0);have HBX:Hid ((w.alloc (.cells #[.int .i64 0,.string ⟨#[]⟩,.int .i64 0,.bool false,.bool false,.int .i64 0,.string ⟨#[]⟩,.bool false,.slice none 0 0,.int .i64 0,.int .i64 0,.bool false,.slice none 0 0,.slice none 0 0,.bool false,.bool false,.slice none 0 0,.slice none 0 0] 40)).heap[w.heap.size]?=some (.cells #[.int .i64 0,.string ⟨#[]⟩,.int .i64 0,.bool false,.bool false,.int .i64 0,.string ⟨#[]⟩,.bool false,.slice none 0 0,.int .i64 0,.int .i64 0,.bool false,.slice none 0 0,.slice none 0 0,.bool false,.bool false,.slice none 0 0,.slice none 0 0] 40 (0,0))):=Lib.hid (heap_alloc_new w _);have HTK:=Lib.hid (take_s_yes (p:=[36]) _ HRS0.out.pl (by simp) (by rw [hd];rfl));clear h HB hd hr;go_enter Tryz.func35,Tryz.ntmps35
 go_wp2_with (go_at_call 49;refine HTK.out.mono ?_)
 first|rintro e w1 rfl hp1 hg1|rintro e w1 ⟨rfl,hp1,hg1⟩
 have HRS1:Hid (Rs S w1 g m s (i+1)):=Lib.hid (HRS0.out.place hp1 hg1);have HBX1:=Lib.hid (box_same HBX.out hg1 (by omega));have HG1:Hid (Gr2 g m w w1):=Lib.hid ((Gr2.below hb0).trans (Gr2.grown hg1));clear hp1 hg1 HRS0 HTK HBX hb0;by_cases hb:∃r1,r=123::r1
 ·obtain⟨r1,rfl⟩:=hb
  have HTK:=Lib.hid (take_s_yes (p:=[123]) _ HRS1.out.pl (by simp) (by rw [HD.out];rfl));go_wp2_with (go_at_call 49;refine HTK.out.mono ?_)
  first|rintro e w2 rfl hp2 hg2|rintro e w2 ⟨rfl,hp2,hg2⟩
  have HRS2:Hid (Rs S w2 g m s (i+1+1)):=Lib.hid (HRS1.out.place hp2 hg2);have HBX2:=Lib.hid (box_same HBX1.out hg2 (by omega));have HG2:Hid (Gr2 g m w w2):=Lib.hid (HG1.out.trans (Gr2.grown hg2));have HDJ:Hid (s.drop (i+1+1)=r1):=Lib.hid (drop_cons HD.out).2.2;have HEB:Hid (partS (123::r1)=match headM r1 with|none=>none|some (x,r2)=>bracedS (partsS true [] []) x r2):=Lib.hid (partS_brace r1);clear hp2 hg2 HRS1 HBX1 HG1 HTK;have hz2:=HG2.out.size;obtain⟨b5,hb5⟩:∃b5,b5=w2.heap.size:=⟨_,rfl⟩;obtain⟨W3,hW3⟩:∃W3,W3=w2.alloc (.cells #[.int .i64 3,.string ⟨([]).toArray⟩,.int .i64 0,.bool false,.bool false,.int .i64 0,.string ⟨#[]⟩,.bool false,.slice none 0 0,.int .i64 0,.int .i64 0,.bool false,.slice none 0 0,.slice none 0 0,.bool false,.bool false,.slice none 0 0,.slice none 0 0] 40):=⟨_,rfl⟩;have HW3:Hid ((w2.alloc (.cells #[.int .i64 0,.string ⟨#[]⟩,.int .i64 0,.bool false,.bool false,.int .i64 0,.string ⟨#[]⟩,.bool false,.slice none 0 0,.int .i64 0,.int .i64 0,.bool false,.slice none 0 0,.slice none 0 0,.bool false,.bool false,.slice none 0 0,.slice none 0 0] 40)).setRow w2.heap.size #[.int .i64 3,.string ⟨([]).toArray⟩,.int .i64 0,.bool false,.bool false,.int .i64 0,.string ⟨#[]⟩,.bool false,.slice none 0 0,.int .i64 0,.int .i64 0,.bool false,.slice none 0 0,.slice none 0 0,.bool false,.bool false,.slice none 0 0,.slice none 0 0]=W3):=Lib.hid (by rw [hW3];exact World.setRow_alloc_new _ _ _ _);have hb3:Below w2.heap.size w2 W3:=by rw [hW3];exact(Below.refl _ _).alloc (Nat.le_refl _) _
  have HRS3:=Lib.hid (HRS2.out.later hb3);have HG3:=Lib.hid (HG2.out.trans (Gr2.below hb3));have HBX3:=Lib.hid ((hb3.block _ (heap_lt HBX2.out)).trans HBX2.out);have hgt:w.heap.size<w2.heap.size:=heap_lt HBX2.out;have HT3:Hid (W3.heap[b5]?=some (.cells #[.int .i64 3,.string ⟨([]).toArray⟩,.int .i64 0,.bool false,.bool false,.int .i64 0,.string ⟨#[]⟩,.bool false,.slice none 0 0,.int .i64 0,.int .i64 0,.bool false,.slice none 0 0,.slice none 0 0,.bool false,.bool false,.slice none 0 0,.slice none 0 0] 40 (0,0))):=Lib.hid (by rw [hW3,hb5];exact heap_alloc_new _ _);have HNU:=Lib.hid (number_s W3 HRS3.out.pl);clear hW3 hb3 HRS2 HG2 HBX2;cases hnu:numRF r1 with
  | some p =>
   obtain⟨n,r2⟩:=p;have HNU2:=HNU;rw [HDJ.out,hnu] at HNU2;have HH:Hid (headM r1=some (stopS n,r2)):=Lib.hid (by unfold headM;rw [hnu]);clear HNU hnu;go_wp2_with (first
    | (refine wpList_stW rfl 40 (.tmp 5) (.tmp 16) rfl (w2.heap.size) (#[.int .i64 3,.string ⟨([]).toArray⟩,.int .i64 0,.bool false,.bool false,.int .i64 0,.string ⟨#[]⟩,.bool false,.slice none 0 0,.int .i64 0,.int .i64 0,.bool false,.slice none 0 0,.slice none 0 0,.bool false,.bool false,.slice none 0 0,.slice none 0 0]) rfl rfl 40 (#[.int .i64 0,.string ⟨#[]⟩,.int .i64 0,.bool false,.bool false,.int .i64 0,.string ⟨#[]⟩,.bool false,.slice none 0 0,.int .i64 0,.int .i64 0,.bool false,.slice none 0 0,.slice none 0 0,.bool false,.bool false,.slice none 0 0,.slice none 0 0]) (heap_alloc_new w2 _) (snip_size) rfl rfl ((hd_one w 3 [] 0)) (W:=W3) (HW3.out) ?_)
    | (go_at_call 50;refine HNU2.out.mono ?_))
   rintro e w4 ⟨hg4,hn4,rfl,j4,hp4,hd4,hj4⟩;have HRS4:=Lib.hid (HRS3.out.place hp4 hg4);have HT4:=Lib.hid (box_same HT3.out hg4 (by omega));have HB4:=Lib.hid (box_same HBX3.out hg4 (by omega));have hn5:¬S b5∧b5≠g∧b5≠m:=⟨fun e=>by have:=HRS.out.lt _ e;omega,by omega,by omega⟩;have HDJ5:Hid (s.drop j4=r2):=Lib.hid hd4;have HRS5:=Lib.hid (HRS4.out.setRow hn5 #[.int .i64 1,.string ⟨([]).toArray⟩,.int .i64 (n:Int),.bool false,.bool false,.int .i64 0,.string ⟨#[]⟩,.bool false,.slice none 0 0,.int .i64 0,.int .i64 0,.bool false,.slice none 0 0,.slice none 0 0,.bool false,.bool false,.slice none 0 0,.slice none 0 0]);have HG5:=Lib.hid ((HG3.out.trans (Gr2.grown hg4)).setRow (b:=b5) (by omega) #[.int .i64 1,.string ⟨([]).toArray⟩,.int .i64 (n:Int),.bool false,.bool false,.int .i64 0,.string ⟨#[]⟩,.bool false,.slice none 0 0,.int .i64 0,.int .i64 0,.bool false,.slice none 0 0,.slice none 0 0,.bool false,.bool false,.slice none 0 0,.slice none 0 0]);have HT5:=Lib.hid (sr_heap (cs:=#[.int .i64 1,.string ⟨([]).toArray⟩,.int .i64 (n:Int),.bool false,.bool false,.int .i64 0,.string ⟨#[]⟩,.bool false,.slice none 0 0,.int .i64 0,.int .i64 0,.bool false,.slice none 0 0,.slice none 0 0,.bool false,.bool false,.slice none 0 0,.slice none 0 0]) HT4.out);have HBX5:Hid ((w4.setRow b5 #[.int .i64 1,.string ⟨([]).toArray⟩,.int .i64 (n:Int),.bool false,.bool false,.int .i64 0,.string ⟨#[]⟩,.bool false,.slice none 0 0,.int .i64 0,.int .i64 0,.bool false,.slice none 0 0,.slice none 0 0,.bool false,.bool false,.slice none 0 0,.slice none 0 0]).heap[w.heap.size]?=some (.cells #[.int .i64 0,.string ⟨#[]⟩,.int .i64 0,.bool false,.bool false,.int .i64 0,.string ⟨#[]⟩,.bool false,.slice none 0 0,.int .i64 0,.int .i64 0,.bool false,.slice none 0 0,.slice none 0 0,.bool false,.bool false,.slice none 0 0,.slice none 0 0] 40 (0,0))):=Lib.hid ((sr_other _ (by omega)).trans HB4.out);clear hg4 hp4 hd4;subst hb5;have HE:Hid (partS (123::r1)=bracedS (partsS true [] []) (hdN 1 [] (n:Int)) r2):=Lib.hid (by rw [HEB.out,HH.out];rfl);have HBC:=Lib.hid (HBB.out S ((w4.setRow w2.heap.size #[.int .i64 1,.string ⟨([]).toArray⟩,.int .i64 (n:Int),.bool false,.bool false,.int .i64 0,.string ⟨#[]⟩,.bool false,.slice none 0 0,.int .i64 0,.int .i64 0,.bool false,.slice none 0 0,.slice none 0 0,.bool false,.bool false,.slice none 0 0,.slice none 0 0])) _ 1 [] (n:Int) HRS5.out (by first|exact .inl rfl|exact .inr rfl) (by have:=HRS5.out.pl.2.1;omega));go_wp2_with (first|(refine wpList_stW rfl 40 (.tmp 5) (.tmp 26) rfl (w2.heap.size) (#[.int .i64 1,.string ⟨([]).toArray⟩,.int .i64 (n:Int),.bool false,.bool false,.int .i64 0,.string ⟨#[]⟩,.bool false,.slice none 0 0,.int .i64 0,.int .i64 0,.bool false,.slice none 0 0,.slice none 0 0,.bool false,.bool false,.slice none 0 0,.slice none 0 0]) rfl rfl 40 (#[.int .i64 3,.string ⟨([]).toArray⟩,.int .i64 0,.bool false,.bool false,.int .i64 0,.string ⟨#[]⟩,.bool false,.slice none 0 0,.int .i64 0,.int .i64 0,.bool false,.slice none 0 0,.slice none 0 0,.bool false,.bool false,.slice none 0 0,.slice none 0 0]) (HT4.out) (snip_size) rfl rfl ((hd_one w 1 [] (n:Int))) (W:=(w4.setRow w2.heap.size #[.int .i64 1,.string ⟨([]).toArray⟩,.int .i64 (n:Int),.bool false,.bool false,.int .i64 0,.string ⟨#[]⟩,.bool false,.slice none 0 0,.int .i64 0,.int .i64 0,.bool false,.slice none 0 0,.slice none 0 0,.bool false,.bool false,.slice none 0 0,.slice none 0 0])) (rfl) ?_)|(refine wpList_ldW rfl 40 (.tmp 5) rfl (w2.heap.size) 0 rfl ([.int .i64 1,.string ⟨([]).toArray⟩,.int .i64 (n:Int),.bool false,.bool false,.int .i64 0,.string ⟨#[]⟩,.bool false,.slice none 0 0,.int .i64 0,.int .i64 0,.bool false,.slice none 0 0,.slice none 0 0,.bool false,.bool false,.slice none 0 0,.slice none 0 0]) _ (range_blk (ds:=[]) (HT5.out)) snip_under rfl (by rw [snip_size];rfl) ?_)|(go_at_call 52;refine HBC.out.mono ?_))
   rintro e w6 ⟨hg6,S6,j6,cc,x,ok,rfl,hrs6,hT1,hT2,hxv,hm⟩;have hz6:=hg6.size;have HBX6:Hid (w6.heap[w.heap.size]?=some (.cells #[.int .i64 0,.string ⟨#[]⟩,.int .i64 0,.bool false,.bool false,.int .i64 0,.string ⟨#[]⟩,.bool false,.slice none 0 0,.int .i64 0,.int .i64 0,.bool false,.slice none 0 0,.slice none 0 0,.bool false,.bool false,.slice none 0 0,.slice none 0 0] 40 (0,0))):=Lib.hid ((hg6.block _ (heap_lt HBX5.out) (by omega) (by omega)).trans HBX5.out);have hnb6:¬S6 w.heap.size∧w.heap.size≠g∧w.heap.size≠m:=⟨fun e=>by
    rcases hT2 _ e with h|h
    ·exact hnb.1 h
    ·have:=heap_lt HBX5.out;omega,by omega,by omega⟩
   have hcl:=hxv.len;have HXV6:=Lib.hid hxv;have HB9:=Lib.hid (sr_heap (w:=w6) (cs:=cc.toArray) HBX6.out);have HRS6:=Lib.hid hrs6;have HM:=Lib.hid hm;have HG6:=Lib.hid (HG5.out.trans hg6);clear hxv hrs6 hm hg6;go_wp2_with (refine wpList_stW rfl 40 (.tmp 2) (.tmp 42) rfl (w.heap.size) (cc.toArray) rfl rfl 40 (#[.int .i64 0,.string ⟨#[]⟩,.int .i64 0,.bool false,.bool false,.int .i64 0,.string ⟨#[]⟩,.bool false,.slice none 0 0,.int .i64 0,.int .i64 0,.bool false,.slice none 0 0,.slice none 0 0,.bool false,.bool false,.slice none 0 0,.slice none 0 0]) (HBX6.out) (snip_size) (by simp [hcl]) rfl ((fun u hu=>HXV6.out.one u (by simpa using hu))) (W:=(w6.setRow w.heap.size cc.toArray)) (rfl) ?_)
   refine bodyPost_ret (res_box Tryz.results35 snip_under snip_size HB9.out (by simp [hcl]) rfl rfl) rfl ?_;rw [HE.out];refine⟨HG6.out.setRow (Nat.le_refl _) _,S6,j6,cc,x,ok,rfl,HRS6.out.setRow hnb6 _,hT1,fun b hb=>(hT2 b hb).imp id (fun h=>by have:=HG5.out.size;omega),HXV6.out.setRow hnb6.1 _,?_⟩;have h:=HM.out;rw [HDJ5.out] at h;cases hq:bracedS (partsS true [] []) (hdN 1 [] (n:Int)) r2 with
   | none=>rw [hq] at h;exact⟨h.1,fun e=>by cases e⟩
   | some y=>rw [hq] at h;exact h
  | none =>
   have HNU2:=HNU;rw [HDJ.out,hnu] at HNU2;have HNN:Hid (headM r1=nameM r1):=Lib.hid (by unfold headM;rw [hnu]);clear HNU hnu;go_wp2_with (first
    | (refine wpList_stW rfl 40 (.tmp 5) (.tmp 16) rfl (w2.heap.size) (#[.int .i64 3,.string ⟨([]).toArray⟩,.int .i64 0,.bool false,.bool false,.int .i64 0,.string ⟨#[]⟩,.bool false,.slice none 0 0,.int .i64 0,.int .i64 0,.bool false,.slice none 0 0,.slice none 0 0,.bool false,.bool false,.slice none 0 0,.slice none 0 0]) rfl rfl 40 (#[.int .i64 0,.string ⟨#[]⟩,.int .i64 0,.bool false,.bool false,.int .i64 0,.string ⟨#[]⟩,.bool false,.slice none 0 0,.int .i64 0,.int .i64 0,.bool false,.slice none 0 0,.slice none 0 0,.bool false,.bool false,.slice none 0 0,.slice none 0 0]) (heap_alloc_new w2 _) (snip_size) rfl rfl ((hd_one w 3 [] 0)) (W:=W3) (HW3.out) ?_)
    | (go_at_call 50;refine HNU2.out.mono ?_))
   rintro e w4 ⟨hg4,rfl,hp4⟩;have HRS4:=Lib.hid (HRS3.out.place hp4 hg4);have HT4:=Lib.hid (box_same HT3.out hg4 (by omega));have HB4:=Lib.hid (box_same HBX3.out hg4 (by omega));have HG4:=Lib.hid (HG3.out.trans (Gr2.grown hg4));have HNA:=Lib.hid (name_s w4 hp4);clear hg4 hp4;cases hna:nameS r1 with
   | none =>
    have HNA2:=HNA;rw [HDJ.out,hna] at HNA2;have HH:Hid (headM r1=none):=Lib.hid (by rw [HNN.out,nameS_M,hna]);clear HNA hna;go_wp2_with (go_at_call 51;refine HNA2.out.mono ?_)
    rintro e w5 ⟨hg5,rfl,hp5⟩;have ht5:=box_same HT4.out hg5 (by omega);have kc:=blk_cell ht5 1 rfl;have kf:=blk_free ht5 1;obtain⟨W5,hW5⟩:∃W5,W5=w5.setCell ⟨b5,1,none⟩ (.string ⟨#[]⟩):=⟨_,rfl⟩;have hn5:¬S b5∧b5≠g∧b5≠m:=⟨fun e=>by have:=HRS.out.lt _ e;omega,by omega,by omega⟩;have HRS5:=Lib.hid (hW5▸(HRS4.out.place hp5 hg5).setCell (a:=⟨b5,1,none⟩) hn5 (.string ⟨#[]⟩));have HG5:=Lib.hid (hW5▸(HG4.out.trans (Gr2.grown hg5)).setNew (a:=⟨b5,1,none⟩) (by show w.heap.size≤b5;omega) (.string ⟨#[]⟩));have HBX5:Hid (W5.heap[w.heap.size]?=some (.cells #[.int .i64 0,.string ⟨#[]⟩,.int .i64 0,.bool false,.bool false,.int .i64 0,.string ⟨#[]⟩,.bool false,.slice none 0 0,.int .i64 0,.int .i64 0,.bool false,.slice none 0 0,.slice none 0 0,.bool false,.bool false,.slice none 0 0,.slice none 0 0] 40 (0,0))):=Lib.hid (by rw [hW5];exact(heap_setCell_other _ _ _ _ (by show w.heap.size≠b5;omega)).trans (box_same HB4.out hg5 (by omega)));subst hb5;go_upto_region 8 with fail
    rw [←hW5];clear hW5 kc kf ht5 hg5 hp5;have HE:Hid (partS (123::r1)=none):=Lib.hid (by rw [HEB.out,HH.out]);have HB9:=Lib.hid (sr_heap (w:=W5) (cs:=#[.int .i64 0,.string ⟨#[]⟩,.int .i64 0,.bool false,.bool false,.int .i64 0,.string ⟨#[]⟩,.bool false,.slice none 0 0,.int .i64 0,.int .i64 0,.bool false,.slice none 0 0,.slice none 0 0,.bool false,.bool false,.slice none 0 0,.slice none 0 0]) HBX5.out);go_wp2_with (refine wpList_stW rfl 40 (.tmp 2) (.tmp 37) rfl (w.heap.size) (#[.int .i64 0,.string ⟨#[]⟩,.int .i64 0,.bool false,.bool false,.int .i64 0,.string ⟨#[]⟩,.bool false,.slice none 0 0,.int .i64 0,.int .i64 0,.bool false,.slice none 0 0,.slice none 0 0,.bool false,.bool false,.slice none 0 0,.slice none 0 0]) rfl rfl 40 (#[.int .i64 0,.string ⟨#[]⟩,.int .i64 0,.bool false,.bool false,.int .i64 0,.string ⟨#[]⟩,.bool false,.slice none 0 0,.int .i64 0,.int .i64 0,.bool false,.slice none 0 0,.slice none 0 0,.bool false,.bool false,.slice none 0 0,.slice none 0 0]) (HBX5.out) (snip_size) rfl rfl (HZO.out) (W:=((W5).setRow w.heap.size #[.int .i64 0,.string ⟨#[]⟩,.int .i64 0,.bool false,.bool false,.int .i64 0,.string ⟨#[]⟩,.bool false,.slice none 0 0,.int .i64 0,.int .i64 0,.bool false,.slice none 0 0,.slice none 0 0,.bool false,.bool false,.slice none 0 0,.slice none 0 0])) (rfl) ?_)
    refine bodyPost_ret (res_box Tryz.results35 snip_under snip_size HB9.out rfl rfl rfl) rfl ?_;rw [HE.out];exact⟨HG5.out.setRow (Nat.le_refl _) _,S,_,_,_,false,rfl,HRS5.out.setRow hnb _,fun _ h=>h,fun _ h=>.inl h,sn0_v _ S,rfl,fun h=>by cases h⟩
   | some p =>
    obtain⟨nm,r2⟩:=p;have HNA2:=HNA;rw [HDJ.out,hna] at HNA2;have HH:Hid (headM r1=some (varS nm,r2)):=Lib.hid (by rw [HNN.out,nameS_M,hna]);clear HNA hna;go_wp2_with (go_at_call 51;refine HNA2.out.mono ?_)
    rintro e w5 ⟨hg5,hnm,rfl,j5,hp5,hd5,hj5⟩;have ht5:=box_same HT4.out hg5 (by omega);have kc:=blk_cell ht5 1 rfl;have kf:=blk_free ht5 1;obtain⟨W5,hW5⟩:∃W5,W5=w5.setCell ⟨b5,1,none⟩ (.string ⟨(nm).toArray⟩):=⟨_,rfl⟩;have hn5:¬S b5∧b5≠g∧b5≠m:=⟨fun e=>by have:=HRS.out.lt _ e;omega,by omega,by omega⟩;have HRS5:=Lib.hid (hW5▸(HRS4.out.place hp5 hg5).setCell (a:=⟨b5,1,none⟩) hn5 (.string ⟨(nm).toArray⟩));have HG5:=Lib.hid (hW5▸(HG4.out.trans (Gr2.grown hg5)).setNew (a:=⟨b5,1,none⟩) (by show w.heap.size≤b5;omega) (.string ⟨(nm).toArray⟩));have HBX5:Hid (W5.heap[w.heap.size]?=some (.cells #[.int .i64 0,.string ⟨#[]⟩,.int .i64 0,.bool false,.bool false,.int .i64 0,.string ⟨#[]⟩,.bool false,.slice none 0 0,.int .i64 0,.int .i64 0,.bool false,.slice none 0 0,.slice none 0 0,.bool false,.bool false,.slice none 0 0,.slice none 0 0] 40 (0,0))):=Lib.hid (by rw [hW5];exact(heap_setCell_other _ _ _ _ (by show w.heap.size≠b5;omega)).trans (box_same HB4.out hg5 (by omega)));have HT5:Hid (W5.heap[b5]?=some (.cells #[.int .i64 3,.string ⟨(nm).toArray⟩,.int .i64 0,.bool false,.bool false,.int .i64 0,.string ⟨#[]⟩,.bool false,.slice none 0 0,.int .i64 0,.int .i64 0,.bool false,.slice none 0 0,.slice none 0 0,.bool false,.bool false,.slice none 0 0,.slice none 0 0] 40 (0,0))):=Lib.hid (by rw [hW5,heap_setCell_same _ _ _ _ _ _ ht5];rfl);have HDJ5:Hid (s.drop j5=r2):=Lib.hid hd5;subst hb5;go_upto_region 8 with fail
    rw [←hW5];clear hW5 kc kf ht5 hg5 hp5 hd5 hnm;have HE:Hid (partS (123::r1)=bracedS (partsS true [] []) (hdN 3 nm 0) r2):=Lib.hid (by rw [HEB.out,HH.out];rfl);have HBC:=Lib.hid (HBB.out S (W5) _ 3 nm 0 HRS5.out (by first|exact .inl rfl|exact .inr rfl) (by have:=HRS5.out.pl.2.1;omega));go_wp2_with (first|(fail)|(refine wpList_ldW rfl 40 (.tmp 5) rfl (w2.heap.size) 0 rfl ([.int .i64 3,.string ⟨(nm).toArray⟩,.int .i64 0,.bool false,.bool false,.int .i64 0,.string ⟨#[]⟩,.bool false,.slice none 0 0,.int .i64 0,.int .i64 0,.bool false,.slice none 0 0,.slice none 0 0,.bool false,.bool false,.slice none 0 0,.slice none 0 0]) _ (range_blk (ds:=[]) (HT5.out)) snip_under rfl (by rw [snip_size];rfl) ?_)|(go_at_call 52;refine HBC.out.mono ?_))
    rintro e w6 ⟨hg6,S6,j6,cc,x,ok,rfl,hrs6,hT1,hT2,hxv,hm⟩;have hz6:=hg6.size;have HBX6:Hid (w6.heap[w.heap.size]?=some (.cells #[.int .i64 0,.string ⟨#[]⟩,.int .i64 0,.bool false,.bool false,.int .i64 0,.string ⟨#[]⟩,.bool false,.slice none 0 0,.int .i64 0,.int .i64 0,.bool false,.slice none 0 0,.slice none 0 0,.bool false,.bool false,.slice none 0 0,.slice none 0 0] 40 (0,0))):=Lib.hid ((hg6.block _ (heap_lt HBX5.out) (by omega) (by omega)).trans HBX5.out);have hnb6:¬S6 w.heap.size∧w.heap.size≠g∧w.heap.size≠m:=⟨fun e=>by
     rcases hT2 _ e with h|h
     ·exact hnb.1 h
     ·have:=heap_lt HBX5.out;omega,by omega,by omega⟩
    have hcl:=hxv.len;have HXV6:=Lib.hid hxv;have HB9:=Lib.hid (sr_heap (w:=w6) (cs:=cc.toArray) HBX6.out);have HRS6:=Lib.hid hrs6;have HM:=Lib.hid hm;have HG6:=Lib.hid (HG5.out.trans hg6);clear hxv hrs6 hm hg6;go_wp2_with (refine wpList_stW rfl 40 (.tmp 2) (.tmp 42) rfl (w.heap.size) (cc.toArray) rfl rfl 40 (#[.int .i64 0,.string ⟨#[]⟩,.int .i64 0,.bool false,.bool false,.int .i64 0,.string ⟨#[]⟩,.bool false,.slice none 0 0,.int .i64 0,.int .i64 0,.bool false,.slice none 0 0,.slice none 0 0,.bool false,.bool false,.slice none 0 0,.slice none 0 0]) (HBX6.out) (snip_size) (by simp [hcl]) rfl ((fun u hu=>HXV6.out.one u (by simpa using hu))) (W:=(w6.setRow w.heap.size cc.toArray)) (rfl) ?_)
    refine bodyPost_ret (res_box Tryz.results35 snip_under snip_size HB9.out (by simp [hcl]) rfl rfl) rfl ?_;rw [HE.out];refine⟨HG6.out.setRow (Nat.le_refl _) _,S6,j6,cc,x,ok,rfl,HRS6.out.setRow hnb6 _,hT1,fun b hb=>(hT2 b hb).imp id (fun h=>by have:=HG5.out.size;omega),HXV6.out.setRow hnb6.1 _,?_⟩;have h:=HM.out;rw [HDJ5.out] at h;cases hq:bracedS (partsS true [] []) (hdN 3 nm 0) r2 with
    | none=>rw [hq] at h;exact⟨h.1,fun e=>by cases e⟩
    | some y=>rw [hq] at h;exact h
 ·have hb':∀c t,r=c::t→c.toNat≠123:=fun c t e hc=>hb ⟨t,by rw [e,show c=123 from UInt8.toNat_inj.1 hc]⟩
  have HNO:Hid (List.isPrefixOf [123] (s.drop (i+1))=false):=Lib.hid (by
   rw [HD.out];cases r with
   | nil=>rfl
   | cons c t=>rw [pre1];exact decide_eq_false (hb' c t rfl))
  have HEB:Hid (partS r=headM r):=Lib.hid (partS_no r hb');have HTK:=Lib.hid (take_s_no (p:=[123]) _ HRS1.out.pl (by simp) HNO.out);clear hb hb' HNO;go_wp2_with (go_at_call 49;refine HTK.out.mono ?_)
  first|rintro e w2 rfl hp2 hg2|rintro e w2 ⟨rfl,hp2,hg2⟩
  have HRS2:Hid (Rs S w2 g m s (i+1)):=Lib.hid (HRS1.out.place hp2 hg2);have HBX2:=Lib.hid (box_same HBX1.out hg2 (by omega));have HG2:Hid (Gr2 g m w w2):=Lib.hid (HG1.out.trans (Gr2.grown hg2));have HDJ:Hid (s.drop (i+1)=r):=HD;clear hp2 hg2 HRS1 HBX1 HG1 HTK;have hz2:=HG2.out.size;obtain⟨b5,hb5⟩:∃b5,b5=w2.heap.size:=⟨_,rfl⟩;obtain⟨W3,hW3⟩:∃W3,W3=w2.alloc (.cells #[.int .i64 3,.string ⟨([]).toArray⟩,.int .i64 0,.bool false,.bool false,.int .i64 0,.string ⟨#[]⟩,.bool false,.slice none 0 0,.int .i64 0,.int .i64 0,.bool false,.slice none 0 0,.slice none 0 0,.bool false,.bool false,.slice none 0 0,.slice none 0 0] 40):=⟨_,rfl⟩;have HW3:Hid ((w2.alloc (.cells #[.int .i64 0,.string ⟨#[]⟩,.int .i64 0,.bool false,.bool false,.int .i64 0,.string ⟨#[]⟩,.bool false,.slice none 0 0,.int .i64 0,.int .i64 0,.bool false,.slice none 0 0,.slice none 0 0,.bool false,.bool false,.slice none 0 0,.slice none 0 0] 40)).setRow w2.heap.size #[.int .i64 3,.string ⟨([]).toArray⟩,.int .i64 0,.bool false,.bool false,.int .i64 0,.string ⟨#[]⟩,.bool false,.slice none 0 0,.int .i64 0,.int .i64 0,.bool false,.slice none 0 0,.slice none 0 0,.bool false,.bool false,.slice none 0 0,.slice none 0 0]=W3):=Lib.hid (by rw [hW3];exact World.setRow_alloc_new _ _ _ _);have hb3:Below w2.heap.size w2 W3:=by rw [hW3];exact(Below.refl _ _).alloc (Nat.le_refl _) _
  have HRS3:=Lib.hid (HRS2.out.later hb3);have HG3:=Lib.hid (HG2.out.trans (Gr2.below hb3));have HBX3:=Lib.hid ((hb3.block _ (heap_lt HBX2.out)).trans HBX2.out);have hgt:w.heap.size<w2.heap.size:=heap_lt HBX2.out;have HT3:Hid (W3.heap[b5]?=some (.cells #[.int .i64 3,.string ⟨([]).toArray⟩,.int .i64 0,.bool false,.bool false,.int .i64 0,.string ⟨#[]⟩,.bool false,.slice none 0 0,.int .i64 0,.int .i64 0,.bool false,.slice none 0 0,.slice none 0 0,.bool false,.bool false,.slice none 0 0,.slice none 0 0] 40 (0,0))):=Lib.hid (by rw [hW3,hb5];exact heap_alloc_new _ _);have HNU:=Lib.hid (number_s W3 HRS3.out.pl);clear hW3 hb3 HRS2 HG2 HBX2;cases hnu:numRF r with
  | some p =>
   obtain⟨n,r2⟩:=p;have HNU2:=HNU;rw [HDJ.out,hnu] at HNU2;have HH:Hid (headM r=some (stopS n,r2)):=Lib.hid (by unfold headM;rw [hnu]);clear HNU hnu;go_wp2_with (first
    | (refine wpList_stW rfl 40 (.tmp 5) (.tmp 16) rfl (w2.heap.size) (#[.int .i64 3,.string ⟨([]).toArray⟩,.int .i64 0,.bool false,.bool false,.int .i64 0,.string ⟨#[]⟩,.bool false,.slice none 0 0,.int .i64 0,.int .i64 0,.bool false,.slice none 0 0,.slice none 0 0,.bool false,.bool false,.slice none 0 0,.slice none 0 0]) rfl rfl 40 (#[.int .i64 0,.string ⟨#[]⟩,.int .i64 0,.bool false,.bool false,.int .i64 0,.string ⟨#[]⟩,.bool false,.slice none 0 0,.int .i64 0,.int .i64 0,.bool false,.slice none 0 0,.slice none 0 0,.bool false,.bool false,.slice none 0 0,.slice none 0 0]) (heap_alloc_new w2 _) (snip_size) rfl rfl ((hd_one w 3 [] 0)) (W:=W3) (HW3.out) ?_)
    | (go_at_call 50;refine HNU2.out.mono ?_))
   rintro e w4 ⟨hg4,hn4,rfl,j4,hp4,hd4,hj4⟩;have HRS4:=Lib.hid (HRS3.out.place hp4 hg4);have HT4:=Lib.hid (box_same HT3.out hg4 (by omega));have HB4:=Lib.hid (box_same HBX3.out hg4 (by omega));have hn5:¬S b5∧b5≠g∧b5≠m:=⟨fun e=>by have:=HRS.out.lt _ e;omega,by omega,by omega⟩;have HDJ5:Hid (s.drop j4=r2):=Lib.hid hd4;have HRS5:=Lib.hid (HRS4.out.setRow hn5 #[.int .i64 1,.string ⟨([]).toArray⟩,.int .i64 (n:Int),.bool false,.bool false,.int .i64 0,.string ⟨#[]⟩,.bool false,.slice none 0 0,.int .i64 0,.int .i64 0,.bool false,.slice none 0 0,.slice none 0 0,.bool false,.bool false,.slice none 0 0,.slice none 0 0]);have HG5:=Lib.hid ((HG3.out.trans (Gr2.grown hg4)).setRow (b:=b5) (by omega) #[.int .i64 1,.string ⟨([]).toArray⟩,.int .i64 (n:Int),.bool false,.bool false,.int .i64 0,.string ⟨#[]⟩,.bool false,.slice none 0 0,.int .i64 0,.int .i64 0,.bool false,.slice none 0 0,.slice none 0 0,.bool false,.bool false,.slice none 0 0,.slice none 0 0]);have HT5:=Lib.hid (sr_heap (cs:=#[.int .i64 1,.string ⟨([]).toArray⟩,.int .i64 (n:Int),.bool false,.bool false,.int .i64 0,.string ⟨#[]⟩,.bool false,.slice none 0 0,.int .i64 0,.int .i64 0,.bool false,.slice none 0 0,.slice none 0 0,.bool false,.bool false,.slice none 0 0,.slice none 0 0]) HT4.out);have HBX5:Hid ((w4.setRow b5 #[.int .i64 1,.string ⟨([]).toArray⟩,.int .i64 (n:Int),.bool false,.bool false,.int .i64 0,.string ⟨#[]⟩,.bool false,.slice none 0 0,.int .i64 0,.int .i64 0,.bool false,.slice none 0 0,.slice none 0 0,.bool false,.bool false,.slice none 0 0,.slice none 0 0]).heap[w.heap.size]?=some (.cells #[.int .i64 0,.string ⟨#[]⟩,.int .i64 0,.bool false,.bool false,.int .i64 0,.string ⟨#[]⟩,.bool false,.slice none 0 0,.int .i64 0,.int .i64 0,.bool false,.slice none 0 0,.slice none 0 0,.bool false,.bool false,.slice none 0 0,.slice none 0 0] 40 (0,0))):=Lib.hid ((sr_other _ (by omega)).trans HB4.out);clear hg4 hp4 hd4;subst hb5;have HE:Hid (partS r=some (hdN 1 [] (n:Int),r2)):=Lib.hid (by rw [HEB.out,HH.out];rfl);have HB9:=Lib.hid (sr_heap (w:=(w4.setRow w2.heap.size #[.int .i64 1,.string ⟨([]).toArray⟩,.int .i64 (n:Int),.bool false,.bool false,.int .i64 0,.string ⟨#[]⟩,.bool false,.slice none 0 0,.int .i64 0,.int .i64 0,.bool false,.slice none 0 0,.slice none 0 0,.bool false,.bool false,.slice none 0 0,.slice none 0 0])) (cs:=#[.int .i64 1,.string ⟨([]).toArray⟩,.int .i64 (n:Int),.bool false,.bool false,.int .i64 0,.string ⟨#[]⟩,.bool false,.slice none 0 0,.int .i64 0,.int .i64 0,.bool false,.slice none 0 0,.slice none 0 0,.bool false,.bool false,.slice none 0 0,.slice none 0 0]) HBX5.out);go_wp2_with (first|(refine wpList_stW rfl 40 (.tmp 5) (.tmp 26) rfl (w2.heap.size) (#[.int .i64 1,.string ⟨([]).toArray⟩,.int .i64 (n:Int),.bool false,.bool false,.int .i64 0,.string ⟨#[]⟩,.bool false,.slice none 0 0,.int .i64 0,.int .i64 0,.bool false,.slice none 0 0,.slice none 0 0,.bool false,.bool false,.slice none 0 0,.slice none 0 0]) rfl rfl 40 (#[.int .i64 3,.string ⟨([]).toArray⟩,.int .i64 0,.bool false,.bool false,.int .i64 0,.string ⟨#[]⟩,.bool false,.slice none 0 0,.int .i64 0,.int .i64 0,.bool false,.slice none 0 0,.slice none 0 0,.bool false,.bool false,.slice none 0 0,.slice none 0 0]) (HT4.out) (snip_size) rfl rfl ((hd_one w 1 [] (n:Int))) (W:=(w4.setRow w2.heap.size #[.int .i64 1,.string ⟨([]).toArray⟩,.int .i64 (n:Int),.bool false,.bool false,.int .i64 0,.string ⟨#[]⟩,.bool false,.slice none 0 0,.int .i64 0,.int .i64 0,.bool false,.slice none 0 0,.slice none 0 0,.bool false,.bool false,.slice none 0 0,.slice none 0 0])) (rfl) ?_)|(refine wpList_ldW rfl 40 (.tmp 5) rfl (w2.heap.size) 0 rfl ([.int .i64 1,.string ⟨([]).toArray⟩,.int .i64 (n:Int),.bool false,.bool false,.int .i64 0,.string ⟨#[]⟩,.bool false,.slice none 0 0,.int .i64 0,.int .i64 0,.bool false,.slice none 0 0,.slice none 0 0,.bool false,.bool false,.slice none 0 0,.slice none 0 0]) _ (range_blk (ds:=[]) (HT5.out)) snip_under rfl (by rw [snip_size];rfl) ?_)|(refine wpList_stW rfl 40 (.tmp 2) (.tmp 44) rfl (w.heap.size) (#[.int .i64 1,.string ⟨([]).toArray⟩,.int .i64 (n:Int),.bool false,.bool false,.int .i64 0,.string ⟨#[]⟩,.bool false,.slice none 0 0,.int .i64 0,.int .i64 0,.bool false,.slice none 0 0,.slice none 0 0,.bool false,.bool false,.slice none 0 0,.slice none 0 0]) rfl rfl 40 (#[.int .i64 0,.string ⟨#[]⟩,.int .i64 0,.bool false,.bool false,.int .i64 0,.string ⟨#[]⟩,.bool false,.slice none 0 0,.int .i64 0,.int .i64 0,.bool false,.slice none 0 0,.slice none 0 0,.bool false,.bool false,.slice none 0 0,.slice none 0 0]) (HBX5.out) (snip_size) rfl rfl ((hd_one w 1 [] (n:Int))) (W:=(((w4.setRow w2.heap.size #[.int .i64 1,.string ⟨([]).toArray⟩,.int .i64 (n:Int),.bool false,.bool false,.int .i64 0,.string ⟨#[]⟩,.bool false,.slice none 0 0,.int .i64 0,.int .i64 0,.bool false,.slice none 0 0,.slice none 0 0,.bool false,.bool false,.slice none 0 0,.slice none 0 0])).setRow w.heap.size #[.int .i64 1,.string ⟨([]).toArray⟩,.int .i64 (n:Int),.bool false,.bool false,.int .i64 0,.string ⟨#[]⟩,.bool false,.slice none 0 0,.int .i64 0,.int .i64 0,.bool false,.slice none 0 0,.slice none 0 0,.bool false,.bool false,.slice none 0 0,.slice none 0 0])) (rfl) ?_))
   refine bodyPost_ret (res_box Tryz.results35 snip_under snip_size HB9.out rfl rfl rfl) rfl ?_;rw [HE.out];exact⟨HG5.out.setRow (Nat.le_refl _) _,S,_,_,_,true,rfl,HRS5.out.setRow hnb _,fun _ h=>h,fun _ h=>.inl h,hd_v _ S 1 [] (n:Int),rfl,rfl,HDJ5.out⟩
  | none =>
   have HNU2:=HNU;rw [HDJ.out,hnu] at HNU2;have HNN:Hid (headM r=nameM r):=Lib.hid (by unfold headM;rw [hnu]);clear HNU hnu;go_wp2_with (first
    | (refine wpList_stW rfl 40 (.tmp 5) (.tmp 16) rfl (w2.heap.size) (#[.int .i64 3,.string ⟨([]).toArray⟩,.int .i64 0,.bool false,.bool false,.int .i64 0,.string ⟨#[]⟩,.bool false,.slice none 0 0,.int .i64 0,.int .i64 0,.bool false,.slice none 0 0,.slice none 0 0,.bool false,.bool false,.slice none 0 0,.slice none 0 0]) rfl rfl 40 (#[.int .i64 0,.string ⟨#[]⟩,.int .i64 0,.bool false,.bool false,.int .i64 0,.string ⟨#[]⟩,.bool false,.slice none 0 0,.int .i64 0,.int .i64 0,.bool false,.slice none 0 0,.slice none 0 0,.bool false,.bool false,.slice none 0 0,.slice none 0 0]) (heap_alloc_new w2 _) (snip_size) rfl rfl ((hd_one w 3 [] 0)) (W:=W3) (HW3.out) ?_)
    | (go_at_call 50;refine HNU2.out.mono ?_))
   rintro e w4 ⟨hg4,rfl,hp4⟩;have HRS4:=Lib.hid (HRS3.out.place hp4 hg4);have HT4:=Lib.hid (box_same HT3.out hg4 (by omega));have HB4:=Lib.hid (box_same HBX3.out hg4 (by omega));have HG4:=Lib.hid (HG3.out.trans (Gr2.grown hg4));have HNA:=Lib.hid (name_s w4 hp4);clear hg4 hp4;cases hna:nameS r with
   | none =>
    have HNA2:=HNA;rw [HDJ.out,hna] at HNA2;have HH:Hid (headM r=none):=Lib.hid (by rw [HNN.out,nameS_M,hna]);clear HNA hna;go_wp2_with (go_at_call 51;refine HNA2.out.mono ?_)
    rintro e w5 ⟨hg5,rfl,hp5⟩;have ht5:=box_same HT4.out hg5 (by omega);have kc:=blk_cell ht5 1 rfl;have kf:=blk_free ht5 1;obtain⟨W5,hW5⟩:∃W5,W5=w5.setCell ⟨b5,1,none⟩ (.string ⟨#[]⟩):=⟨_,rfl⟩;have hn5:¬S b5∧b5≠g∧b5≠m:=⟨fun e=>by have:=HRS.out.lt _ e;omega,by omega,by omega⟩;have HRS5:=Lib.hid (hW5▸(HRS4.out.place hp5 hg5).setCell (a:=⟨b5,1,none⟩) hn5 (.string ⟨#[]⟩));have HG5:=Lib.hid (hW5▸(HG4.out.trans (Gr2.grown hg5)).setNew (a:=⟨b5,1,none⟩) (by show w.heap.size≤b5;omega) (.string ⟨#[]⟩));have HBX5:Hid (W5.heap[w.heap.size]?=some (.cells #[.int .i64 0,.string ⟨#[]⟩,.int .i64 0,.bool false,.bool false,.int .i64 0,.string ⟨#[]⟩,.bool false,.slice none 0 0,.int .i64 0,.int .i64 0,.bool false,.slice none 0 0,.slice none 0 0,.bool false,.bool false,.slice none 0 0,.slice none 0 0] 40 (0,0))):=Lib.hid (by rw [hW5];exact(heap_setCell_other _ _ _ _ (by show w.heap.size≠b5;omega)).trans (box_same HB4.out hg5 (by omega)));subst hb5;go_upto_region 8 with fail
    rw [←hW5];clear hW5 kc kf ht5 hg5 hp5;have HE:Hid (partS r=none):=Lib.hid (by rw [HEB.out,HH.out]);have HB9:=Lib.hid (sr_heap (w:=W5) (cs:=#[.int .i64 0,.string ⟨#[]⟩,.int .i64 0,.bool false,.bool false,.int .i64 0,.string ⟨#[]⟩,.bool false,.slice none 0 0,.int .i64 0,.int .i64 0,.bool false,.slice none 0 0,.slice none 0 0,.bool false,.bool false,.slice none 0 0,.slice none 0 0]) HBX5.out);go_wp2_with (refine wpList_stW rfl 40 (.tmp 2) (.tmp 37) rfl (w.heap.size) (#[.int .i64 0,.string ⟨#[]⟩,.int .i64 0,.bool false,.bool false,.int .i64 0,.string ⟨#[]⟩,.bool false,.slice none 0 0,.int .i64 0,.int .i64 0,.bool false,.slice none 0 0,.slice none 0 0,.bool false,.bool false,.slice none 0 0,.slice none 0 0]) rfl rfl 40 (#[.int .i64 0,.string ⟨#[]⟩,.int .i64 0,.bool false,.bool false,.int .i64 0,.string ⟨#[]⟩,.bool false,.slice none 0 0,.int .i64 0,.int .i64 0,.bool false,.slice none 0 0,.slice none 0 0,.bool false,.bool false,.slice none 0 0,.slice none 0 0]) (HBX5.out) (snip_size) rfl rfl (HZO.out) (W:=((W5).setRow w.heap.size #[.int .i64 0,.string ⟨#[]⟩,.int .i64 0,.bool false,.bool false,.int .i64 0,.string ⟨#[]⟩,.bool false,.slice none 0 0,.int .i64 0,.int .i64 0,.bool false,.slice none 0 0,.slice none 0 0,.bool false,.bool false,.slice none 0 0,.slice none 0 0])) (rfl) ?_)
    refine bodyPost_ret (res_box Tryz.results35 snip_under snip_size HB9.out rfl rfl rfl) rfl ?_;rw [HE.out];exact⟨HG5.out.setRow (Nat.le_refl _) _,S,_,_,_,false,rfl,HRS5.out.setRow hnb _,fun _ h=>h,fun _ h=>.inl h,sn0_v _ S,rfl,fun h=>by cases h⟩
   | some p =>
    obtain⟨nm,r2⟩:=p;have HNA2:=HNA;rw [HDJ.out,hna] at HNA2;have HH:Hid (headM r=some (varS nm,r2)):=Lib.hid (by rw [HNN.out,nameS_M,hna]);clear HNA hna;go_wp2_with (go_at_call 51;refine HNA2.out.mono ?_)
    rintro e w5 ⟨hg5,hnm,rfl,j5,hp5,hd5,hj5⟩;have ht5:=box_same HT4.out hg5 (by omega);have kc:=blk_cell ht5 1 rfl;have kf:=blk_free ht5 1;obtain⟨W5,hW5⟩:∃W5,W5=w5.setCell ⟨b5,1,none⟩ (.string ⟨(nm).toArray⟩):=⟨_,rfl⟩;have hn5:¬S b5∧b5≠g∧b5≠m:=⟨fun e=>by have:=HRS.out.lt _ e;omega,by omega,by omega⟩;have HRS5:=Lib.hid (hW5▸(HRS4.out.place hp5 hg5).setCell (a:=⟨b5,1,none⟩) hn5 (.string ⟨(nm).toArray⟩));have HG5:=Lib.hid (hW5▸(HG4.out.trans (Gr2.grown hg5)).setNew (a:=⟨b5,1,none⟩) (by show w.heap.size≤b5;omega) (.string ⟨(nm).toArray⟩));have HBX5:Hid (W5.heap[w.heap.size]?=some (.cells #[.int .i64 0,.string ⟨#[]⟩,.int .i64 0,.bool false,.bool false,.int .i64 0,.string ⟨#[]⟩,.bool false,.slice none 0 0,.int .i64 0,.int .i64 0,.bool false,.slice none 0 0,.slice none 0 0,.bool false,.bool false,.slice none 0 0,.slice none 0 0] 40 (0,0))):=Lib.hid (by rw [hW5];exact(heap_setCell_other _ _ _ _ (by show w.heap.size≠b5;omega)).trans (box_same HB4.out hg5 (by omega)));have HT5:Hid (W5.heap[b5]?=some (.cells #[.int .i64 3,.string ⟨(nm).toArray⟩,.int .i64 0,.bool false,.bool false,.int .i64 0,.string ⟨#[]⟩,.bool false,.slice none 0 0,.int .i64 0,.int .i64 0,.bool false,.slice none 0 0,.slice none 0 0,.bool false,.bool false,.slice none 0 0,.slice none 0 0] 40 (0,0))):=Lib.hid (by rw [hW5,heap_setCell_same _ _ _ _ _ _ ht5];rfl);have HDJ5:Hid (s.drop j5=r2):=Lib.hid hd5;subst hb5;go_upto_region 8 with fail
    rw [←hW5];clear hW5 kc kf ht5 hg5 hp5 hd5 hnm;have HE:Hid (partS r=some (hdN 3 nm 0,r2)):=Lib.hid (by rw [HEB.out,HH.out];rfl);have HB9:=Lib.hid (sr_heap (w:=W5) (cs:=#[.int .i64 3,.string ⟨(nm).toArray⟩,.int .i64 0,.bool false,.bool false,.int .i64 0,.string ⟨#[]⟩,.bool false,.slice none 0 0,.int .i64 0,.int .i64 0,.bool false,.slice none 0 0,.slice none 0 0,.bool false,.bool false,.slice none 0 0,.slice none 0 0]) HBX5.out);go_wp2_with (first|(fail)|(refine wpList_ldW rfl 40 (.tmp 5) rfl (w2.heap.size) 0 rfl ([.int .i64 3,.string ⟨(nm).toArray⟩,.int .i64 0,.bool false,.bool false,.int .i64 0,.string ⟨#[]⟩,.bool false,.slice none 0 0,.int .i64 0,.int .i64 0,.bool false,.slice none 0 0,.slice none 0 0,.bool false,.bool false,.slice none 0 0,.slice none 0 0]) _ (range_blk (ds:=[]) (HT5.out)) snip_under rfl (by rw [snip_size];rfl) ?_)|(refine wpList_stW rfl 40 (.tmp 2) (.tmp 44) rfl (w.heap.size) (#[.int .i64 3,.string ⟨(nm).toArray⟩,.int .i64 0,.bool false,.bool false,.int .i64 0,.string ⟨#[]⟩,.bool false,.slice none 0 0,.int .i64 0,.int .i64 0,.bool false,.slice none 0 0,.slice none 0 0,.bool false,.bool false,.slice none 0 0,.slice none 0 0]) rfl rfl 40 (#[.int .i64 0,.string ⟨#[]⟩,.int .i64 0,.bool false,.bool false,.int .i64 0,.string ⟨#[]⟩,.bool false,.slice none 0 0,.int .i64 0,.int .i64 0,.bool false,.slice none 0 0,.slice none 0 0,.bool false,.bool false,.slice none 0 0,.slice none 0 0]) (HBX5.out) (snip_size) rfl rfl ((hd_one w 3 nm 0)) (W:=((W5).setRow w.heap.size #[.int .i64 3,.string ⟨(nm).toArray⟩,.int .i64 0,.bool false,.bool false,.int .i64 0,.string ⟨#[]⟩,.bool false,.slice none 0 0,.int .i64 0,.int .i64 0,.bool false,.slice none 0 0,.slice none 0 0,.bool false,.bool false,.slice none 0 0,.slice none 0 0])) (rfl) ?_))
    refine bodyPost_ret (res_box Tryz.results35 snip_under snip_size HB9.out rfl rfl rfl) rfl ?_;rw [HE.out];exact⟨HG5.out.setRow (Nat.le_refl _) _,S,_,_,_,true,rfl,HRS5.out.setRow hnb _,fun _ h=>h,fun _ h=>.inl h,hd_v _ S 3 nm 0,rfl,rfl,HDJ5.out⟩
end Go.Proofs.YtbgcjpefocdkkaaGreat
set_option maxRecDepth 100000
namespace Go.Proofs.YtbgcjpefocdkkaaGreat
open Go.RowKit
def relyGB (ops:Array Oper):Bool:=(List.range ops.size).all fun i=>((ops[i]?).map fun o=>o.after.all fun e=>!Region.binds .any e||decide (e.on<i)).getD true
theorem relyGB_at {ops:Array Oper} (h:relyGB ops=true) {i:Nat} {o:Oper} (ho:ops[i]?=some o):∀e∈o.after,Region.binds .any e=true→e.on<i:=by
 have hi:i<ops.size:=(Array.getElem?_eq_some_iff.1 ho).1;have h1:=List.all_eq_true.1 h i (List.mem_range.2 hi);rw [ho] at h1;simp only [Option.map_some,Option.getD_some,Array.all_eq_true_iff_forall_mem] at h1;intro e he hb;have:=h1 e he
 rw [hb] at this;simpa using this
theorem none_readyG {ops:Array Oper} (hB:relyGB ops=true) {listed:Array Bool} (h:Region.ready .any ops listed=[]) (hs:listed.size=ops.size):∀i,i<ops.size→listed.getD i false=true:=by
 intro i;induction i using Nat.strongRecOn with
 | ind i ih =>
  intro hi;cases hl:listed.getD i false with
  | true=>rfl
  | false =>
   exfalso;obtain⟨o,ho⟩:∃o,ops[i]?=some o:=⟨_,Array.getElem?_eq_getElem hi⟩;have hm:i∈Region.ready .any ops listed:=by
    rw [mem_ready];refine⟨?_,o,ho,fun e he hb=>?_⟩
    ·have hls:i<listed.size:=by omega
     simp only [Array.getD_eq_getD_getElem?,Array.getElem?_eq_getElem hls,Option.getD_some] at hl ⊢;exact hl
    ·have hlt:=relyGB_at hB ho e he hb
     exact ih e.on hlt (by omega)
   rw [h] at hm;cases hm
theorem oper_to {P:Program} {o:Oper} {a:Act} {w:World} {K K2:Act→World→Prop} {Q:Exit→Act→World→Prop} (h:o.wp P a w K Q):o.wp P a w K (Exit.then K2 Q):=by
 unfold Oper.wp at *;generalize (execOp a.eval o).run P w=r at *
 cases r with
 | ok n w' =>
  cases n<;>simp only [Oper.upon] at h ⊢<;>first|exact h|exact h.mono (fun e w'' he=>by cases e<;>exact he)
 | halt x w'=>cases x<;>simp only [Oper.upon] at h ⊢<;>exact h
theorem wpAny_relyG {P:Program} {ops:Array Oper} {Q:Exit→Act→World→Prop} (hB:relyGB ops=true) (I:(Nat→Bool)→Act→World→Prop)
  (hstep:∀(L:Nat→Bool) (i:Nat) (o:Oper) (a:Act) (w:World),ops[i]?=some o→L i=false→(∀e∈o.after,Region.binds .any e=true→L e.on=true)→I L a w →
   wpList P ops (Exit.then (fun a' w'=>I (fun j=>L j||j==i) a' w') Q) [o] a w)
  (hend:∀(L:Nat→Bool) (a:Act) (w:World),(∀i,i<ops.size→L i=true)→I L a w→Q .normal a w) :
  ∀(fuel:Nat) (listed:Array Bool) (L:Nat→Bool) (a:Act) (w:World),listed.size=ops.size→open_ ops listed≤fuel→(∀j,L j=listed.getD j false)→I L a w→wpAny P .any ops Q fuel listed a w:=by
 have fin:∀(listed:Array Bool) (L:Nat→Bool) (a:Act) (w:World),listed.size=ops.size→(∀j,L j=listed.getD j false)→I L a w→Region.ready .any ops listed=[]→Q .normal a w :=
  fun listed L a w hs hL h hr=>hend _ a w (fun i hi=>by rw [hL];exact none_readyG hB hr hs i hi) h
 intro fuel;induction fuel with
 | zero =>
  intro listed L a w hs hf hL h;have hr:Region.ready .any ops listed=[]:=by
   apply List.eq_nil_iff_forall_not_mem.2
   intro i hi;obtain⟨h1,o,ho,_⟩:=mem_ready.1 hi;have hlt:=(Array.getElem?_eq_some_iff.1 ho).1;have:=open_dec hlt hs h1
   omega
  exact⟨hr,fin listed L a w hs hL h hr⟩
 | succ fuel ih =>
  intro listed L a w hs hf hL h;refine⟨fin listed L a w hs hL h,fun i hi=>?_⟩;obtain⟨h1,o,ho,hall⟩:=mem_ready.1 hi;have hlt:=(Array.getElem?_eq_some_iff.1 ho).1;have hd:=open_dec hlt hs h1;have hls:i<listed.size:=by omega
  have hLi:L i=false:=by
   rw [hL];simp only [Array.getD_eq_getD_getElem?,Array.getElem?_eq_getElem hls,Option.getD_some] at h1 ⊢;exact h1
  have hst:=hstep L i o a w ho hLi (fun e he hb=>by rw [hL];exact hall e he hb) h;have key:∀a' w',I (fun j=>L j||j==i) a' w'→wpAny P .any ops Q fuel (listed.setIfInBounds i true) a' w':=fun a' w' h' =>
   ih _ (fun j=>L j||j==i) a' w' (by simpa using hs) (by omega) (fun j=>by
    by_cases hji:j=i
    ·subst hji
     simp [Array.getD_eq_getD_getElem?,hls]
    ·have e1:(j==i)=false:=beq_eq_false_iff_ne.2 hji
     rw [e1,Bool.or_false,hL];simp only [Array.getD_eq_getD_getElem?];rw [Array.getElem?_setIfInBounds_ne (Ne.symm hji)]) h'
  unfold wpOp;rw [ho];show if Region.wanted o (yielded ops a.tmps)=true then _ else _
  unfold wpList at hst;by_cases hw:Region.wanted o (yielded ops a.tmps)=true
  ·rw [if_pos hw] at hst ⊢
   rcases hst with h2|⟨h2,h3⟩
   ·exact .inl (Oper.wp_mono key (oper_then h2))
   ·exact .inr ⟨h2,h3⟩
  ·rw [if_neg hw] at hst ⊢
   exact key _ _ hst
theorem wp_region_relyG {P:Program} {id:Nat} {ops:Array Oper} {Q:Exit→Act→World→Prop} {a:Act} {w:World} (hm:P.follows .mixedOrders=true) (hB:relyGB ops=true) (I:(Nat→Bool)→Act→World→Prop)
  (h0:I (fun _=>false) a w.drew)
  (hstep:∀(L:Nat→Bool) (i:Nat) (o:Oper) (a:Act) (w:World),ops[i]?=some o→L i=false→(∀e∈o.after,Region.binds .any e=true→L e.on=true)→I L a w →
   wpList P ops (Exit.then (fun a' w'=>I (fun j=>L j||j==i) a' w') Q) [o] a w)
  (hend:∀(L:Nat→Bool) (a:Act) (w:World),(∀i,i<ops.size→L i=true)→I L a w→Q .normal a w):(Code.region id ops true).wp P Q a w :=
 wp_region_any hm (wpAny_relyG hB I hstep hend ops.size (Array.replicate ops.size false) (fun _=>false) a w.drew (by simp) (by
  have:=List.length_filter_le (fun j=>!(Array.replicate ops.size false).getD j true) (List.range ops.size)
  simpa [open_] using this) (fun j=>by simp [Array.getD_eq_getD_getElem?,Array.getElem?_replicate];split<;>rfl) h0)
def relyTB (ops:Array Oper) (n:Nat):Bool:=relyGB ops&&decide (n<ops.size)&&Region.sinkB .any ops n&&Region.chainB .any ops n
def RelyStepsT (P:Program) (ops:Array Oper) (Q:Exit→Act→World→Prop) (I:(Nat→Bool)→Act→World→Prop):List Oper→Nat→Prop
 | [],_=>True
 | o::rest,i=>(∀(L:Nat→Bool) (a:Act) (w:World),L i=false→DepsOk o L→I L a w→wpList P ops (Exit.then (fun a' w'=>I (fun j=>L j||j==i) a' w') Q) [o] a w)∧RelyStepsT P ops Q I rest (i+1)
theorem RelyStepsT.at_ {P:Program} {ops:Array Oper} {Q:Exit→Act→World→Prop} {I:(Nat→Bool)→Act→World→Prop}:∀{l:List Oper} {k i:Nat} {o:Oper},RelyStepsT P ops Q I l k→l[i]?=some o →
  ∀(L:Nat→Bool) (a:Act) (w:World),L (k+i)=false→DepsOk o L→I L a w→wpList P ops (Exit.then (fun a' w'=>I (fun j=>L j||j==k+i) a' w') Q) [o] a w
 | [],_,_,_,_,h=>by simp at h
 | x::l,k,0,o,hs,h=>by simp at h;subst h;exact hs.1
 | x::l,k,i+1,o,hs,h=>by
  have:=RelyStepsT.at_ (k:=k+1) (i:=i) hs.2 (by simpa using h)
  rw [show k+(i+1)=k+1+i by omega];exact this
def Clo (ops:Array Oper) (L:Nat→Bool):Prop:=∀j o,ops[j]?=some o→L j=true→DepsOk o L
theorem Clo.add {ops:Array Oper} {L:Nat→Bool} (h:Clo ops L) {i:Nat} {o:Oper} (ho:ops[i]?=some o) (hd:DepsOk o L):Clo ops (fun j=>L j||j==i):=by
 intro j oj hj hL e he hb;have key:DepsOk oj L:=by
  by_cases hji:j=i
  ·subst hji
   obtain rfl:oj=o:=by rw [hj] at ho;injection ho
   exact hd
  ·have e1:(j==i)=false:=beq_eq_false_iff_ne.2 hji
   simp only [e1,Bool.or_false] at hL;exact h j oj hj hL
 simp [key e he hb]
theorem Clo.sink {ops:Array Oper} {L:Nat→Bool} (h:Clo ops L) {n:Nat} {o:Oper} (hs:Region.sinkB .any ops n=true) (ho:ops[n]?=some o) (hd:DepsOk o L):∀(d i:Nat),n-i=d→i<n→L i=true:=by
 intro d;induction d using Nat.strongRecOn with
 | _ d ih =>
  intro i hdi hi;have h1:=List.all_eq_true.1 hs i (List.mem_range.2 hi);obtain⟨j,hj,hj2⟩:=List.any_eq_true.1 h1;simp only [Bool.and_eq_true,decide_eq_true_eq] at hj2;obtain⟨oj,hoj,e,he,hb,hon⟩:=Region.waitsFor_spec hj2.2;have hjle:j≤n:=by have:=List.mem_range.1 hj;omega
  rw [←hon];by_cases hjn:j=n
  ·subst hjn
   obtain rfl:oj=o:=by rw [hoj] at ho;injection ho
   exact hd e he hb
  ·exact h j oj hoj (ih (n-j) (by omega) j rfl (by omega)) e he hb
theorem chain_at {ops:Array Oper} {n t:Nat} {o:Oper} (hc:Region.chainB .any ops n=true) (ht:n<t) (ho:ops[t]?=some o) {L:Nat→Bool} (hd:DepsOk o L):L (t-1)=true:=by
 have htl:=(Array.getElem?_eq_some_iff.1 ho).1;have h1:=List.all_eq_true.1 hc t (List.mem_range.2 htl);simp only [Bool.or_eq_true,decide_eq_true_eq] at h1;rcases h1 with h1|h1
 ·omega
 ·obtain⟨o',ho',e,he,hb,hon⟩:=Region.waitsFor_spec h1
  obtain rfl:o'=o:=by rw [ho'] at ho;injection ho
  rw [←hon];exact hd e he hb
theorem wpList_part {P:Program} {ops:Array Oper} {Q:Exit→Act→World→Prop} {o:Oper} {rest:List Oper} {a:Act} {w:World} {K:Act→World→Prop} (h:wpList P ops Q (o::rest) a w) (hK:∀a' w',wpList P ops Q rest a' w'→K a' w') :
  wpList P ops (Exit.then K Q) [o] a w:=by
 unfold wpList at h ⊢;split
 ·rename_i hw
  rw [if_pos hw] at h;rcases h with h|⟨h1,h2⟩
  ·exact .inl (oper_to (Oper.wp_mono (K':=wpList P ops (Exit.then K Q) []) (fun a' w' h'=>hK a' w' h') h))
  ·exact .inr ⟨h1,h2⟩
 ·rename_i hw
  rw [if_neg hw] at h;exact hK _ _ h
def TailI (P:Program) (ops:List Oper) (Q:Exit→Act→World→Prop) (n:Nat) (I:(Nat→Bool)→Act→World→Prop) (L:Nat→Bool) (a:Act) (w:World):Prop :=
 Clo ops.toArray L∧((∀t,n≤t→t<ops.length→L t=false)∧I L a w∨∃t,n≤t∧t<ops.length∧L t=true∧(∀j,t<j→j<ops.length→L j=false)∧wpList P ops.toArray Q (ops.drop (t+1)) a w)
theorem wp_region_relyT {P:Program} {id:Nat} {ops:List Oper} {Q:Exit→Act→World→Prop} {a:Act} {w:World} (n:Nat) (hm:P.follows .mixedOrders=true) (hB:relyTB ops.toArray n=true) (I:Act→World→(Nat→Bool)→Act→World→Prop)
  (h0:I a w (fun _=>false) a w.drew) (hs:RelyStepsT P ops.toArray Q (I a w) (ops.take n) 0)
  (hend:∀L a' w',(∀j,j<n→L j=true)→I a w L a' w'→wpList P ops.toArray Q (ops.drop n) a' w'):(Code.region id ops.toArray true).wp P Q a w:=by
 simp only [relyTB,Bool.and_eq_true,decide_eq_true_eq] at hB;obtain⟨⟨⟨hB1,hn⟩,hsk⟩,hch⟩:=hB;have hn':n<ops.length:=by simpa using hn
 obtain⟨on,hon⟩:∃on,ops[n]?=some on:=⟨_,List.getElem?_eq_getElem hn'⟩;refine wp_region_relyG hm hB1 (TailI P ops Q n (I a w)) ⟨fun j o hj h=>(by cases h),.inl ⟨fun _ _ _=>rfl,h0⟩⟩ ?_ ?_
 ·intro L i o a' w' ho hLi hde hI
  have ho':ops[i]?=some o:=by simpa using ho
  have hil:=(List.getElem?_eq_some_iff.1 ho').1;obtain⟨hclo,hI⟩:=hI;have hclo':=hclo.add ho hde;by_cases hin:i<n
  ·have hno:∀t,n≤t→t<ops.length→L t=false:=by
    rcases hI with⟨h,_⟩|⟨t,ht,htl,hLt,_,_⟩
    ·exact h
    ·exfalso
     obtain⟨ot,hot⟩:∃ot,ops[t]?=some ot:=⟨_,List.getElem?_eq_getElem htl⟩;have hdown:∀k,n+k≤t→L (t-k)=true:=by
      intro k;induction k with
      | zero=>intro _;exact hLt
      | succ k ih =>
       intro hk;have h1:=ih (by omega);obtain⟨ok,hok⟩:∃ok,ops[t-k]?=some ok:=⟨_,List.getElem?_eq_getElem (by omega)⟩;have h2:=chain_at hch (t:=t-k) (by omega) (by simpa using hok) (hclo _ ok (by simpa using hok) h1);rw [show t-(k+1)=t-k-1 by omega];exact h2
     have hLn:L n=true:=by have:=hdown (t-n) (by omega);rwa [show t-(t-n)=n by omega] at this
     have:=hclo.sink hsk (by simpa using hon) (hclo n on (by simpa using hon) hLn) (n-i) i rfl hin
     rw [this] at hLi;cases hLi
   have hIo:I a w L a' w':=by
    rcases hI with⟨_,h⟩|⟨t,ht,htl,hLt,_,_⟩
    ·exact h
    ·rw [hno t ht htl] at hLt;cases hLt
   have hst:=hs.at_ (i:=i) (o:=o) (by rw [List.getElem?_take_of_lt hin];exact ho') L a' w' (by simpa using hLi) hde hIo;simp only [Nat.zero_add] at hst;have key:∀a2 w2,I a w (fun j=>L j||j==i) a2 w2→TailI P ops Q n (I a w) (fun j=>L j||j==i) a2 w2:=fun a2 w2 h=>⟨hclo',.inl ⟨fun t ht htl=>by
    have e1:(t==i)=false:=beq_eq_false_iff_ne.2 (by omega);simp [hno t ht htl,e1],h⟩⟩
   unfold wpList at hst ⊢;split
   ·rename_i hw
    rw [if_pos hw] at hst;refine hst.imp (fun h=>?_) (fun h=>h);exact oper_then' (Oper.wp_mono (K':=wpList P ops.toArray _ []) (fun a2 w2 h2=>key a2 w2 h2) h)
   ·rename_i hw
    rw [if_neg hw] at hst;exact key _ _ hst
  ·have hni:n≤i:=Nat.le_of_not_lt hin
   have hrest:wpList P ops.toArray Q (ops.drop i) a' w':=by
    by_cases he:i=n
    ·subst he
     rcases hI with⟨hno,hI⟩|⟨t,ht,htl,hLt,hgt,_⟩
     ·exact hend L a' w' (fun j hj=>hclo.sink hsk ho hde (i-j) j rfl hj) hI
     ·exfalso
      by_cases hte:t=i
      ·subst hte;rw [hLt] at hLi;cases hLi
      ·obtain⟨ot,hot⟩:∃ot,ops[t]?=some ot:=⟨_,List.getElem?_eq_getElem htl⟩
       have hdown:∀k,i+k≤t→L (t-k)=true:=by
        intro k;induction k with
        | zero=>intro _;exact hLt
        | succ k ih =>
         intro hk;have h1:=ih (by omega);obtain⟨ok,hok⟩:∃ok,ops[t-k]?=some ok:=⟨_,List.getElem?_eq_getElem (by omega)⟩;have h2:=chain_at hch (t:=t-k) (by omega) (by simpa using hok) (hclo _ ok (by simpa using hok) h1);rw [show t-(k+1)=t-k-1 by omega];exact h2
       have:=hdown (t-i) (by omega)
       rw [show t-(t-i)=i by omega,hLi] at this;cases this
    ·have hp:=chain_at hch (t:=i) (by omega) ho hde
     rcases hI with⟨hno,_⟩|⟨t,ht,htl,hLt,hgt,hw⟩
     ·rw [hno (i-1) (by omega) (by omega)] at hp;cases hp
     ·have hti:t=i-1:=by
       rcases Nat.lt_trichotomy t (i-1) with h|h|h
       ·rw [hgt (i-1) h (by omega)] at hp;cases hp
       ·exact h
       ·exfalso
        by_cases hte:t=i
        ·subst hte;rw [hLt] at hLi;cases hLi
        ·have hdown:∀k,i+k≤t→L (t-k)=true:=by
          intro k;induction k with
          | zero=>intro _;exact hLt
          | succ k ih =>
           intro hk;have h1:=ih (by omega);obtain⟨ok,hok⟩:∃ok,ops[t-k]?=some ok:=⟨_,List.getElem?_eq_getElem (by omega)⟩;have h2:=chain_at hch (t:=t-k) (by omega) (by simpa using hok) (hclo _ ok (by simpa using hok) h1);rw [show t-(k+1)=t-k-1 by omega];exact h2
         have:=hdown (t-i) (by omega)
         rw [show t-(t-i)=i by omega,hLi] at this;cases this
      subst hti;rwa [show i-1+1=i by omega] at hw
   have hcons:ops.drop i=o::ops.drop (i+1):=by
    rw [List.drop_eq_getElem_cons hil];have:=(List.getElem?_eq_some_iff.1 ho').2
    rw [this]
   rw [hcons] at hrest;refine wpList_part hrest fun a2 w2 h2=>⟨hclo',.inr ⟨i,hni,hil,by simp,fun j hj hjl=>?_,h2⟩⟩
   have e1:(j==i)=false:=beq_eq_false_iff_ne.2 (by omega);cases hLj:L j with
   | false=>simp [hLj,e1]
   | true =>
    exfalso;have hdown:∀k,i+k≤j→L (j-k)=true:=by
     intro k;induction k with
     | zero=>intro _;exact hLj
     | succ k ih =>
      intro hk;have h1:=ih (by omega);obtain⟨ok,hok⟩:∃ok,ops[j-k]?=some ok:=⟨_,List.getElem?_eq_getElem (by omega)⟩;have h2:=chain_at hch (t:=j-k) (by omega) (by simpa using hok) (hclo _ ok (by simpa using hok) h1);rw [show j-(k+1)=j-k-1 by omega];exact h2
    have:=hdown (j-i) (by omega)
    rw [show j-(j-i)=i by omega,hLi] at this;cases this
 ·intro L a' w' hL hI
  obtain⟨_,hI⟩:=hI;rcases hI with⟨hno,_⟩|⟨t,ht,htl,hLt,hgt,hw⟩
  ·have h1:=hno n (Nat.le_refl _) hn'
   rw [hL n hn] at h1;cases h1
  ·have hte:t+1=ops.length:=by
    rcases Nat.lt_or_ge (t+1) ops.length with h|h
    ·have h1:=hgt (t+1) (by omega) h
     rw [hL (t+1) (by simpa using h)] at h1;cases h1
    ·omega
   rw [List.drop_eq_nil_of_le (by omega)] at hw;exact hw
end Go.Proofs.YtbgcjpefocdkkaaGreat
