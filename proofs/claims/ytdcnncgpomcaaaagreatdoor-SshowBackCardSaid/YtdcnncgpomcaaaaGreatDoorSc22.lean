/- walk of sread: whole -/
import Derived.Test.YtdcnncgpomcaaaaGreatDoorSc19
set_option maxRecDepth 100000
set_option maxHeartbeats 4000000
namespace Go.Proofs.YtdcnncgpomcaaaaGreatDoor
open Go.RowKit Go.Maps Go.MapKept
open Go.ChangeMaps (setBlock)
theorem hd_v (w:World) (S:Nat→Prop) (k:Int) (t:Str) (n:Int):SnV w S [.int .i64 k,.string ⟨t.toArray⟩,.int .i64 n,.bool false,.bool false,.int .i64 0,.string ⟨#[]⟩,.bool false,.slice none 0 0,.int .i64 0,.int .i64 0,.bool false,.slice none 0 0,.slice none 0 0,.bool false,.bool false,.slice none 0 0,.slice none 0 0] (.mk k t n false false tf0 [] []) :=
 SnV.close (os:=[]) (ks:=[]) (TfV.zero w S) (SlS.none_ _ _ _ _) (SnSl.nil _ _ _)
def hdN (k:Int) (t:Str) (n:Int):Sn:=.mk k t n false false tf0 [] []
def GG (g m:Nat) (s:Str) (N:Nat):Prop:=∀(S:Nat→Prop) (w:World) (i:Nat) (k:Int) (t:Str) (n:Int),Rs S w g m s i→(k=1∨k=3)→s.length-i≤N →
 Calls Tryz.prog 76 #[.pointer (some ⟨g,0,none⟩),.agg #[.int .i64 k,.string ⟨t.toArray⟩,.int .i64 n,.bool false,.bool false,.int .i64 0,.string ⟨#[]⟩,.bool false,.slice none 0 0,.int .i64 0,.int .i64 0,.bool false,.slice none 0 0,.slice none 0 0,.bool false,.bool false,.slice none 0 0,.slice none 0 0]] w fun e w'=>OutX S g m s (lc (kP true [] []) (hdN k t n) (s.drop i)) false i w e w'
theorem nameS_M (r:Str):sQ r=match A9 r with|some (n,r2)=>some (varS n,r2)|none=>none:=by
 unfold sQ A9;split<;>rfl
theorem sx (w:World) (k:Int) (t:Str) (n:Int):∀u∈(#[.int .i64 k,.string ⟨t.toArray⟩,.int .i64 n,.bool false,.bool false,.int .i64 0,.string ⟨#[]⟩,.bool false,.slice none 0 0,.int .i64 0,.int .i64 0,.bool false,.slice none 0 0,.slice none 0 0,.bool false,.bool false,.slice none 0 0,.slice none 0 0]:Array Value).toList,u.oneCell'=true:=(hd_v w (fun _=>True) k t n).one
theorem partS_no (r:Str) (h:∀c t,r=c::t→c.toNat≠123):lI r=ni r:=by
 cases r with
 | nil=>rfl
 | cons c t=>exact DH (h c t rfl) t
theorem lm {w w':World} {g b:Nat} {o:Obj} (h:w.heap[b]?=some o) (hg:w.grownBy w' (some g)) (hne:b≠g):w'.heap[b]?=some o:=kB h hg hne
theorem DK {g m:Nat} {s:Str} {N:Nat} (HB:GG g m s N):EB g m s (N+1):=by
 intro S w i r h hd hN;have HRS:=ab h;have hgB:=h.pl.lt;have hi:=h.pl.2.1;have hmg:=h.gm;obtain⟨h2,_,hr⟩:=kY hd;have HD:Hid (s.drop (i+1)=r):=ab hr;have HBB:=ab HB;have hnb:¬S w.heap.size∧w.heap.size≠g∧w.heap.size≠m:=⟨fun e=>by have:=h.lt _ e;omega,by omega,by omega⟩;have HZO:Hid (∀u∈(#[.int .i64 0,.string ⟨#[]⟩,.int .i64 0,.bool false,.bool false,.int .i64 0,.string ⟨#[]⟩,.bool false,.slice none 0 0,.int .i64 0,.int .i64 0,.bool false,.slice none 0 0,.slice none 0 0,.bool false,.bool false,.slice none 0 0,.slice none 0 0]:Array Value).toList,u.oneCell'=true):=ab (Bg w S).one;have hb0:Below w.heap.size w (w.alloc (.cells #[.int .i64 0,.string ⟨#[]⟩,.int .i64 0,.bool false,.bool false,.int .i64 0,.string ⟨#[]⟩,.bool false,.slice none 0 0,.int .i64 0,.int .i64 0,.bool false,.slice none 0 0,.slice none 0 0,.bool false,.bool false,.slice none 0 0,.slice none 0 0] 44)):=(Below.refl _ _).alloc (Ia _) _;have HRS0:=ab (h.later hb0);have HBX:Hid ((w.alloc (.cells #[.int .i64 0,.string ⟨#[]⟩,.int .i64 0,.bool false,.bool false,.int .i64 0,.string ⟨#[]⟩,.bool false,.slice none 0 0,.int .i64 0,.int .i64 0,.bool false,.slice none 0 0,.slice none 0 0,.bool false,.bool false,.slice none 0 0,.slice none 0 0] 44)).heap[w.heap.size]?=some (.cells #[.int .i64 0,.string ⟨#[]⟩,.int .i64 0,.bool false,.bool false,.int .i64 0,.string ⟨#[]⟩,.bool false,.slice none 0 0,.int .i64 0,.int .i64 0,.bool false,.slice none 0 0,.slice none 0 0,.bool false,.bool false,.slice none 0 0,.slice none 0 0] 44 (0,0))):=ab (heap_alloc_new w _);have HTK:=ab (mZ (p:=[36]) _ HRS0.out.pl gz (by rw [hd];rfl));clear h HB hd hr;go_enter Tryz.func59,Tryz.ntmps59
 go_wp2_with (go_at_call 73;refine HTK.out.mono ?_)
 first|rintro e w1 rfl hp1 hg1|rintro e w1 ⟨rfl,hp1,hg1⟩
 have HRS1:Hid (Rs S w1 g m s (i+1)):=ab (HRS0.out.place hp1 hg1);have HBX1:=ab (lm HBX.out hg1 gj);have HG1:Hid (Gr2 g m w w1):=ab ((Gr2.below hb0).trans (Gr2.grown hg1));clear hp1 hg1 HRS0 HTK HBX hb0;by_cases hb:∃r1,r=123::r1
 ·obtain⟨r1,rfl⟩:=hb
  have HTK:=ab (mZ (p:=[123]) _ HRS1.out.pl gz (by rw [HD.out];rfl));go_wp2_with (go_at_call 73;refine HTK.out.mono ?_)
  first|rintro e w2 rfl hp2 hg2|rintro e w2 ⟨rfl,hp2,hg2⟩
  have HRS2:Hid (Rs S w2 g m s (i+1+1)):=ab (HRS1.out.place hp2 hg2);have HBX2:=ab (lm HBX1.out hg2 gj);have HG2:Hid (Gr2 g m w w2):=ab (HG1.out.trans (Gr2.grown hg2));have HDJ:Hid (s.drop (i+1+1)=r1):=ab (kY HD.out).2.2;have HEB:Hid (lI (123::r1)=match ni r1 with|none=>none|some (x,r2)=>lc (kP true [] []) x r2):=ab (rR r1);clear hp2 hg2 HRS1 HBX1 HG1 HTK;have hz2:=HG2.out.size;obtain⟨b5,hb5⟩:∃b5,b5=w2.heap.size:=⟨_,rfl⟩;obtain⟨W3,hW3⟩:∃W3,W3=w2.alloc (.cells #[.int .i64 3,.string ⟨[].toArray⟩,.int .i64 0,.bool false,.bool false,.int .i64 0,.string ⟨#[]⟩,.bool false,.slice none 0 0,.int .i64 0,.int .i64 0,.bool false,.slice none 0 0,.slice none 0 0,.bool false,.bool false,.slice none 0 0,.slice none 0 0] 44):=⟨_,rfl⟩;have HW3:Hid ((w2.alloc (.cells #[.int .i64 0,.string ⟨#[]⟩,.int .i64 0,.bool false,.bool false,.int .i64 0,.string ⟨#[]⟩,.bool false,.slice none 0 0,.int .i64 0,.int .i64 0,.bool false,.slice none 0 0,.slice none 0 0,.bool false,.bool false,.slice none 0 0,.slice none 0 0] 44)).setRow w2.heap.size #[.int .i64 3,.string ⟨[].toArray⟩,.int .i64 0,.bool false,.bool false,.int .i64 0,.string ⟨#[]⟩,.bool false,.slice none 0 0,.int .i64 0,.int .i64 0,.bool false,.slice none 0 0,.slice none 0 0,.bool false,.bool false,.slice none 0 0,.slice none 0 0]=W3):=ab jd;have hb3:Below w2.heap.size w2 W3:=by rw [hW3];exact(Below.refl _ _).alloc (Ia _) _
  have HRS3:=ab (HRS2.out.later hb3);have HG3:=ab (HG2.out.trans (Gr2.below hb3));have HBX3:=ab ((hb3.block _ (ky HBX2.out)).trans HBX2.out);have hgt:w.heap.size<w2.heap.size:=ky HBX2.out;have HT3:Hid (W3.heap[b5]?=some (.cells #[.int .i64 3,.string ⟨[].toArray⟩,.int .i64 0,.bool false,.bool false,.int .i64 0,.string ⟨#[]⟩,.bool false,.slice none 0 0,.int .i64 0,.int .i64 0,.bool false,.slice none 0 0,.slice none 0 0,.bool false,.bool false,.slice none 0 0,.slice none 0 0] 44 (0,0))):=ab (by rw [hW3,hb5];exact heap_alloc_new _ _);have HNU:=ab (Cl W3 HRS3.out.pl);clear hW3 hb3 HRS2 HG2 HBX2;cases hnu:nG r1 with
  | some p =>
   obtain⟨n,r2⟩:=p;have HNU2:=HNU;rw [HDJ.out,hnu] at HNU2;have HH:Hid (ni r1=some (mT n,r2)):=ab j9;clear HNU hnu;go_wp2_with (first
    | (refine kK rfl 44 (.tmp 5) (.tmp 16) rfl (w2.heap.size) (#[.int .i64 3,.string ⟨[].toArray⟩,.int .i64 0,.bool false,.bool false,.int .i64 0,.string ⟨#[]⟩,.bool false,.slice none 0 0,.int .i64 0,.int .i64 0,.bool false,.slice none 0 0,.slice none 0 0,.bool false,.bool false,.slice none 0 0,.slice none 0 0]) rfl rfl 44 (#[.int .i64 0,.string ⟨#[]⟩,.int .i64 0,.bool false,.bool false,.int .i64 0,.string ⟨#[]⟩,.bool false,.slice none 0 0,.int .i64 0,.int .i64 0,.bool false,.slice none 0 0,.slice none 0 0,.bool false,.bool false,.slice none 0 0,.slice none 0 0]) (heap_alloc_new w2 _) (kF) rfl rfl ((sx w 3 [] 0)) (W:=W3) (HW3.out) ?_)
    | (go_at_call 74;refine HNU2.out.mono ?_))
   rintro e w4 ⟨hg4,hn4,rfl,j4,hp4,hd4,hj4⟩;have HRS4:=ab (HRS3.out.place hp4 hg4);have HT4:=ab (lm HT3.out hg4 gj);have HB4:=ab (lm HBX3.out hg4 gj);have hn5:¬S b5∧b5≠g∧b5≠m:=⟨fun e=>by have:=HRS.out.lt _ e;omega,by omega,by omega⟩;have HDJ5:Hid (s.drop j4=r2):=ab hd4;have HRS5:=ab (HRS4.out.setRow hn5 #[.int .i64 1,.string ⟨[].toArray⟩,.int .i64 (n:Int),.bool false,.bool false,.int .i64 0,.string ⟨#[]⟩,.bool false,.slice none 0 0,.int .i64 0,.int .i64 0,.bool false,.slice none 0 0,.slice none 0 0,.bool false,.bool false,.slice none 0 0,.slice none 0 0]);have HG5:=ab ((HG3.out.trans (Gr2.grown hg4)).setRow (b:=b5) gj #[.int .i64 1,.string ⟨[].toArray⟩,.int .i64 (n:Int),.bool false,.bool false,.int .i64 0,.string ⟨#[]⟩,.bool false,.slice none 0 0,.int .i64 0,.int .i64 0,.bool false,.slice none 0 0,.slice none 0 0,.bool false,.bool false,.slice none 0 0,.slice none 0 0]);have HT5:=ab (l9 (cs:=#[.int .i64 1,.string ⟨[].toArray⟩,.int .i64 (n:Int),.bool false,.bool false,.int .i64 0,.string ⟨#[]⟩,.bool false,.slice none 0 0,.int .i64 0,.int .i64 0,.bool false,.slice none 0 0,.slice none 0 0,.bool false,.bool false,.slice none 0 0,.slice none 0 0]) HT4.out);have HBX5:Hid ((w4.setRow b5 #[.int .i64 1,.string ⟨[].toArray⟩,.int .i64 (n:Int),.bool false,.bool false,.int .i64 0,.string ⟨#[]⟩,.bool false,.slice none 0 0,.int .i64 0,.int .i64 0,.bool false,.slice none 0 0,.slice none 0 0,.bool false,.bool false,.slice none 0 0,.slice none 0 0]).heap[w.heap.size]?=some (.cells #[.int .i64 0,.string ⟨#[]⟩,.int .i64 0,.bool false,.bool false,.int .i64 0,.string ⟨#[]⟩,.bool false,.slice none 0 0,.int .i64 0,.int .i64 0,.bool false,.slice none 0 0,.slice none 0 0,.bool false,.bool false,.slice none 0 0,.slice none 0 0] 44 (0,0))):=ab ((mE _ gj).trans HB4.out);clear hg4 hp4 hd4;subst hb5;have HE:Hid (lI (123::r1)=lc (kP true [] []) (hdN 1 [] (n:Int)) r2):=ab jV;have HBC:=ab (HBB.out S ((w4.setRow w2.heap.size #[.int .i64 1,.string ⟨[].toArray⟩,.int .i64 (n:Int),.bool false,.bool false,.int .i64 0,.string ⟨#[]⟩,.bool false,.slice none 0 0,.int .i64 0,.int .i64 0,.bool false,.slice none 0 0,.slice none 0 0,.bool false,.bool false,.slice none 0 0,.slice none 0 0])) _ 1 [] (n:Int) HRS5.out (by first|exact .inl rfl|exact .inr rfl) (by have:=HRS5.out.pl.2.1;omega));go_wp2_with (first|(refine kK rfl 44 (.tmp 5) (.tmp 26) rfl (w2.heap.size) (#[.int .i64 1,.string ⟨[].toArray⟩,.int .i64 (n:Int),.bool false,.bool false,.int .i64 0,.string ⟨#[]⟩,.bool false,.slice none 0 0,.int .i64 0,.int .i64 0,.bool false,.slice none 0 0,.slice none 0 0,.bool false,.bool false,.slice none 0 0,.slice none 0 0]) rfl rfl 44 (#[.int .i64 3,.string ⟨[].toArray⟩,.int .i64 0,.bool false,.bool false,.int .i64 0,.string ⟨#[]⟩,.bool false,.slice none 0 0,.int .i64 0,.int .i64 0,.bool false,.slice none 0 0,.slice none 0 0,.bool false,.bool false,.slice none 0 0,.slice none 0 0]) (HT4.out) (kF) rfl rfl ((sx w 1 [] (n:Int))) (W:=(w4.setRow w2.heap.size #[.int .i64 1,.string ⟨[].toArray⟩,.int .i64 (n:Int),.bool false,.bool false,.int .i64 0,.string ⟨#[]⟩,.bool false,.slice none 0 0,.int .i64 0,.int .i64 0,.bool false,.slice none 0 0,.slice none 0 0,.bool false,.bool false,.slice none 0 0,.slice none 0 0])) (rfl) ?_)|(refine kA rfl 44 (.tmp 5) rfl (w2.heap.size) 0 rfl ([.int .i64 1,.string ⟨[].toArray⟩,.int .i64 (n:Int),.bool false,.bool false,.int .i64 0,.string ⟨#[]⟩,.bool false,.slice none 0 0,.int .i64 0,.int .i64 0,.bool false,.slice none 0 0,.slice none 0 0,.bool false,.bool false,.slice none 0 0,.slice none 0 0]) _ (kG (ds:=[]) (HT5.out)) kC rfl ib ?_)|(go_at_call 76;refine HBC.out.mono ?_))
   rintro e w6 ⟨hg6,S6,j6,cc,x,ok,rfl,hrs6,hT1,hT2,hxv,hm⟩;have hz6:=hg6.size;have HBX6:Hid (w6.heap[w.heap.size]?=some (.cells #[.int .i64 0,.string ⟨#[]⟩,.int .i64 0,.bool false,.bool false,.int .i64 0,.string ⟨#[]⟩,.bool false,.slice none 0 0,.int .i64 0,.int .i64 0,.bool false,.slice none 0 0,.slice none 0 0,.bool false,.bool false,.slice none 0 0,.slice none 0 0] 44 (0,0))):=ab ((hg6.block _ (ky HBX5.out) gj gj).trans HBX5.out);have hnb6:¬S6 w.heap.size∧w.heap.size≠g∧w.heap.size≠m:=⟨fun e=>by
    rcases hT2 _ e with h|h
    ·exact hnb.1 h
    ·have:=ky HBX5.out;omega,by omega,by omega⟩
   have hcl:=hxv.len;have HXV6:=ab hxv;have HB9:=ab (l9 (w:=w6) (cs:=cc.toArray) HBX6.out);have HRS6:=ab hrs6;have HM:=ab hm;have HG6:=ab (HG5.out.trans hg6);clear hxv hrs6 hm hg6;go_wp2_with (refine kK rfl 44 (.tmp 2) (.tmp 42) rfl (w.heap.size) (cc.toArray) rfl rfl 44 (#[.int .i64 0,.string ⟨#[]⟩,.int .i64 0,.bool false,.bool false,.int .i64 0,.string ⟨#[]⟩,.bool false,.slice none 0 0,.int .i64 0,.int .i64 0,.bool false,.slice none 0 0,.slice none 0 0,.bool false,.bool false,.slice none 0 0,.slice none 0 0]) (HBX6.out) (kF) ii rfl ((fun u hu=>HXV6.out.one u iD)) (W:=(w6.setRow w.heap.size cc.toArray)) (rfl) ?_)
   refine Ir (mO Tryz.results59 kC kF HB9.out ii rfl rfl) rfl ?_;rw [HE.out];refine⟨HG6.out.setRow (Ia _) _,S6,j6,cc,x,ok,rfl,HRS6.out.setRow hnb6 _,hT1,fun b hb=>(hT2 b hb).imp id (fun h=>by have:=HG5.out.size;omega),HXV6.out.setRow hnb6.1 _,?_⟩;have h:=HM.out;rw [HDJ5.out] at h;cases hq:lc (kP true [] []) (hdN 1 [] (n:Int)) r2 with
   | none=>rw [hq] at h;exact⟨h.1,fun e=>by cases e⟩
   | some y=>rw [hq] at h;exact h
  | none =>
   have HNU2:=HNU;rw [HDJ.out,hnu] at HNU2;have HNN:Hid (ni r1=sQ r1):=ab j9;clear HNU hnu;go_wp2_with (first
    | (refine kK rfl 44 (.tmp 5) (.tmp 16) rfl (w2.heap.size) (#[.int .i64 3,.string ⟨[].toArray⟩,.int .i64 0,.bool false,.bool false,.int .i64 0,.string ⟨#[]⟩,.bool false,.slice none 0 0,.int .i64 0,.int .i64 0,.bool false,.slice none 0 0,.slice none 0 0,.bool false,.bool false,.slice none 0 0,.slice none 0 0]) rfl rfl 44 (#[.int .i64 0,.string ⟨#[]⟩,.int .i64 0,.bool false,.bool false,.int .i64 0,.string ⟨#[]⟩,.bool false,.slice none 0 0,.int .i64 0,.int .i64 0,.bool false,.slice none 0 0,.slice none 0 0,.bool false,.bool false,.slice none 0 0,.slice none 0 0]) (heap_alloc_new w2 _) (kF) rfl rfl ((sx w 3 [] 0)) (W:=W3) (HW3.out) ?_)
    | (go_at_call 74;refine HNU2.out.mono ?_))
   rintro e w4 ⟨hg4,rfl,hp4⟩;have HRS4:=ab (HRS3.out.place hp4 hg4);have HT4:=ab (lm HT3.out hg4 gj);have HB4:=ab (lm HBX3.out hg4 gj);have HG4:=ab (HG3.out.trans (Gr2.grown hg4));have HNA:=ab (name_s w4 hp4);clear hg4 hp4;cases hna:A9 r1 with
   | none =>
    have HNA2:=HNA;rw [HDJ.out,hna] at HNA2;have HH:Hid (ni r1=none):=ab jS;clear HNA hna;go_wp2_with (go_at_call 75;refine HNA2.out.mono ?_)
    rintro e w5 ⟨hg5,rfl,hp5⟩;have ht5:=lm HT4.out hg5 gj;have kc:=kz ht5 1 rfl;have kf:=lP ht5 1;obtain⟨W5,hW5⟩:∃W5,W5=w5.setCell ⟨b5,1,none⟩ (.string ⟨#[]⟩):=⟨_,rfl⟩;have hn5:¬S b5∧b5≠g∧b5≠m:=⟨fun e=>by have:=HRS.out.lt _ e;omega,by omega,by omega⟩;have HRS5:=ab (hW5▸(HRS4.out.place hp5 hg5).setCell (a:=⟨b5,1,none⟩) hn5 (.string ⟨#[]⟩));have HG5:=ab (hW5▸(HG4.out.trans (Gr2.grown hg5)).setNew (a:=⟨b5,1,none⟩) jN (.string ⟨#[]⟩));have HBX5:Hid (W5.heap[w.heap.size]?=some (.cells #[.int .i64 0,.string ⟨#[]⟩,.int .i64 0,.bool false,.bool false,.int .i64 0,.string ⟨#[]⟩,.bool false,.slice none 0 0,.int .i64 0,.int .i64 0,.bool false,.slice none 0 0,.slice none 0 0,.bool false,.bool false,.slice none 0 0,.slice none 0 0] 44 (0,0))):=ab gR;subst hb5;go_upto_region 8 with fail
    rw [←hW5];clear hW5 kc kf ht5 hg5 hp5;have HE:Hid (lI (123::r1)=none):=ab (by rw [HEB.out,HH.out]);exact aP
   | some p =>
    obtain⟨nm,r2⟩:=p;have HNA2:=HNA;rw [HDJ.out,hna] at HNA2;have HH:Hid (ni r1=some (varS nm,r2)):=ab jS;clear HNA hna;go_wp2_with (go_at_call 75;refine HNA2.out.mono ?_)
    rintro e w5 ⟨hg5,hnm,rfl,j5,hp5,hd5,hj5⟩;have ht5:=lm HT4.out hg5 gj;have kc:=kz ht5 1 rfl;have kf:=lP ht5 1;obtain⟨W5,hW5⟩:∃W5,W5=w5.setCell ⟨b5,1,none⟩ (.string ⟨nm.toArray⟩):=⟨_,rfl⟩;have hn5:¬S b5∧b5≠g∧b5≠m:=⟨fun e=>by have:=HRS.out.lt _ e;omega,by omega,by omega⟩;have HRS5:=ab (hW5▸(HRS4.out.place hp5 hg5).setCell (a:=⟨b5,1,none⟩) hn5 (.string ⟨nm.toArray⟩));have HG5:=ab (hW5▸(HG4.out.trans (Gr2.grown hg5)).setNew (a:=⟨b5,1,none⟩) jN (.string ⟨nm.toArray⟩));have HBX5:Hid (W5.heap[w.heap.size]?=some (.cells #[.int .i64 0,.string ⟨#[]⟩,.int .i64 0,.bool false,.bool false,.int .i64 0,.string ⟨#[]⟩,.bool false,.slice none 0 0,.int .i64 0,.int .i64 0,.bool false,.slice none 0 0,.slice none 0 0,.bool false,.bool false,.slice none 0 0,.slice none 0 0] 44 (0,0))):=ab gR;have HT5:Hid (W5.heap[b5]?=some (.cells #[.int .i64 3,.string ⟨nm.toArray⟩,.int .i64 0,.bool false,.bool false,.int .i64 0,.string ⟨#[]⟩,.bool false,.slice none 0 0,.int .i64 0,.int .i64 0,.bool false,.slice none 0 0,.slice none 0 0,.bool false,.bool false,.slice none 0 0,.slice none 0 0] 44 (0,0))):=ab (by rw [hW5,heap_setCell_same _ _ _ _ _ _ ht5];rfl);have HDJ5:Hid (s.drop j5=r2):=ab hd5;subst hb5;go_upto_region 8 with fail
    rw [←hW5];clear hW5 kc kf ht5 hg5 hp5 hd5 hnm;have HE:Hid (lI (123::r1)=lc (kP true [] []) (hdN 3 nm 0) r2):=ab jV;have HBC:=ab (HBB.out S (W5) _ 3 nm 0 HRS5.out (by first|exact .inl rfl|exact .inr rfl) (by have:=HRS5.out.pl.2.1;omega));go_wp2_with (first|(fail)|(refine kA rfl 44 (.tmp 5) rfl (w2.heap.size) 0 rfl ([.int .i64 3,.string ⟨nm.toArray⟩,.int .i64 0,.bool false,.bool false,.int .i64 0,.string ⟨#[]⟩,.bool false,.slice none 0 0,.int .i64 0,.int .i64 0,.bool false,.slice none 0 0,.slice none 0 0,.bool false,.bool false,.slice none 0 0,.slice none 0 0]) _ (kG (ds:=[]) (HT5.out)) kC rfl ib ?_)|(go_at_call 76;refine HBC.out.mono ?_))
    rintro e w6 ⟨hg6,S6,j6,cc,x,ok,rfl,hrs6,hT1,hT2,hxv,hm⟩;have hz6:=hg6.size;have HBX6:Hid (w6.heap[w.heap.size]?=some (.cells #[.int .i64 0,.string ⟨#[]⟩,.int .i64 0,.bool false,.bool false,.int .i64 0,.string ⟨#[]⟩,.bool false,.slice none 0 0,.int .i64 0,.int .i64 0,.bool false,.slice none 0 0,.slice none 0 0,.bool false,.bool false,.slice none 0 0,.slice none 0 0] 44 (0,0))):=ab ((hg6.block _ (ky HBX5.out) gj gj).trans HBX5.out);have hnb6:¬S6 w.heap.size∧w.heap.size≠g∧w.heap.size≠m:=⟨fun e=>by
     rcases hT2 _ e with h|h
     ·exact hnb.1 h
     ·have:=ky HBX5.out;omega,by omega,by omega⟩
    have hcl:=hxv.len;have HXV6:=ab hxv;have HB9:=ab (l9 (w:=w6) (cs:=cc.toArray) HBX6.out);have HRS6:=ab hrs6;have HM:=ab hm;have HG6:=ab (HG5.out.trans hg6);clear hxv hrs6 hm hg6;go_wp2_with (refine kK rfl 44 (.tmp 2) (.tmp 42) rfl (w.heap.size) (cc.toArray) rfl rfl 44 (#[.int .i64 0,.string ⟨#[]⟩,.int .i64 0,.bool false,.bool false,.int .i64 0,.string ⟨#[]⟩,.bool false,.slice none 0 0,.int .i64 0,.int .i64 0,.bool false,.slice none 0 0,.slice none 0 0,.bool false,.bool false,.slice none 0 0,.slice none 0 0]) (HBX6.out) (kF) ii rfl ((fun u hu=>HXV6.out.one u iD)) (W:=(w6.setRow w.heap.size cc.toArray)) (rfl) ?_)
    refine Ir (mO Tryz.results59 kC kF HB9.out ii rfl rfl) rfl ?_;rw [HE.out];refine⟨HG6.out.setRow (Ia _) _,S6,j6,cc,x,ok,rfl,HRS6.out.setRow hnb6 _,hT1,fun b hb=>(hT2 b hb).imp id (fun h=>by have:=HG5.out.size;omega),HXV6.out.setRow hnb6.1 _,?_⟩;have h:=HM.out;rw [HDJ5.out] at h;cases hq:lc (kP true [] []) (hdN 3 nm 0) r2 with
    | none=>rw [hq] at h;exact⟨h.1,fun e=>by cases e⟩
    | some y=>rw [hq] at h;exact h
 ·have hb':∀c t,r=c::t→c.toNat≠123:=fun c t e hc=>hb ⟨t,by rw [e,show c=123 from Ht.1 hc]⟩
  have HNO:Hid (List.isPrefixOf [123] (s.drop (i+1))=false):=ab (by
   rw [HD.out];cases r with
   | nil=>rfl
   | cons c t=>rw [pre1];exact Ix (hb' c t rfl))
  have HEB:Hid (lI r=ni r):=ab (partS_no r hb');have HTK:=ab (mH (p:=[123]) _ HRS1.out.pl gz HNO.out);clear hb hb' HNO;go_wp2_with (go_at_call 73;refine HTK.out.mono ?_)
  first|rintro e w2 rfl hp2 hg2|rintro e w2 ⟨rfl,hp2,hg2⟩
  have HRS2:Hid (Rs S w2 g m s (i+1)):=ab (HRS1.out.place hp2 hg2);have HBX2:=ab (lm HBX1.out hg2 gj);have HG2:Hid (Gr2 g m w w2):=ab (HG1.out.trans (Gr2.grown hg2));have HDJ:Hid (s.drop (i+1)=r):=HD;clear hp2 hg2 HRS1 HBX1 HG1 HTK;have hz2:=HG2.out.size;obtain⟨b5,hb5⟩:∃b5,b5=w2.heap.size:=⟨_,rfl⟩;obtain⟨W3,hW3⟩:∃W3,W3=w2.alloc (.cells #[.int .i64 3,.string ⟨[].toArray⟩,.int .i64 0,.bool false,.bool false,.int .i64 0,.string ⟨#[]⟩,.bool false,.slice none 0 0,.int .i64 0,.int .i64 0,.bool false,.slice none 0 0,.slice none 0 0,.bool false,.bool false,.slice none 0 0,.slice none 0 0] 44):=⟨_,rfl⟩;have HW3:Hid ((w2.alloc (.cells #[.int .i64 0,.string ⟨#[]⟩,.int .i64 0,.bool false,.bool false,.int .i64 0,.string ⟨#[]⟩,.bool false,.slice none 0 0,.int .i64 0,.int .i64 0,.bool false,.slice none 0 0,.slice none 0 0,.bool false,.bool false,.slice none 0 0,.slice none 0 0] 44)).setRow w2.heap.size #[.int .i64 3,.string ⟨[].toArray⟩,.int .i64 0,.bool false,.bool false,.int .i64 0,.string ⟨#[]⟩,.bool false,.slice none 0 0,.int .i64 0,.int .i64 0,.bool false,.slice none 0 0,.slice none 0 0,.bool false,.bool false,.slice none 0 0,.slice none 0 0]=W3):=ab jd;have hb3:Below w2.heap.size w2 W3:=by rw [hW3];exact(Below.refl _ _).alloc (Ia _) _
  have HRS3:=ab (HRS2.out.later hb3);have HG3:=ab (HG2.out.trans (Gr2.below hb3));have HBX3:=ab ((hb3.block _ (ky HBX2.out)).trans HBX2.out);have hgt:w.heap.size<w2.heap.size:=ky HBX2.out;have HT3:Hid (W3.heap[b5]?=some (.cells #[.int .i64 3,.string ⟨[].toArray⟩,.int .i64 0,.bool false,.bool false,.int .i64 0,.string ⟨#[]⟩,.bool false,.slice none 0 0,.int .i64 0,.int .i64 0,.bool false,.slice none 0 0,.slice none 0 0,.bool false,.bool false,.slice none 0 0,.slice none 0 0] 44 (0,0))):=ab (by rw [hW3,hb5];exact heap_alloc_new _ _);have HNU:=ab (Cl W3 HRS3.out.pl);clear hW3 hb3 HRS2 HG2 HBX2;cases hnu:nG r with
  | some p =>
   obtain⟨n,r2⟩:=p;have HNU2:=HNU;rw [HDJ.out,hnu] at HNU2;have HH:Hid (ni r=some (mT n,r2)):=ab j9;clear HNU hnu;go_wp2_with (first
    | (refine kK rfl 44 (.tmp 5) (.tmp 16) rfl (w2.heap.size) (#[.int .i64 3,.string ⟨[].toArray⟩,.int .i64 0,.bool false,.bool false,.int .i64 0,.string ⟨#[]⟩,.bool false,.slice none 0 0,.int .i64 0,.int .i64 0,.bool false,.slice none 0 0,.slice none 0 0,.bool false,.bool false,.slice none 0 0,.slice none 0 0]) rfl rfl 44 (#[.int .i64 0,.string ⟨#[]⟩,.int .i64 0,.bool false,.bool false,.int .i64 0,.string ⟨#[]⟩,.bool false,.slice none 0 0,.int .i64 0,.int .i64 0,.bool false,.slice none 0 0,.slice none 0 0,.bool false,.bool false,.slice none 0 0,.slice none 0 0]) (heap_alloc_new w2 _) (kF) rfl rfl ((sx w 3 [] 0)) (W:=W3) (HW3.out) ?_)
    | (go_at_call 74;refine HNU2.out.mono ?_))
   rintro e w4 ⟨hg4,hn4,rfl,j4,hp4,hd4,hj4⟩;have HRS4:=ab (HRS3.out.place hp4 hg4);have HT4:=ab (lm HT3.out hg4 gj);have HB4:=ab (lm HBX3.out hg4 gj);have hn5:¬S b5∧b5≠g∧b5≠m:=⟨fun e=>by have:=HRS.out.lt _ e;omega,by omega,by omega⟩;have HDJ5:Hid (s.drop j4=r2):=ab hd4;have HRS5:=ab (HRS4.out.setRow hn5 #[.int .i64 1,.string ⟨[].toArray⟩,.int .i64 (n:Int),.bool false,.bool false,.int .i64 0,.string ⟨#[]⟩,.bool false,.slice none 0 0,.int .i64 0,.int .i64 0,.bool false,.slice none 0 0,.slice none 0 0,.bool false,.bool false,.slice none 0 0,.slice none 0 0]);have HG5:=ab ((HG3.out.trans (Gr2.grown hg4)).setRow (b:=b5) gj #[.int .i64 1,.string ⟨[].toArray⟩,.int .i64 (n:Int),.bool false,.bool false,.int .i64 0,.string ⟨#[]⟩,.bool false,.slice none 0 0,.int .i64 0,.int .i64 0,.bool false,.slice none 0 0,.slice none 0 0,.bool false,.bool false,.slice none 0 0,.slice none 0 0]);have HT5:=ab (l9 (cs:=#[.int .i64 1,.string ⟨[].toArray⟩,.int .i64 (n:Int),.bool false,.bool false,.int .i64 0,.string ⟨#[]⟩,.bool false,.slice none 0 0,.int .i64 0,.int .i64 0,.bool false,.slice none 0 0,.slice none 0 0,.bool false,.bool false,.slice none 0 0,.slice none 0 0]) HT4.out);have HBX5:Hid ((w4.setRow b5 #[.int .i64 1,.string ⟨[].toArray⟩,.int .i64 (n:Int),.bool false,.bool false,.int .i64 0,.string ⟨#[]⟩,.bool false,.slice none 0 0,.int .i64 0,.int .i64 0,.bool false,.slice none 0 0,.slice none 0 0,.bool false,.bool false,.slice none 0 0,.slice none 0 0]).heap[w.heap.size]?=some (.cells #[.int .i64 0,.string ⟨#[]⟩,.int .i64 0,.bool false,.bool false,.int .i64 0,.string ⟨#[]⟩,.bool false,.slice none 0 0,.int .i64 0,.int .i64 0,.bool false,.slice none 0 0,.slice none 0 0,.bool false,.bool false,.slice none 0 0,.slice none 0 0] 44 (0,0))):=ab ((mE _ gj).trans HB4.out);clear hg4 hp4 hd4;subst hb5;have HE:Hid (lI r=some (hdN 1 [] (n:Int),r2)):=ab jV;have HB9:=ab (l9 (w:=(w4.setRow w2.heap.size #[.int .i64 1,.string ⟨[].toArray⟩,.int .i64 (n:Int),.bool false,.bool false,.int .i64 0,.string ⟨#[]⟩,.bool false,.slice none 0 0,.int .i64 0,.int .i64 0,.bool false,.slice none 0 0,.slice none 0 0,.bool false,.bool false,.slice none 0 0,.slice none 0 0])) (cs:=#[.int .i64 1,.string ⟨[].toArray⟩,.int .i64 (n:Int),.bool false,.bool false,.int .i64 0,.string ⟨#[]⟩,.bool false,.slice none 0 0,.int .i64 0,.int .i64 0,.bool false,.slice none 0 0,.slice none 0 0,.bool false,.bool false,.slice none 0 0,.slice none 0 0]) HBX5.out);go_wp2_with (first|(refine kK rfl 44 (.tmp 5) (.tmp 26) rfl (w2.heap.size) (#[.int .i64 1,.string ⟨[].toArray⟩,.int .i64 (n:Int),.bool false,.bool false,.int .i64 0,.string ⟨#[]⟩,.bool false,.slice none 0 0,.int .i64 0,.int .i64 0,.bool false,.slice none 0 0,.slice none 0 0,.bool false,.bool false,.slice none 0 0,.slice none 0 0]) rfl rfl 44 (#[.int .i64 3,.string ⟨[].toArray⟩,.int .i64 0,.bool false,.bool false,.int .i64 0,.string ⟨#[]⟩,.bool false,.slice none 0 0,.int .i64 0,.int .i64 0,.bool false,.slice none 0 0,.slice none 0 0,.bool false,.bool false,.slice none 0 0,.slice none 0 0]) (HT4.out) (kF) rfl rfl ((sx w 1 [] (n:Int))) (W:=(w4.setRow w2.heap.size #[.int .i64 1,.string ⟨[].toArray⟩,.int .i64 (n:Int),.bool false,.bool false,.int .i64 0,.string ⟨#[]⟩,.bool false,.slice none 0 0,.int .i64 0,.int .i64 0,.bool false,.slice none 0 0,.slice none 0 0,.bool false,.bool false,.slice none 0 0,.slice none 0 0])) (rfl) ?_)|(refine kA rfl 44 (.tmp 5) rfl (w2.heap.size) 0 rfl ([.int .i64 1,.string ⟨[].toArray⟩,.int .i64 (n:Int),.bool false,.bool false,.int .i64 0,.string ⟨#[]⟩,.bool false,.slice none 0 0,.int .i64 0,.int .i64 0,.bool false,.slice none 0 0,.slice none 0 0,.bool false,.bool false,.slice none 0 0,.slice none 0 0]) _ (kG (ds:=[]) (HT5.out)) kC rfl ib ?_)|(refine kK rfl 44 (.tmp 2) (.tmp 44) rfl (w.heap.size) (#[.int .i64 1,.string ⟨[].toArray⟩,.int .i64 (n:Int),.bool false,.bool false,.int .i64 0,.string ⟨#[]⟩,.bool false,.slice none 0 0,.int .i64 0,.int .i64 0,.bool false,.slice none 0 0,.slice none 0 0,.bool false,.bool false,.slice none 0 0,.slice none 0 0]) rfl rfl 44 (#[.int .i64 0,.string ⟨#[]⟩,.int .i64 0,.bool false,.bool false,.int .i64 0,.string ⟨#[]⟩,.bool false,.slice none 0 0,.int .i64 0,.int .i64 0,.bool false,.slice none 0 0,.slice none 0 0,.bool false,.bool false,.slice none 0 0,.slice none 0 0]) (HBX5.out) (kF) rfl rfl ((sx w 1 [] (n:Int))) (W:=(((w4.setRow w2.heap.size #[.int .i64 1,.string ⟨[].toArray⟩,.int .i64 (n:Int),.bool false,.bool false,.int .i64 0,.string ⟨#[]⟩,.bool false,.slice none 0 0,.int .i64 0,.int .i64 0,.bool false,.slice none 0 0,.slice none 0 0,.bool false,.bool false,.slice none 0 0,.slice none 0 0])).setRow w.heap.size #[.int .i64 1,.string ⟨[].toArray⟩,.int .i64 (n:Int),.bool false,.bool false,.int .i64 0,.string ⟨#[]⟩,.bool false,.slice none 0 0,.int .i64 0,.int .i64 0,.bool false,.slice none 0 0,.slice none 0 0,.bool false,.bool false,.slice none 0 0,.slice none 0 0])) (rfl) ?_))
   refine Ir (mO Tryz.results59 kC kF HB9.out rfl rfl rfl) rfl ?_;rw [HE.out];exact⟨HG5.out.setRow (Ia _) _,S,_,_,_,true,rfl,HRS5.out.setRow hnb _,fun _ h=>h,fun _ h=>.inl h,hd_v _ S 1 [] (n:Int),rfl,rfl,HDJ5.out⟩
  | none =>
   have HNU2:=HNU;rw [HDJ.out,hnu] at HNU2;have HNN:Hid (ni r=sQ r):=ab j9;clear HNU hnu;go_wp2_with (first
    | (refine kK rfl 44 (.tmp 5) (.tmp 16) rfl (w2.heap.size) (#[.int .i64 3,.string ⟨[].toArray⟩,.int .i64 0,.bool false,.bool false,.int .i64 0,.string ⟨#[]⟩,.bool false,.slice none 0 0,.int .i64 0,.int .i64 0,.bool false,.slice none 0 0,.slice none 0 0,.bool false,.bool false,.slice none 0 0,.slice none 0 0]) rfl rfl 44 (#[.int .i64 0,.string ⟨#[]⟩,.int .i64 0,.bool false,.bool false,.int .i64 0,.string ⟨#[]⟩,.bool false,.slice none 0 0,.int .i64 0,.int .i64 0,.bool false,.slice none 0 0,.slice none 0 0,.bool false,.bool false,.slice none 0 0,.slice none 0 0]) (heap_alloc_new w2 _) (kF) rfl rfl ((sx w 3 [] 0)) (W:=W3) (HW3.out) ?_)
    | (go_at_call 74;refine HNU2.out.mono ?_))
   rintro e w4 ⟨hg4,rfl,hp4⟩;have HRS4:=ab (HRS3.out.place hp4 hg4);have HT4:=ab (lm HT3.out hg4 gj);have HB4:=ab (lm HBX3.out hg4 gj);have HG4:=ab (HG3.out.trans (Gr2.grown hg4));have HNA:=ab (name_s w4 hp4);clear hg4 hp4;cases hna:A9 r with
   | none =>
    have HNA2:=HNA;rw [HDJ.out,hna] at HNA2;have HH:Hid (ni r=none):=ab jS;clear HNA hna;go_wp2_with (go_at_call 75;refine HNA2.out.mono ?_)
    rintro e w5 ⟨hg5,rfl,hp5⟩;have ht5:=lm HT4.out hg5 gj;have kc:=kz ht5 1 rfl;have kf:=lP ht5 1;obtain⟨W5,hW5⟩:∃W5,W5=w5.setCell ⟨b5,1,none⟩ (.string ⟨#[]⟩):=⟨_,rfl⟩;have hn5:¬S b5∧b5≠g∧b5≠m:=⟨fun e=>by have:=HRS.out.lt _ e;omega,by omega,by omega⟩;have HRS5:=ab (hW5▸(HRS4.out.place hp5 hg5).setCell (a:=⟨b5,1,none⟩) hn5 (.string ⟨#[]⟩));have HG5:=ab (hW5▸(HG4.out.trans (Gr2.grown hg5)).setNew (a:=⟨b5,1,none⟩) jN (.string ⟨#[]⟩));have HBX5:Hid (W5.heap[w.heap.size]?=some (.cells #[.int .i64 0,.string ⟨#[]⟩,.int .i64 0,.bool false,.bool false,.int .i64 0,.string ⟨#[]⟩,.bool false,.slice none 0 0,.int .i64 0,.int .i64 0,.bool false,.slice none 0 0,.slice none 0 0,.bool false,.bool false,.slice none 0 0,.slice none 0 0] 44 (0,0))):=ab gR;subst hb5;go_upto_region 8 with fail
    rw [←hW5];clear hW5 kc kf ht5 hg5 hp5;have HE:Hid (lI r=none):=ab (by rw [HEB.out,HH.out]);exact aP
   | some p =>
    obtain⟨nm,r2⟩:=p;have HNA2:=HNA;rw [HDJ.out,hna] at HNA2;have HH:Hid (ni r=some (varS nm,r2)):=ab jS;clear HNA hna;go_wp2_with (go_at_call 75;refine HNA2.out.mono ?_)
    rintro e w5 ⟨hg5,hnm,rfl,j5,hp5,hd5,hj5⟩;have ht5:=lm HT4.out hg5 gj;have kc:=kz ht5 1 rfl;have kf:=lP ht5 1;obtain⟨W5,hW5⟩:∃W5,W5=w5.setCell ⟨b5,1,none⟩ (.string ⟨nm.toArray⟩):=⟨_,rfl⟩;have hn5:¬S b5∧b5≠g∧b5≠m:=⟨fun e=>by have:=HRS.out.lt _ e;omega,by omega,by omega⟩;have HRS5:=ab (hW5▸(HRS4.out.place hp5 hg5).setCell (a:=⟨b5,1,none⟩) hn5 (.string ⟨nm.toArray⟩));have HG5:=ab (hW5▸(HG4.out.trans (Gr2.grown hg5)).setNew (a:=⟨b5,1,none⟩) jN (.string ⟨nm.toArray⟩));have HBX5:Hid (W5.heap[w.heap.size]?=some (.cells #[.int .i64 0,.string ⟨#[]⟩,.int .i64 0,.bool false,.bool false,.int .i64 0,.string ⟨#[]⟩,.bool false,.slice none 0 0,.int .i64 0,.int .i64 0,.bool false,.slice none 0 0,.slice none 0 0,.bool false,.bool false,.slice none 0 0,.slice none 0 0] 44 (0,0))):=ab gR;have HT5:Hid (W5.heap[b5]?=some (.cells #[.int .i64 3,.string ⟨nm.toArray⟩,.int .i64 0,.bool false,.bool false,.int .i64 0,.string ⟨#[]⟩,.bool false,.slice none 0 0,.int .i64 0,.int .i64 0,.bool false,.slice none 0 0,.slice none 0 0,.bool false,.bool false,.slice none 0 0,.slice none 0 0] 44 (0,0))):=ab (by rw [hW5,heap_setCell_same _ _ _ _ _ _ ht5];rfl);have HDJ5:Hid (s.drop j5=r2):=ab hd5;subst hb5;go_upto_region 8 with fail
    rw [←hW5];clear hW5 kc kf ht5 hg5 hp5 hd5 hnm;have HE:Hid (lI r=some (hdN 3 nm 0,r2)):=ab jV;have HB9:=ab (l9 (w:=W5) (cs:=#[.int .i64 3,.string ⟨nm.toArray⟩,.int .i64 0,.bool false,.bool false,.int .i64 0,.string ⟨#[]⟩,.bool false,.slice none 0 0,.int .i64 0,.int .i64 0,.bool false,.slice none 0 0,.slice none 0 0,.bool false,.bool false,.slice none 0 0,.slice none 0 0]) HBX5.out);go_wp2_with (first|(fail)|(refine kA rfl 44 (.tmp 5) rfl (w2.heap.size) 0 rfl ([.int .i64 3,.string ⟨nm.toArray⟩,.int .i64 0,.bool false,.bool false,.int .i64 0,.string ⟨#[]⟩,.bool false,.slice none 0 0,.int .i64 0,.int .i64 0,.bool false,.slice none 0 0,.slice none 0 0,.bool false,.bool false,.slice none 0 0,.slice none 0 0]) _ (kG (ds:=[]) (HT5.out)) kC rfl ib ?_)|(refine kK rfl 44 (.tmp 2) (.tmp 44) rfl (w.heap.size) (#[.int .i64 3,.string ⟨nm.toArray⟩,.int .i64 0,.bool false,.bool false,.int .i64 0,.string ⟨#[]⟩,.bool false,.slice none 0 0,.int .i64 0,.int .i64 0,.bool false,.slice none 0 0,.slice none 0 0,.bool false,.bool false,.slice none 0 0,.slice none 0 0]) rfl rfl 44 (#[.int .i64 0,.string ⟨#[]⟩,.int .i64 0,.bool false,.bool false,.int .i64 0,.string ⟨#[]⟩,.bool false,.slice none 0 0,.int .i64 0,.int .i64 0,.bool false,.slice none 0 0,.slice none 0 0,.bool false,.bool false,.slice none 0 0,.slice none 0 0]) (HBX5.out) (kF) rfl rfl ((sx w 3 nm 0)) (W:=((W5).setRow w.heap.size #[.int .i64 3,.string ⟨nm.toArray⟩,.int .i64 0,.bool false,.bool false,.int .i64 0,.string ⟨#[]⟩,.bool false,.slice none 0 0,.int .i64 0,.int .i64 0,.bool false,.slice none 0 0,.slice none 0 0,.bool false,.bool false,.slice none 0 0,.slice none 0 0])) (rfl) ?_))
    refine Ir (mO Tryz.results59 kC kF HB9.out rfl rfl rfl) rfl ?_;rw [HE.out];exact⟨HG5.out.setRow (Ia _) _,S,_,_,_,true,rfl,HRS5.out.setRow hnb _,fun _ h=>h,fun _ h=>.inl h,hd_v _ S 3 nm 0,rfl,rfl,HDJ5.out⟩
open Go.RowKit
def wG (ops:Array Oper):Bool:=(List.range ops.size).all fun i=>((ops[i]?).map fun o=>o.after.all fun e=>!Region.binds .any e||decide (e.on<i)).getD true
theorem Gf {ops:Array Oper} (h:wG ops=true) {i:Nat} {o:Oper} (ho:ops[i]?=some o):∀e∈o.after,Region.binds .any e=true→e.on<i:=by
 have hi:i<ops.size:=(Array.getElem?_eq_some_iff.1 ho).1;have h1:=List.all_eq_true.1 h i (List.mem_range.2 hi);rw [ho] at h1;simp only [Option.map_some,Option.getD_some,Array.all_eq_true_iff_forall_mem] at h1;intro e he hb;have:=h1 e he
 rw [hb] at this;simpa using this
theorem Bs {ops:Array Oper} (hB:wG ops=true) {listed:Array Bool} (h:Region.ready .any ops listed=[]) (hs:listed.size=ops.size):∀i,i<ops.size→listed.getD i false=true:=by
 intro i;induction i using Nat.strongRecOn with
 | ind i ih =>
  intro hi;cases hl:listed.getD i false with
  | true=>rfl
  | false =>
   exfalso;obtain⟨o,ho⟩:∃o,ops[i]?=some o:=⟨_,Array.getElem?_eq_getElem hi⟩;have hm:i∈Region.ready .any ops listed:=by
    rw [mem_ready];refine⟨?_,o,ho,fun e he hb=>?_⟩
    ·exact dl
    ·have hlt:=Gf hB ho e he hb
     exact ih e.on hlt gj
   rw [h] at hm;cases hm
theorem oper_to {P:Program} {o:Oper} {a:Act} {w:World} {K K2:Act→World→Prop} {Q:Exit→Act→World→Prop} (h:o.wp P a w K Q):o.wp P a w K (Exit.then K2 Q):=by
 exact bH
theorem Bo {P:Program} {ops:Array Oper} {Q:Exit→Act→World→Prop} (hB:wG ops=true) (I:(Nat→Bool)→Act→World→Prop)
  (hstep:∀(L:Nat→Bool) (i:Nat) (o:Oper) (a:Act) (w:World),ops[i]?=some o→L i=false→(∀e∈o.after,Region.binds .any e=true→L e.on=true)→I L a w →
   wpList P ops (Exit.then (fun a' w'=>I (fun j=>L j||j==i) a' w') Q) [o] a w)
  (hend:∀(L:Nat→Bool) (a:Act) (w:World),(∀i,i<ops.size→L i=true)→I L a w→Q .normal a w) :
  ∀(fuel:Nat) (listed:Array Bool) (L:Nat→Bool) (a:Act) (w:World),listed.size=ops.size→open_ ops listed≤fuel→(∀j,L j=listed.getD j false)→I L a w→wpAny P .any ops Q fuel listed a w:=by
 have fin:∀(listed:Array Bool) (L:Nat→Bool) (a:Act) (w:World),listed.size=ops.size→(∀j,L j=listed.getD j false)→I L a w→Region.ready .any ops listed=[]→Q .normal a w :=
  fun listed L a w hs hL h hr=>hend _ a w (fun i hi=>by rw [hL];exact Bs hB hr hs i hi) h
 intro fuel;induction fuel with
 | zero =>
  exact cg
 | succ fuel ih =>
  intro listed L a w hs hf hL h;refine⟨fin listed L a w hs hL h,fun i hi=>?_⟩;obtain⟨h1,o,ho,hall⟩:=mem_ready.1 hi;have hlt:=(Array.getElem?_eq_some_iff.1 ho).1;have hd:=yM hlt hs h1;have hls:i<listed.size:=gj;have hLi:L i=false:=by
   exact dM
  have hst:=hstep L i o a w ho hLi (fun e he hb=>by rw [hL];exact hall e he hb) h;have key:∀a' w',I (fun j=>L j||j==i) a' w'→wpAny P .any ops Q fuel (listed.setIfInBounds i true) a' w':=fun a' w' h' =>
   ih _ (fun j=>L j||j==i) a' w' (by simpa using hs) gj (fun j=>by
    by_cases hji:j=i
    ·subst hji
     simp [Array.getD_eq_getD_getElem?,hls]
    ·have e1:(j==i)=false:=Iu.2 hji
     rw [e1,Bool.or_false,hL];simp only [Array.getD_eq_getD_getElem?];rw [Array.getElem?_setIfInBounds_ne (Ne.symm hji)]) h'
  unfold wpOp;rw [ho];show if Region.wanted o (yielded ops a.tmps)=true then _ else _
  unfold wpList at hst;by_cases hw:Region.wanted o (yielded ops a.tmps)=true
  ·rw [Hu hw] at hst ⊢
   exact dW
  ·rw [Hx hw] at hst ⊢
   exact key _ _ hst
theorem qO {P:Program} {id:Nat} {ops:Array Oper} {Q:Exit→Act→World→Prop} {a:Act} {w:World} (hm:P.follows .mixedOrders=true) (hB:wG ops=true) (I:(Nat→Bool)→Act→World→Prop)
  (h0:I (fun _=>false) a w.drew)
  (hstep:∀(L:Nat→Bool) (i:Nat) (o:Oper) (a:Act) (w:World),ops[i]?=some o→L i=false→(∀e∈o.after,Region.binds .any e=true→L e.on=true)→I L a w →
   wpList P ops (Exit.then (fun a' w'=>I (fun j=>L j||j==i) a' w') Q) [o] a w)
  (hend:∀(L:Nat→Bool) (a:Act) (w:World),(∀i,i<ops.size→L i=true)→I L a w→Q .normal a w):(Code.region id ops true).wp P Q a w :=
 wp_region_any hm (Bo hB I hstep hend ops.size (Array.replicate ops.size false) (fun _=>false) a w.drew gz (by
  have:=List.length_filter_le (fun j=>!(Array.replicate ops.size false).getD j true) (List.range ops.size)
  simpa [open_] using this) (fun j=>by simp [Array.getD_eq_getD_getElem?,Array.getElem?_replicate];split<;>rfl) h0)
def E8 (ops:Array Oper) (n:Nat):Bool:=wG ops&&decide (n<ops.size)&&Region.sinkB .any ops n&&Region.chainB .any ops n
def RelyStepsT (P:Program) (ops:Array Oper) (Q:Exit→Act→World→Prop) (I:(Nat→Bool)→Act→World→Prop):List Oper→Nat→Prop
 | [],_=>True
 | o::rest,i=>(∀(L:Nat→Bool) (a:Act) (w:World),L i=false→kL o L→I L a w→wpList P ops (Exit.then (fun a' w'=>I (fun j=>L j||j==i) a' w') Q) [o] a w)∧RelyStepsT P ops Q I rest (i+1)
theorem RelyStepsT.at_ {P:Program} {ops:Array Oper} {Q:Exit→Act→World→Prop} {I:(Nat→Bool)→Act→World→Prop}:∀{l:List Oper} {k i:Nat} {o:Oper},RelyStepsT P ops Q I l k→l[i]?=some o →
  ∀(L:Nat→Bool) (a:Act) (w:World),L (k+i)=false→kL o L→I L a w→wpList P ops (Exit.then (fun a' w'=>I (fun j=>L j||j==k+i) a' w') Q) [o] a w
 | [],_,_,_,_,h=>by simp at h
 | x::l,k,0,o,hs,h=>by simp at h;subst h;exact hs.1
 | x::l,k,i+1,o,hs,h=>by
  have:=RelyStepsT.at_ (k:=k+1) (i:=i) hs.2 gu
  rw [show k+(i+1)=k+1+i by omega];exact this
def Clo (ops:Array Oper) (L:Nat→Bool):Prop:=∀j o,ops[j]?=some o→L j=true→kL o L
theorem Clo.add {ops:Array Oper} {L:Nat→Bool} (h:Clo ops L) {i:Nat} {o:Oper} (ho:ops[i]?=some o) (hd:kL o L):Clo ops (fun j=>L j||j==i):=by
 intro j oj hj hL e he hb;have key:kL oj L:=by
  by_cases hji:j=i
  ·subst hji
   obtain rfl:oj=o:=by rw [hj] at ho;injection ho
   exact hd
  ·have e1:(j==i)=false:=Iu.2 hji
   simp only [e1,Bool.or_false] at hL;exact h j oj hj hL
 simp [key e he hb]
theorem Clo.sink {ops:Array Oper} {L:Nat→Bool} (h:Clo ops L) {n:Nat} {o:Oper} (hs:Region.sinkB .any ops n=true) (ho:ops[n]?=some o) (hd:kL o L):∀(d i:Nat),n-i=d→i<n→L i=true:=by
 intro d;induction d using Nat.strongRecOn with
 | _ d ih =>
  intro i hdi hi;have h1:=List.all_eq_true.1 hs i (List.mem_range.2 hi);obtain⟨j,hj,hj2⟩:=List.any_eq_true.1 h1;simp only [Ie,Hs] at hj2;obtain⟨oj,hoj,e,he,hb,hon⟩:=Region.waitsFor_spec hj2.2;have hjle:j≤n:=by have:=List.mem_range.1 hj;omega
  rw [←hon];by_cases hjn:j=n
  ·subst hjn
   obtain rfl:oj=o:=by rw [hoj] at ho;injection ho
   exact hd e he hb
  ·exact h j oj hoj (ih (n-j) gj j rfl gj) e he hb
theorem xw {ops:Array Oper} {n t:Nat} {o:Oper} (hc:Region.chainB .any ops n=true) (ht:n<t) (ho:ops[t]?=some o) {L:Nat→Bool} (hd:kL o L):L (t-1)=true:=by
 have htl:=(Array.getElem?_eq_some_iff.1 ho).1;have h1:=List.all_eq_true.1 hc t (List.mem_range.2 htl);simp only [H8,Hs] at h1;rcases h1 with h1|h1
 ·omega
 ·obtain⟨o',ho',e,he,hb,hon⟩:=Region.waitsFor_spec h1
  obtain rfl:o'=o:=by rw [ho'] at ho;injection ho
  rw [←hon];exact hd e he hb
theorem Ba {P:Program} {ops:Array Oper} {Q:Exit→Act→World→Prop} {o:Oper} {rest:List Oper} {a:Act} {w:World} {K:Act→World→Prop} (h:wpList P ops Q (o::rest) a w) (hK:∀a' w',wpList P ops Q rest a' w'→K a' w') :
  wpList P ops (Exit.then K Q) [o] a w:=by
 unfold wpList at h ⊢;split
 ·rename_i hw
  rw [Hu hw] at h;rcases h with h|⟨h1,h2⟩
  ·exact .inl (oper_to (Oper.wp_mono (K':=wpList P ops (Exit.then K Q) []) (fun a' w' h'=>hK a' w' h') h))
  ·exact .inr ⟨h1,h2⟩
 ·rename_i hw
  rw [Hx hw] at h;exact hK _ _ h
def TailI (P:Program) (ops:List Oper) (Q:Exit→Act→World→Prop) (n:Nat) (I:(Nat→Bool)→Act→World→Prop) (L:Nat→Bool) (a:Act) (w:World):Prop :=
 Clo ops.toArray L∧((∀t,n≤t→t<ops.length→L t=false)∧I L a w∨∃t,n≤t∧t<ops.length∧L t=true∧(∀j,t<j→j<ops.length→L j=false)∧wpList P ops.toArray Q (ops.drop (t+1)) a w)
theorem vh {P:Program} {id:Nat} {ops:List Oper} {Q:Exit→Act→World→Prop} {a:Act} {w:World} (n:Nat) (hm:P.follows .mixedOrders=true) (hB:E8 ops.toArray n=true) (I:Act→World→(Nat→Bool)→Act→World→Prop)
  (h0:I a w (fun _=>false) a w.drew) (hs:RelyStepsT P ops.toArray Q (I a w) (ops.take n) 0)
  (hend:∀L a' w',(∀j,j<n→L j=true)→I a w L a' w'→wpList P ops.toArray Q (ops.drop n) a' w'):(Code.region id ops.toArray true).wp P Q a w:=by
 simp only [E8,Ie,Hs] at hB;obtain⟨⟨⟨hB1,hn⟩,hsk⟩,hch⟩:=hB;have hn':n<ops.length:=by simpa using hn
 obtain⟨on,hon⟩:∃on,ops[n]?=some on:=⟨_,Hw hn'⟩;refine qO hm hB1 (TailI P ops Q n (I a w)) ⟨fun j o hj h=>(by cases h),.inl ⟨fun _ _ _=>rfl,h0⟩⟩ ?_ ?_
 ·intro L i o a' w' ho hLi hde hI
  have ho':ops[i]?=some o:=by simpa using ho
  have hil:=(Id.1 ho').1;obtain⟨hclo,hI⟩:=hI;have hclo':=hclo.add ho hde;by_cases hin:i<n
  ·have hno:∀t,n≤t→t<ops.length→L t=false:=by
    rcases hI with⟨h,_⟩|⟨t,ht,htl,hLt,_,_⟩
    ·exact h
    ·exfalso
     obtain⟨ot,hot⟩:∃ot,ops[t]?=some ot:=⟨_,Hw htl⟩;have hdown:∀k,n+k≤t→L (t-k)=true:=by
      exact bq
     have hLn:L n=true:=by have:=hdown (t-n) gj;rwa [show t-(t-n)=n by omega] at this
     have:=hclo.sink hsk (by simpa using hon) (hclo n on (by simpa using hon) hLn) (n-i) i rfl hin
     rw [this] at hLi;cases hLi
   have hIo:I a w L a' w':=by
    rcases hI with⟨_,h⟩|⟨t,ht,htl,hLt,_,_⟩
    ·exact h
    ·rw [hno t ht htl] at hLt;cases hLt
   have hst:=hs.at_ (i:=i) (o:=o) (by rw [List.getElem?_take_of_lt hin];exact ho') L a' w' (by simpa using hLi) hde hIo;simp only [Nat.zero_add] at hst;have key:∀a2 w2,I a w (fun j=>L j||j==i) a2 w2→TailI P ops Q n (I a w) (fun j=>L j||j==i) a2 w2:=fun a2 w2 h=>⟨hclo',.inl ⟨fun t ht htl=>by
    have e1:(t==i)=false:=Iu.2 gj;simp [hno t ht htl,e1],h⟩⟩
   unfold wpList at hst ⊢;split
   ·rename_i hw
    rw [Hu hw] at hst;refine hst.imp (fun h=>?_) (fun h=>h);exact s7 (Oper.wp_mono (K':=wpList P ops.toArray _ []) (fun a2 w2 h2=>key a2 w2 h2) h)
   ·rename_i hw
    rw [Hx hw] at hst;exact key _ _ hst
  ·have hni:n≤i:=Nat.le_of_not_lt hin
   have hrest:wpList P ops.toArray Q (ops.drop i) a' w':=by
    by_cases he:i=n
    ·subst he
     rcases hI with⟨hno,hI⟩|⟨t,ht,htl,hLt,hgt,_⟩
     ·exact hend L a' w' (fun j hj=>hclo.sink hsk ho hde (i-j) j rfl hj) hI
     ·exfalso
      by_cases hte:t=i
      ·subst hte;rw [hLt] at hLi;cases hLi
      ·obtain⟨ot,hot⟩:∃ot,ops[t]?=some ot:=⟨_,Hw htl⟩
       exact fM
    ·have hp:=xw hch (t:=i) gj ho hde
     rcases hI with⟨hno,_⟩|⟨t,ht,htl,hLt,hgt,hw⟩
     ·rw [hno (i-1) gj gj] at hp;cases hp
     ·have hti:t=i-1:=by
       rcases Nat.lt_trichotomy t (i-1) with h|h|h
       ·rw [hgt (i-1) h gj] at hp;cases hp
       ·exact h
       ·exfalso
        by_cases hte:t=i
        ·subst hte;rw [hLt] at hLi;cases hLi
        ·exact fM
      subst hti;rwa [show i-1+1=i by omega] at hw
   have hcons:ops.drop i=o::ops.drop (i+1):=by
    rw [List.drop_eq_getElem_cons hil];have:=(Id.1 ho').2
    rw [this]
   rw [hcons] at hrest;refine Ba hrest fun a2 w2 h2=>⟨hclo',.inr ⟨i,hni,hil,by simp,fun j hj hjl=>?_,h2⟩⟩
   have e1:(j==i)=false:=Iu.2 gj;cases hLj:L j with
   | false=>simp [hLj,e1]
   | true =>
    exfalso;have hdown:∀k,i+k≤j→L (j-k)=true:=by
     intro k;induction k with
     | zero=>intro _;exact hLj
     | succ k ih =>
      intro hk;have h1:=ih gj;obtain⟨ok,hok⟩:∃ok,ops[j-k]?=some ok:=⟨_,Hw gj⟩;have h2:=xw hch (t:=j-k) gj (by simpa using hok) (hclo _ ok (by simpa using hok) h1);rw [show j-(k+1)=j-k-1 by omega];exact h2
    have:=hdown (j-i) gj
    rw [show j-(j-i)=i by omega,hLi] at this;cases this
 ·intro L a' w' hL hI
  obtain⟨_,hI⟩:=hI;rcases hI with⟨hno,_⟩|⟨t,ht,htl,hLt,hgt,hw⟩
  ·have h1:=hno n (Ia _) hn'
   rw [hL n hn] at h1;cases h1
  ·have hte:t+1=ops.length:=by
    rcases Nat.lt_or_ge (t+1) ops.length with h|h
    ·have h1:=hgt (t+1) gj h
     rw [hL (t+1) gu] at h1;cases h1
    ·omega
   rw [List.drop_eq_nil_of_le gj] at hw;exact hw
open Go.RowKit Go.Maps Go.MapKept
open Go.ChangeMaps (setBlock)
def PartsPost (S:Nat→Prop) (g m:Nat) (s:Str) (ins:Bool) (RX:List Sn × Str) (w:World) (e:Ending) (w':World):Prop:=Gr2 g m w w' ∧
 ∃(S':Nat→Prop) (j:Nat) (a:Option Addr) (c:Nat),e=.returned (.tuple #[.slice a RX.1.length c,.bool (!ins||!RX.2.isEmpty)])∧Rs S' w' g m s j∧(∀b,S b→S' b)∧(∀b,S' b→S b∨w.heap.size≤b) ∧
  SnSl w' S' a RX.1.length RX.1∧s.drop j=RX.2
def zv (g m:Nat) (s:Str) (N:Nat):Prop:=∀(S:Nat→Prop) (w:World) (ins:Bool) (i:Nat),Rs S w g m s i→s.length-i≤N →
 Calls Tryz.prog 24 #[.pointer (some ⟨g,0,none⟩),.bool ins] w fun e w'=>PartsPost S g m s ins (kP ins [] [] (s.drop i)) w e w'
theorem rQ:∀(n:Nat) (out:List Sn) (text r:Str),r.length≤n→∀c t,(kP true out text r).2=c::t→c.toNat=125
 | n,out,text,[],_,c,t,h=>by rw [lW] at h;cases h
 | 0,out,text,d::r,hn,_,_,_=>by simp at hn
 | n+1,out,text,d::r,hn,c,t,h=>by
  rw [lF] at h;split at h
  ·rename_i hc
   simp only at h
   injection h with h _;rw [←h];exact hc.2
  ·cases he:dolM lI d r with
   | some y =>
    obtain⟨x,r2⟩:=y;rw [he] at h;have hr:r2.length<r.length:=by
     unfold dolM at he;split at he
     ·exact nA he
     ·cases he
    exact rQ n _ _ r2 (by simp at hn;omega) c t h
   | none =>
    rw [he] at h;have hr:=nV three d r;exact rQ n _ _ _ (by simp at hn;omega) c t h
theorem hx_v {w:World} {S:Nat→Prop} {k:Int} {t:Str} {n:Int} {h u:Bool} {os:List Str} {ks:List Sn} {oa ka:Option Addr} {oc kc:Nat} (h1:SlS w S oa 1 os.length (l8 os)) (h2:SnSl w S ka ks.length ks) :
  SnV w S [.int .i64 k,.string ⟨t.toArray⟩,.int .i64 n,.bool h,.bool u,.int .i64 0,.string ⟨#[]⟩,.bool false,.slice none 0 0,.int .i64 0,.int .i64 0,.bool false,.slice none 0 0,.slice none 0 0,.bool false,.bool false,.slice oa os.length oc,.slice ka ks.length kc] (.mk k t n h u tf0 os ks):=SnV.close (TfV.zero w S) h1 h2
theorem optsM_eq (x:Sn) (r:Str):qM x r=if List.isPrefixOf [124,125] (optL r [] []).2=true then some (x.choose (optL r [] []).1,(optL r [] []).2.drop 2) else none:=by
 unfold qM;generalize optL r [] []=q
 obtain⟨o,t⟩:=q;rcases t with _|⟨c,_|⟨d,r2⟩⟩
 ·rfl
 ·simp [List.isPrefixOf]
 ·simp only [List.isPrefixOf,Ho,Ie,Hp]
  by_cases h:c.toNat=124∧d.toNat=125
  ·rw [Hu h,Hu ⟨(Ht.1 h.1).symm,(Ht.1 h.2).symm⟩];rfl
  ·rw [Hx h,Hx (fun e=>h ⟨by rw [←e.1];rfl,by rw [←e.2];rfl⟩)]
def setsL (b:Nat):Nat→List Value→World→World
 | _,[],w=>w
 | o,v::r,w=>setsL b (o+1) r (w.setCell ⟨b,o,none⟩ v)
theorem qU {b:Nat} {t:TypeId} {post:List Value}:∀(vs old pre:List Value) {w:World},w.heap[b]?=some (.cells (pre++(old++post)).toArray t (0,0))→old.length=vs.length→(setsL b pre.length vs w).heap[b]?=some (.cells (pre++(vs++post)).toArray t (0,0))
 | [],[],_,_,h,_=>h
 | [],_::_,_,_,_,hl=>by cases hl
 | _::_,[],_,_,_,hl=>by cases hl
 | v::r,u::q,pre,w,h,hl=>by
  have h1:=heap_setCell_same w b pre.length _ t v h;have h2:=qU (t:=t) (post:=post) r q (pre++[v]) (w:=w.setCell ⟨b,pre.length,none⟩ v) (by rw [h1];simp) jC;simp only [Ig,H7,IE,Nat.zero_add] at h2;simp only [setsL];rw [h2];simp
theorem mc {b k:Nat} (h:k≠b):∀(vs:List Value) (o:Nat) (w:World),(setsL b o vs w).heap[k]?=w.heap[k]?
 | [],_,_=>rfl
 | v::r,o,w=>(mc h r (o+1) (w.setCell ⟨b,o,none⟩ v)).trans (heap_setCell_other w ⟨b,o,none⟩ k v h)
theorem mg {b:Nat}:∀(vs:List Value) (o:Nat) (w:World),(setsL b o vs w).heap.size=w.heap.size
 | [],_,_=>rfl
 | _::r,o,_=>(mg r (o+1) _).trans jx
theorem rh {b:Nat}:∀(vs:List Value) (o:Nat) (w:World),(setsL b o vs w).os=w.os∧(setsL b o vs w).tape=w.tape∧(setsL b o vs w).output=w.output
 | [],_,_=>⟨rfl,rfl,rfl⟩
 | _::r,o,_=>rh r (o+1) _
theorem Rs.setsL {S:Nat→Prop} {w:World} {g m:Nat} {s:Str} {i:Nat} (h:Rs S w g m s i) {b:Nat} (hb:¬S b∧b≠g∧b≠m) (vs:List Value) (o:Nat):Rs S (setsL b o vs w) g m s i :=
 h.moved ⟨(mc (Ne.symm hb.2.1) vs o w).trans h.pl.1,h.pl.2⟩ (by rw [mg];exact Ia _) fun k hk _=>mc (by
  rcases hk with hk|hk
  ·rintro rfl;exact hb.1 hk
  ·rintro rfl;exact hb.2.2 hk) vs o w
theorem Gr2.setsL {g m:Nat} {w0 w:World} (h:Gr2 g m w0 w) {b:Nat} (hb:w0.heap.size≤b) (vs:List Value) (o:Nat):Gr2 g m w0 (setsL b o vs w) :=
 ⟨(rh vs o w).1.trans h.os,(rh vs o w).2.1.trans h.tape,(rh vs o w).2.2.trans h.output,by rw [mg];exact h.size,fun k hk h1 h2=>(mc gj vs o w).trans (h.block k hk h1 h2)⟩
theorem Rs.twice {S:Nat→Prop} {w:World} {g m:Nat} {s:Str} {i e:Nat} (h:Rs S w g m s i) (he:e+1≤s.length):Rs S ((w.setCell ⟨g,1,none⟩ (.int .i64 (e:Int))).setCell ⟨g,1,none⟩ (.int .i64 ((e:Int)+1))) g m s (e+1):=by
 have h1:=h.place (h.pl.set (j:=e) gj) (kM (kZ _ _) 1 _);have h2:=h1.place (h1.pl.set (j:=e+1) he) (kM (kZ _ _) 1 _);push_cast at h2;exact h2
theorem Gr2.twice {g m:Nat} {w0 w:World} (h:Gr2 g m w0 w) (u v:Value):Gr2 g m w0 ((w.setCell ⟨g,1,none⟩ u).setCell ⟨g,1,none⟩ v) :=
 h.trans ((Gr2.grown (kM (kZ _ _) 1 _)).trans (Gr2.grown (kM (kZ _ _) 1 _)))
theorem nM {w:World} {g k:Nat} (u v:Value) (h:k≠g):((w.setCell ⟨g,1,none⟩ u).setCell ⟨g,1,none⟩ v).heap[k]?=w.heap[k]? :=
 (heap_setCell_other _ ⟨g,1,none⟩ k v h).trans (heap_setCell_other _ ⟨g,1,none⟩ k u h)
def FormM5 (s:Str) (R:Option (Tf × Str)) (f:Tf) (ej:Nat) (ok:Bool):Prop :=
 match R with
 | none=>ok=false
 | some (f0,r)=>ok=true∧f=f0∧s.drop (ej+1)=r
theorem wK {s:Str} {i B:Nat} {w:World} {R:Option (Tf × Str)} {e:Ending} {w':World} (hs1:1≤s.length) (h:uj s i B w R e w') :
  ∃(rk:Int) (rch:Str) (rng:Bool) (ra:Option Addr) (rn rcp:Nat) (rlo rhi:Int) (rlz:Bool) (rka:Option Addr) (kn rkc:Nat) (fa:Option Addr) (fn fcp:Nat) (fd al:Bool) (f:Tf) (ej:Nat) (ok:Bool),
   e=.returned (.tuple #[.agg #[.int .i64 rk,.string ⟨rch.toArray⟩,.bool rng,.slice ra rn rcp,.int .i64 rlo,.int .i64 rhi,.bool rlz,.slice rka kn rkc,.slice fa fn fcp,.bool fd,.bool al],.int .i64 ej,.bool ok])∧Below w.heap.size w w'∧TfV w' (fun b=>B≤b) [.int .i64 rk,.string ⟨rch.toArray⟩,.bool rng,.slice ra rn rcp,.int .i64 rlo,.int .i64 rhi,.bool rlz,.slice rka kn rkc,.slice fa fn fcp,.bool fd,.bool al] f∧ej+1≤s.length∧FormM5 s R f ej ok:=by
 obtain⟨hb,h⟩:=h;cases R with
 | none =>
  refine⟨0,[],false,none,0,0,0,0,false,none,0,0,none,0,0,false,false,tf0,0,false,?_,hb,TfV.zero _ _,hs1,rfl⟩;rw [h];rfl
 | some p =>
  obtain⟨f0,r⟩:=p;obtain⟨fc,j,he,hv,_,hj,hd⟩:=h;obtain⟨rk,rch,rng,rrs,rlo,rhi,rlz,rks,ra,rcp,rka,rkc,fa,fcp,hc⟩:=hv.open_;refine⟨rk,rch,rng,ra,_,rcp,rlo,rhi,rlz,rka,_,rkc,fa,_,fcp,_,_,f0,j,true,?_,hb,hc.eq▸hv,hj,rfl,rfl,hd⟩;rw [he,hc.eq]
theorem rK (w:World) (b:Nat) (v0 v1 v2 v3 v4 v5 v6 v7 v8 v9 va:Value):(((((((((((w.setCell ⟨b,5,none⟩ v0).setCell ⟨b,6,none⟩ v1).setCell ⟨b,7,none⟩ v2).setCell ⟨b,8,none⟩ v3).setCell ⟨b,9,none⟩ v4).setCell ⟨b,10,none⟩ v5).setCell ⟨b,11,none⟩ v6).setCell ⟨b,12,none⟩ v7).setCell ⟨b,13,none⟩ v8).setCell ⟨b,14,none⟩ v9).setCell ⟨b,15,none⟩ va)=setsL b 5 [v0,v1,v2,v3,v4,v5,v6,v7,v8,v9,va] w:=by
 simp only [setsL]
def eqP (c:Value):Value→World→Prop:=fun v _=>v=c
def FsAt (Fs:List (Value→World→Prop)) (j:Nat):Value→World→Prop:=Fs.getD j (fun _ _=>True)
def MonoF (Fs:List (Value→World→Prop)):Prop:=∀P∈Fs,∀v w w',Below w.heap.size w w'→P v w→P v w'
theorem MonoF.nil:MonoF []:=fun _ h=>by cases h
theorem MonoF.eq {Fs:List (Value→World→Prop)} {c:Value} (h:MonoF Fs):MonoF (eqP c::Fs):=fun P hP v w w' hb hv=>by
 rcases Ii.1 hP with rfl|hP
 ·exact hv
 ·exact h P hP v w w' hb hv
theorem MonoF.cons {Fs:List (Value→World→Prop)} {P0:Value→World→Prop} (h0:∀v w w',Below w.heap.size w w'→P0 v w→P0 v w') (h:MonoF Fs):MonoF (P0::Fs):=fun P hP v w w' hb hv=>by
 rcases Ii.1 hP with rfl|hP
 ·exact h0 v w w' hb hv
 ·exact h P hP v w w' hb hv
theorem MonoF.at_ {Fs:List (Value→World→Prop)} (h:MonoF Fs) (j:Nat) {v:Value} {w w':World} (hb:Below w.heap.size w w') (hv:FsAt Fs j v w):FsAt Fs j v w':=by
 unfold FsAt at *;rw [List.getD_eq_getElem?_getD] at *;cases hj:Fs[j]? with
 | none=>trivial
 | some P=>rw [hj] at hv;exact h P (In hj) v w w' hb hv
structure BelI (W0:World) (Fs:List (Value→World→Prop)) (V:Nat→Value) (L:Nat→Bool) (w':World):Prop where
 ext:Below W0.heap.size W0 w'
 at_:∀j,L j=true→FsAt Fs j (V j) w'
theorem BelI.start (W0:World) (Fs:List (Value→World→Prop)) (V:Nat→Value):BelI W0 Fs V (fun _=>false) W0.drew:=⟨(Below.refl _ _).drew,fun _ h=>by cases h⟩
theorem BelI.step {W0:World} {Fs:List (Value→World→Prop)} (hM:MonoF Fs) {V:Nat→Value} {L:Nat→Bool} {w' w2:World} (h:BelI W0 Fs V L w') (k:Nat) {v:Value} (hb:Below w'.heap.size w' w2) (hv:FsAt Fs k v w2) :
  BelI W0 Fs (upd V k v) (fun j=>L j||j==k) w2 :=
 ⟨h.ext.trans (hb.mono h.ext.size),fun j hj=>by
  unfold upd;by_cases e:j=k
  ·subst e;rw [Hu rfl];exact hv
  ·rw [Hx e]
   have e1:(j==k)=false:=Iu.2 e;simp only [e1,Bool.or_false] at hj;exact hM.at_ j hb (h.at_ j hj)⟩
theorem BelI.same {W0:World} {Fs:List (Value→World→Prop)} (hM:MonoF Fs) {V:Nat→Value} {L:Nat→Bool} {w':World} (h:BelI W0 Fs V L w') (k:Nat) {v:Value} (hv:FsAt Fs k v w') :
  BelI W0 Fs (upd V k v) (fun j=>L j||j==k) w':=h.step hM k (Below.refl _ _) hv
end Go.Proofs.YtdcnncgpomcaaaaGreatDoor
