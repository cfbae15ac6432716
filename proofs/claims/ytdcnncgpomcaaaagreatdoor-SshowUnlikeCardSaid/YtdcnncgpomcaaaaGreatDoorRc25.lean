/- walk of rxshow.show: groups and repeats; all; rxshow.Show -/
import Derived.Test.YtdcnncgpomcaaaaGreatDoorRc24
import Derived.Deep.RegionHeld3
import Derived.Deep.DrawnRows
set_option maxRecDepth 100000
set_option maxHeartbeats 4000000
namespace Go.Proofs.YtdcnncgpomcaaaaGreatDoor
open Go.RowKit
theorem xZ (B g:Nat) (acc:Str) (K:Int) (hK:K=5∨K=6) (c:Str) (ng:Bool) (ra:Option Addr) (rs:List (Str × Str)) (rn rc:Nat) (lo hi:Int) (lz:Bool) (ka:Option Addr) (y:Rx) (kc:Nat) (w:World)
  (ih:ShowC B g y) (hgT:1<B)
  (hbl:Bld B g acc w) (hB:B≤w.heap.size) (ht:Tab w) (hx:RxSl w (·<B) ka 1 [y])
  (hlen:(acc++(Rx.mk K c ng rs lo hi lz [y]).tell).length≤10000000) :
  Calls Tryz.prog 38 #[.pointer (some ⟨g,0,none⟩),.agg #[.int .i64 K,.string ⟨c.toArray⟩,.bool ng,.slice ra rn rc,.int .i64 lo,.int .i64 hi,.bool lz,.slice ka 1 kc]] w fun e w'=>ri B g (acc++(Rx.mk K c ng rs lo hi lz [y]).tell) w e w':=by
 have IH:=ab ih;clear ih;rcases hK with rfl|rfl
 ·have HO:Hid (acc++(Rx.mk 5 c ng rs lo hi lz [y]).tell=acc++[40]++y.tell++[41]):=ab (by simp [Rx.tell,Rx.tellL])
  rw [HO.out] at hlen ⊢;simp only [JA,Jr,J0] at hlen;obtain⟨yk,yc,yn,yr,yl,yh,yz,ys⟩:=y;have hgl:=hbl.lt;have hgB:=hbl.le;obtain⟨w0,hw0⟩:∃w0,w0=w.alloc (.cells #[.int .i64 5,.string ⟨c.toArray⟩,.bool ng,.slice ra rn rc,.int .i64 lo,.int .i64 hi,.bool lz,.slice ka 1 kc] 38):=⟨_,rfl⟩;have hb0:Below w.heap.size w w0:=by rw [hw0];exact(Below.refl _ _).alloc (Ju _) _
  have hbx0:w0.heap[w.heap.size]?=some (.cells #[.int .i64 5,.string ⟨c.toArray⟩,.bool ng,.slice ra rn rc,.int .i64 lo,.int .i64 hi,.bool lz,.slice ka 1 kc] 38 (0,0)):=by rw [hw0];exact heap_alloc_new w _
  have HX:=ab (hx.keep (Kept.all hb0));have hbl0:Bld B g acc w0:=by rw [hw0];exact hbl.alloc _
  have htb:=ht.keep hb0;have hB0:B≤w0.heap.size:=Jv hB hb0.size;have hf0:Fr B [g] [5] w w0:=Fr.of_below hb0 (Ju _);have hBX0:=ab hbx0;have HTB:=ab htb;have HW0:=ab hw0;clear hx ht htb hbl0 hw0;obtain⟨b,o,ya,yrc,yka,ykc,rfl,hS,hbB,_,_,hyv,c0,c1,c2,c3,c4,c5,c6,c7⟩:=HX.out.cells (m:=0) rfl;have HYV:=ab hyv;unfold rxc at HYV;simp only [Nat.zero_mul,Nat.add_zero] at c0 c1 c2 c3 c4 c5 c6 c7;have C:=ab (And.intro c0 (And.intro c1 (And.intro c2 (And.intro c3 (And.intro c4 (And.intro c5 (And.intro c6 c7)))))));clear c0 c1 c2 c3 c4 c5 c6 c7 hyv;go_enter Tryz.func38,Tryz.ntmps38
  go_wp2_with (go_at_call 34;refine(lv B _ (acc) 40 _ (hbl.alloc _) gP gP gR gR).mono ?_)
  first|rintro e w1 rfl hbl1 hfr1|rintro e w1 ⟨rfl,hbl1,hfr1⟩
  rw [←HW0.out] at hfr1;have hbx1:=hfr1.held hbx0 gR (Nat.ne_of_gt hgl);have z0:w1.cell? ⟨w.heap.size,0,none⟩=some (.int .i64 5):= iq;have z7:w1.cell? ⟨w.heap.size,7,none⟩=some (.slice (some ⟨b,o,none⟩) 1 kc):= iq;have hB1:B≤w1.heap.size:=Jv hB0 hfr1.size;have hbw1:=hfr1.below hB0 kx;have kb:b<B:=hS;have kc0:∀j u,w0.cell? ⟨b,o+j,none⟩=some u→w1.cell? ⟨b,o+j,none⟩=some u:=fun j u h=>((hbw1).cell (p:=⟨b,o+j,none⟩) kb).trans h
  have d0:w1.cell? ⟨b,o,none⟩=some (.int .i64 yk):=kc0 0 _ C.out.1;have d1:=kc0 1 _ C.out.2.1;have d2:=kc0 2 _ C.out.2.2.1;have d3:=kc0 3 _ C.out.2.2.2.1;have d4:=kc0 4 _ C.out.2.2.2.2.1;have d5:=kc0 5 _ C.out.2.2.2.2.2.1;have d6:=kc0 6 _ C.out.2.2.2.2.2.2.1;have d7:=kc0 7 _ C.out.2.2.2.2.2.2.2;clear kc0;have HYV1:=ab (HYV.out.keep (Kept.fr hfr1 hB0 hgB));have HTB1:=ab (HTB.out.keepB hgT hbw1);have hfx:=hf0.trans hfr1;clear hbx1 hfr1 hbx0;go_wp2_with (go_at_call 38;refine(IH.out.at_ HYV1.out hbl1 hB1 HTB1.out rfl js).mono ?_)
  first|rintro e w2 rfl hbl2 hfr2|rintro e w2 ⟨rfl,hbl2,hfr2⟩
  have hB2:B≤w2.heap.size:=Jv hB1 hfr2.size;go_wp2_with (go_at_call 34;refine(lv B _ (acc++[40]++Rx.tell (.mk yk yc yn yr yl yh yz ys)) 41 _ (hbl2) gP gP gR gR).mono ?_)
  first|rintro e w3 rfl hbl3 hfr3|rintro e w3 ⟨rfl,hbl3,hfr3⟩
  go_wp2_with fail
  go_end0
  exact⟨rfl,hbl3,(hfx.trans hfr2).trans hfr3⟩
 ·have HO:Hid (acc++(Rx.mk 6 c ng rs lo hi lz [y]).tell=acc++[40]++[63,58]++y.tell++[41]):=ab (by simp [Rx.tell,Rx.tellL])
  rw [HO.out] at hlen ⊢;simp only [JA,Jr,J0] at hlen;obtain⟨yk,yc,yn,yr,yl,yh,yz,ys⟩:=y;have hgl:=hbl.lt;have hgB:=hbl.le;obtain⟨w0,hw0⟩:∃w0,w0=w.alloc (.cells #[.int .i64 6,.string ⟨c.toArray⟩,.bool ng,.slice ra rn rc,.int .i64 lo,.int .i64 hi,.bool lz,.slice ka 1 kc] 38):=⟨_,rfl⟩;have hb0:Below w.heap.size w w0:=by rw [hw0];exact(Below.refl _ _).alloc (Ju _) _
  have hbx0:w0.heap[w.heap.size]?=some (.cells #[.int .i64 6,.string ⟨c.toArray⟩,.bool ng,.slice ra rn rc,.int .i64 lo,.int .i64 hi,.bool lz,.slice ka 1 kc] 38 (0,0)):=by rw [hw0];exact heap_alloc_new w _
  have HX:=ab (hx.keep (Kept.all hb0));have hbl0:Bld B g acc w0:=by rw [hw0];exact hbl.alloc _
  have htb:=ht.keep hb0;have hB0:B≤w0.heap.size:=Jv hB hb0.size;have hf0:Fr B [g] [5] w w0:=Fr.of_below hb0 (Ju _);have hBX0:=ab hbx0;have HTB:=ab htb;have HW0:=ab hw0;clear hx ht htb hbl0 hw0;obtain⟨b,o,ya,yrc,yka,ykc,rfl,hS,hbB,_,_,hyv,c0,c1,c2,c3,c4,c5,c6,c7⟩:=HX.out.cells (m:=0) rfl;have HYV:=ab hyv;unfold rxc at HYV;simp only [Nat.zero_mul,Nat.add_zero] at c0 c1 c2 c3 c4 c5 c6 c7;have C:=ab (And.intro c0 (And.intro c1 (And.intro c2 (And.intro c3 (And.intro c4 (And.intro c5 (And.intro c6 c7)))))));clear c0 c1 c2 c3 c4 c5 c6 c7 hyv;go_enter Tryz.func38,Tryz.ntmps38
  go_wp2_with (go_at_call 34;refine(lv B _ (acc) 40 _ (hbl.alloc _) gP gP gR gR).mono ?_)
  first|rintro e w1 rfl hbl1 hfr1|rintro e w1 ⟨rfl,hbl1,hfr1⟩
  rw [←HW0.out] at hfr1;have hbx1:=hfr1.held hbx0 gR (Nat.ne_of_gt hgl);have z0:w1.cell? ⟨w.heap.size,0,none⟩=some (.int .i64 6):= iq;have hB1:B≤w1.heap.size:=Jv hB0 hfr1.size;have hfx:=hf0.trans hfr1;have HBX1:=ab hbx1;have HFA:=ab hfr1;clear hbx1 hfr1 hbx0;go_wp2_with (go_at_call 32;refine(lB B _ (acc++[40]) _ _ (hbl1) gP gP gP).mono ?_)
  first|rintro e w1b rfl hbl1b hfr1b|rintro e w1b ⟨rfl,hbl1b,hfr1b⟩
  have hbx1b:=hfr1b.held HBX1.out gR (Nat.ne_of_gt hgl);have z7:w1b.cell? ⟨w.heap.size,7,none⟩=some (.slice (some ⟨b,o,none⟩) 1 kc):=(by rw [Jw hbx1b];rfl);have hB1b:B≤w1b.heap.size:=Jv hB1 hfr1b.size;have hfrA:=HFA.out.trans hfr1b;have hbw1:=hfrA.below hB0 kx;have kb:b<B:=hS;have kc0:∀j u,w0.cell? ⟨b,o+j,none⟩=some u→w1b.cell? ⟨b,o+j,none⟩=some u:=fun j u h=>((hbw1).cell (p:=⟨b,o+j,none⟩) kb).trans h
  have d0:w1b.cell? ⟨b,o,none⟩=some (.int .i64 yk):=kc0 0 _ C.out.1;have d1:=kc0 1 _ C.out.2.1;have d2:=kc0 2 _ C.out.2.2.1;have d3:=kc0 3 _ C.out.2.2.2.1;have d4:=kc0 4 _ C.out.2.2.2.2.1;have d5:=kc0 5 _ C.out.2.2.2.2.2.1;have d6:=kc0 6 _ C.out.2.2.2.2.2.2.1;have d7:=kc0 7 _ C.out.2.2.2.2.2.2.2;clear kc0;have HYV1:=ab (HYV.out.keep (Kept.fr hfrA hB0 hgB));have HTB1:=ab (HTB.out.keepB hgT hbw1);have hfxb:=hfx.trans hfr1b;clear hbx1b hfr1b hfrA;go_wp2_with (go_at_call 38;refine(IH.out.at_ HYV1.out hbl1b hB1b HTB1.out rfl js).mono ?_)
  first|rintro e w2 rfl hbl2 hfr2|rintro e w2 ⟨rfl,hbl2,hfr2⟩
  have hB2:B≤w2.heap.size:=Jv hB1b hfr2.size;go_wp2_with (go_at_call 34;refine(lv B _ (acc++[40]++[63,58]++Rx.tell (.mk yk yc yn yr yl yh yz ys)) 41 _ (hbl2) gP gP gR gR).mono ?_)
  first|rintro e w3 rfl hbl3 hfr3|rintro e w3 ⟨rfl,hbl3,hfr3⟩
  go_wp2_with fail
  go_end0
  exact⟨rfl,hbl3,(hfxb.trans hfr2).trans hfr3⟩
theorem often_eq {lo hi:Int} (w:World) (h0:0≤lo) (h1:lo≤255) (h2:hi=-1∨lo≤hi∧hi≤255) (ht:Tab w) :
  Calls Tryz.prog 57 #[.int .i64 lo,.int .i64 hi] w fun e w'=>e=.returned (.string ⟨(oftS lo hi).toArray⟩)∧Below w.heap.size w w':=IX lo hi w h0 h1 h2 ht
theorem show_rep (B g:Nat) (acc:Str) (c:Str) (ng:Bool) (ra:Option Addr) (rs:List (Str × Str)) (rn rc:Nat) (lo hi:Int) (lz:Bool) (ka:Option Addr) (y:Rx) (kc:Nat) (w:World)
  (ih:ShowC B g y) (hgT:1<B) (h0:0≤lo) (h1:lo≤255) (h2:hi=-1∨lo≤hi∧hi≤255)
  (hbl:Bld B g acc w) (hB:B≤w.heap.size) (ht:Tab w) (hx:RxSl w (·<B) ka 1 [y])
  (hlen:(acc++(Rx.mk 7 c ng rs lo hi lz [y]).tell).length≤10000000) :
  Calls Tryz.prog 38 #[.pointer (some ⟨g,0,none⟩),.agg #[.int .i64 7,.string ⟨c.toArray⟩,.bool ng,.slice ra rn rc,.int .i64 lo,.int .i64 hi,.bool lz,.slice ka 1 kc]] w fun e w'=>ri B g (acc++(Rx.mk 7 c ng rs lo hi lz [y]).tell) w e w':=by
 have IH:=ab ih;have H2:=ab h2;have HO:Hid (acc++(Rx.mk 7 c ng rs lo hi lz [y]).tell=acc++y.tell++oftS lo hi++(if lz=true then [63] else [])):=ab (by simp [Rx.tell,Rx.tellL]);rw [HO.out] at hlen ⊢;have hl3:acc.length+y.tell.length+(oftS lo hi).length≤10000000:=by simp only [JA] at hlen;omega
 clear ih h2 hlen;obtain⟨yk,yc,yn,yr,yl,yh,yz,ys⟩:=y;have hgl:=hbl.lt;have hgB:=hbl.le;obtain⟨w0,hw0⟩:∃w0,w0=w.alloc (.cells #[.int .i64 7,.string ⟨c.toArray⟩,.bool ng,.slice ra rn rc,.int .i64 lo,.int .i64 hi,.bool lz,.slice ka 1 kc] 38):=⟨_,rfl⟩;have hb0:Below w.heap.size w w0:=by rw [hw0];exact(Below.refl _ _).alloc (Ju _) _
 have hbx0:w0.heap[w.heap.size]?=some (.cells #[.int .i64 7,.string ⟨c.toArray⟩,.bool ng,.slice ra rn rc,.int .i64 lo,.int .i64 hi,.bool lz,.slice ka 1 kc] 38 (0,0)):=by rw [hw0];exact heap_alloc_new w _
 obtain⟨b,o,ya,yrc,yka,ykc,rfl,hS,hbB,_,_,hyv,c0,c1,c2,c3,c4,c5,c6,c7⟩:=hx.cells (m:=0) rfl;simp only [Nat.zero_mul,Nat.add_zero] at c0 c1 c2 c3 c4 c5 c6 c7;have HYV:=ab (hyv.later hb0);unfold rxc at HYV;have HTB:=ab (ht.keep hb0);have hB0:B≤w0.heap.size:=Jv hB hb0.size;have hf0:Fr B [g] [5] w w0:=Fr.of_below hb0 (Ju _);have HBX0:=ab hbx0;have HBL0:Hid (Bld B g acc w0):=ab (by rw [hw0];exact hbl.alloc _);rw [hw0] at HYV HTB HBL0;have HW0:=ab hw0;clear hx ht hw0 hyv hbx0;go_enter Tryz.func38,Tryz.ntmps38
 go_wp2_with (go_at_call 38;refine(IH.out.at_ HYV.out HBL0.out gV HTB.out rfl (by simp only [JA];omega)).mono ?_)
 first|rintro e w1 rfl hbl1 hfr1|rintro e w1 ⟨rfl,hbl1,hfr1⟩
 rw [←HW0.out] at hfr1;have hbx1:=hfr1.held HBX0.out gR (Nat.ne_of_gt hgl);have z4:w1.cell? ⟨w.heap.size,4,none⟩=some (.int .i64 lo):= iq;have z5:w1.cell? ⟨w.heap.size,5,none⟩=some (.int .i64 hi):= iq;have hB1:B≤w1.heap.size:=Jv hB0 hfr1.size;have hbw1:=hfr1.below hB0 kx;have HTB1:=ab ((show Tab w0 by rw [HW0.out];exact HTB.out).keepB hgT hbw1);have hfx:=hf0.trans hfr1;have HBX1:=ab hbx1;have hgl1:=hbl1.lt;clear hbx1 hfr1;go_wp2_with (go_at_call 57;refine(often_eq _ h0 h1 H2.out HTB1.out).mono ?_)
 first|rintro e w2 rfl hb2|rintro e w2 ⟨rfl,hb2⟩
 have hbl2:=hbl1.below hb2;have hB2:B≤w2.heap.size:=Jv hB1 hb2.size;have hfx2:Fr B [g] [5] w w2:=hfx.trans (Fr.of_below hb2 (Ju _));have HBX2:Hid (w2.heap[w.heap.size]?=some (.cells #[.int .i64 7,.string ⟨c.toArray⟩,.bool ng,.slice ra rn rc,.int .i64 lo,.int .i64 hi,.bool lz,.slice (some ⟨b,o,none⟩) 1 kc] 38 (0,0))):=ab ((hb2.block _ (kT HBX1.out)).trans HBX1.out);clear hb2;go_wp2_with (go_at_call 32;refine(lB B _ (acc++Rx.tell (.mk yk yc yn yr yl yh yz ys)) _ _ (hbl2) gP gP gP).mono ?_)
 first|rintro e w3 rfl hbl3 hfr3|rintro e w3 ⟨rfl,hbl3,hfr3⟩
 have hbx3:=hfr3.held HBX2.out gR (Nat.ne_of_gt hgl);have z6:w3.cell? ⟨w.heap.size,6,none⟩=some (.bool lz):=(by rw [Jw hbx3];rfl);have hB3:B≤w3.heap.size:=Jv hB2 hfr3.size;have hfx3:=hfx2.trans hfr3;clear hbx3 hfr3;cases lz with
 | false =>
  go_wp2
  go_end0
  exact⟨rfl,by simpa using hbl3,hfx3⟩
 | true =>
  go_wp2_with (go_at_call 34;refine(lv B _ (acc++Rx.tell (.mk yk yc yn yr yl yh yz ys)++oftS lo hi) 63 _ (hbl3) gP gP gR gR).mono ?_)
  first|rintro e w4 rfl hbl4 hfr4|rintro e w4 ⟨rfl,hbl4,hfr4⟩
  go_wp2_with fail
  go_end0
  exact⟨rfl,by simpa using hbl4,hfx3.trans hfr4⟩
theorem len1 {α:Type} {l:List α} (h:l.length=1):∃a,l=[a]:=by
 match l,h with
 | [a],_=>exact⟨a,rfl⟩
theorem DH (B g:Nat) (hgT:1<B):∀(N:Nat) (x:Rx),x.parts≤N→x.small→x.wf=true→ShowC B g x
 | 0,x,h,_,_=>by have:=Rx.parts_pos x;omega
 | N+1,.mk k c ng rs lo hi lz ks,h,hsm,hwf=>by
  intro cc acc w hv hbl hB ht hlen;obtain⟨ra,rc,ka,kc,rfl,hrs,hx⟩:=hv.open_;obtain⟨⟨s1,s2,s3,s4⟩,hsmL⟩:=hsm;obtain⟨hf,hwl⟩:=wf_mk hwf;simp only [Rx.parts] at h;have ih:∀y∈ks,ShowC B g y:=fun y hy=>DH B g hgT N y jv (oG hsmL hy) (zu hwl hy)
  have hrB:Sl w B ra 2 rs.length (lw rs):=⟨hrs.1,fun hn=>by
   obtain⟨b,o,e1,e2,_,e4⟩:=hrs.2 hn;exact⟨b,o,e1,e2,e4⟩⟩
  have hal:acc.length≤10000000:=by simp only [JA] at hlen;omega
  unfold rxc;rcases CV hf with rfl|rfl|rfl|rfl|rfl|rfl|rfl|rfl|rfl|rfl|rfl|rfl
  ·exact show_seq B g acc c ng ra rs _ rc lo hi lz ka ks kc w ih hgT hbl hB ht hx s4 (by simpa [Rx.tell,tlF] using hlen)
  ·exact show_alt B g acc c ng ra rs _ rc lo hi lz ka ks kc w ih hgT hbl hB ht hx s4 (by simpa [Rx.tell,taF] using hlen)
  ·have hp:l5 c=true:=by simp [lI] at hf;exact hf.2
   exact Gv B g acc c ng ra rs _ rc lo hi lz ka ks _ kc w hbl hB hal (vx hp) s1
  ·exact qf B g acc 3 gU c ng ra rs _ rc lo hi lz ka ks _ kc w hbl hB hal
  ·have hp:oY rs=true:=by simp [lI] at hf;exact hf.2
   exact show_set B g acc c ng ra rs rc lo hi lz ka ks _ kc w hbl hB hrB (Ii hp) s3 s2 (by simpa [Rx.tell] using hlen)
  ·have h1:ks.length=1:=by simp [lI] at hf;exact hf.2
   obtain⟨y,rfl⟩:=len1 h1;exact xZ B g acc 5 (.inl rfl) c ng ra rs _ rc lo hi lz ka y kc w (ih y gU) hgT hbl hB ht hx hlen
  ·have h1:ks.length=1:=by simp [lI] at hf;exact hf.2
   obtain⟨y,rfl⟩:=len1 h1;exact xZ B g acc 6 (.inr rfl) c ng ra rs _ rc lo hi lz ka y kc w (ih y gU) hgT hbl hB ht hx hlen
  ·simp only [lI] at hf
   rw [Jo gR,Jo gR,Jl trivial] at hf;simp only [Jy,Jj] at hf;obtain⟨⟨_,h1⟩,h2,h3,h4⟩:=hf;match ks,h1 with
   | [y],_=>exact show_rep B g acc c ng ra rs _ rc lo hi lz ka y kc w (ih y gU) hgT h2 h3 h4 hbl hB ht hx hlen
  ·exact qf B g acc 8 gU c ng ra rs _ rc lo hi lz ka ks _ kc w hbl hB hal
  ·exact qf B g acc 9 gU c ng ra rs _ rc lo hi lz ka ks _ kc w hbl hB hal
  ·exact qf B g acc 10 gU c ng ra rs _ rc lo hi lz ka ks _ kc w hbl hB hal
  ·exact qf B g acc 11 gU c ng ra rs _ rc lo hi lz ka ks _ kc w hbl hB hal
theorem s9 (S:Nat→Prop) (x:Rx) (cc:List Value) (w:World) (hm:x.parts≤1000000) (hsm:x.small) (hv:RxV w S cc x) (ht:Tab w) (hmay:mayB x=true) (hlen:x.tell.length≤10000000) :
  Calls Tryz.prog 23 #[.agg cc.toArray] w fun e w'=>e=.returned (.tuple #[.string ⟨(x.tell).toArray⟩,.int .i64 0])∧Below w.heap.size w w':=by
 have hwf:x.wf=true:=by
  have h:=hmay;simp only [mayB,okB,Jy] at h;exact h.1.1
 obtain⟨k,c,ng,rs,lo,hi,lz,ks⟩:=x;obtain⟨ra,rc,ka,kc,rfl,hrs,hx⟩:=hv.open_;obtain⟨w0,hw0⟩:∃w0,w0=w.alloc (.cells #[.int .i64 k,.string ⟨c.toArray⟩,.bool ng,.slice ra rs.length rc,.int .i64 lo,.int .i64 hi,.bool lz,.slice ka ks.length kc] 38):=⟨_,rfl⟩;have hb0:Below w.heap.size w w0:=by rw [hw0];exact(Below.refl _ _).alloc (Ju _) _
 have hbx0:w0.heap[w.heap.size]?=some (.cells #[.int .i64 k,.string ⟨c.toArray⟩,.bool ng,.slice ra rs.length rc,.int .i64 lo,.int .i64 hi,.bool lz,.slice ka ks.length kc] 38 (0,0)):=by rw [hw0];exact heap_alloc_new w _
 have HV0:=ab (hv.later hb0).any;have HTB:=ab (ht.keep hb0);have HSM:=ab hsm;have HMAY:=ab hmay;have HWF:=ab hwf;have HBX0:=ab hbx0;have HLEN:=ab hlen;have HM:=ab hm;rw [hw0] at HV0;have HW0:=ab hw0;clear hv hrs hx hsm hmay hwf ht hbx0 hw0 hlen hm;unfold rxc at HV0 ⊢;go_enter Tryz.func23,Tryz.ntmps23
 go_wp2_with (go_at_call 37;refine(AS Any _ _ _ HM.out HSM.out HV0.out).mono ?_)
 first|rintro e w1 rfl hb1|rintro e w1 ⟨rfl,hb1⟩
 rw [HMAY.out];have hb1':Below w0.heap.size w0 w1:=by rw [HW0.out];exact hb1.mono gU
 have HV1:=ab ((show RxV w0 Any _ _ by rw [HW0.out];exact HV0.out).later hb1');have HTB1:=ab (HTB.out.keep hb1');have hbx1:=(hb1'.block _ (kT HBX0.out)).trans HBX0.out;have hbw1:Below w.heap.size w w1:=hb0.trans (hb1'.mono hb0.size);have hz1:=hbw1.size;have hl1:=kT hbx1;have e0:w1.cell? ⟨w.heap.size,0,none⟩=some (.int .i64 k):=by rw [Jw hbx1];rfl
 have e1:w1.cell? ⟨w.heap.size,1,none⟩=some (.string ⟨c.toArray⟩):=by rw [Jw hbx1];rfl
 have e2:w1.cell? ⟨w.heap.size,2,none⟩=some (.bool ng):=by rw [Jw hbx1];rfl
 have e3:w1.cell? ⟨w.heap.size,3,none⟩=some (.slice ra rs.length rc):=by rw [Jw hbx1];rfl
 have e4:w1.cell? ⟨w.heap.size,4,none⟩=some (.int .i64 lo):=by rw [Jw hbx1];rfl
 have e5:w1.cell? ⟨w.heap.size,5,none⟩=some (.int .i64 hi):=by rw [Jw hbx1];rfl
 have e6:w1.cell? ⟨w.heap.size,6,none⟩=some (.bool lz):=by rw [Jw hbx1];rfl
 have e7:w1.cell? ⟨w.heap.size,7,none⟩=some (.slice ka ks.length kc):=by rw [Jw hbx1];rfl
 have HV2:=ab ((HV1.out.mono (S':=(·<w1.heap.size)) (fun _ _ h=>h)).later ((Below.refl _ _).alloc (Ju _) (.cells #[.pointer none,.slice none 0 0] 54)));have HTB2:=ab (HTB1.out.keep ((Below.refl _ _).alloc (Ju _) (.cells #[.pointer none,.slice none 0 0] 54)));have hgT:=HTB1.out.lt;clear hb1 hbx1;go_wp2_with (go_at_call 38;refine((DH w1.heap.size w1.heap.size hgT _ _ (Ju _) HSM.out HWF.out).at_ (acc:=[]) HV2.out (Bld.fresh _ _ (Ju _)) gU HTB2.out (JV _) HLEN.out).mono ?_)
 first|rintro e w2 rfl hbl2 hfr2|rintro e w2 ⟨rfl,hbl2,hfr2⟩
 have hB2:w1.heap.size≤w2.heap.size:=by have:=hfr2.size;simp at this;omega
 have hbw2:Below w1.heap.size w1 w2:=((Below.refl _ _).alloc (Ju _) _).trans (hfr2.below gU gU);go_wp2_with (go_at_call 21;refine(si _ _ _ _ hbl2 hB2).mono ?_;rintro e w3 ⟨rfl,hb3⟩)
 go_ret2
 exact⟨rfl,hbw1.trans ((hbw2.trans hb3).mono hz1)⟩
def QuRel (th l:Str) (g:Nat) (w0:World) (R:Str) (q:Value) (wr:World):Prop :=
 ∃(i:Nat) (acc:Str),i≤l.length∧q=.int .i64 i∧Bld w0.heap.size g acc wr∧Below w0.heap.size w0 wr∧acc.length≤2*i∧Hid (acc++quot th (l.drop i)=R)
theorem oH (l th:Str) (w:World) (hs:l.length≤1000000) :
  Calls Tryz.prog 86 #[.string ⟨l.toArray⟩,.string ⟨th.toArray⟩] w fun e w'=>e=.returned (.string ⟨(quot th l).toArray⟩)∧Below w.heap.size w w':=by
 generalize hR:quot th l=R
 have HR:=ab hR;clear hR;have HR0:Hid ([]++quot th (l.drop 0)=R):=HR;clear HR;go_enter Tryz.func86,Tryz.ntmps86
 go_wp2
 go_loopw [6] (fun q wr=>QuRel th l w.heap.size w R q wr) (fun q _=>l.length-(intOf q).toNat)
 case atStart=>exact⟨0,[],by omega,rfl,Bld.fresh _ _ (Ju _),(Below.refl _ _).alloc (Ju _) _,by simp,HR0⟩
 case round =>
  obtain⟨i,acc,hi,rfl,hbl,hb,hacc,HF⟩:=hrel;clear HR0;have hB:=hb.size;cases hd:l.drop i with
  | nil =>
   have h2:=ms hd;have HF':Hid (acc=R):=ab (by rw [←HF.out,hd];simp [quot]);clear hd HF;go_wp2_with (go_at_call 21;refine(si _ _ _ _ hbl hB).mono ?_;rintro e w1 ⟨rfl,hb1⟩)
   go_ret
   exact⟨ue HF'.out,hb.trans hb1⟩
  | cons c r =>
   obtain⟨h2,h3,hr⟩:=lG hd;have HF':Hid (acc++((if th.contains c=true then [92,c] else [c])++quot th r)=R):=ab iE;have Hr:=ab hr;have hc256:=u8_lt c;clear hd HF hr;by_cases hc:th.contains c=true
   ·obtain⟨k,hk⟩:=zn hc
    have HK:=ab hk;have HC:=ab hc;clear hk hc;go_wp2_with (first|(go_at_call 47;refine(lX _ HK.out).mono ?_;rintro e w1 ⟨rfl,rfl⟩)|(go_at_call 34;refine(lv w.heap.size _ (acc) (92) _ hbl ia gN gN gN).mono ?_))
    rintro e w2 ⟨rfl,hbl2,hfr2⟩;have hb2:=hb.trans (hfr2.below hB gU);have hB2:=hb2.size;go_wp2_with (go_at_call 34;refine(lv w.heap.size _ (acc++[92]) ((c.toNat:Int)) _ hbl2 ia gN gN gN).mono ?_)
    rintro e w3 ⟨rfl,hbl3,hfr3⟩;go_wp2_with fail
    go_roundw
    case rel =>
     refine⟨i+1,acc++[92,c],by omega,by go_num,?_,hb2.trans (hfr3.below hB2 gU),by simp;omega,ab ?_⟩
     ·simpa using hbl3
     ·rw [Hr.out,←HF'.out,Jl HC.out];simp
    case measure=>simp [intOf];omega
   ·have hk:=vq hc
    have HK:=ab hk;have HC:=ab hc;clear hk hc;go_wp2_with (first|(go_at_call 47;refine(lX _ HK.out).mono ?_;rintro e w1 ⟨rfl,rfl⟩)|(go_at_call 34;refine(lv w.heap.size _ (acc) ((c.toNat:Int)) _ hbl ia gN gN gN).mono ?_))
    rintro e w2 ⟨rfl,hbl2,hfr2⟩;go_wp2_with fail
    go_roundw
    case rel =>
     refine⟨i+1,acc++[c],by omega,by go_num,?_,hb.trans (hfr2.below hB gU),by simp;omega,ab ?_⟩
     ·simpa using hbl2
     ·rw [Hr.out,←HF'.out,Jo HC.out];simp
    case measure=>simp [intOf];omega
theorem zy:∀(pt:Bool) (fs:List Fm),mayL pt fs=true→∀f∈fs,mayF f=true
 | _,[],_,f,hf=>by simp at hf
 | pt,g::r,h,f,hf=>by
  simp only [mayL,Jy] at h;rcases JC.1 hf with rfl|hf
  ·exact h.1.1
  ·exact zy _ r h.2 f hf
theorem mayF_n {f:Fm} (h:mayF f=true):0≤f.n∧f.n≤9999:=by
 unfold mayF at h;rw [Jy] at h;simpa using h.1
theorem F5 {f:Fm} (h:mayF f=true):f.kind=0∨f.kind=1∨f.kind=2∨f.kind=3∨f.kind=4∨f.kind=5:=by
 unfold mayF at h;rw [Jy] at h;have h2:=h.2;by_cases h0:f.kind=0
 ·exact .inl h0
 by_cases h1:f.kind=1
 ·exact .inr (.inl h1)
 by_cases h3:f.kind=2
 ·exact .inr (.inr (.inl h3))
 by_cases h4:f.kind=3
 ·exact .inr (.inr (.inr (.inl h4)))
 by_cases h5:f.kind=4
 ·exact .inr (.inr (.inr (.inr (.inl h5))))
 by_cases h6:f.kind=5
 ·exact .inr (.inr (.inr (.inr (.inr h6))))
 rw [Jo h0,Jo h1,Jo h3,Jo h4,Jo h5,Jo h6] at h2;cases h2
attribute [local go_sem ↓] Go.wp_at_zero Go.wp_at_succ
theorem Ch (l th:Str) (w:World) (hs:l.length≤1000000) :
  Calls Tryz.prog 86 #[.string ⟨l.toArray⟩,.string ⟨th.toArray⟩] w fun e w'=>e=.returned (.string ⟨(quot th l).toArray⟩)∧Below w.heap.size w w'∧∀a u,w.cell? a=some u→w'.cell? a=some u :=
 (oH l th w hs).mono fun _ _ ⟨h1,h2⟩=>⟨h1,h2,lP h2⟩
def ShRel (fs:List Fm) (g m:Nat) (w:World) (R:Str) (q:Value) (wr:World):Prop :=
 ∃(k:Nat) (acc:Str),k≤fs.length∧q=.int .i64 k∧Bld w.heap.size g acc wr∧Below w.heap.size w wr∧Hid (acc.length≤k*m)∧Hid (acc++mN (fs.drop k)=R)
theorem Gt {f:Fm} {m:Nat} (hm:mayF f=true) (h1:f.thn.length≤m) (h2:f.els.length≤m):(o4 f).length≤4*m+20:=by
 exact cL
set_option maxRecDepth 100000 in
theorem Show_any (a:Option Addr) (c m:Nat) (fs:List Fm) (w:World) (h:Sl w w.heap.size a 5 fs.length (mu fs)) (ht:Tab w)
  (hf:∀f∈fs,f.thn.length≤m∧f.els.length≤m) (hm:m≤10000) (hn:fs.length≤1000) (hmay:uN fs=true) :
  Calls Tryz.prog 68 #[.slice a fs.length c] w fun e w'=>e=.returned (.tuple #[.string ⟨(mN fs).toArray⟩,.int .i64 0])∧Below w.heap.size w w':=by
 have HSl:=ab h;have HT:=ab ht;obtain⟨R,hR⟩:∃R,R=mN fs:=⟨_,rfl⟩;rw [←hR];have HR:=ab hR;have HF:=ab hf;have HM:=ab (zy _ _ hmay);clear hR hf h ht;go_enter Tryz.func68,Tryz.ntmps68
 go_wp2_with (go_at_call 85;refine(GO _ _ _ fs _ HSl.out gN).mono ?_;rintro e w0 ⟨rfl,hb0⟩)
 have hB0:=hb0.size;go_loopw [15] (fun q wr=>ShRel fs w0.heap.size (4*m+20) w R q wr) (fun q _=>fs.length-(intOf q).toNat)
 case atStart=>exact⟨0,[],by omega,rfl,Bld.fresh _ _ hB0,hb0.alloc hB0 _,ab gU,ab jf⟩
 case round =>
  obtain⟨k,acc,hk,rfl,hbl,hb,HL,HRR⟩:=hrel;clear HR;have hB:=hb.size;have hacc:acc.length≤50000000:=Jv HL.out (Jv (Nat.mul_le_mul (show k≤1000 by omega) (show 4*m+20≤40020 by omega)) gR);cases hd:fs.drop k with
  | nil =>
   have h2:fs.length≤k:=it;have HR:Hid (R=acc):=ab (by rw [←HRR.out,hd];simp [mN]);clear hd HRR;go_wp2_with (go_at_call 21;refine(si _ _ _ _ hbl hB).mono ?_;rintro e w1 ⟨rfl,hb1⟩)
   go_ret2
   exact⟨by rw [HR.out];rfl,hb.trans hb1⟩
  | cons f r =>
   obtain⟨h2,h3,hr⟩:=lC hd;have HR:Hid (R=acc++(o4 f++mN r)):=ab (by rw [←HRR.out,hd];simp [mN]);have Hr:=ab hr;have hmem:=JH h3;have hmf:=HM.out f hmem;obtain⟨b,o,rfl,hbB,c0,c1,c2,c3,c4⟩:=(HSl.out.keep hb).fm h3;obtain⟨z1,z2⟩:=HF.out f hmem;have HPL:=ab (Gt hmf z1 z2);obtain⟨n0,n1⟩:=mayF_n hmf;have hkind:=F5 hmf;clear hd HRR hr h3 hmem hmf;obtain⟨kind,fn,cse,thn,els⟩:=f;replace z1:thn.length≤m:=z1;replace z2:els.length≤m:=z2;replace n0:0≤fn:=n0;replace n1:fn≤9999:=n1;obtain⟨d0,d1⟩:=rm n0 n1;have HKI:=ab hkind;clear hkind;have htw:Tab (wr.alloc (.cells #[.int .i64 kind,.int .i64 fn,.int .i64 cse,.string ⟨thn.toArray⟩,.string ⟨els.toArray⟩] 95)):=HT.out.keep ((hb.mono (Ju _)).alloc hB _);have HTW:=ab htw;clear htw;go_wp2_with (go_at_call 33;refine(sd fn _ n0 gN HTW.out).mono ?_)
   first|rintro e w1 rfl hb1|rintro e w1 ⟨rfl,hb1⟩
   have z0:w1.cell? ⟨wr.heap.size,0,none⟩=some (.int .i64 kind):=sn hb1 gU gU;have z3:w1.cell? ⟨wr.heap.size,2,none⟩=some (.int .i64 cse):=sn hb1 gU gU;have z4:w1.cell? ⟨wr.heap.size,3,none⟩=some (.string ⟨thn.toArray⟩):=sn hb1 gU gU;have z5:w1.cell? ⟨wr.heap.size,4,none⟩=some (.string ⟨els.toArray⟩):=sn hb1 gU gU;go_wp2
   go_region_held3 (fun w'=>w'.cell? ⟨wr.heap.size,0,none⟩=some (.int .i64 kind)∧w'.cell? ⟨wr.heap.size,2,none⟩=some (.int .i64 cse)∧w'.cell? ⟨wr.heap.size,3,none⟩=some (.string ⟨thn.toArray⟩)∧w'.cell? ⟨wr.heap.size,4,none⟩=some (.string ⟨els.toArray⟩)) (go_keep)
    (first|(go_at_call 86;refine(Ch _ _ _ gN).mono ?_;rintro e w2 ⟨rfl,hb2,hc2⟩))
   rename_i wa hba hca hheld
   obtain⟨y0,y2,y3,y4⟩:=hheld;have hbl1:Bld w.heap.size w0.heap.size acc w1:=(hbl.alloc _).below (hb1.mono gU);have hbl2:Bld w.heap.size w0.heap.size acc w2:=(Bld.below (w:=w1.drew) hbl1 hba).below hb2;have hbw1:Below w.heap.size w w1:=(hb.alloc hB _).trans (hb1.mono gN);have hz1:=hbw1.size;have hbwa:Below w.heap.size w wa:=(hbw1.drew).trans (hba.mono hz1);have hza:=hbwa.size;have hbw2:Below w.heap.size w w2:=hbwa.trans (hb2.mono hza);have hz2:=hbw2.size;have hg2:=hbl2.le;have HC:=ab hca;have HC2:=ab hc2;clear hca hc2 hbl1 hba hb2 hb1 z0 z3 z4 z5 c0 c1 c2 c3 c4;have hkind:=HKI.out;have q4:=nV [36,125,92,47] thn;have q5:=nV [36,125,92,47,58] thn;have q6:=nV [36,125,92,47,58] els;have q7:=tO cse;rcases hkind with hkind|hkind|hkind|hkind|hkind|hkind
   ·subst hkind
    go_wp2_with (first|(go_at_call 86;refine(oH _ _ _ gN).mono ?_;rintro e w3 ⟨rfl,hb3⟩;have hbl3:=hbl2.below hb3;have hz3:=hb3.size)|(go_at_call 87;refine(o7 _ _).mono ?_;rintro e w3 ⟨rfl,hb3⟩;have hbl3:=hbl2.below hb3;have hz3:=hb3.size)|(go_at_call 32;refine(lB w.heap.size _ acc _ _ jk gN ic gN).mono ?_))
    first|rintro e w4 rfl hbl4 hfr4|rintro e w4 ⟨rfl,hbl4,hfr4⟩
    go_wp2_with fail
    go_roundw
    case rel =>
     refine⟨k+1,acc++o4 ⟨0,fn,cse,thn,els⟩,by omega,by go_num,?_,?_,ab ?_,ab ?_⟩
     ·exact cT
     ·exact bl
     ·exact b7
     ·exact db
    case measure=>simp [intOf];omega
   ·subst hkind
    go_wp2_with (first|(go_at_call 86;refine(oH _ _ _ gN).mono ?_;rintro e w3 ⟨rfl,hb3⟩;have hbl3:=hbl2.below hb3;have hz3:=hb3.size)|(go_at_call 87;refine(o7 _ _).mono ?_;rintro e w3 ⟨rfl,hb3⟩;have hbl3:=hbl2.below hb3;have hz3:=hb3.size)|(go_at_call 32;refine(lB w.heap.size _ acc _ _ jk gN ic gN).mono ?_))
    first|rintro e w4 rfl hbl4 hfr4|rintro e w4 ⟨rfl,hbl4,hfr4⟩
    go_wp2_with fail
    go_roundw
    case rel =>
     refine⟨k+1,acc++o4 ⟨1,fn,cse,thn,els⟩,by omega,by go_num,?_,?_,ab ?_,ab ?_⟩
     ·exact cT
     ·exact bl
     ·exact b7
     ·exact db
    case measure=>simp [intOf];omega
   ·subst hkind
    go_wp2_with (first|(go_at_call 86;refine(oH _ _ _ gN).mono ?_;rintro e w3 ⟨rfl,hb3⟩;have hbl3:=hbl2.below hb3;have hz3:=hb3.size)|(go_at_call 87;refine(o7 _ _).mono ?_;rintro e w3 ⟨rfl,hb3⟩;have hbl3:=hbl2.below hb3;have hz3:=hb3.size)|(go_at_call 32;refine(lB w.heap.size _ acc _ _ jk gN ic gN).mono ?_))
    first|rintro e w4 rfl hbl4 hfr4|rintro e w4 ⟨rfl,hbl4,hfr4⟩
    go_wp2_with fail
    go_roundw
    case rel =>
     refine⟨k+1,acc++o4 ⟨2,fn,cse,thn,els⟩,by omega,by go_num,?_,?_,ab ?_,ab ?_⟩
     ·exact cT
     ·exact bl
     ·exact b7
     ·exact db
    case measure=>simp [intOf];omega
   ·subst hkind
    go_wp2_with (first|(go_at_call 86;refine(oH _ _ _ gN).mono ?_;rintro e w3 ⟨rfl,hb3⟩;have hbl3:=hbl2.below hb3;have hz3:=hb3.size)|(go_at_call 87;refine(o7 _ _).mono ?_;rintro e w3 ⟨rfl,hb3⟩;have hbl3:=hbl2.below hb3;have hz3:=hb3.size)|(go_at_call 32;refine(lB w.heap.size _ acc _ _ jk gN ic gN).mono ?_))
    first|rintro e w4 rfl hbl4 hfr4|rintro e w4 ⟨rfl,hbl4,hfr4⟩
    go_wp2_with fail
    go_roundw
    case rel =>
     refine⟨k+1,acc++o4 ⟨3,fn,cse,thn,els⟩,by omega,by go_num,?_,?_,ab ?_,ab ?_⟩
     ·exact cT
     ·exact bl
     ·exact b7
     ·exact db
    case measure=>simp [intOf];omega
   ·subst hkind
    go_wp2_with (first|(go_at_call 86;refine(oH _ _ _ gN).mono ?_;rintro e w3 ⟨rfl,hb3⟩;have hbl3:=hbl2.below hb3;have hz3:=hb3.size)|(go_at_call 87;refine(o7 _ _).mono ?_;rintro e w3 ⟨rfl,hb3⟩;have hbl3:=hbl2.below hb3;have hz3:=hb3.size)|(go_at_call 32;refine(lB w.heap.size _ acc _ _ jk gN ic gN).mono ?_))
    first|rintro e w4 rfl hbl4 hfr4|rintro e w4 ⟨rfl,hbl4,hfr4⟩
    go_wp2_with fail
    go_roundw
    case rel =>
     refine⟨k+1,acc++o4 ⟨4,fn,cse,thn,els⟩,by omega,by go_num,?_,?_,ab ?_,ab ?_⟩
     ·exact cT
     ·exact bl
     ·exact b7
     ·exact db
    case measure=>simp [intOf];omega
   ·subst hkind
    go_wp2_with (first|(go_at_call 86;refine(oH _ _ _ gN).mono ?_;rintro e w3 ⟨rfl,hb3⟩;have hbl3:=hbl2.below hb3;have hz3:=hb3.size)|(go_at_call 87;refine(o7 _ _).mono ?_;rintro e w3 ⟨rfl,hb3⟩;have hbl3:=hbl2.below hb3;have hz3:=hb3.size)|(go_at_call 32;refine(lB w.heap.size _ acc _ _ jk gN ic gN).mono ?_))
    first|rintro e w4 rfl hbl4 hfr4|rintro e w4 ⟨rfl,hbl4,hfr4⟩
    go_wp2_with fail
    go_roundw
    case rel =>
     refine⟨k+1,acc++o4 ⟨5,fn,cse,thn,els⟩,by omega,by go_num,?_,?_,ab ?_,ab ?_⟩
     ·exact cT
     ·exact bl
     ·exact b7
     ·exact db
    case measure=>simp [intOf];omega
theorem Dp (S:Nat→Prop) (f:Tf) (hsm:f.small) (fc:List Value) (w:World) (hv:TfV w S fc f) :
  Calls Tryz.prog 67 #[.agg fc.toArray] w fun e w'=>e=.returned (.bool (oZ f))∧Below w.heap.size w w':=by
 obtain⟨rk,rch,rng,rrs,rlo,rhi,rlz,rks,ra,rcp,rka,rkc,fa,fcp,hc⟩:=hv.open_;obtain⟨X,fs,fd,al⟩:=f;obtain⟨hx,hp,hfs⟩:=hsm;have hx1:X=.mk rk rch rng rrs rlo rhi rlz rks:=hc.rx;have hfce:fc=[.int .i64 rk,.string ⟨rch.toArray⟩,.bool rng,.slice ra rrs.length rcp,.int .i64 rlo,.int .i64 rhi,.bool rlz,.slice rka rks.length rkc,.slice fa fs.length fcp,.bool fd,.bool al]:=hc.eq;obtain⟨W0,hW0⟩:∃W0,W0=w.alloc (.cells fc.toArray 41):=⟨_,rfl⟩;have hb0:Below w.heap.size w W0:=by rw [hW0];exact(Below.refl _ _).alloc (Ju _) _
 have HB1:Hid (W0.heap[w.heap.size]?=some (.cells fc.toArray 41 (0,0))):=ab iy;have HXV:Hid (RxV W0 S [.int .i64 rk,.string ⟨rch.toArray⟩,.bool rng,.slice ra rrs.length rcp,.int .i64 rlo,.int .i64 rhi,.bool rlz,.slice rka rks.length rkc] X):=ab (hx1▸hc.rv.later hb0);have HFS:Hid (SlS W0 S fa 5 fs.length (mu fs)):=ab (hc.fv.keep (Kept.all hb0));have HXS:=ab hx;have HP:=ab hp;have HFL:=ab hfs;have HTM:Hid (oZ ⟨X,fs,fd,al⟩=(mayB X&&uN fs)):=ab rfl;subst hfce;have HW0:=ab hW0;rw [HTM.out];clear hv hc hx hx1 hW0 hfs hp HTM;have HRM:=ab (AS S X _ W0 HP.out HXS.out HXV.out);cases hm:mayB X with
 | false =>
  rw [hm] at HRM;clear hm;go_enter Tryz.func67,Tryz.ntmps67
  go_upto_region 1 with fail
  rw [←HW0.out];clear HW0;go_wp2_with (first
   | (refine kV rfl 38 (.tmp 3) rfl w.heap.size 0 rfl [.int .i64 rk,.string ⟨rch.toArray⟩,.bool rng,.slice ra rrs.length rcp,.int .i64 rlo,.int .i64 rhi,.bool rlz,.slice rka rks.length rkc] _ (lc (ds:=[.slice fa fs.length fcp,.bool fd,.bool al]) HB1.out) mb rfl iB ?_)
   | (go_at_call 37;refine HRM.out.mono ?_))
  exact bg
 | true =>
  rw [hm] at HRM;clear hm;go_enter Tryz.func67,Tryz.ntmps67
  go_upto_region 1 with fail
  rw [←HW0.out];clear HW0;go_wp2_with (first
   | (refine kV rfl 38 (.tmp 3) rfl w.heap.size 0 rfl [.int .i64 rk,.string ⟨rch.toArray⟩,.bool rng,.slice ra rrs.length rcp,.int .i64 rlo,.int .i64 rhi,.bool rlz,.slice rka rks.length rkc] _ (lc (ds:=[.slice fa fs.length fcp,.bool fd,.bool al]) HB1.out) mb rfl iB ?_)
   | (go_at_call 37;refine HRM.out.mono ?_))
  first|rintro e w1 rfl hb1|rintro e w1 ⟨rfl,hb1⟩
  have hx1:=(hb1.block _ (kT HB1.out)).trans HB1.out;have z8:=kU hx1 8 rfl;have HM:=ab (GO fa fs.length fcp fs w1 (HFS.out.keep (Kept.all hb1)).sl HFL.out);clear hx1;go_wp2_with (go_at_call 85;refine HM.out.mono ?_)
  first|rintro e w2 rfl hb2|rintro e w2 ⟨rfl,hb2⟩
  go_wp2
  go_ret
  exact⟨by simp,bel2 (bel2 hb0 hb1) hb2⟩
theorem sN (S:Nat→Prop) (k:Int) (t:Str) (n:Int) (h u:Bool) (f:Tf) (hf:f.small) (o:List Str) (ks:List Sn) (cc:List Value) (w:World) (hv:SnV w S cc (.mk k t n h u f o ks)) :
  Calls Tryz.prog 51 #[.agg cc.toArray] w fun e w'=>e=.returned (.bool (!h&&(!u&&(ks.isEmpty&&tfZ f))))∧Below w.heap.size w w':=by
 obtain⟨W0,hW0⟩:∃W0,W0=w.alloc (.cells cc.toArray 44):=⟨_,rfl⟩;have hb0:Below w.heap.size w W0:=by rw [hW0];exact(Below.refl _ _).alloc (Ju _) _
 have HB1:Hid (W0.heap[w.heap.size]?=some (.cells cc.toArray 44 (0,0))):=ab iy;have HW0:=ab hW0;have hcl:=hv.len;have HV0:=ab (hv.later hb0);obtain⟨fc,oa,oc,ka,kc,A⟩:=hv.at_;obtain⟨k0,k1,k2,k3,k4,k16,k17,kr⟩:=A.box HB1.out;have HFC:=ab A.fl;have HFV:=ab (A.fv.keep (Kept.all hb0));clear hW0 A hv;have HXE:=ab (xI S f hf fc W0 HFV.out);clear hf HFV;cases h with
 | true =>
  rw [show (!true&&(!u&&(ks.isEmpty&&tfZ f)))=false from rfl];go_enter Tryz.func51,Tryz.ntmps51
  exact ci
 | false =>
  cases u with
  | true =>
   rw [show (!false&&(!true&&(ks.isEmpty&&tfZ f)))=false from rfl];go_enter Tryz.func51,Tryz.ntmps51
   exact ci
  | false =>
   cases ks with
   | cons y ys =>
    rw [show (!false&&(!false&&((y::ys).isEmpty&&tfZ f)))=false from rfl];obtain⟨m,hm⟩:∃m,(y::ys).length=m:=⟨_,rfl⟩;rw [hm] at k17;have gm:((m:Int)==0)=false:=by rw [JP,←hm];simp;omega
    clear hm HV0;go_enter Tryz.func51,Tryz.ntmps51
    exact ci
   | nil =>
    rw [show (!false&&(!false&&(([]:List Sn).isEmpty&&tfZ f)))=tfZ f from rfl];go_enter Tryz.func51,Tryz.ntmps51
    go_upto_region 1 with fail
    rw [←HW0.out];clear HW0;go_wp2_with (first
     | (refine mQ kQ 41 (.tmp 18) rfl w.heap.size 5 rfl fc _ kr mG rfl ky ?_)
     | (refine mQ kQ 44 (.tmp 1) rfl w.heap.size 0 rfl cc _ (lc (ds:=[]) iQ) kX rfl gY ?_)
     | (refine kV rfl 44 (.tmp 1) rfl w.heap.size 0 rfl cc _ (lc (ds:=[]) iQ) kX rfl gY ?_)
     | (go_at_call 45;refine HXE.out.mono ?_))
    exact bg
theorem wb (S:Nat→Prop) (k:Int) (t:Str) (n:Int) (h u:Bool) (f:Tf) (hf:f.small) (o:List Str) (ks:List Sn) (cc:List Value) (w:World) (hv:SnV w S cc (.mk k t n h u f o ks)) :
  Calls Tryz.prog 52 #[.agg cc.toArray] w fun e w'=>e=.returned (.bool (lT (.mk k t n h u f o ks)))∧Below w.heap.size w w':=by
 obtain⟨W0,hW0⟩:∃W0,W0=w.alloc (.cells cc.toArray 44):=⟨_,rfl⟩;have hb0:Below w.heap.size w W0:=by rw [hW0];exact(Below.refl _ _).alloc (Ju _) _
 have HB1:Hid (W0.heap[w.heap.size]?=some (.cells cc.toArray 44 (0,0))):=ab iy;have HW0:=ab hW0;have hcl:=hv.len;have HV0:=ab (hv.later hb0);obtain⟨fc,oa,oc,ka,kc,A⟩:=hv.at_;obtain⟨k0,k1,k2,k3,k4,k16,k17,kr⟩:=A.box HB1.out;have HFC:=ab A.fl;have HFV:=ab (A.fv.keep (Kept.all hb0));clear hW0 A hv;have HXE:=ab (xI S f hf fc W0 HFV.out);have HXM:=ab (Dp S f hf fc W0 HFV.out);have HNO:=ab (sN S k t n h u f hf o ks cc W0 HV0.out);clear hf HFV HV0;cases h with
 | true =>
  cases u with
  | true =>
   rw [show lT (.mk k t n true true f o ks)=false from rfl];go_enter Tryz.func52,Tryz.ntmps52
   exact ci
  | false =>
   rw [show lT (.mk k t n true false f o ks)=tfZ f from rfl];go_enter Tryz.func52,Tryz.ntmps52
   go_upto_region 1 with fail
   rw [←HW0.out];clear HW0;go_wp2_with (first
    | (refine kV rfl 41 (.tmp 13) rfl w.heap.size 5 rfl fc _ kr mG rfl ky ?_)
    | (refine mQ kQ 44 (.tmp 1) rfl w.heap.size 0 rfl cc _ (lc (ds:=[]) iQ) kX rfl gY ?_)
    | (refine kV rfl 44 (.tmp 1) rfl w.heap.size 0 rfl cc _ (lc (ds:=[]) iQ) kX rfl gY ?_)
    | (go_at_call 45;refine HXE.out.mono ?_))
   exact bg
 | false =>
  cases u with
  | true =>
   cases ks with
   | cons y ys =>
    rw [show lT (.mk k t n false true f o (y::ys))=false from rfl];obtain⟨m,hm⟩:∃m,(y::ys).length=m:=⟨_,rfl⟩;rw [hm] at k17;have gm:((m:Int)==0)=false:=by rw [JP,←hm];simp;omega
    clear hm HNO;go_enter Tryz.func52,Tryz.ntmps52
    exact ci
   | nil =>
    rw [show lT (.mk k t n false true f o [])=oZ f from rfl];go_enter Tryz.func52,Tryz.ntmps52
    go_upto_region 1 with fail
    rw [←HW0.out];clear HW0;go_wp2_with (first
     | (refine mQ kQ 41 (.tmp 25) rfl w.heap.size 5 rfl fc _ kr mG rfl ky ?_)
     | (refine mQ kQ 44 (.tmp 1) rfl w.heap.size 0 rfl cc _ (lc (ds:=[]) iQ) kX rfl gY ?_)
     | (refine kV rfl 44 (.tmp 1) rfl w.heap.size 0 rfl cc _ (lc (ds:=[]) iQ) kX rfl gY ?_)
     | (go_at_call 67;refine HXM.out.mono ?_))
    exact bg
  | false =>
   rw [show lT (.mk k t n false false f o ks)=(!false&&(!false&&(ks.isEmpty&&tfZ f))) from rfl];go_enter Tryz.func52,Tryz.ntmps52
   go_upto_region 1 with fail
   rw [←HW0.out];clear HW0;go_wp2_with (first
    | (fail)
    | (refine mQ kQ 44 (.tmp 1) rfl w.heap.size 0 rfl cc _ (lc (ds:=[]) iQ) kX rfl gY ?_)
    | (refine kV rfl 44 (.tmp 1) rfl w.heap.size 0 rfl cc _ (lc (ds:=[]) iQ) kX rfl gY ?_)
    | (go_at_call 51;refine HNO.out.mono ?_))
   exact bg
end Go.Proofs.YtdcnncgpomcaaaaGreatDoor
