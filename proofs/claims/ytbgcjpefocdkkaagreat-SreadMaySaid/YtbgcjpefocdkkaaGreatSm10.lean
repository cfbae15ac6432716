/- walk of rxread: class -/
import Derived.Test.YtbgcjpefocdkkaaGreatSm1
import Derived.Test.YtbgcjpefocdkkaaGreatSm2
import Derived.Test.YtbgcjpefocdkkaaGreatSm3
import Derived.Test.YtbgcjpefocdkkaaGreatSm4
import Derived.Test.YtbgcjpefocdkkaaGreatSm5
import Derived.Test.YtbgcjpefocdkkaaGreatSm6
import Derived.Test.YtbgcjpefocdkkaaGreatSm7
import Derived.Test.YtbgcjpefocdkkaaGreatSm8
import Derived.Test.YtbgcjpefocdkkaaGreatSm9
import Derived.IntWalk
set_option maxRecDepth 100000
namespace Go.Proofs.YtbgcjpefocdkkaaGreat
open Go.RowKit
theorem own_grownG {w w':World} {B g:Nat} {e:TypeId} {sz:Nat} {v:Value} {n:Nat} {xs:List Value} (h:w.ownsRow B e sz v n xs) (hg:w.grownBy w' (some g)) (hB:g<B):w'.ownsRow B e sz v n xs:=by
 refine⟨h.1,?_⟩;rcases h.2 with h0|⟨b,cap,cur,rfl,h1,h2,h3⟩
 ·exact .inl h0
 ·exact .inr ⟨b,cap,cur,rfl,h1,box_grown h2 hg (by omega),h3⟩
def UnionRes (us:List Row) (w:World) (e:Ending) (w':World):Prop:=∃(a:Option Addr) (c:Nat),e=.returned (.slice a us.length c)∧SlS w' (fun b=>w.heap.size≤b) a 2 us.length (rcells us)∧Below w.heap.size w w'
theorem Union_res {B:Nat} (a:Option Addr) (n c:Nat) (rs:List Row) (w:World) (h:w.ownsRow B 103 2 (.slice a n c) n (rcells rs)) (_hn:n≤10000000) (hlen:∀r∈rs,r.1.length≤1000000∧r.2.length≤1000000) (hn2:n≤1000000) :
  Calls Tryz.prog 138 #[.slice a n c] w fun e w'=>UnionRes (unionM rs) w e w' :=
 (Union_any (fun B g cap N rs w h1 h2 h3=>SortStable_any B g cap N rs w h1 h2 h3) a n c rs w (Sl.of_own h) hn2 fun r hr=>by have:=hlen r hr;omega)
theorem cls_grown {w w4 w5:World} {g B:Nat} (h:w.grownBy w4 (some g)) (hb:Below B w4 w5) (hB:w.heap.size≤B):w.grownBy w5 (some g) :=
 ⟨hb.os.trans h.os,hb.tape.trans h.tape,hb.output.trans h.output,Nat.le_trans h.size hb.size,fun k hk hne=>(hb.block k (by omega)).trans (h.block k hk hne)⟩
theorem rows_app {rows nm:List Row} (h1:∀q∈rows,q.1.length≤1000000∧q.2.length≤1000000) (h2:∀q∈nm,q.1.length≤1000000∧q.2.length≤1000000):∀q∈rows++nm,q.1.length≤1000000∧q.2.length≤1000000:=by
 intro q hq;rcases List.mem_append.1 hq with h|h
 ·exact h1 q h
 ·exact h2 q h
set_option maxHeartbeats 2000000 in
theorem class_not {g d:Nat} {r r0:List Str} (w:World) (h:Rd w g r d) (hng:takeM [94] r=some r0) :
  Calls Tryz.prog 131 #[.pointer (some ⟨g,0,none⟩)] w fun e w'=>ResPost g d w.heap.size w (classM r) e w':=by
 obtain⟨R,hR⟩:∃R,classM r=R:=⟨_,rfl⟩;rw [hR];unfold classM at hR;obtain⟨R0,hR0⟩:∃R0,classL (r0.length+1) [] r0=R0:=⟨_,rfl⟩;simp only [hng,Option.isSome_some,Option.getD_some,hR0] at hR;have HNG:=Lib.hid hng;have HR0:=Lib.hid hR0;have HR:=Lib.hid hR;have hok0:=h.ok;clear hng hR0 hR;have hr0:r0.length≤200000:=by
  have e:=takeM_some HNG.out;have:=hok0.2
  rw [e] at this;simp at this;omega
 clear hok0;obtain⟨w0,hw0⟩:∃w0,w0=w.alloc (.cells #[.int .i64 0,.string ⟨#[]⟩,.bool false,.slice none 0 0,.int .i64 0,.int .i64 0,.bool false,.slice none 0 0] 34):=⟨_,rfl⟩;obtain⟨hb0,hz0,hby0⟩:=alloc1 w hw0;have HRD:=Lib.hid (h.later hb0);rw [hw0] at HRD;have HW0:=Lib.hid hw0;have HBY0:=Lib.hid hby0;have hgg:w.grownBy w0 (some g):=grown_of_below hb0 _;have hgr:g<w.heap.size:=h.lt;clear hw0 hby0 h;go_enter Tryz.func131,Tryz.ntmps131
 go_wp2_with (go_at_call 134;refine(take_some _ HRD.out HNG.out).mono ?_)
 rintro e w1 ⟨rfl,hrd1,hq1⟩;rw [←HW0.out] at hq1;have hg1:=grown_trans hgg hq1;have HBY1:=Lib.hid (box_grown HBY0.out hq1 (by omega));have hz1:=hq1.size;clear HRD hq1;obtain⟨w2,hw2⟩:∃w2,w2=w1.alloc (.cells #[.int .i64 4,.string ⟨#[]⟩,.bool true,.slice none 0 0,.int .i64 0,.int .i64 0,.bool false,.slice none 0 0] 34):=⟨_,rfl⟩;obtain⟨hb2,hz2e,hbx2⟩:=alloc1 w1 hw2;have hz2:w1.heap.size+1≤w2.heap.size:=by omega
 clear hz2e;have HRD2:=Lib.hid (hrd1.later hb2);have HBY2:=Lib.hid ((hb2.block _ (heap_lt HBY1.out)).trans HBY1.out);have HBX2:=Lib.hid hbx2;have hg2:=grown_trans hg1 (grown_of_below hb2 (some g));clear hrd1 hbx2;go_wp2_with fail
 rw [←hw2];clear hw2;go_loopg [5] (r0.length+1) (fun n v wr=>ClsRel g d w2.heap.size (4*r0.length) w2 R0 n v wr)
 case atStart=>exact⟨[],r0,World.ownsRow_nil _ _ _ _,HRD2.out,grown_refl _ _,by simp,by omega,by simp,HR0⟩
 case round =>
  clear HR0 HRD2;obtain⟨rows,r,hown,hrd,hg,hL,hn,hrl,HF⟩:=hrel;obtain⟨hok,hrlen⟩:=hrd.ok;obtain⟨n,rfl⟩:∃n',gk=n'+1:=⟨gk-1,by omega⟩;have HRD:=Lib.hid hrd;have hzr:=hg.size;cases ht:takeM [93] r with
  | some r1 =>
   have HF2:Hid (some (rows,r1)=R0):=Lib.hid (by rw [←HF.out];simp only [classL,ht]);have HT:=Lib.hid ht;have HOWN:=Lib.hid hown;have HRL:=Lib.hid hrl;clear HF ht hrd hown hrl hok;go_wp2_with (go_at_call 134;refine(take_some _ HRD.out HT.out).mono ?_)
   rintro e w3 ⟨rfl,hrd3,hq3⟩;have hgr3:=grown_trans hg hq3;have hgw3:=grown_trans hg2 hgr3;have hby3:=box_grown HBY2.out hgr3 (by omega);have hbx3:=box_grown HBX2.out hgr3 (by omega);have hown3:=own_grownG HOWN.out hq3 (by omega);obtain⟨va,vc,rfl⟩:=own_form hown3;have HUN:=Lib.hid (Union_res va rows.length vc rows w3 hown3 (by omega) HRL.out (by omega));have HRD3:=Lib.hid hrd3;have HBY3:=Lib.hid hby3;have HBX3:=Lib.hid hbx3;have hz3:=hgr3.size;clear hrd3 hq3 hgr3 hby3 hbx3 hown3 HOWN HRL;go_wp2_with (go_at_call 138;refine HUN.out.mono ?_)
   rintro e w4 hq4;obtain⟨ua,uc,rfl,hus,hb4⟩:=hq4;have hgw4:=grown_trans hgw3 (grown_of_below hb4 (some g));have hby4:=(hb4.block _ (heap_lt HBY3.out)).trans HBY3.out;have hbx4:=(hb4.block _ (heap_lt HBX3.out)).trans HBX3.out;have HRD4:=Lib.hid (HRD3.out.later hb4);have HR2:Hid (Except.ok (setR (unionM rows) true,r1)=R):=Lib.hid (by rw [←HR.out,←HF2.out]);have HR:=HR2;have hz4:=hb4.size;obtain⟨f0,f1,f2,f3,f4,f5,f6,f7,f8⟩:=bx_cells (c:=[]) hby4;obtain⟨e0,e1,e2,e3,e4,e5,e6,e7,e8⟩:=bx_cells (c:=[]) hbx4;have HUS:=Lib.hid (RxV.close (k:=4) (c:=[]) (ng:=true) (lo:=0) (hi:=0) (lz:=false) (rc:=uc) (ka:=none) (kc:=0) (ks:=[]) (hus.mono (S':=fun b=>w.heap.size≤b∧b≠w.heap.size∧b≠w1.heap.size) fun x hx _=>by omega) ⟨[],SlS.none_ _ _ _ _,.nil⟩);clear hby4 hbx4 hus;go_wp2
   refine bodyPost_ret (v:=.tuple #[.agg #[.int .i64 4,.string ⟨([]).toArray⟩,.bool true,.slice ua (unionM rows).length uc,.int .i64 0,.int .i64 0,.bool false,.slice none ([]:List Rx).length 0],.int .i64 0]) (by simp [results,Tryz.results131,go_sem,f0,f1,f2,f3,f4,f5,f6,f7]) rfl ?_;refine⟨?_,?_⟩
   ·iterate 9 (refine grown_setNew ?_ (by first|omega|(simp;done)|(simp;omega)) _)
    exact hgw4
   rw [←HR.out];refine⟨rxc 4 [] true ua (unionM rows).length uc 0 0 false none ([]:List Rx).length 0,rfl,RxV.mono (S:=fun b=>w.heap.size≤b∧b≠w.heap.size∧b≠w1.heap.size) (fun b hb _=>hb.1) ?_,?_⟩
   ·iterate 9 (refine RxV.keep (Kept.setLow _ (fun b hb=>by have:w.heap.size≤b∧b≠w.heap.size∧b≠w1.heap.size:=hb;first|omega|(simp;done)|(simp;omega))) ?_)
    exact HUS.out
   ·iterate 9 (refine RdT.setHi ?_ (by first|omega|(simp;done)|(simp;omega)) _)
    exact HRD4.out
  | none =>
   have HT:=Lib.hid ht;cases hit:itemM r with
   | none =>
    have HF2:Hid (none=R0):=Lib.hid (by rw [←HF.out];simp only [classL,ht,hit]);have HR2:Hid (Except.error 10=R):=Lib.hid (by rw [←HR.out,←HF2.out]);have HR:=HR2;have HIT:=Lib.hid hit;clear HF ht hit hrd hown hrl hok;go_wp2_with (go_at_call 134;refine(take_none _ HRD.out HT.out (by simp)).mono ?_)
    rintro e w3 ⟨rfl,hrd3,hq3⟩;have hgr3:=grown_trans hg hq3;have HRD3:=Lib.hid hrd3;clear hrd3 hq3;go_wp2_with (go_at_call 137;refine(item_any _ HRD3.out).mono ?_)
    rintro e w4 hq;have hq4:=hq.1;have hqe:=hq.2;rw [HIT.out] at hqe;obtain⟨hqe',r9,hrd9⟩:e=.returned (.tuple #[.string ⟨#[]⟩,.slice none 0 0,.int .i64 10])∧∃r,Rd w4 g r d:=hqe;subst hqe';have HRD9:=Lib.hid hrd9;clear hrd9;have hgr4:=grown_trans hgr3 hq4;have hgw4:=grown_trans hg2 hgr4;obtain⟨f0,f1,f2,f3,f4,f5,f6,f7,f8⟩:=bx_cells (c:=[]) (box_grown HBY2.out hgr4 (by omega));clear hq hq4;go_wp2
    refine bodyPost_ret (v:=.tuple #[.agg #[.int .i64 0,.string ⟨([]).toArray⟩,.bool false,.slice none 0 0,.int .i64 0,.int .i64 0,.bool false,.slice none 0 0],.int .i64 10]) (by simp [results,Tryz.results131,go_sem,f0,f1,f2,f3,f4,f5,f6,f7]) rfl ?_;refine⟨?_,?_⟩
    ·iterate 8 (refine grown_setNew ?_ (by first|omega|(simp;done)|(simp;omega)) _)
     exact hgw4
    ·rw [←HR.out]
     refine⟨rfl,?_⟩;iterate 8 (refine RdE.setHi ?_ (by first|omega|(simp;done)|(simp;omega)) _)
     exact⟨_,HRD9.out⟩
   | some y =>
    obtain⟨c,nm,r1⟩:=y;obtain⟨i1,i2,i3,i4,i5⟩:=item_facts hit hok;have HIT:=Lib.hid hit;have HI4:=Lib.hid i4;have HRL:=Lib.hid hrl;have HOWN:=Lib.hid hown;clear i4 hrl hown;by_cases hnm:nm=[]
    ·subst hnm
     cases ht2:takeM [45] r1 with
     | none =>
      have HF2:Hid (classL n (rows++[(c,c)]) r1=R0):=Lib.hid (by rw [←HF.out];simp only [classL,ht,hit,ht2];simp);have hne:=(takeM_none_hd ht2 (by simp)).1;obtain⟨u,hu⟩:∃u,hdS r1=u:=⟨_,rfl⟩;rw [hu] at hne;have HU:=Lib.hid hu;clear HF ht hit hrd hok ht2 hu;go_wp2_with (go_at_call 134;refine(take_none _ HRD.out HT.out (by simp)).mono ?_)
      rintro e w3 ⟨rfl,hrd3,hq3⟩;have hgr3:=grown_trans hg hq3;have hown3:=own_grownG HOWN.out hq3 (by omega);have HRD3:=Lib.hid hrd3;clear hrd3 hq3;go_wp2_with (go_at_call 137;refine(item_any _ HRD3.out).mono ?_)
      rintro e w4 hq;have hq4:=hq.1;have hqe:=hq.2;rw [HIT.out] at hqe;obtain⟨hrd4,hqe⟩:=hqe;rcases hqe with⟨_,rfl⟩|⟨q,_⟩
      case inr=>exact absurd rfl q
      have hgr4:=grown_trans hgr3 hq4;have hown4:=own_grownG hown3 hq4 (by omega);have hlt4:=hown4.lt;obtain⟨va,vc,rfl⟩:=own_form hown4;have hz4:=hgr4.size;obtain⟨w5,hw5⟩:∃w5,w5=w4.alloc (.cells #[.string ⟨(c).toArray⟩,.string ⟨(c).toArray⟩] 103):=⟨_,rfl⟩;obtain⟨hb5,hz5e,hbr5⟩:=alloc1 w4 hw5;have hz5:w4.heap.size+1≤w5.heap.size:=by omega
      have HOWN5:=Lib.hid (own_below hown4 hb5);have HRD5:=Lib.hid (hrd4.later hb5);have HBR5:=Lib.hid hbr5;have hgr5:=grown_trans hgr4 (grown_of_below hb5 (some g));clear hq hq4 hrd4 hown3 hown4 hz5e hbr5 HRD3;obtain⟨ir,hir⟩:=info_parts row_info;go_upto_region 10 with fail
      rw [←hw5];clear hw5;have HSEE:Hid (∀x:ExtOf w5,Calls Tryz.prog 90 #[.pointer (some ⟨g,0,none⟩)] x.val fun e w'=>e=.returned (.string ⟨(u).toArray⟩)∧Below x.val.heap.size x.val w'):=Lib.hid fun x=>(see_any _ (HRD5.out.later x.ext)).mono fun _ _ ⟨h1,h2⟩=>⟨by rw [h1,HU.out],h2.below _⟩
      refine wp_region_ext (by kernel_rfl) (by kernel_rfl) ?_;repeat (go_big_quiet_step ((go_at_call 90;exact ext_call (HSEE.out _))))
      refine wpQuiet_nil ?_;rintro _ ⟨xq,rfl⟩;have hrowq:=(xq.ext.block _ (heap_lt HBR5.out)).trans HBR5.out;have hownq:=own_below HOWN5.out xq.ext;have hrdq:=HRD5.out.later xq.ext;have hgrq:=grown_trans hgr5 (grown_of_below xq.ext (some g));generalize xq.val=wq at *
      clear HSEE HU hne;have hrc0:(wq).cell? ⟨w4.heap.size,0,none⟩=some (.string ⟨(c).toArray⟩):=by rw [Lib.cell_of_heap hrowq];rfl
      have hrc1:(wq).cell? ⟨w4.heap.size,1,none⟩=some (.string ⟨(c).toArray⟩):=by rw [Lib.cell_of_heap hrowq];rfl
      have hbn:Below (wq).heap.size (wq) ((wq).alloc (.cells #[.string ⟨(c).toArray⟩,.string ⟨(c).toArray⟩] 103)):=(Below.refl _ _).alloc (Nat.le_refl _) _;have HO6:=Lib.hid (own_below hownq hbn);have hsl6:Sl ((wq).alloc (.cells #[.string ⟨(c).toArray⟩,.string ⟨(c).toArray⟩] 103)) ((wq).alloc (.cells #[.string ⟨(c).toArray⟩,.string ⟨(c).toArray⟩] 103)).heap.size (some ⟨wq.heap.size,0,none⟩) 2 1 (rcells [(c,c)]):=by
       rw [show wq.heap.size=(wq).heap.size from by first|rfl|simp [World.setCell]];exact Sl.lit (n:=1) (sz:=2) (heap_alloc_new (wq) (.cells #[.string ⟨(c).toArray⟩,.string ⟨(c).toArray⟩] 103)) rfl
      have HSL6:=Lib.hid hsl6;clear hsl6;have HRD6:=Lib.hid (hrdq.later hbn);have hgr6:=grown_trans hgrq (grown_of_below hbn (some g));have hz6:=hgr6.size;clear hrowq hownq hrdq hgrq hbn;go_wp2_with (at_builtin;refine wpList_appM w2.heap.size 103 rfl _ _ 31 rfl Tryz.underlying31 hir rfl (by decide) rfl (HO6.out) rfl (HSL6.out) (rcells_one [(c,c)]) (by omega) (by omega) (by decide) hz6 ?_)
      intro v7 w7 hown7 hq7 hb7 _;have hown8:w7.ownsRow w2.heap.size 103 2 v7 (rows++[(c,c)]).length (rcells (rows++[(c,c)])):=by
       rw [List.length_append,show rcells (rows++[(c,c)])=rcells rows++rcells [(c,c)] from by simp [rcells]];exact hown7
      have hrd7:=HRD6.out.grownHi hq7 (fun k hk=>by have:=(hlt4 k hk).1;omega);have hgr7:w2.grownBy w7 (some g):=cls_grown hgr6 hb7 (by omega);have hrl7:=rows_app (nm:=[(c,c)]) HRL.out (by simp;omega);clear hown7 hq7 hb7;go_wp2
      go_roundg n
      case measure=>omega
      case rel=>exact⟨rows++[(c,c)],r1,hown8,hrd7,hgr7,by simp at *;omega,by simp at *;omega,hrl7,HF2⟩
     | some r2 =>
      have er1:=takeM_some ht2;subst er1;cases r2 with
      | nil =>
       have HF2:Hid (none=R0):=Lib.hid (by rw [←HF.out];simp only [classL,ht,hit,ht2];simp [takeM,itemM]);have HR2:Hid (Except.error 10=R):=Lib.hid (by rw [←HR.out,←HF2.out]);clear HR;have HR:=HR2;clear HF ht hit hrd hok ht2;go_wp2_with (go_at_call 134;refine(take_none _ HRD.out HT.out (by simp)).mono ?_)
       rintro e w3 ⟨rfl,hrd3,hq3⟩;have hgr3:=grown_trans hg hq3;have hown3:=own_grownG HOWN.out hq3 (by omega);have HRD3:=Lib.hid hrd3;clear hrd3 hq3;go_wp2_with (go_at_call 137;refine(item_any _ HRD3.out).mono ?_)
       rintro e w4 hq;have hq4:=hq.1;have hqe:=hq.2;rw [HIT.out] at hqe;obtain⟨hrd4,hqe⟩:=hqe;rcases hqe with⟨_,rfl⟩|⟨q,_⟩
       case inr=>exact absurd rfl q
       have hgr4:=grown_trans hgr3 hq4;have hown4:=own_grownG hown3 hq4 (by omega);have hlt4:=hown4.lt;obtain⟨va,vc,rfl⟩:=own_form hown4;have hz4:=hgr4.size;obtain⟨w5,hw5⟩:∃w5,w5=w4.alloc (.cells #[.string ⟨(c).toArray⟩,.string ⟨(c).toArray⟩] 103):=⟨_,rfl⟩;obtain⟨hb5,hz5e,hbr5⟩:=alloc1 w4 hw5;have hz5:w4.heap.size+1≤w5.heap.size:=by omega
       have HOWN5:=Lib.hid (own_below hown4 hb5);have HRD5:=Lib.hid (hrd4.later hb5);have HBR5:=Lib.hid hbr5;have hgr5:=grown_trans hgr4 (grown_of_below hb5 (some g));clear hq hq4 hrd4 hown3 hown4 hz5e hbr5 HRD3;obtain⟨ir,hir⟩:=info_parts row_info;go_upto_region 10 with fail
       rw [←hw5];clear hw5;obtain⟨la,lk,li,ln,l0,l1,l2,l3⟩:=HRD5.out.look0;have HSEE:Hid (∀x:ExtOf w5,Calls Tryz.prog 90 #[.pointer (some ⟨g,0,none⟩)] x.val fun e w'=>e=.returned (.string ⟨(([45]:Str)).toArray⟩)∧Below x.val.heap.size x.val w'):=Lib.hid fun x=>(see_any _ (HRD5.out.later x.ext)).mono fun _ _ ⟨h1,h2⟩=>⟨by rw [h1];rfl,h2.below _⟩
       have d0:∀x:ExtOf w5,x.val.cell? ⟨g,0,none⟩=some (.slice la ln lk):=ExtOf.cell l0;have d1:∀x:ExtOf w5,x.val.cell? ⟨g,1,none⟩=some (.int .i64 li):=ExtOf.cell l1;have gg:decide (ln≤li+1)=true:=by simp;omega
       have gg2:decide ((ln:Int)≤(li:Int)+1)=true:=by simp;omega
       have gw:IntKind.i64.wrap ((li:Int)+1)=(li:Int)+1:=IntWalk.i64_in _ (by omega);clear l0 l1;refine wp_region_ext (by kernel_rfl) (by kernel_rfl) ?_;repeat (go_big_quiet_step ((go_at_call 90;exact ext_call (HSEE.out _))))
       refine wpQuiet_nil ?_;rintro _ ⟨xq,rfl⟩;have hbyq:=(xq.ext.block _ (heap_lt (box_grown HBY2.out hgr5 (by omega)))).trans (box_grown HBY2.out hgr5 (by omega));have hrdq:=HRD5.out.later xq.ext;have hgrq:=grown_trans hgr5 (grown_of_below xq.ext (some g));generalize xq.val=wq at *
       clear HSEE gg gg2 gw;obtain⟨i,hi9,c1,hf,hr6⟩:=hrdq.step;have HRD6:=Lib.hid hr6;have hgr6:=grown_set hgrq 1 (.int .i64 ((i:Int)+1));have hbyq2:=box_other hbyq (a:=⟨g,1,none⟩) (by first|omega|(simp;done)|(simp;omega)) (.int .i64 ((i:Int)+1));clear hrdq hr6 hbyq;go_wp2_with (go_at_call 137;refine(item_any _ HRD6.out).mono ?_)
       rintro e w7 hq;have hq7:=hq.1;obtain⟨hqe',r9,hrd9⟩:e=.returned (.tuple #[.string ⟨#[]⟩,.slice none 0 0,.int .i64 10])∧∃r,Rd w7 g r d:=hq.2;subst hqe';have HRD9:=Lib.hid hrd9;clear hrd9;have hgr7:=grown_trans hgr6 hq7;have hgw7:=grown_trans hg2 hgr7;obtain⟨f0,f1,f2,f3,f4,f5,f6,f7,f8⟩:=bx_cells (c:=[]) (box_grown hbyq2 hq7 (by omega));clear hq hq7 hbyq2;go_wp2
       refine bodyPost_ret (v:=.tuple #[.agg #[.int .i64 0,.string ⟨([]).toArray⟩,.bool false,.slice none 0 0,.int .i64 0,.int .i64 0,.bool false,.slice none 0 0],.int .i64 10]) (by simp [results,Tryz.results131,go_sem,f0,f1,f2,f3,f4,f5,f6,f7]) rfl ?_;refine⟨?_,?_⟩
       ·iterate 8 (refine grown_setNew ?_ (by first|omega|(simp;done)|(simp;omega)) _)
        exact hgw7
       ·rw [←HR.out]
        refine⟨rfl,?_⟩;iterate 8 (refine RdE.setHi ?_ (by first|omega|(simp;done)|(simp;omega)) _)
        exact⟨_,HRD9.out⟩
      | cons c3 r3 =>
       by_cases h93:c3=[93]
       ·subst h93
        have HF2:Hid (classL n (rows++[(c,c)]) ([45]::[93]::r3)=R0):=Lib.hid (by rw [←HF.out];simp only [classL,ht,hit,ht2];simp [takeM]);clear HF ht hit hrd hok ht2;go_wp2_with (go_at_call 134;refine(take_none _ HRD.out HT.out (by simp)).mono ?_)
        rintro e w3 ⟨rfl,hrd3,hq3⟩;have hgr3:=grown_trans hg hq3;have hown3:=own_grownG HOWN.out hq3 (by omega);have HRD3:=Lib.hid hrd3;clear hrd3 hq3;go_wp2_with (go_at_call 137;refine(item_any _ HRD3.out).mono ?_)
        rintro e w4 hq;have hq4:=hq.1;have hqe:=hq.2;rw [HIT.out] at hqe;obtain⟨hrd4,hqe⟩:=hqe;rcases hqe with⟨_,rfl⟩|⟨q,_⟩
        case inr=>exact absurd rfl q
        have hgr4:=grown_trans hgr3 hq4;have hown4:=own_grownG hown3 hq4 (by omega);have hlt4:=hown4.lt;obtain⟨va,vc,rfl⟩:=own_form hown4;have hz4:=hgr4.size;obtain⟨w5,hw5⟩:∃w5,w5=w4.alloc (.cells #[.string ⟨(c).toArray⟩,.string ⟨(c).toArray⟩] 103):=⟨_,rfl⟩;obtain⟨hb5,hz5e,hbr5⟩:=alloc1 w4 hw5;have hz5:w4.heap.size+1≤w5.heap.size:=by omega
        have HOWN5:=Lib.hid (own_below hown4 hb5);have HRD5:=Lib.hid (hrd4.later hb5);have HBR5:=Lib.hid hbr5;have hgr5:=grown_trans hgr4 (grown_of_below hb5 (some g));clear hq hq4 hrd4 hown3 hown4 hz5e hbr5 HRD3;obtain⟨ir,hir⟩:=info_parts row_info;go_upto_region 10 with fail
        rw [←hw5];clear hw5;obtain⟨lb,lo,lk,li,ln,l0,l1,l2,l3,l4⟩:=HRD5.out.look1;have HSEE:Hid (∀x:ExtOf w5,Calls Tryz.prog 90 #[.pointer (some ⟨g,0,none⟩)] x.val fun e w'=>e=.returned (.string ⟨(([45]:Str)).toArray⟩)∧Below x.val.heap.size x.val w'):=Lib.hid fun x=>(see_any _ (HRD5.out.later x.ext)).mono fun _ _ ⟨h1,h2⟩=>⟨by rw [h1];rfl,h2.below _⟩
        have d0:∀x:ExtOf w5,x.val.cell? ⟨g,0,none⟩=some (.slice (some ⟨lb,lo,none⟩) ln lk):=ExtOf.cell l0;have d1:∀x:ExtOf w5,x.val.cell? ⟨g,1,none⟩=some (.int .i64 li):=ExtOf.cell l1;have d2:∀x:ExtOf w5,x.val.cell? ⟨lb,lo+(li+1),none⟩=some (.string ⟨([93]).toArray⟩):=ExtOf.cell l4;have gg:decide (ln≤li+1)=false:=by simp;omega
        have gg2:decide ((ln:Int)≤(li:Int)+1)=false:=by simp;omega
        have gn:((li:Int)+1).toNat=li+1:=by omega
        have gn0:(0:Int)≤(li:Int)+1:=by omega
        have gn1:(li:Int)+1<(ln:Int):=by omega
        have gw:IntKind.i64.wrap ((li:Int)+1)=(li:Int)+1:=IntWalk.i64_in _ (by omega);clear l0 l1 l4;refine wp_region_ext (by kernel_rfl) (by kernel_rfl) ?_;repeat (go_big_quiet_step ((go_at_call 90;exact ext_call (HSEE.out _))))
        refine wpQuiet_nil ?_;rintro _ ⟨xq,rfl⟩;clear d0 d1 d2 gg gg2 gn gn0 gn1 gw;have hrowq:=(xq.ext.block _ (heap_lt HBR5.out)).trans HBR5.out;have hownq:=own_below HOWN5.out xq.ext;have hrdq:=HRD5.out.later xq.ext;have hgrq:=grown_trans hgr5 (grown_of_below xq.ext (some g));generalize xq.val=wq at *
        clear HSEE;have hrc0:(wq).cell? ⟨w4.heap.size,0,none⟩=some (.string ⟨(c).toArray⟩):=by rw [Lib.cell_of_heap hrowq];rfl
        have hrc1:(wq).cell? ⟨w4.heap.size,1,none⟩=some (.string ⟨(c).toArray⟩):=by rw [Lib.cell_of_heap hrowq];rfl
        have hbn:Below (wq).heap.size (wq) ((wq).alloc (.cells #[.string ⟨(c).toArray⟩,.string ⟨(c).toArray⟩] 103)):=(Below.refl _ _).alloc (Nat.le_refl _) _;have HO6:=Lib.hid (own_below hownq hbn);have hsl6:Sl ((wq).alloc (.cells #[.string ⟨(c).toArray⟩,.string ⟨(c).toArray⟩] 103)) ((wq).alloc (.cells #[.string ⟨(c).toArray⟩,.string ⟨(c).toArray⟩] 103)).heap.size (some ⟨wq.heap.size,0,none⟩) 2 1 (rcells [(c,c)]):=by
         rw [show wq.heap.size=(wq).heap.size from by first|rfl|simp [World.setCell]];exact Sl.lit (n:=1) (sz:=2) (heap_alloc_new (wq) (.cells #[.string ⟨(c).toArray⟩,.string ⟨(c).toArray⟩] 103)) rfl
        have HSL6:=Lib.hid hsl6;clear hsl6;have HRD6:=Lib.hid (hrdq.later hbn);have hgr6:=grown_trans hgrq (grown_of_below hbn (some g));have hz6:=hgr6.size;clear hrowq hownq hrdq hgrq hbn;go_wp2_with (at_builtin;refine wpList_appM w2.heap.size 103 rfl _ _ 31 rfl Tryz.underlying31 hir rfl (by decide) rfl (HO6.out) rfl (HSL6.out) (rcells_one [(c,c)]) (by omega) (by omega) (by decide) hz6 ?_)
        intro v7 w7 hown7 hq7 hb7 _;have hown8:w7.ownsRow w2.heap.size 103 2 v7 (rows++[(c,c)]).length (rcells (rows++[(c,c)])):=by
         rw [List.length_append,show rcells (rows++[(c,c)])=rcells rows++rcells [(c,c)] from by simp [rcells]];exact hown7
        have hrd7:=HRD6.out.grownHi hq7 (fun k hk=>by have:=(hlt4 k hk).1;omega);have hgr7:w2.grownBy w7 (some g):=cls_grown hgr6 hb7 (by omega);have hrl7:=rows_app (nm:=[(c,c)]) HRL.out (by simp;omega);clear hown7 hq7 hb7;go_wp2
        go_roundg n
        case measure=>omega
        case rel=>exact⟨rows++[(c,c)],([45]::[93]::r3),hown8,hrd7,hgr7,by simp at *;omega,by simp at *;omega,hrl7,HF2⟩
       ·have ht3:takeM [93] (c3::r3)=none:=by rw [takeM,if_neg h93]
        have g93:(c3==[93])=false:=beq_eq_false_iff_ne.2 h93;have g93':(c3 != [93])=true:=by simp [bne,g93]
        cases hit2:itemM (c3::r3) with
        | none =>
         have HF2:Hid (none=R0):=Lib.hid (by rw [←HF.out];simp only [classL,ht,hit,ht2,ht3,hit2];simp);have HR2:Hid (Except.error 10=R):=Lib.hid (by rw [←HR.out,←HF2.out]);clear HR;have HR:=HR2;have HIT2:=Lib.hid hit2;clear HF ht hit hrd hok ht2 ht3 hit2 h93;go_wp2_with (go_at_call 134;refine(take_none _ HRD.out HT.out (by simp)).mono ?_)
         rintro e w3 ⟨rfl,hrd3,hq3⟩;have hgr3:=grown_trans hg hq3;have hown3:=own_grownG HOWN.out hq3 (by omega);have HRD3:=Lib.hid hrd3;clear hrd3 hq3;go_wp2_with (go_at_call 137;refine(item_any _ HRD3.out).mono ?_)
         rintro e w4 hq;have hq4:=hq.1;have hqe:=hq.2;rw [HIT.out] at hqe;obtain⟨hrd4,hqe⟩:=hqe;rcases hqe with⟨_,rfl⟩|⟨q,_⟩
         case inr=>exact absurd rfl q
         have hgr4:=grown_trans hgr3 hq4;have hown4:=own_grownG hown3 hq4 (by omega);have hlt4:=hown4.lt;obtain⟨va,vc,rfl⟩:=own_form hown4;have hz4:=hgr4.size;obtain⟨w5,hw5⟩:∃w5,w5=w4.alloc (.cells #[.string ⟨(c).toArray⟩,.string ⟨(c).toArray⟩] 103):=⟨_,rfl⟩;obtain⟨hb5,hz5e,hbr5⟩:=alloc1 w4 hw5;have hz5:w4.heap.size+1≤w5.heap.size:=by omega
         have HOWN5:=Lib.hid (own_below hown4 hb5);have HRD5:=Lib.hid (hrd4.later hb5);have HBR5:=Lib.hid hbr5;have hgr5:=grown_trans hgr4 (grown_of_below hb5 (some g));clear hq hq4 hrd4 hown3 hown4 hz5e hbr5 HRD3;obtain⟨ir,hir⟩:=info_parts row_info;go_upto_region 10 with fail
         rw [←hw5];clear hw5;obtain⟨lb,lo,lk,li,ln,l0,l1,l2,l3,l4⟩:=HRD5.out.look1;have HSEE:Hid (∀x:ExtOf w5,Calls Tryz.prog 90 #[.pointer (some ⟨g,0,none⟩)] x.val fun e w'=>e=.returned (.string ⟨(([45]:Str)).toArray⟩)∧Below x.val.heap.size x.val w'):=Lib.hid fun x=>(see_any _ (HRD5.out.later x.ext)).mono fun _ _ ⟨h1,h2⟩=>⟨by rw [h1];rfl,h2.below _⟩
         have d0:∀x:ExtOf w5,x.val.cell? ⟨g,0,none⟩=some (.slice (some ⟨lb,lo,none⟩) ln lk):=ExtOf.cell l0;have d1:∀x:ExtOf w5,x.val.cell? ⟨g,1,none⟩=some (.int .i64 li):=ExtOf.cell l1;have d2:∀x:ExtOf w5,x.val.cell? ⟨lb,lo+(li+1),none⟩=some (.string ⟨(c3).toArray⟩):=ExtOf.cell l4;have gg:decide (ln≤li+1)=false:=by simp;omega
         have gg2:decide ((ln:Int)≤(li:Int)+1)=false:=by simp;omega
         have gn:((li:Int)+1).toNat=li+1:=by omega
         have gn0:(0:Int)≤(li:Int)+1:=by omega
         have gn1:(li:Int)+1<(ln:Int):=by omega
         have gw:IntKind.i64.wrap ((li:Int)+1)=(li:Int)+1:=IntWalk.i64_in _ (by omega);clear l0 l1 l4;refine wp_region_ext (by kernel_rfl) (by kernel_rfl) ?_;repeat (go_big_quiet_step ((go_at_call 90;exact ext_call (HSEE.out _))))
         refine wpQuiet_nil ?_;rintro _ ⟨xq,rfl⟩;clear d0 d1 d2 gg gg2 gn gn0 gn1 gw;have hbyq:=(xq.ext.block _ (heap_lt (box_grown HBY2.out hgr5 (by omega)))).trans (box_grown HBY2.out hgr5 (by omega));have hrowq:=(xq.ext.block _ (heap_lt HBR5.out)).trans HBR5.out;have hownq:=own_below HOWN5.out xq.ext;have hrdq:=HRD5.out.later xq.ext;have hgrq:=grown_trans hgr5 (grown_of_below xq.ext (some g));generalize xq.val=wq at *
         clear HSEE;obtain⟨i,hi9,c1,hf,hr6⟩:=hrdq.step;have HRD6:=Lib.hid hr6;have hgr6:=grown_set hgrq 1 (.int .i64 ((i:Int)+1));have HBYQ:=Lib.hid (box_other hbyq (a:=⟨g,1,none⟩) (by first|omega|(simp;done)|(simp;omega)) (.int .i64 ((i:Int)+1)));have HROWQ:=Lib.hid (box_other hrowq (a:=⟨g,1,none⟩) (by first|omega|(simp;done)|(simp;omega)) (.int .i64 ((i:Int)+1)));have HOWNQ:=Lib.hid (own_setLow hownq (a:=⟨g,1,none⟩) (by first|omega|(simp;done)|(simp;omega)) (.int .i64 ((i:Int)+1)));clear hrdq hr6 hbyq hrowq hownq hgrq;go_wp2_with (go_at_call 137;refine(item_any _ HRD6.out).mono ?_)
         rintro e w7 hq;have hq7:=hq.1;have hqe:=hq.2;rw [HIT2.out] at hqe;have hgr7:=grown_trans hgr6 hq7;have hgw7:=grown_trans hg2 hgr7;have hby7:=box_grown HBYQ.out hq7 (by omega);have hrow7:=box_grown HROWQ.out hq7 (by omega);have hown7:=own_grownG HOWNQ.out hq7 (by omega);obtain⟨f0,f1,f2,f3,f4,f5,f6,f7,f8⟩:=bx_cells (c:=[]) hby7;obtain⟨hqe',r9,hrd9⟩:e=.returned (.tuple #[.string ⟨#[]⟩,.slice none 0 0,.int .i64 10])∧∃r,Rd w7 g r d:=hqe;subst hqe';have HRD9:=Lib.hid hrd9;clear hq hq7 hby7 hrow7 hown7 hrd9;go_wp2
         refine bodyPost_ret (v:=.tuple #[.agg #[.int .i64 0,.string ⟨([]).toArray⟩,.bool false,.slice none 0 0,.int .i64 0,.int .i64 0,.bool false,.slice none 0 0],.int .i64 10]) (by simp [results,Tryz.results131,go_sem,f0,f1,f2,f3,f4,f5,f6,f7]) rfl ?_;refine⟨?_,?_⟩
         ·iterate 8 (refine grown_setNew ?_ (by first|omega|(simp;done)|(simp;omega)) _)
          exact hgw7
         ·rw [←HR.out]
          refine⟨rfl,?_⟩;iterate 8 (refine RdE.setHi ?_ (by first|omega|(simp;done)|(simp;omega)) _)
          exact⟨_,HRD9.out⟩
        | some y =>
         obtain⟨t,nm2,r4⟩:=y;obtain⟨j1,j2,j3,j4,j5⟩:=item_facts hit2 i5.tail;have HIT2:=Lib.hid hit2;clear j4;by_cases hnm2:nm2=[]
         ·subst hnm2
          cases hlt:Op.bytesLess t c with
          | true =>
           have HF2:Hid (none=R0):=Lib.hid (by rw [←HF.out];simp only [classL,ht,hit,ht2,ht3,hit2,hlt];simp);have HR2:Hid (Except.error 10=R):=Lib.hid (by rw [←HR.out,←HF2.out]);clear HR;have HR:=HR2;clear HF ht hit hrd hok ht2 ht3 hit2 h93;go_wp2_with (go_at_call 134;refine(take_none _ HRD.out HT.out (by simp)).mono ?_)
           rintro e w3 ⟨rfl,hrd3,hq3⟩;have hgr3:=grown_trans hg hq3;have hown3:=own_grownG HOWN.out hq3 (by omega);have HRD3:=Lib.hid hrd3;clear hrd3 hq3;go_wp2_with (go_at_call 137;refine(item_any _ HRD3.out).mono ?_)
           rintro e w4 hq;have hq4:=hq.1;have hqe:=hq.2;rw [HIT.out] at hqe;obtain⟨hrd4,hqe⟩:=hqe;rcases hqe with⟨_,rfl⟩|⟨q,_⟩
           case inr=>exact absurd rfl q
           have hgr4:=grown_trans hgr3 hq4;have hown4:=own_grownG hown3 hq4 (by omega);have hlt4:=hown4.lt;obtain⟨va,vc,rfl⟩:=own_form hown4;have hz4:=hgr4.size;obtain⟨w5,hw5⟩:∃w5,w5=w4.alloc (.cells #[.string ⟨(c).toArray⟩,.string ⟨(c).toArray⟩] 103):=⟨_,rfl⟩;obtain⟨hb5,hz5e,hbr5⟩:=alloc1 w4 hw5;have hz5:w4.heap.size+1≤w5.heap.size:=by omega
           have HOWN5:=Lib.hid (own_below hown4 hb5);have HRD5:=Lib.hid (hrd4.later hb5);have HBR5:=Lib.hid hbr5;have hgr5:=grown_trans hgr4 (grown_of_below hb5 (some g));clear hq hq4 hrd4 hown3 hown4 hz5e hbr5 HRD3;obtain⟨ir,hir⟩:=info_parts row_info;go_upto_region 10 with fail
           rw [←hw5];clear hw5;obtain⟨lb,lo,lk,li,ln,l0,l1,l2,l3,l4⟩:=HRD5.out.look1;have HSEE:Hid (∀x:ExtOf w5,Calls Tryz.prog 90 #[.pointer (some ⟨g,0,none⟩)] x.val fun e w'=>e=.returned (.string ⟨(([45]:Str)).toArray⟩)∧Below x.val.heap.size x.val w'):=Lib.hid fun x=>(see_any _ (HRD5.out.later x.ext)).mono fun _ _ ⟨h1,h2⟩=>⟨by rw [h1];rfl,h2.below _⟩
           have d0:∀x:ExtOf w5,x.val.cell? ⟨g,0,none⟩=some (.slice (some ⟨lb,lo,none⟩) ln lk):=ExtOf.cell l0;have d1:∀x:ExtOf w5,x.val.cell? ⟨g,1,none⟩=some (.int .i64 li):=ExtOf.cell l1;have d2:∀x:ExtOf w5,x.val.cell? ⟨lb,lo+(li+1),none⟩=some (.string ⟨(c3).toArray⟩):=ExtOf.cell l4;have gg:decide (ln≤li+1)=false:=by simp;omega
           have gg2:decide ((ln:Int)≤(li:Int)+1)=false:=by simp;omega
           have gn:((li:Int)+1).toNat=li+1:=by omega
           have gn0:(0:Int)≤(li:Int)+1:=by omega
           have gn1:(li:Int)+1<(ln:Int):=by omega
           have gw:IntKind.i64.wrap ((li:Int)+1)=(li:Int)+1:=IntWalk.i64_in _ (by omega);clear l0 l1 l4;refine wp_region_ext (by kernel_rfl) (by kernel_rfl) ?_;repeat (go_big_quiet_step ((go_at_call 90;exact ext_call (HSEE.out _))))
           refine wpQuiet_nil ?_;rintro _ ⟨xq,rfl⟩;clear d0 d1 d2 gg gg2 gn gn0 gn1 gw;have hbyq:=(xq.ext.block _ (heap_lt (box_grown HBY2.out hgr5 (by omega)))).trans (box_grown HBY2.out hgr5 (by omega));have hrowq:=(xq.ext.block _ (heap_lt HBR5.out)).trans HBR5.out;have hownq:=own_below HOWN5.out xq.ext;have hrdq:=HRD5.out.later xq.ext;have hgrq:=grown_trans hgr5 (grown_of_below xq.ext (some g));generalize xq.val=wq at *
           clear HSEE;obtain⟨i,hi9,c1,hf,hr6⟩:=hrdq.step;have HRD6:=Lib.hid hr6;have hgr6:=grown_set hgrq 1 (.int .i64 ((i:Int)+1));have HBYQ:=Lib.hid (box_other hbyq (a:=⟨g,1,none⟩) (by first|omega|(simp;done)|(simp;omega)) (.int .i64 ((i:Int)+1)));have HROWQ:=Lib.hid (box_other hrowq (a:=⟨g,1,none⟩) (by first|omega|(simp;done)|(simp;omega)) (.int .i64 ((i:Int)+1)));have HOWNQ:=Lib.hid (own_setLow hownq (a:=⟨g,1,none⟩) (by first|omega|(simp;done)|(simp;omega)) (.int .i64 ((i:Int)+1)));clear hrdq hr6 hbyq hrowq hownq hgrq;go_wp2_with (go_at_call 137;refine(item_any _ HRD6.out).mono ?_)
           rintro e w7 hq;have hq7:=hq.1;have hqe:=hq.2;rw [HIT2.out] at hqe;have hgr7:=grown_trans hgr6 hq7;have hgw7:=grown_trans hg2 hgr7;have hby7:=box_grown HBYQ.out hq7 (by omega);have hrow7:=box_grown HROWQ.out hq7 (by omega);have hown7:=own_grownG HOWNQ.out hq7 (by omega);obtain⟨f0,f1,f2,f3,f4,f5,f6,f7,f8⟩:=bx_cells (c:=[]) hby7;obtain⟨hrd7,hqe⟩:=hqe;rcases hqe with⟨_,rfl⟩|⟨q,_⟩
           case inr=>exact absurd rfl q
           have HRD9:=Lib.hid hrd7;clear hq hq7 hby7 hrow7 hown7 hrd7;go_wp2
           refine bodyPost_ret (v:=.tuple #[.agg #[.int .i64 0,.string ⟨([]).toArray⟩,.bool false,.slice none 0 0,.int .i64 0,.int .i64 0,.bool false,.slice none 0 0],.int .i64 10]) (by simp [results,Tryz.results131,go_sem,f0,f1,f2,f3,f4,f5,f6,f7]) rfl ?_;refine⟨?_,?_⟩
           ·iterate 8 (refine grown_setNew ?_ (by first|omega|(simp;done)|(simp;omega)) _)
            exact hgw7
           ·rw [←HR.out]
            refine⟨rfl,?_⟩;iterate 8 (refine RdE.setHi ?_ (by first|omega|(simp;done)|(simp;omega)) _)
            exact⟨_,HRD9.out⟩
          | false =>
           have HF2:Hid (classL n (rows++[(c,t)]) r4=R0):=Lib.hid (by rw [←HF.out];simp only [classL,ht,hit,ht2,ht3,hit2,hlt];simp);clear HF ht hit hrd hok ht2 ht3 hit2 h93;go_wp2_with (go_at_call 134;refine(take_none _ HRD.out HT.out (by simp)).mono ?_)
           rintro e w3 ⟨rfl,hrd3,hq3⟩;have hgr3:=grown_trans hg hq3;have hown3:=own_grownG HOWN.out hq3 (by omega);have HRD3:=Lib.hid hrd3;clear hrd3 hq3;go_wp2_with (go_at_call 137;refine(item_any _ HRD3.out).mono ?_)
           rintro e w4 hq;have hq4:=hq.1;have hqe:=hq.2;rw [HIT.out] at hqe;obtain⟨hrd4,hqe⟩:=hqe;rcases hqe with⟨_,rfl⟩|⟨q,_⟩
           case inr=>exact absurd rfl q
           have hgr4:=grown_trans hgr3 hq4;have hown4:=own_grownG hown3 hq4 (by omega);have hlt4:=hown4.lt;obtain⟨va,vc,rfl⟩:=own_form hown4;have hz4:=hgr4.size;obtain⟨w5,hw5⟩:∃w5,w5=w4.alloc (.cells #[.string ⟨(c).toArray⟩,.string ⟨(c).toArray⟩] 103):=⟨_,rfl⟩;obtain⟨hb5,hz5e,hbr5⟩:=alloc1 w4 hw5;have hz5:w4.heap.size+1≤w5.heap.size:=by omega
           have HOWN5:=Lib.hid (own_below hown4 hb5);have HRD5:=Lib.hid (hrd4.later hb5);have HBR5:=Lib.hid hbr5;have hgr5:=grown_trans hgr4 (grown_of_below hb5 (some g));clear hq hq4 hrd4 hown3 hown4 hz5e hbr5 HRD3;obtain⟨ir,hir⟩:=info_parts row_info;go_upto_region 10 with fail
           rw [←hw5];clear hw5;obtain⟨lb,lo,lk,li,ln,l0,l1,l2,l3,l4⟩:=HRD5.out.look1;have HSEE:Hid (∀x:ExtOf w5,Calls Tryz.prog 90 #[.pointer (some ⟨g,0,none⟩)] x.val fun e w'=>e=.returned (.string ⟨(([45]:Str)).toArray⟩)∧Below x.val.heap.size x.val w'):=Lib.hid fun x=>(see_any _ (HRD5.out.later x.ext)).mono fun _ _ ⟨h1,h2⟩=>⟨by rw [h1];rfl,h2.below _⟩
           have d0:∀x:ExtOf w5,x.val.cell? ⟨g,0,none⟩=some (.slice (some ⟨lb,lo,none⟩) ln lk):=ExtOf.cell l0;have d1:∀x:ExtOf w5,x.val.cell? ⟨g,1,none⟩=some (.int .i64 li):=ExtOf.cell l1;have d2:∀x:ExtOf w5,x.val.cell? ⟨lb,lo+(li+1),none⟩=some (.string ⟨(c3).toArray⟩):=ExtOf.cell l4;have gg:decide (ln≤li+1)=false:=by simp;omega
           have gg2:decide ((ln:Int)≤(li:Int)+1)=false:=by simp;omega
           have gn:((li:Int)+1).toNat=li+1:=by omega
           have gn0:(0:Int)≤(li:Int)+1:=by omega
           have gn1:(li:Int)+1<(ln:Int):=by omega
           have gw:IntKind.i64.wrap ((li:Int)+1)=(li:Int)+1:=IntWalk.i64_in _ (by omega);clear l0 l1 l4;refine wp_region_ext (by kernel_rfl) (by kernel_rfl) ?_;repeat (go_big_quiet_step ((go_at_call 90;exact ext_call (HSEE.out _))))
           refine wpQuiet_nil ?_;rintro _ ⟨xq,rfl⟩;clear d0 d1 d2 gg gg2 gn gn0 gn1 gw;have hbyq:=(xq.ext.block _ (heap_lt (box_grown HBY2.out hgr5 (by omega)))).trans (box_grown HBY2.out hgr5 (by omega));have hrowq:=(xq.ext.block _ (heap_lt HBR5.out)).trans HBR5.out;have hownq:=own_below HOWN5.out xq.ext;have hrdq:=HRD5.out.later xq.ext;have hgrq:=grown_trans hgr5 (grown_of_below xq.ext (some g));generalize xq.val=wq at *
           clear HSEE;obtain⟨i,hi9,c1,hf,hr6⟩:=hrdq.step;have HRD6:=Lib.hid hr6;have hgr6:=grown_set hgrq 1 (.int .i64 ((i:Int)+1));have HBYQ:=Lib.hid (box_other hbyq (a:=⟨g,1,none⟩) (by first|omega|(simp;done)|(simp;omega)) (.int .i64 ((i:Int)+1)));have HROWQ:=Lib.hid (box_other hrowq (a:=⟨g,1,none⟩) (by first|omega|(simp;done)|(simp;omega)) (.int .i64 ((i:Int)+1)));have HOWNQ:=Lib.hid (own_setLow hownq (a:=⟨g,1,none⟩) (by first|omega|(simp;done)|(simp;omega)) (.int .i64 ((i:Int)+1)));clear hrdq hr6 hbyq hrowq hownq hgrq;go_wp2_with (go_at_call 137;refine(item_any _ HRD6.out).mono ?_)
           rintro e w7 hq;have hq7:=hq.1;have hqe:=hq.2;rw [HIT2.out] at hqe;have hgr7:=grown_trans hgr6 hq7;have hgw7:=grown_trans hg2 hgr7;have hby7:=box_grown HBYQ.out hq7 (by omega);have hrow7:=box_grown HROWQ.out hq7 (by omega);have hown7:=own_grownG HOWNQ.out hq7 (by omega);obtain⟨f0,f1,f2,f3,f4,f5,f6,f7,f8⟩:=bx_cells (c:=[]) hby7;obtain⟨hrd7,hqe⟩:=hqe;rcases hqe with⟨_,rfl⟩|⟨q,_⟩
           case inr=>exact absurd rfl q
           have hrc7:w7.cell? ⟨w4.heap.size,1,none⟩=some (.string ⟨(c).toArray⟩):=by rw [Lib.cell_of_heap hrow7];rfl
           have hrc70:w7.cell? ⟨w4.heap.size,0,none⟩=some (.string ⟨(c).toArray⟩):=by rw [Lib.cell_of_heap hrow7];rfl
           have hfr7:w7.frozen? ⟨w4.heap.size,1,none⟩=false:=by unfold World.frozen?;rw [hrow7];rfl
           have hrowq:(w7.setCell ⟨w4.heap.size,1,none⟩ (.string ⟨(t).toArray⟩)).heap[w4.heap.size]?=some (.cells #[.string ⟨(c).toArray⟩,.string ⟨(t).toArray⟩] 103 (0,0)):=by
            rw [heap_setCell_same w7 _ _ _ _ _ hrow7];rfl
           have hownq:=own_setOther hown7 (a:=⟨w4.heap.size,1,none⟩) (fun e=>by have:=(hlt4 _ e).2;simp at this) (.string ⟨(t).toArray⟩);have hrdq:=hrd7.setHi (a:=⟨w4.heap.size,1,none⟩) (by simp;omega) (.string ⟨(t).toArray⟩);have hgrq:=grown_setNew hgr7 (a:=⟨w4.heap.size,1,none⟩) (by first|omega|(simp;done)|(simp;omega)) (.string ⟨(t).toArray⟩);clear hq hq7 hby7 hrow7 hown7 hrd7;have hrc0:(w7.setCell ⟨w4.heap.size,1,none⟩ (.string ⟨(t).toArray⟩)).cell? ⟨w4.heap.size,0,none⟩=some (.string ⟨(c).toArray⟩):=by rw [Lib.cell_of_heap hrowq];rfl
           have hrc1:(w7.setCell ⟨w4.heap.size,1,none⟩ (.string ⟨(t).toArray⟩)).cell? ⟨w4.heap.size,1,none⟩=some (.string ⟨(t).toArray⟩):=by rw [Lib.cell_of_heap hrowq];rfl
           have hbn:Below (w7.setCell ⟨w4.heap.size,1,none⟩ (.string ⟨(t).toArray⟩)).heap.size (w7.setCell ⟨w4.heap.size,1,none⟩ (.string ⟨(t).toArray⟩)) ((w7.setCell ⟨w4.heap.size,1,none⟩ (.string ⟨(t).toArray⟩)).alloc (.cells #[.string ⟨(c).toArray⟩,.string ⟨(t).toArray⟩] 103)):=(Below.refl _ _).alloc (Nat.le_refl _) _;have HO6:=Lib.hid (own_below hownq hbn);have hsl6:Sl ((w7.setCell ⟨w4.heap.size,1,none⟩ (.string ⟨(t).toArray⟩)).alloc (.cells #[.string ⟨(c).toArray⟩,.string ⟨(t).toArray⟩] 103)) ((w7.setCell ⟨w4.heap.size,1,none⟩ (.string ⟨(t).toArray⟩)).alloc (.cells #[.string ⟨(c).toArray⟩,.string ⟨(t).toArray⟩] 103)).heap.size (some ⟨w7.heap.size,0,none⟩) 2 1 (rcells [(c,t)]):=by
            rw [show w7.heap.size=(w7.setCell ⟨w4.heap.size,1,none⟩ (.string ⟨(t).toArray⟩)).heap.size from by first|rfl|simp [World.setCell]];exact Sl.lit (n:=1) (sz:=2) (heap_alloc_new (w7.setCell ⟨w4.heap.size,1,none⟩ (.string ⟨(t).toArray⟩)) (.cells #[.string ⟨(c).toArray⟩,.string ⟨(t).toArray⟩] 103)) rfl
           have HSL6:=Lib.hid hsl6;clear hsl6;have HRD6:=Lib.hid (hrdq.later hbn);have hgr6:=grown_trans hgrq (grown_of_below hbn (some g));have hz6:=hgr6.size;clear hrowq hownq hrdq hgrq hbn;go_wp2_with (at_builtin;refine wpList_appM w2.heap.size 103 rfl _ _ 31 rfl Tryz.underlying31 hir rfl (by decide) rfl (HO6.out) rfl (HSL6.out) (rcells_one [(c,t)]) (by omega) (by omega) (by decide) hz6 ?_)
           intro v7 w7 hown7 hq7 hb7 _;have hown8:w7.ownsRow w2.heap.size 103 2 v7 (rows++[(c,t)]).length (rcells (rows++[(c,t)])):=by
            rw [List.length_append,show rcells (rows++[(c,t)])=rcells rows++rcells [(c,t)] from by simp [rcells]];exact hown7
           have hrd7:=HRD6.out.grownHi hq7 (fun k hk=>by have:=(hlt4 k hk).1;omega);have hgr7:w2.grownBy w7 (some g):=cls_grown hgr6 hb7 (by omega);have hrl7:=rows_app (nm:=[(c,t)]) HRL.out (by simp;omega);clear hown7 hq7 hb7;go_wp2
           go_roundg n
           case measure=>omega
           case rel=>exact⟨rows++[(c,t)],r4,hown8,hrd7,hgr7,by simp at *;omega,by simp at *;omega,hrl7,HF2⟩
         ·have HF2:Hid (none=R0):=Lib.hid (by rw [←HF.out];simp only [classL,ht,hit,ht2,ht3,hit2];simp [hnm2])
          have HR2:Hid (Except.error 10=R):=Lib.hid (by rw [←HR.out,←HF2.out]);clear HR;have HR:=HR2;have HNM2:=Lib.hid hnm2;clear HF ht hit hrd hok ht2 ht3 hit2 h93 hnm2;go_wp2_with (go_at_call 134;refine(take_none _ HRD.out HT.out (by simp)).mono ?_)
          rintro e w3 ⟨rfl,hrd3,hq3⟩;have hgr3:=grown_trans hg hq3;have hown3:=own_grownG HOWN.out hq3 (by omega);have HRD3:=Lib.hid hrd3;clear hrd3 hq3;go_wp2_with (go_at_call 137;refine(item_any _ HRD3.out).mono ?_)
          rintro e w4 hq;have hq4:=hq.1;have hqe:=hq.2;rw [HIT.out] at hqe;obtain⟨hrd4,hqe⟩:=hqe;rcases hqe with⟨_,rfl⟩|⟨q,_⟩
          case inr=>exact absurd rfl q
          have hgr4:=grown_trans hgr3 hq4;have hown4:=own_grownG hown3 hq4 (by omega);have hlt4:=hown4.lt;obtain⟨va,vc,rfl⟩:=own_form hown4;have hz4:=hgr4.size;obtain⟨w5,hw5⟩:∃w5,w5=w4.alloc (.cells #[.string ⟨(c).toArray⟩,.string ⟨(c).toArray⟩] 103):=⟨_,rfl⟩;obtain⟨hb5,hz5e,hbr5⟩:=alloc1 w4 hw5;have hz5:w4.heap.size+1≤w5.heap.size:=by omega
          have HOWN5:=Lib.hid (own_below hown4 hb5);have HRD5:=Lib.hid (hrd4.later hb5);have HBR5:=Lib.hid hbr5;have hgr5:=grown_trans hgr4 (grown_of_below hb5 (some g));clear hq hq4 hrd4 hown3 hown4 hz5e hbr5 HRD3;obtain⟨ir,hir⟩:=info_parts row_info;go_upto_region 10 with fail
          rw [←hw5];clear hw5;obtain⟨lb,lo,lk,li,ln,l0,l1,l2,l3,l4⟩:=HRD5.out.look1;have HSEE:Hid (∀x:ExtOf w5,Calls Tryz.prog 90 #[.pointer (some ⟨g,0,none⟩)] x.val fun e w'=>e=.returned (.string ⟨(([45]:Str)).toArray⟩)∧Below x.val.heap.size x.val w'):=Lib.hid fun x=>(see_any _ (HRD5.out.later x.ext)).mono fun _ _ ⟨h1,h2⟩=>⟨by rw [h1];rfl,h2.below _⟩
          have d0:∀x:ExtOf w5,x.val.cell? ⟨g,0,none⟩=some (.slice (some ⟨lb,lo,none⟩) ln lk):=ExtOf.cell l0;have d1:∀x:ExtOf w5,x.val.cell? ⟨g,1,none⟩=some (.int .i64 li):=ExtOf.cell l1;have d2:∀x:ExtOf w5,x.val.cell? ⟨lb,lo+(li+1),none⟩=some (.string ⟨(c3).toArray⟩):=ExtOf.cell l4;have gg:decide (ln≤li+1)=false:=by simp;omega
          have gg2:decide ((ln:Int)≤(li:Int)+1)=false:=by simp;omega
          have gn:((li:Int)+1).toNat=li+1:=by omega
          have gn0:(0:Int)≤(li:Int)+1:=by omega
          have gn1:(li:Int)+1<(ln:Int):=by omega
          have gw:IntKind.i64.wrap ((li:Int)+1)=(li:Int)+1:=IntWalk.i64_in _ (by omega);clear l0 l1 l4;refine wp_region_ext (by kernel_rfl) (by kernel_rfl) ?_;repeat (go_big_quiet_step ((go_at_call 90;exact ext_call (HSEE.out _))))
          refine wpQuiet_nil ?_;rintro _ ⟨xq,rfl⟩;clear d0 d1 d2 gg gg2 gn gn0 gn1 gw;have hbyq:=(xq.ext.block _ (heap_lt (box_grown HBY2.out hgr5 (by omega)))).trans (box_grown HBY2.out hgr5 (by omega));have hrowq:=(xq.ext.block _ (heap_lt HBR5.out)).trans HBR5.out;have hownq:=own_below HOWN5.out xq.ext;have hrdq:=HRD5.out.later xq.ext;have hgrq:=grown_trans hgr5 (grown_of_below xq.ext (some g));generalize xq.val=wq at *
          clear HSEE;obtain⟨i,hi9,c1,hf,hr6⟩:=hrdq.step;have HRD6:=Lib.hid hr6;have hgr6:=grown_set hgrq 1 (.int .i64 ((i:Int)+1));have HBYQ:=Lib.hid (box_other hbyq (a:=⟨g,1,none⟩) (by first|omega|(simp;done)|(simp;omega)) (.int .i64 ((i:Int)+1)));have HROWQ:=Lib.hid (box_other hrowq (a:=⟨g,1,none⟩) (by first|omega|(simp;done)|(simp;omega)) (.int .i64 ((i:Int)+1)));have HOWNQ:=Lib.hid (own_setLow hownq (a:=⟨g,1,none⟩) (by first|omega|(simp;done)|(simp;omega)) (.int .i64 ((i:Int)+1)));clear hrdq hr6 hbyq hrowq hownq hgrq;go_wp2_with (go_at_call 137;refine(item_any _ HRD6.out).mono ?_)
          rintro e w7 hq;have hq7:=hq.1;have hqe:=hq.2;rw [HIT2.out] at hqe;have hgr7:=grown_trans hgr6 hq7;have hgw7:=grown_trans hg2 hgr7;have hby7:=box_grown HBYQ.out hq7 (by omega);have hrow7:=box_grown HROWQ.out hq7 (by omega);have hown7:=own_grownG HOWNQ.out hq7 (by omega);obtain⟨f0,f1,f2,f3,f4,f5,f6,f7,f8⟩:=bx_cells (c:=[]) hby7;obtain⟨hrd7,hqe⟩:=hqe;rcases hqe with⟨q,_⟩|⟨_,la2,lk2,rfl,_⟩
          case inl=>exact absurd q HNM2.out
          have HRD9:=Lib.hid hrd7;clear hq hq7 hby7 hrow7 hown7 hrd7;go_wp2
          refine bodyPost_ret (v:=.tuple #[.agg #[.int .i64 0,.string ⟨([]).toArray⟩,.bool false,.slice none 0 0,.int .i64 0,.int .i64 0,.bool false,.slice none 0 0],.int .i64 10]) (by simp [results,Tryz.results131,go_sem,f0,f1,f2,f3,f4,f5,f6,f7]) rfl ?_;refine⟨?_,?_⟩
          ·iterate 8 (refine grown_setNew ?_ (by first|omega|(simp;done)|(simp;omega)) _)
           exact hgw7
          ·rw [←HR.out]
           refine⟨rfl,?_⟩;iterate 8 (refine RdE.setHi ?_ (by first|omega|(simp;done)|(simp;omega)) _)
           exact⟨_,HRD9.out⟩
    ·have HF2:Hid (classL n (rows++nm) r1=R0):=Lib.hid (by rw [←HF.out];simp only [classL,ht,hit];rw [if_pos hnm])
     have HNM:=Lib.hid hnm;clear HF ht hit hrd hok hnm;go_wp2_with (go_at_call 134;refine(take_none _ HRD.out HT.out (by simp)).mono ?_)
     rintro e w3 ⟨rfl,hrd3,hq3⟩;have hgr3:=grown_trans hg hq3;have hown3:=own_grownG HOWN.out hq3 (by omega);have HRD3:=Lib.hid hrd3;clear hrd3 hq3;go_wp2_with (go_at_call 137;refine(item_any _ HRD3.out).mono ?_)
     rintro e w4 hq;have hq4:=hq.1;have hqe:=hq.2;rw [HIT.out] at hqe;obtain⟨hrd4,hqe⟩:=hqe;rcases hqe with⟨q,_⟩|⟨_,a,k,rfl,hsl⟩
     ·exact absurd q HNM.out
     have hgr4:=grown_trans hgr3 hq4;have hown4:=own_grownG hown3 hq4 (by omega);have hlt4:=hown4.lt;obtain⟨va,vc,rfl⟩:=own_form hown4;have HOWN4:=Lib.hid hown4;have HSL:=Lib.hid hsl.sl;have HRD4:=Lib.hid hrd4;clear hq hq4 hsl hrd4 hown3 hown4;obtain⟨ir,hir⟩:=info_parts row_info;have hz4:=hgr4.size;go_wp2_with (at_builtin;refine wpList_appM w2.heap.size 103 rfl _ _ 31 rfl Tryz.underlying31 hir rfl (by decide) rfl (HOWN4.out) rfl (HSL.out) (rcells_one nm) (by omega) (by omega) (by decide) hz4 ?_)
     intro v5 w5 hown5 hq5 hb5 _;have hown6:w5.ownsRow w2.heap.size 103 2 v5 (rows++nm).length (rcells (rows++nm)):=by
      rw [List.length_append,show rcells (rows++nm)=rcells rows++rcells nm from by simp [rcells]];exact hown5
     have hrd5:=HRD4.out.grownHi hq5 (fun k hk=>by have:=(hlt4 k hk).1;omega);have hgr5:w2.grownBy w5 (some g):=cls_grown hgr4 hb5 (by omega);have hrl5:=rows_app HRL.out HI4.out;clear hown5 hq5 hb5;go_wp2
     go_roundg n
     case measure=>omega
     case rel=>exact⟨rows++nm,r1,hown6,hrd5,hgr5,by rw [List.length_append];omega,by omega,hrl5,HF2⟩
set_option maxHeartbeats 2000000 in
theorem class_yes {g d:Nat} {r r0:List Str} (w:World) (h:Rd w g r d) (hng:takeM [94] r=none∧r0=r) :
  Calls Tryz.prog 131 #[.pointer (some ⟨g,0,none⟩)] w fun e w'=>ResPost g d w.heap.size w (classM r) e w':=by
 obtain⟨R,hR⟩:∃R,classM r=R:=⟨_,rfl⟩;rw [hR];obtain⟨hng,rfl⟩:=hng;unfold classM at hR;obtain⟨R0,hR0⟩:∃R0,classL (r0.length+1) [] r0=R0:=⟨_,rfl⟩;simp only [hng,Option.isSome_none,Option.getD_none,hR0] at hR;have HNG:=Lib.hid hng;have HR0:=Lib.hid hR0;have HR:=Lib.hid hR;have hok0:=h.ok;clear hng hR0 hR;have hr0:r0.length≤200000:=by
  exact hok0.2
 clear hok0;obtain⟨w0,hw0⟩:∃w0,w0=w.alloc (.cells #[.int .i64 0,.string ⟨#[]⟩,.bool false,.slice none 0 0,.int .i64 0,.int .i64 0,.bool false,.slice none 0 0] 34):=⟨_,rfl⟩;obtain⟨hb0,hz0,hby0⟩:=alloc1 w hw0;have HRD:=Lib.hid (h.later hb0);rw [hw0] at HRD;have HW0:=Lib.hid hw0;have HBY0:=Lib.hid hby0;have hgg:w.grownBy w0 (some g):=grown_of_below hb0 _;have hgr:g<w.heap.size:=h.lt;clear hw0 hby0 h;go_enter Tryz.func131,Tryz.ntmps131
 go_wp2_with (go_at_call 134;refine(take_none _ HRD.out HNG.out (by simp)).mono ?_)
 rintro e w1 ⟨rfl,hrd1,hq1⟩;rw [←HW0.out] at hq1;have hg1:=grown_trans hgg hq1;have HBY1:=Lib.hid (box_grown HBY0.out hq1 (by omega));have hz1:=hq1.size;clear HRD hq1;obtain⟨w2,hw2⟩:∃w2,w2=w1.alloc (.cells #[.int .i64 4,.string ⟨#[]⟩,.bool false,.slice none 0 0,.int .i64 0,.int .i64 0,.bool false,.slice none 0 0] 34):=⟨_,rfl⟩;obtain⟨hb2,hz2e,hbx2⟩:=alloc1 w1 hw2;have hz2:w1.heap.size+1≤w2.heap.size:=by omega
 clear hz2e;have HRD2:=Lib.hid (hrd1.later hb2);have HBY2:=Lib.hid ((hb2.block _ (heap_lt HBY1.out)).trans HBY1.out);have HBX2:=Lib.hid hbx2;have hg2:=grown_trans hg1 (grown_of_below hb2 (some g));clear hrd1 hbx2;go_wp2_with fail
 rw [←hw2];clear hw2;go_loopg [5] (r0.length+1) (fun n v wr=>ClsRel g d w2.heap.size (4*r0.length) w2 R0 n v wr)
 case atStart=>exact⟨[],r0,World.ownsRow_nil _ _ _ _,HRD2.out,grown_refl _ _,by simp,by omega,by simp,HR0⟩
 case round =>
  clear HR0 HRD2;obtain⟨rows,r,hown,hrd,hg,hL,hn,hrl,HF⟩:=hrel;obtain⟨hok,hrlen⟩:=hrd.ok;obtain⟨n,rfl⟩:∃n',gk=n'+1:=⟨gk-1,by omega⟩;have HRD:=Lib.hid hrd;have hzr:=hg.size;cases ht:takeM [93] r with
  | some r1 =>
   have HF2:Hid (some (rows,r1)=R0):=Lib.hid (by rw [←HF.out];simp only [classL,ht]);have HT:=Lib.hid ht;have HOWN:=Lib.hid hown;have HRL:=Lib.hid hrl;clear HF ht hrd hown hrl hok;go_wp2_with (go_at_call 134;refine(take_some _ HRD.out HT.out).mono ?_)
   rintro e w3 ⟨rfl,hrd3,hq3⟩;have hgr3:=grown_trans hg hq3;have hgw3:=grown_trans hg2 hgr3;have hby3:=box_grown HBY2.out hgr3 (by omega);have hbx3:=box_grown HBX2.out hgr3 (by omega);have hown3:=own_grownG HOWN.out hq3 (by omega);obtain⟨va,vc,rfl⟩:=own_form hown3;have HUN:=Lib.hid (Union_res va rows.length vc rows w3 hown3 (by omega) HRL.out (by omega));have HRD3:=Lib.hid hrd3;have HBY3:=Lib.hid hby3;have HBX3:=Lib.hid hbx3;have hz3:=hgr3.size;clear hrd3 hq3 hgr3 hby3 hbx3 hown3 HOWN HRL;go_wp2_with (go_at_call 138;refine HUN.out.mono ?_)
   rintro e w4 hq4;obtain⟨ua,uc,rfl,hus,hb4⟩:=hq4;have hgw4:=grown_trans hgw3 (grown_of_below hb4 (some g));have hby4:=(hb4.block _ (heap_lt HBY3.out)).trans HBY3.out;have hbx4:=(hb4.block _ (heap_lt HBX3.out)).trans HBX3.out;have HRD4:=Lib.hid (HRD3.out.later hb4);have HR2:Hid (Except.ok (setR (unionM rows) false,r1)=R):=Lib.hid (by rw [←HR.out,←HF2.out]);have HR:=HR2;have hz4:=hb4.size;obtain⟨f0,f1,f2,f3,f4,f5,f6,f7,f8⟩:=bx_cells (c:=[]) hby4;obtain⟨e0,e1,e2,e3,e4,e5,e6,e7,e8⟩:=bx_cells (c:=[]) hbx4;have HUS:=Lib.hid (RxV.close (k:=4) (c:=[]) (ng:=false) (lo:=0) (hi:=0) (lz:=false) (rc:=uc) (ka:=none) (kc:=0) (ks:=[]) (hus.mono (S':=fun b=>w.heap.size≤b∧b≠w.heap.size∧b≠w1.heap.size) fun x hx _=>by omega) ⟨[],SlS.none_ _ _ _ _,.nil⟩);clear hby4 hbx4 hus;go_wp2
   refine bodyPost_ret (v:=.tuple #[.agg #[.int .i64 4,.string ⟨([]).toArray⟩,.bool false,.slice ua (unionM rows).length uc,.int .i64 0,.int .i64 0,.bool false,.slice none ([]:List Rx).length 0],.int .i64 0]) (by simp [results,Tryz.results131,go_sem,f0,f1,f2,f3,f4,f5,f6,f7]) rfl ?_;refine⟨?_,?_⟩
   ·iterate 9 (refine grown_setNew ?_ (by first|omega|(simp;done)|(simp;omega)) _)
    exact hgw4
   rw [←HR.out];refine⟨rxc 4 [] false ua (unionM rows).length uc 0 0 false none ([]:List Rx).length 0,rfl,RxV.mono (S:=fun b=>w.heap.size≤b∧b≠w.heap.size∧b≠w1.heap.size) (fun b hb _=>hb.1) ?_,?_⟩
   ·iterate 9 (refine RxV.keep (Kept.setLow _ (fun b hb=>by have:w.heap.size≤b∧b≠w.heap.size∧b≠w1.heap.size:=hb;first|omega|(simp;done)|(simp;omega))) ?_)
    exact HUS.out
   ·iterate 9 (refine RdT.setHi ?_ (by first|omega|(simp;done)|(simp;omega)) _)
    exact HRD4.out
  | none =>
   have HT:=Lib.hid ht;cases hit:itemM r with
   | none =>
    have HF2:Hid (none=R0):=Lib.hid (by rw [←HF.out];simp only [classL,ht,hit]);have HR2:Hid (Except.error 10=R):=Lib.hid (by rw [←HR.out,←HF2.out]);have HR:=HR2;have HIT:=Lib.hid hit;clear HF ht hit hrd hown hrl hok;go_wp2_with (go_at_call 134;refine(take_none _ HRD.out HT.out (by simp)).mono ?_)
    rintro e w3 ⟨rfl,hrd3,hq3⟩;have hgr3:=grown_trans hg hq3;have HRD3:=Lib.hid hrd3;clear hrd3 hq3;go_wp2_with (go_at_call 137;refine(item_any _ HRD3.out).mono ?_)
    rintro e w4 hq;have hq4:=hq.1;have hqe:=hq.2;rw [HIT.out] at hqe;obtain⟨hqe',r9,hrd9⟩:e=.returned (.tuple #[.string ⟨#[]⟩,.slice none 0 0,.int .i64 10])∧∃r,Rd w4 g r d:=hqe;subst hqe';have HRD9:=Lib.hid hrd9;clear hrd9;have hgr4:=grown_trans hgr3 hq4;have hgw4:=grown_trans hg2 hgr4;obtain⟨f0,f1,f2,f3,f4,f5,f6,f7,f8⟩:=bx_cells (c:=[]) (box_grown HBY2.out hgr4 (by omega));clear hq hq4;go_wp2
    refine bodyPost_ret (v:=.tuple #[.agg #[.int .i64 0,.string ⟨([]).toArray⟩,.bool false,.slice none 0 0,.int .i64 0,.int .i64 0,.bool false,.slice none 0 0],.int .i64 10]) (by simp [results,Tryz.results131,go_sem,f0,f1,f2,f3,f4,f5,f6,f7]) rfl ?_;refine⟨?_,?_⟩
    ·iterate 8 (refine grown_setNew ?_ (by first|omega|(simp;done)|(simp;omega)) _)
     exact hgw4
    ·rw [←HR.out]
     refine⟨rfl,?_⟩;iterate 8 (refine RdE.setHi ?_ (by first|omega|(simp;done)|(simp;omega)) _)
     exact⟨_,HRD9.out⟩
   | some y =>
    obtain⟨c,nm,r1⟩:=y;obtain⟨i1,i2,i3,i4,i5⟩:=item_facts hit hok;have HIT:=Lib.hid hit;have HI4:=Lib.hid i4;have HRL:=Lib.hid hrl;have HOWN:=Lib.hid hown;clear i4 hrl hown;by_cases hnm:nm=[]
    ·subst hnm
     cases ht2:takeM [45] r1 with
     | none =>
      have HF2:Hid (classL n (rows++[(c,c)]) r1=R0):=Lib.hid (by rw [←HF.out];simp only [classL,ht,hit,ht2];simp);have hne:=(takeM_none_hd ht2 (by simp)).1;obtain⟨u,hu⟩:∃u,hdS r1=u:=⟨_,rfl⟩;rw [hu] at hne;have HU:=Lib.hid hu;clear HF ht hit hrd hok ht2 hu;go_wp2_with (go_at_call 134;refine(take_none _ HRD.out HT.out (by simp)).mono ?_)
      rintro e w3 ⟨rfl,hrd3,hq3⟩;have hgr3:=grown_trans hg hq3;have hown3:=own_grownG HOWN.out hq3 (by omega);have HRD3:=Lib.hid hrd3;clear hrd3 hq3;go_wp2_with (go_at_call 137;refine(item_any _ HRD3.out).mono ?_)
      rintro e w4 hq;have hq4:=hq.1;have hqe:=hq.2;rw [HIT.out] at hqe;obtain⟨hrd4,hqe⟩:=hqe;rcases hqe with⟨_,rfl⟩|⟨q,_⟩
      case inr=>exact absurd rfl q
      have hgr4:=grown_trans hgr3 hq4;have hown4:=own_grownG hown3 hq4 (by omega);have hlt4:=hown4.lt;obtain⟨va,vc,rfl⟩:=own_form hown4;have hz4:=hgr4.size;obtain⟨w5,hw5⟩:∃w5,w5=w4.alloc (.cells #[.string ⟨(c).toArray⟩,.string ⟨(c).toArray⟩] 103):=⟨_,rfl⟩;obtain⟨hb5,hz5e,hbr5⟩:=alloc1 w4 hw5;have hz5:w4.heap.size+1≤w5.heap.size:=by omega
      have HOWN5:=Lib.hid (own_below hown4 hb5);have HRD5:=Lib.hid (hrd4.later hb5);have HBR5:=Lib.hid hbr5;have hgr5:=grown_trans hgr4 (grown_of_below hb5 (some g));clear hq hq4 hrd4 hown3 hown4 hz5e hbr5 HRD3;obtain⟨ir,hir⟩:=info_parts row_info;go_upto_region 10 with fail
      rw [←hw5];clear hw5;have HSEE:Hid (∀x:ExtOf w5,Calls Tryz.prog 90 #[.pointer (some ⟨g,0,none⟩)] x.val fun e w'=>e=.returned (.string ⟨(u).toArray⟩)∧Below x.val.heap.size x.val w'):=Lib.hid fun x=>(see_any _ (HRD5.out.later x.ext)).mono fun _ _ ⟨h1,h2⟩=>⟨by rw [h1,HU.out],h2.below _⟩
      refine wp_region_ext (by kernel_rfl) (by kernel_rfl) ?_;repeat (go_big_quiet_step ((go_at_call 90;exact ext_call (HSEE.out _))))
      refine wpQuiet_nil ?_;rintro _ ⟨xq,rfl⟩;have hrowq:=(xq.ext.block _ (heap_lt HBR5.out)).trans HBR5.out;have hownq:=own_below HOWN5.out xq.ext;have hrdq:=HRD5.out.later xq.ext;have hgrq:=grown_trans hgr5 (grown_of_below xq.ext (some g));generalize xq.val=wq at *
      clear HSEE HU hne;have hrc0:(wq).cell? ⟨w4.heap.size,0,none⟩=some (.string ⟨(c).toArray⟩):=by rw [Lib.cell_of_heap hrowq];rfl
      have hrc1:(wq).cell? ⟨w4.heap.size,1,none⟩=some (.string ⟨(c).toArray⟩):=by rw [Lib.cell_of_heap hrowq];rfl
      have hbn:Below (wq).heap.size (wq) ((wq).alloc (.cells #[.string ⟨(c).toArray⟩,.string ⟨(c).toArray⟩] 103)):=(Below.refl _ _).alloc (Nat.le_refl _) _;have HO6:=Lib.hid (own_below hownq hbn);have hsl6:Sl ((wq).alloc (.cells #[.string ⟨(c).toArray⟩,.string ⟨(c).toArray⟩] 103)) ((wq).alloc (.cells #[.string ⟨(c).toArray⟩,.string ⟨(c).toArray⟩] 103)).heap.size (some ⟨wq.heap.size,0,none⟩) 2 1 (rcells [(c,c)]):=by
       rw [show wq.heap.size=(wq).heap.size from by first|rfl|simp [World.setCell]];exact Sl.lit (n:=1) (sz:=2) (heap_alloc_new (wq) (.cells #[.string ⟨(c).toArray⟩,.string ⟨(c).toArray⟩] 103)) rfl
      have HSL6:=Lib.hid hsl6;clear hsl6;have HRD6:=Lib.hid (hrdq.later hbn);have hgr6:=grown_trans hgrq (grown_of_below hbn (some g));have hz6:=hgr6.size;clear hrowq hownq hrdq hgrq hbn;go_wp2_with (at_builtin;refine wpList_appM w2.heap.size 103 rfl _ _ 31 rfl Tryz.underlying31 hir rfl (by decide) rfl (HO6.out) rfl (HSL6.out) (rcells_one [(c,c)]) (by omega) (by omega) (by decide) hz6 ?_)
      intro v7 w7 hown7 hq7 hb7 _;have hown8:w7.ownsRow w2.heap.size 103 2 v7 (rows++[(c,c)]).length (rcells (rows++[(c,c)])):=by
       rw [List.length_append,show rcells (rows++[(c,c)])=rcells rows++rcells [(c,c)] from by simp [rcells]];exact hown7
      have hrd7:=HRD6.out.grownHi hq7 (fun k hk=>by have:=(hlt4 k hk).1;omega);have hgr7:w2.grownBy w7 (some g):=cls_grown hgr6 hb7 (by omega);have hrl7:=rows_app (nm:=[(c,c)]) HRL.out (by simp;omega);clear hown7 hq7 hb7;go_wp2
      go_roundg n
      case measure=>omega
      case rel=>exact⟨rows++[(c,c)],r1,hown8,hrd7,hgr7,by simp at *;omega,by simp at *;omega,hrl7,HF2⟩
     | some r2 =>
      have er1:=takeM_some ht2;subst er1;cases r2 with
      | nil =>
       have HF2:Hid (none=R0):=Lib.hid (by rw [←HF.out];simp only [classL,ht,hit,ht2];simp [takeM,itemM]);have HR2:Hid (Except.error 10=R):=Lib.hid (by rw [←HR.out,←HF2.out]);clear HR;have HR:=HR2;clear HF ht hit hrd hok ht2;go_wp2_with (go_at_call 134;refine(take_none _ HRD.out HT.out (by simp)).mono ?_)
       rintro e w3 ⟨rfl,hrd3,hq3⟩;have hgr3:=grown_trans hg hq3;have hown3:=own_grownG HOWN.out hq3 (by omega);have HRD3:=Lib.hid hrd3;clear hrd3 hq3;go_wp2_with (go_at_call 137;refine(item_any _ HRD3.out).mono ?_)
       rintro e w4 hq;have hq4:=hq.1;have hqe:=hq.2;rw [HIT.out] at hqe;obtain⟨hrd4,hqe⟩:=hqe;rcases hqe with⟨_,rfl⟩|⟨q,_⟩
       case inr=>exact absurd rfl q
       have hgr4:=grown_trans hgr3 hq4;have hown4:=own_grownG hown3 hq4 (by omega);have hlt4:=hown4.lt;obtain⟨va,vc,rfl⟩:=own_form hown4;have hz4:=hgr4.size;obtain⟨w5,hw5⟩:∃w5,w5=w4.alloc (.cells #[.string ⟨(c).toArray⟩,.string ⟨(c).toArray⟩] 103):=⟨_,rfl⟩;obtain⟨hb5,hz5e,hbr5⟩:=alloc1 w4 hw5;have hz5:w4.heap.size+1≤w5.heap.size:=by omega
       have HOWN5:=Lib.hid (own_below hown4 hb5);have HRD5:=Lib.hid (hrd4.later hb5);have HBR5:=Lib.hid hbr5;have hgr5:=grown_trans hgr4 (grown_of_below hb5 (some g));clear hq hq4 hrd4 hown3 hown4 hz5e hbr5 HRD3;obtain⟨ir,hir⟩:=info_parts row_info;go_upto_region 10 with fail
       rw [←hw5];clear hw5;obtain⟨la,lk,li,ln,l0,l1,l2,l3⟩:=HRD5.out.look0;have HSEE:Hid (∀x:ExtOf w5,Calls Tryz.prog 90 #[.pointer (some ⟨g,0,none⟩)] x.val fun e w'=>e=.returned (.string ⟨(([45]:Str)).toArray⟩)∧Below x.val.heap.size x.val w'):=Lib.hid fun x=>(see_any _ (HRD5.out.later x.ext)).mono fun _ _ ⟨h1,h2⟩=>⟨by rw [h1];rfl,h2.below _⟩
       have d0:∀x:ExtOf w5,x.val.cell? ⟨g,0,none⟩=some (.slice la ln lk):=ExtOf.cell l0;have d1:∀x:ExtOf w5,x.val.cell? ⟨g,1,none⟩=some (.int .i64 li):=ExtOf.cell l1;have gg:decide (ln≤li+1)=true:=by simp;omega
       have gg2:decide ((ln:Int)≤(li:Int)+1)=true:=by simp;omega
       have gw:IntKind.i64.wrap ((li:Int)+1)=(li:Int)+1:=IntWalk.i64_in _ (by omega);clear l0 l1;refine wp_region_ext (by kernel_rfl) (by kernel_rfl) ?_;repeat (go_big_quiet_step ((go_at_call 90;exact ext_call (HSEE.out _))))
       refine wpQuiet_nil ?_;rintro _ ⟨xq,rfl⟩;have hbyq:=(xq.ext.block _ (heap_lt (box_grown HBY2.out hgr5 (by omega)))).trans (box_grown HBY2.out hgr5 (by omega));have hrdq:=HRD5.out.later xq.ext;have hgrq:=grown_trans hgr5 (grown_of_below xq.ext (some g));generalize xq.val=wq at *
       clear HSEE gg gg2 gw;obtain⟨i,hi9,c1,hf,hr6⟩:=hrdq.step;have HRD6:=Lib.hid hr6;have hgr6:=grown_set hgrq 1 (.int .i64 ((i:Int)+1));have hbyq2:=box_other hbyq (a:=⟨g,1,none⟩) (by first|omega|(simp;done)|(simp;omega)) (.int .i64 ((i:Int)+1));clear hrdq hr6 hbyq;go_wp2_with (go_at_call 137;refine(item_any _ HRD6.out).mono ?_)
       rintro e w7 hq;have hq7:=hq.1;obtain⟨hqe',r9,hrd9⟩:e=.returned (.tuple #[.string ⟨#[]⟩,.slice none 0 0,.int .i64 10])∧∃r,Rd w7 g r d:=hq.2;subst hqe';have HRD9:=Lib.hid hrd9;clear hrd9;have hgr7:=grown_trans hgr6 hq7;have hgw7:=grown_trans hg2 hgr7;obtain⟨f0,f1,f2,f3,f4,f5,f6,f7,f8⟩:=bx_cells (c:=[]) (box_grown hbyq2 hq7 (by omega));clear hq hq7 hbyq2;go_wp2
       refine bodyPost_ret (v:=.tuple #[.agg #[.int .i64 0,.string ⟨([]).toArray⟩,.bool false,.slice none 0 0,.int .i64 0,.int .i64 0,.bool false,.slice none 0 0],.int .i64 10]) (by simp [results,Tryz.results131,go_sem,f0,f1,f2,f3,f4,f5,f6,f7]) rfl ?_;refine⟨?_,?_⟩
       ·iterate 8 (refine grown_setNew ?_ (by first|omega|(simp;done)|(simp;omega)) _)
        exact hgw7
       ·rw [←HR.out]
        refine⟨rfl,?_⟩;iterate 8 (refine RdE.setHi ?_ (by first|omega|(simp;done)|(simp;omega)) _)
        exact⟨_,HRD9.out⟩
      | cons c3 r3 =>
       by_cases h93:c3=[93]
       ·subst h93
        have HF2:Hid (classL n (rows++[(c,c)]) ([45]::[93]::r3)=R0):=Lib.hid (by rw [←HF.out];simp only [classL,ht,hit,ht2];simp [takeM]);clear HF ht hit hrd hok ht2;go_wp2_with (go_at_call 134;refine(take_none _ HRD.out HT.out (by simp)).mono ?_)
        rintro e w3 ⟨rfl,hrd3,hq3⟩;have hgr3:=grown_trans hg hq3;have hown3:=own_grownG HOWN.out hq3 (by omega);have HRD3:=Lib.hid hrd3;clear hrd3 hq3;go_wp2_with (go_at_call 137;refine(item_any _ HRD3.out).mono ?_)
        rintro e w4 hq;have hq4:=hq.1;have hqe:=hq.2;rw [HIT.out] at hqe;obtain⟨hrd4,hqe⟩:=hqe;rcases hqe with⟨_,rfl⟩|⟨q,_⟩
        case inr=>exact absurd rfl q
        have hgr4:=grown_trans hgr3 hq4;have hown4:=own_grownG hown3 hq4 (by omega);have hlt4:=hown4.lt;obtain⟨va,vc,rfl⟩:=own_form hown4;have hz4:=hgr4.size;obtain⟨w5,hw5⟩:∃w5,w5=w4.alloc (.cells #[.string ⟨(c).toArray⟩,.string ⟨(c).toArray⟩] 103):=⟨_,rfl⟩;obtain⟨hb5,hz5e,hbr5⟩:=alloc1 w4 hw5;have hz5:w4.heap.size+1≤w5.heap.size:=by omega
        have HOWN5:=Lib.hid (own_below hown4 hb5);have HRD5:=Lib.hid (hrd4.later hb5);have HBR5:=Lib.hid hbr5;have hgr5:=grown_trans hgr4 (grown_of_below hb5 (some g));clear hq hq4 hrd4 hown3 hown4 hz5e hbr5 HRD3;obtain⟨ir,hir⟩:=info_parts row_info;go_upto_region 10 with fail
        rw [←hw5];clear hw5;obtain⟨lb,lo,lk,li,ln,l0,l1,l2,l3,l4⟩:=HRD5.out.look1;have HSEE:Hid (∀x:ExtOf w5,Calls Tryz.prog 90 #[.pointer (some ⟨g,0,none⟩)] x.val fun e w'=>e=.returned (.string ⟨(([45]:Str)).toArray⟩)∧Below x.val.heap.size x.val w'):=Lib.hid fun x=>(see_any _ (HRD5.out.later x.ext)).mono fun _ _ ⟨h1,h2⟩=>⟨by rw [h1];rfl,h2.below _⟩
        have d0:∀x:ExtOf w5,x.val.cell? ⟨g,0,none⟩=some (.slice (some ⟨lb,lo,none⟩) ln lk):=ExtOf.cell l0;have d1:∀x:ExtOf w5,x.val.cell? ⟨g,1,none⟩=some (.int .i64 li):=ExtOf.cell l1;have d2:∀x:ExtOf w5,x.val.cell? ⟨lb,lo+(li+1),none⟩=some (.string ⟨([93]).toArray⟩):=ExtOf.cell l4;have gg:decide (ln≤li+1)=false:=by simp;omega
        have gg2:decide ((ln:Int)≤(li:Int)+1)=false:=by simp;omega
        have gn:((li:Int)+1).toNat=li+1:=by omega
        have gn0:(0:Int)≤(li:Int)+1:=by omega
        have gn1:(li:Int)+1<(ln:Int):=by omega
        have gw:IntKind.i64.wrap ((li:Int)+1)=(li:Int)+1:=IntWalk.i64_in _ (by omega);clear l0 l1 l4;refine wp_region_ext (by kernel_rfl) (by kernel_rfl) ?_;repeat (go_big_quiet_step ((go_at_call 90;exact ext_call (HSEE.out _))))
        refine wpQuiet_nil ?_;rintro _ ⟨xq,rfl⟩;clear d0 d1 d2 gg gg2 gn gn0 gn1 gw;have hrowq:=(xq.ext.block _ (heap_lt HBR5.out)).trans HBR5.out;have hownq:=own_below HOWN5.out xq.ext;have hrdq:=HRD5.out.later xq.ext;have hgrq:=grown_trans hgr5 (grown_of_below xq.ext (some g));generalize xq.val=wq at *
        clear HSEE;have hrc0:(wq).cell? ⟨w4.heap.size,0,none⟩=some (.string ⟨(c).toArray⟩):=by rw [Lib.cell_of_heap hrowq];rfl
        have hrc1:(wq).cell? ⟨w4.heap.size,1,none⟩=some (.string ⟨(c).toArray⟩):=by rw [Lib.cell_of_heap hrowq];rfl
        have hbn:Below (wq).heap.size (wq) ((wq).alloc (.cells #[.string ⟨(c).toArray⟩,.string ⟨(c).toArray⟩] 103)):=(Below.refl _ _).alloc (Nat.le_refl _) _;have HO6:=Lib.hid (own_below hownq hbn);have hsl6:Sl ((wq).alloc (.cells #[.string ⟨(c).toArray⟩,.string ⟨(c).toArray⟩] 103)) ((wq).alloc (.cells #[.string ⟨(c).toArray⟩,.string ⟨(c).toArray⟩] 103)).heap.size (some ⟨wq.heap.size,0,none⟩) 2 1 (rcells [(c,c)]):=by
         rw [show wq.heap.size=(wq).heap.size from by first|rfl|simp [World.setCell]];exact Sl.lit (n:=1) (sz:=2) (heap_alloc_new (wq) (.cells #[.string ⟨(c).toArray⟩,.string ⟨(c).toArray⟩] 103)) rfl
        have HSL6:=Lib.hid hsl6;clear hsl6;have HRD6:=Lib.hid (hrdq.later hbn);have hgr6:=grown_trans hgrq (grown_of_below hbn (some g));have hz6:=hgr6.size;clear hrowq hownq hrdq hgrq hbn;go_wp2_with (at_builtin;refine wpList_appM w2.heap.size 103 rfl _ _ 31 rfl Tryz.underlying31 hir rfl (by decide) rfl (HO6.out) rfl (HSL6.out) (rcells_one [(c,c)]) (by omega) (by omega) (by decide) hz6 ?_)
        intro v7 w7 hown7 hq7 hb7 _;have hown8:w7.ownsRow w2.heap.size 103 2 v7 (rows++[(c,c)]).length (rcells (rows++[(c,c)])):=by
         rw [List.length_append,show rcells (rows++[(c,c)])=rcells rows++rcells [(c,c)] from by simp [rcells]];exact hown7
        have hrd7:=HRD6.out.grownHi hq7 (fun k hk=>by have:=(hlt4 k hk).1;omega);have hgr7:w2.grownBy w7 (some g):=cls_grown hgr6 hb7 (by omega);have hrl7:=rows_app (nm:=[(c,c)]) HRL.out (by simp;omega);clear hown7 hq7 hb7;go_wp2
        go_roundg n
        case measure=>omega
        case rel=>exact⟨rows++[(c,c)],([45]::[93]::r3),hown8,hrd7,hgr7,by simp at *;omega,by simp at *;omega,hrl7,HF2⟩
       ·have ht3:takeM [93] (c3::r3)=none:=by rw [takeM,if_neg h93]
        have g93:(c3==[93])=false:=beq_eq_false_iff_ne.2 h93;have g93':(c3 != [93])=true:=by simp [bne,g93]
        cases hit2:itemM (c3::r3) with
        | none =>
         have HF2:Hid (none=R0):=Lib.hid (by rw [←HF.out];simp only [classL,ht,hit,ht2,ht3,hit2];simp);have HR2:Hid (Except.error 10=R):=Lib.hid (by rw [←HR.out,←HF2.out]);clear HR;have HR:=HR2;have HIT2:=Lib.hid hit2;clear HF ht hit hrd hok ht2 ht3 hit2 h93;go_wp2_with (go_at_call 134;refine(take_none _ HRD.out HT.out (by simp)).mono ?_)
         rintro e w3 ⟨rfl,hrd3,hq3⟩;have hgr3:=grown_trans hg hq3;have hown3:=own_grownG HOWN.out hq3 (by omega);have HRD3:=Lib.hid hrd3;clear hrd3 hq3;go_wp2_with (go_at_call 137;refine(item_any _ HRD3.out).mono ?_)
         rintro e w4 hq;have hq4:=hq.1;have hqe:=hq.2;rw [HIT.out] at hqe;obtain⟨hrd4,hqe⟩:=hqe;rcases hqe with⟨_,rfl⟩|⟨q,_⟩
         case inr=>exact absurd rfl q
         have hgr4:=grown_trans hgr3 hq4;have hown4:=own_grownG hown3 hq4 (by omega);have hlt4:=hown4.lt;obtain⟨va,vc,rfl⟩:=own_form hown4;have hz4:=hgr4.size;obtain⟨w5,hw5⟩:∃w5,w5=w4.alloc (.cells #[.string ⟨(c).toArray⟩,.string ⟨(c).toArray⟩] 103):=⟨_,rfl⟩;obtain⟨hb5,hz5e,hbr5⟩:=alloc1 w4 hw5;have hz5:w4.heap.size+1≤w5.heap.size:=by omega
         have HOWN5:=Lib.hid (own_below hown4 hb5);have HRD5:=Lib.hid (hrd4.later hb5);have HBR5:=Lib.hid hbr5;have hgr5:=grown_trans hgr4 (grown_of_below hb5 (some g));clear hq hq4 hrd4 hown3 hown4 hz5e hbr5 HRD3;obtain⟨ir,hir⟩:=info_parts row_info;go_upto_region 10 with fail
         rw [←hw5];clear hw5;obtain⟨lb,lo,lk,li,ln,l0,l1,l2,l3,l4⟩:=HRD5.out.look1;have HSEE:Hid (∀x:ExtOf w5,Calls Tryz.prog 90 #[.pointer (some ⟨g,0,none⟩)] x.val fun e w'=>e=.returned (.string ⟨(([45]:Str)).toArray⟩)∧Below x.val.heap.size x.val w'):=Lib.hid fun x=>(see_any _ (HRD5.out.later x.ext)).mono fun _ _ ⟨h1,h2⟩=>⟨by rw [h1];rfl,h2.below _⟩
         have d0:∀x:ExtOf w5,x.val.cell? ⟨g,0,none⟩=some (.slice (some ⟨lb,lo,none⟩) ln lk):=ExtOf.cell l0;have d1:∀x:ExtOf w5,x.val.cell? ⟨g,1,none⟩=some (.int .i64 li):=ExtOf.cell l1;have d2:∀x:ExtOf w5,x.val.cell? ⟨lb,lo+(li+1),none⟩=some (.string ⟨(c3).toArray⟩):=ExtOf.cell l4;have gg:decide (ln≤li+1)=false:=by simp;omega
         have gg2:decide ((ln:Int)≤(li:Int)+1)=false:=by simp;omega
         have gn:((li:Int)+1).toNat=li+1:=by omega
         have gn0:(0:Int)≤(li:Int)+1:=by omega
         have gn1:(li:Int)+1<(ln:Int):=by omega
         have gw:IntKind.i64.wrap ((li:Int)+1)=(li:Int)+1:=IntWalk.i64_in _ (by omega);clear l0 l1 l4;refine wp_region_ext (by kernel_rfl) (by kernel_rfl) ?_;repeat (go_big_quiet_step ((go_at_call 90;exact ext_call (HSEE.out _))))
         refine wpQuiet_nil ?_;rintro _ ⟨xq,rfl⟩;clear d0 d1 d2 gg gg2 gn gn0 gn1 gw;have hbyq:=(xq.ext.block _ (heap_lt (box_grown HBY2.out hgr5 (by omega)))).trans (box_grown HBY2.out hgr5 (by omega));have hrowq:=(xq.ext.block _ (heap_lt HBR5.out)).trans HBR5.out;have hownq:=own_below HOWN5.out xq.ext;have hrdq:=HRD5.out.later xq.ext;have hgrq:=grown_trans hgr5 (grown_of_below xq.ext (some g));generalize xq.val=wq at *
         clear HSEE;obtain⟨i,hi9,c1,hf,hr6⟩:=hrdq.step;have HRD6:=Lib.hid hr6;have hgr6:=grown_set hgrq 1 (.int .i64 ((i:Int)+1));have HBYQ:=Lib.hid (box_other hbyq (a:=⟨g,1,none⟩) (by first|omega|(simp;done)|(simp;omega)) (.int .i64 ((i:Int)+1)));have HROWQ:=Lib.hid (box_other hrowq (a:=⟨g,1,none⟩) (by first|omega|(simp;done)|(simp;omega)) (.int .i64 ((i:Int)+1)));have HOWNQ:=Lib.hid (own_setLow hownq (a:=⟨g,1,none⟩) (by first|omega|(simp;done)|(simp;omega)) (.int .i64 ((i:Int)+1)));clear hrdq hr6 hbyq hrowq hownq hgrq;go_wp2_with (go_at_call 137;refine(item_any _ HRD6.out).mono ?_)
         rintro e w7 hq;have hq7:=hq.1;have hqe:=hq.2;rw [HIT2.out] at hqe;have hgr7:=grown_trans hgr6 hq7;have hgw7:=grown_trans hg2 hgr7;have hby7:=box_grown HBYQ.out hq7 (by omega);have hrow7:=box_grown HROWQ.out hq7 (by omega);have hown7:=own_grownG HOWNQ.out hq7 (by omega);obtain⟨f0,f1,f2,f3,f4,f5,f6,f7,f8⟩:=bx_cells (c:=[]) hby7;obtain⟨hqe',r9,hrd9⟩:e=.returned (.tuple #[.string ⟨#[]⟩,.slice none 0 0,.int .i64 10])∧∃r,Rd w7 g r d:=hqe;subst hqe';have HRD9:=Lib.hid hrd9;clear hq hq7 hby7 hrow7 hown7 hrd9;go_wp2
         refine bodyPost_ret (v:=.tuple #[.agg #[.int .i64 0,.string ⟨([]).toArray⟩,.bool false,.slice none 0 0,.int .i64 0,.int .i64 0,.bool false,.slice none 0 0],.int .i64 10]) (by simp [results,Tryz.results131,go_sem,f0,f1,f2,f3,f4,f5,f6,f7]) rfl ?_;refine⟨?_,?_⟩
         ·iterate 8 (refine grown_setNew ?_ (by first|omega|(simp;done)|(simp;omega)) _)
          exact hgw7
         ·rw [←HR.out]
          refine⟨rfl,?_⟩;iterate 8 (refine RdE.setHi ?_ (by first|omega|(simp;done)|(simp;omega)) _)
          exact⟨_,HRD9.out⟩
        | some y =>
         obtain⟨t,nm2,r4⟩:=y;obtain⟨j1,j2,j3,j4,j5⟩:=item_facts hit2 i5.tail;have HIT2:=Lib.hid hit2;clear j4;by_cases hnm2:nm2=[]
         ·subst hnm2
          cases hlt:Op.bytesLess t c with
          | true =>
           have HF2:Hid (none=R0):=Lib.hid (by rw [←HF.out];simp only [classL,ht,hit,ht2,ht3,hit2,hlt];simp);have HR2:Hid (Except.error 10=R):=Lib.hid (by rw [←HR.out,←HF2.out]);clear HR;have HR:=HR2;clear HF ht hit hrd hok ht2 ht3 hit2 h93;go_wp2_with (go_at_call 134;refine(take_none _ HRD.out HT.out (by simp)).mono ?_)
           rintro e w3 ⟨rfl,hrd3,hq3⟩;have hgr3:=grown_trans hg hq3;have hown3:=own_grownG HOWN.out hq3 (by omega);have HRD3:=Lib.hid hrd3;clear hrd3 hq3;go_wp2_with (go_at_call 137;refine(item_any _ HRD3.out).mono ?_)
           rintro e w4 hq;have hq4:=hq.1;have hqe:=hq.2;rw [HIT.out] at hqe;obtain⟨hrd4,hqe⟩:=hqe;rcases hqe with⟨_,rfl⟩|⟨q,_⟩
           case inr=>exact absurd rfl q
           have hgr4:=grown_trans hgr3 hq4;have hown4:=own_grownG hown3 hq4 (by omega);have hlt4:=hown4.lt;obtain⟨va,vc,rfl⟩:=own_form hown4;have hz4:=hgr4.size;obtain⟨w5,hw5⟩:∃w5,w5=w4.alloc (.cells #[.string ⟨(c).toArray⟩,.string ⟨(c).toArray⟩] 103):=⟨_,rfl⟩;obtain⟨hb5,hz5e,hbr5⟩:=alloc1 w4 hw5;have hz5:w4.heap.size+1≤w5.heap.size:=by omega
           have HOWN5:=Lib.hid (own_below hown4 hb5);have HRD5:=Lib.hid (hrd4.later hb5);have HBR5:=Lib.hid hbr5;have hgr5:=grown_trans hgr4 (grown_of_below hb5 (some g));clear hq hq4 hrd4 hown3 hown4 hz5e hbr5 HRD3;obtain⟨ir,hir⟩:=info_parts row_info;go_upto_region 10 with fail
           rw [←hw5];clear hw5;obtain⟨lb,lo,lk,li,ln,l0,l1,l2,l3,l4⟩:=HRD5.out.look1;have HSEE:Hid (∀x:ExtOf w5,Calls Tryz.prog 90 #[.pointer (some ⟨g,0,none⟩)] x.val fun e w'=>e=.returned (.string ⟨(([45]:Str)).toArray⟩)∧Below x.val.heap.size x.val w'):=Lib.hid fun x=>(see_any _ (HRD5.out.later x.ext)).mono fun _ _ ⟨h1,h2⟩=>⟨by rw [h1];rfl,h2.below _⟩
           have d0:∀x:ExtOf w5,x.val.cell? ⟨g,0,none⟩=some (.slice (some ⟨lb,lo,none⟩) ln lk):=ExtOf.cell l0;have d1:∀x:ExtOf w5,x.val.cell? ⟨g,1,none⟩=some (.int .i64 li):=ExtOf.cell l1;have d2:∀x:ExtOf w5,x.val.cell? ⟨lb,lo+(li+1),none⟩=some (.string ⟨(c3).toArray⟩):=ExtOf.cell l4;have gg:decide (ln≤li+1)=false:=by simp;omega
           have gg2:decide ((ln:Int)≤(li:Int)+1)=false:=by simp;omega
           have gn:((li:Int)+1).toNat=li+1:=by omega
           have gn0:(0:Int)≤(li:Int)+1:=by omega
           have gn1:(li:Int)+1<(ln:Int):=by omega
           have gw:IntKind.i64.wrap ((li:Int)+1)=(li:Int)+1:=IntWalk.i64_in _ (by omega);clear l0 l1 l4;refine wp_region_ext (by kernel_rfl) (by kernel_rfl) ?_;repeat (go_big_quiet_step ((go_at_call 90;exact ext_call (HSEE.out _))))
           refine wpQuiet_nil ?_;rintro _ ⟨xq,rfl⟩;clear d0 d1 d2 gg gg2 gn gn0 gn1 gw;have hbyq:=(xq.ext.block _ (heap_lt (box_grown HBY2.out hgr5 (by omega)))).trans (box_grown HBY2.out hgr5 (by omega));have hrowq:=(xq.ext.block _ (heap_lt HBR5.out)).trans HBR5.out;have hownq:=own_below HOWN5.out xq.ext;have hrdq:=HRD5.out.later xq.ext;have hgrq:=grown_trans hgr5 (grown_of_below xq.ext (some g));generalize xq.val=wq at *
           clear HSEE;obtain⟨i,hi9,c1,hf,hr6⟩:=hrdq.step;have HRD6:=Lib.hid hr6;have hgr6:=grown_set hgrq 1 (.int .i64 ((i:Int)+1));have HBYQ:=Lib.hid (box_other hbyq (a:=⟨g,1,none⟩) (by first|omega|(simp;done)|(simp;omega)) (.int .i64 ((i:Int)+1)));have HROWQ:=Lib.hid (box_other hrowq (a:=⟨g,1,none⟩) (by first|omega|(simp;done)|(simp;omega)) (.int .i64 ((i:Int)+1)));have HOWNQ:=Lib.hid (own_setLow hownq (a:=⟨g,1,none⟩) (by first|omega|(simp;done)|(simp;omega)) (.int .i64 ((i:Int)+1)));clear hrdq hr6 hbyq hrowq hownq hgrq;go_wp2_with (go_at_call 137;refine(item_any _ HRD6.out).mono ?_)
           rintro e w7 hq;have hq7:=hq.1;have hqe:=hq.2;rw [HIT2.out] at hqe;have hgr7:=grown_trans hgr6 hq7;have hgw7:=grown_trans hg2 hgr7;have hby7:=box_grown HBYQ.out hq7 (by omega);have hrow7:=box_grown HROWQ.out hq7 (by omega);have hown7:=own_grownG HOWNQ.out hq7 (by omega);obtain⟨f0,f1,f2,f3,f4,f5,f6,f7,f8⟩:=bx_cells (c:=[]) hby7;obtain⟨hrd7,hqe⟩:=hqe;rcases hqe with⟨_,rfl⟩|⟨q,_⟩
           case inr=>exact absurd rfl q
           have HRD9:=Lib.hid hrd7;clear hq hq7 hby7 hrow7 hown7 hrd7;go_wp2
           refine bodyPost_ret (v:=.tuple #[.agg #[.int .i64 0,.string ⟨([]).toArray⟩,.bool false,.slice none 0 0,.int .i64 0,.int .i64 0,.bool false,.slice none 0 0],.int .i64 10]) (by simp [results,Tryz.results131,go_sem,f0,f1,f2,f3,f4,f5,f6,f7]) rfl ?_;refine⟨?_,?_⟩
           ·iterate 8 (refine grown_setNew ?_ (by first|omega|(simp;done)|(simp;omega)) _)
            exact hgw7
           ·rw [←HR.out]
            refine⟨rfl,?_⟩;iterate 8 (refine RdE.setHi ?_ (by first|omega|(simp;done)|(simp;omega)) _)
            exact⟨_,HRD9.out⟩
          | false =>
           have HF2:Hid (classL n (rows++[(c,t)]) r4=R0):=Lib.hid (by rw [←HF.out];simp only [classL,ht,hit,ht2,ht3,hit2,hlt];simp);clear HF ht hit hrd hok ht2 ht3 hit2 h93;go_wp2_with (go_at_call 134;refine(take_none _ HRD.out HT.out (by simp)).mono ?_)
           rintro e w3 ⟨rfl,hrd3,hq3⟩;have hgr3:=grown_trans hg hq3;have hown3:=own_grownG HOWN.out hq3 (by omega);have HRD3:=Lib.hid hrd3;clear hrd3 hq3;go_wp2_with (go_at_call 137;refine(item_any _ HRD3.out).mono ?_)
           rintro e w4 hq;have hq4:=hq.1;have hqe:=hq.2;rw [HIT.out] at hqe;obtain⟨hrd4,hqe⟩:=hqe;rcases hqe with⟨_,rfl⟩|⟨q,_⟩
           case inr=>exact absurd rfl q
           have hgr4:=grown_trans hgr3 hq4;have hown4:=own_grownG hown3 hq4 (by omega);have hlt4:=hown4.lt;obtain⟨va,vc,rfl⟩:=own_form hown4;have hz4:=hgr4.size;obtain⟨w5,hw5⟩:∃w5,w5=w4.alloc (.cells #[.string ⟨(c).toArray⟩,.string ⟨(c).toArray⟩] 103):=⟨_,rfl⟩;obtain⟨hb5,hz5e,hbr5⟩:=alloc1 w4 hw5;have hz5:w4.heap.size+1≤w5.heap.size:=by omega
           have HOWN5:=Lib.hid (own_below hown4 hb5);have HRD5:=Lib.hid (hrd4.later hb5);have HBR5:=Lib.hid hbr5;have hgr5:=grown_trans hgr4 (grown_of_below hb5 (some g));clear hq hq4 hrd4 hown3 hown4 hz5e hbr5 HRD3;obtain⟨ir,hir⟩:=info_parts row_info;go_upto_region 10 with fail
           rw [←hw5];clear hw5;obtain⟨lb,lo,lk,li,ln,l0,l1,l2,l3,l4⟩:=HRD5.out.look1;have HSEE:Hid (∀x:ExtOf w5,Calls Tryz.prog 90 #[.pointer (some ⟨g,0,none⟩)] x.val fun e w'=>e=.returned (.string ⟨(([45]:Str)).toArray⟩)∧Below x.val.heap.size x.val w'):=Lib.hid fun x=>(see_any _ (HRD5.out.later x.ext)).mono fun _ _ ⟨h1,h2⟩=>⟨by rw [h1];rfl,h2.below _⟩
           have d0:∀x:ExtOf w5,x.val.cell? ⟨g,0,none⟩=some (.slice (some ⟨lb,lo,none⟩) ln lk):=ExtOf.cell l0;have d1:∀x:ExtOf w5,x.val.cell? ⟨g,1,none⟩=some (.int .i64 li):=ExtOf.cell l1;have d2:∀x:ExtOf w5,x.val.cell? ⟨lb,lo+(li+1),none⟩=some (.string ⟨(c3).toArray⟩):=ExtOf.cell l4;have gg:decide (ln≤li+1)=false:=by simp;omega
           have gg2:decide ((ln:Int)≤(li:Int)+1)=false:=by simp;omega
           have gn:((li:Int)+1).toNat=li+1:=by omega
           have gn0:(0:Int)≤(li:Int)+1:=by omega
           have gn1:(li:Int)+1<(ln:Int):=by omega
           have gw:IntKind.i64.wrap ((li:Int)+1)=(li:Int)+1:=IntWalk.i64_in _ (by omega);clear l0 l1 l4;refine wp_region_ext (by kernel_rfl) (by kernel_rfl) ?_;repeat (go_big_quiet_step ((go_at_call 90;exact ext_call (HSEE.out _))))
           refine wpQuiet_nil ?_;rintro _ ⟨xq,rfl⟩;clear d0 d1 d2 gg gg2 gn gn0 gn1 gw;have hbyq:=(xq.ext.block _ (heap_lt (box_grown HBY2.out hgr5 (by omega)))).trans (box_grown HBY2.out hgr5 (by omega));have hrowq:=(xq.ext.block _ (heap_lt HBR5.out)).trans HBR5.out;have hownq:=own_below HOWN5.out xq.ext;have hrdq:=HRD5.out.later xq.ext;have hgrq:=grown_trans hgr5 (grown_of_below xq.ext (some g));generalize xq.val=wq at *
           clear HSEE;obtain⟨i,hi9,c1,hf,hr6⟩:=hrdq.step;have HRD6:=Lib.hid hr6;have hgr6:=grown_set hgrq 1 (.int .i64 ((i:Int)+1));have HBYQ:=Lib.hid (box_other hbyq (a:=⟨g,1,none⟩) (by first|omega|(simp;done)|(simp;omega)) (.int .i64 ((i:Int)+1)));have HROWQ:=Lib.hid (box_other hrowq (a:=⟨g,1,none⟩) (by first|omega|(simp;done)|(simp;omega)) (.int .i64 ((i:Int)+1)));have HOWNQ:=Lib.hid (own_setLow hownq (a:=⟨g,1,none⟩) (by first|omega|(simp;done)|(simp;omega)) (.int .i64 ((i:Int)+1)));clear hrdq hr6 hbyq hrowq hownq hgrq;go_wp2_with (go_at_call 137;refine(item_any _ HRD6.out).mono ?_)
           rintro e w7 hq;have hq7:=hq.1;have hqe:=hq.2;rw [HIT2.out] at hqe;have hgr7:=grown_trans hgr6 hq7;have hgw7:=grown_trans hg2 hgr7;have hby7:=box_grown HBYQ.out hq7 (by omega);have hrow7:=box_grown HROWQ.out hq7 (by omega);have hown7:=own_grownG HOWNQ.out hq7 (by omega);obtain⟨f0,f1,f2,f3,f4,f5,f6,f7,f8⟩:=bx_cells (c:=[]) hby7;obtain⟨hrd7,hqe⟩:=hqe;rcases hqe with⟨_,rfl⟩|⟨q,_⟩
           case inr=>exact absurd rfl q
           have hrc7:w7.cell? ⟨w4.heap.size,1,none⟩=some (.string ⟨(c).toArray⟩):=by rw [Lib.cell_of_heap hrow7];rfl
           have hrc70:w7.cell? ⟨w4.heap.size,0,none⟩=some (.string ⟨(c).toArray⟩):=by rw [Lib.cell_of_heap hrow7];rfl
           have hfr7:w7.frozen? ⟨w4.heap.size,1,none⟩=false:=by unfold World.frozen?;rw [hrow7];rfl
           have hrowq:(w7.setCell ⟨w4.heap.size,1,none⟩ (.string ⟨(t).toArray⟩)).heap[w4.heap.size]?=some (.cells #[.string ⟨(c).toArray⟩,.string ⟨(t).toArray⟩] 103 (0,0)):=by
            rw [heap_setCell_same w7 _ _ _ _ _ hrow7];rfl
           have hownq:=own_setOther hown7 (a:=⟨w4.heap.size,1,none⟩) (fun e=>by have:=(hlt4 _ e).2;simp at this) (.string ⟨(t).toArray⟩);have hrdq:=hrd7.setHi (a:=⟨w4.heap.size,1,none⟩) (by simp;omega) (.string ⟨(t).toArray⟩);have hgrq:=grown_setNew hgr7 (a:=⟨w4.heap.size,1,none⟩) (by first|omega|(simp;done)|(simp;omega)) (.string ⟨(t).toArray⟩);clear hq hq7 hby7 hrow7 hown7 hrd7;have hrc0:(w7.setCell ⟨w4.heap.size,1,none⟩ (.string ⟨(t).toArray⟩)).cell? ⟨w4.heap.size,0,none⟩=some (.string ⟨(c).toArray⟩):=by rw [Lib.cell_of_heap hrowq];rfl
           have hrc1:(w7.setCell ⟨w4.heap.size,1,none⟩ (.string ⟨(t).toArray⟩)).cell? ⟨w4.heap.size,1,none⟩=some (.string ⟨(t).toArray⟩):=by rw [Lib.cell_of_heap hrowq];rfl
           have hbn:Below (w7.setCell ⟨w4.heap.size,1,none⟩ (.string ⟨(t).toArray⟩)).heap.size (w7.setCell ⟨w4.heap.size,1,none⟩ (.string ⟨(t).toArray⟩)) ((w7.setCell ⟨w4.heap.size,1,none⟩ (.string ⟨(t).toArray⟩)).alloc (.cells #[.string ⟨(c).toArray⟩,.string ⟨(t).toArray⟩] 103)):=(Below.refl _ _).alloc (Nat.le_refl _) _;have HO6:=Lib.hid (own_below hownq hbn);have hsl6:Sl ((w7.setCell ⟨w4.heap.size,1,none⟩ (.string ⟨(t).toArray⟩)).alloc (.cells #[.string ⟨(c).toArray⟩,.string ⟨(t).toArray⟩] 103)) ((w7.setCell ⟨w4.heap.size,1,none⟩ (.string ⟨(t).toArray⟩)).alloc (.cells #[.string ⟨(c).toArray⟩,.string ⟨(t).toArray⟩] 103)).heap.size (some ⟨w7.heap.size,0,none⟩) 2 1 (rcells [(c,t)]):=by
            rw [show w7.heap.size=(w7.setCell ⟨w4.heap.size,1,none⟩ (.string ⟨(t).toArray⟩)).heap.size from by first|rfl|simp [World.setCell]];exact Sl.lit (n:=1) (sz:=2) (heap_alloc_new (w7.setCell ⟨w4.heap.size,1,none⟩ (.string ⟨(t).toArray⟩)) (.cells #[.string ⟨(c).toArray⟩,.string ⟨(t).toArray⟩] 103)) rfl
           have HSL6:=Lib.hid hsl6;clear hsl6;have HRD6:=Lib.hid (hrdq.later hbn);have hgr6:=grown_trans hgrq (grown_of_below hbn (some g));have hz6:=hgr6.size;clear hrowq hownq hrdq hgrq hbn;go_wp2_with (at_builtin;refine wpList_appM w2.heap.size 103 rfl _ _ 31 rfl Tryz.underlying31 hir rfl (by decide) rfl (HO6.out) rfl (HSL6.out) (rcells_one [(c,t)]) (by omega) (by omega) (by decide) hz6 ?_)
           intro v7 w7 hown7 hq7 hb7 _;have hown8:w7.ownsRow w2.heap.size 103 2 v7 (rows++[(c,t)]).length (rcells (rows++[(c,t)])):=by
            rw [List.length_append,show rcells (rows++[(c,t)])=rcells rows++rcells [(c,t)] from by simp [rcells]];exact hown7
           have hrd7:=HRD6.out.grownHi hq7 (fun k hk=>by have:=(hlt4 k hk).1;omega);have hgr7:w2.grownBy w7 (some g):=cls_grown hgr6 hb7 (by omega);have hrl7:=rows_app (nm:=[(c,t)]) HRL.out (by simp;omega);clear hown7 hq7 hb7;go_wp2
           go_roundg n
           case measure=>omega
           case rel=>exact⟨rows++[(c,t)],r4,hown8,hrd7,hgr7,by simp at *;omega,by simp at *;omega,hrl7,HF2⟩
         ·have HF2:Hid (none=R0):=Lib.hid (by rw [←HF.out];simp only [classL,ht,hit,ht2,ht3,hit2];simp [hnm2])
          have HR2:Hid (Except.error 10=R):=Lib.hid (by rw [←HR.out,←HF2.out]);clear HR;have HR:=HR2;have HNM2:=Lib.hid hnm2;clear HF ht hit hrd hok ht2 ht3 hit2 h93 hnm2;go_wp2_with (go_at_call 134;refine(take_none _ HRD.out HT.out (by simp)).mono ?_)
          rintro e w3 ⟨rfl,hrd3,hq3⟩;have hgr3:=grown_trans hg hq3;have hown3:=own_grownG HOWN.out hq3 (by omega);have HRD3:=Lib.hid hrd3;clear hrd3 hq3;go_wp2_with (go_at_call 137;refine(item_any _ HRD3.out).mono ?_)
          rintro e w4 hq;have hq4:=hq.1;have hqe:=hq.2;rw [HIT.out] at hqe;obtain⟨hrd4,hqe⟩:=hqe;rcases hqe with⟨_,rfl⟩|⟨q,_⟩
          case inr=>exact absurd rfl q
          have hgr4:=grown_trans hgr3 hq4;have hown4:=own_grownG hown3 hq4 (by omega);have hlt4:=hown4.lt;obtain⟨va,vc,rfl⟩:=own_form hown4;have hz4:=hgr4.size;obtain⟨w5,hw5⟩:∃w5,w5=w4.alloc (.cells #[.string ⟨(c).toArray⟩,.string ⟨(c).toArray⟩] 103):=⟨_,rfl⟩;obtain⟨hb5,hz5e,hbr5⟩:=alloc1 w4 hw5;have hz5:w4.heap.size+1≤w5.heap.size:=by omega
          have HOWN5:=Lib.hid (own_below hown4 hb5);have HRD5:=Lib.hid (hrd4.later hb5);have HBR5:=Lib.hid hbr5;have hgr5:=grown_trans hgr4 (grown_of_below hb5 (some g));clear hq hq4 hrd4 hown3 hown4 hz5e hbr5 HRD3;obtain⟨ir,hir⟩:=info_parts row_info;go_upto_region 10 with fail
          rw [←hw5];clear hw5;obtain⟨lb,lo,lk,li,ln,l0,l1,l2,l3,l4⟩:=HRD5.out.look1;have HSEE:Hid (∀x:ExtOf w5,Calls Tryz.prog 90 #[.pointer (some ⟨g,0,none⟩)] x.val fun e w'=>e=.returned (.string ⟨(([45]:Str)).toArray⟩)∧Below x.val.heap.size x.val w'):=Lib.hid fun x=>(see_any _ (HRD5.out.later x.ext)).mono fun _ _ ⟨h1,h2⟩=>⟨by rw [h1];rfl,h2.below _⟩
          have d0:∀x:ExtOf w5,x.val.cell? ⟨g,0,none⟩=some (.slice (some ⟨lb,lo,none⟩) ln lk):=ExtOf.cell l0;have d1:∀x:ExtOf w5,x.val.cell? ⟨g,1,none⟩=some (.int .i64 li):=ExtOf.cell l1;have d2:∀x:ExtOf w5,x.val.cell? ⟨lb,lo+(li+1),none⟩=some (.string ⟨(c3).toArray⟩):=ExtOf.cell l4;have gg:decide (ln≤li+1)=false:=by simp;omega
          have gg2:decide ((ln:Int)≤(li:Int)+1)=false:=by simp;omega
          have gn:((li:Int)+1).toNat=li+1:=by omega
          have gn0:(0:Int)≤(li:Int)+1:=by omega
          have gn1:(li:Int)+1<(ln:Int):=by omega
          have gw:IntKind.i64.wrap ((li:Int)+1)=(li:Int)+1:=IntWalk.i64_in _ (by omega);clear l0 l1 l4;refine wp_region_ext (by kernel_rfl) (by kernel_rfl) ?_;repeat (go_big_quiet_step ((go_at_call 90;exact ext_call (HSEE.out _))))
          refine wpQuiet_nil ?_;rintro _ ⟨xq,rfl⟩;clear d0 d1 d2 gg gg2 gn gn0 gn1 gw;have hbyq:=(xq.ext.block _ (heap_lt (box_grown HBY2.out hgr5 (by omega)))).trans (box_grown HBY2.out hgr5 (by omega));have hrowq:=(xq.ext.block _ (heap_lt HBR5.out)).trans HBR5.out;have hownq:=own_below HOWN5.out xq.ext;have hrdq:=HRD5.out.later xq.ext;have hgrq:=grown_trans hgr5 (grown_of_below xq.ext (some g));generalize xq.val=wq at *
          clear HSEE;obtain⟨i,hi9,c1,hf,hr6⟩:=hrdq.step;have HRD6:=Lib.hid hr6;have hgr6:=grown_set hgrq 1 (.int .i64 ((i:Int)+1));have HBYQ:=Lib.hid (box_other hbyq (a:=⟨g,1,none⟩) (by first|omega|(simp;done)|(simp;omega)) (.int .i64 ((i:Int)+1)));have HROWQ:=Lib.hid (box_other hrowq (a:=⟨g,1,none⟩) (by first|omega|(simp;done)|(simp;omega)) (.int .i64 ((i:Int)+1)));have HOWNQ:=Lib.hid (own_setLow hownq (a:=⟨g,1,none⟩) (by first|omega|(simp;done)|(simp;omega)) (.int .i64 ((i:Int)+1)));clear hrdq hr6 hbyq hrowq hownq hgrq;go_wp2_with (go_at_call 137;refine(item_any _ HRD6.out).mono ?_)
          rintro e w7 hq;have hq7:=hq.1;have hqe:=hq.2;rw [HIT2.out] at hqe;have hgr7:=grown_trans hgr6 hq7;have hgw7:=grown_trans hg2 hgr7;have hby7:=box_grown HBYQ.out hq7 (by omega);have hrow7:=box_grown HROWQ.out hq7 (by omega);have hown7:=own_grownG HOWNQ.out hq7 (by omega);obtain⟨f0,f1,f2,f3,f4,f5,f6,f7,f8⟩:=bx_cells (c:=[]) hby7;obtain⟨hrd7,hqe⟩:=hqe;rcases hqe with⟨q,_⟩|⟨_,la2,lk2,rfl,_⟩
          case inl=>exact absurd q HNM2.out
          have HRD9:=Lib.hid hrd7;clear hq hq7 hby7 hrow7 hown7 hrd7;go_wp2
          refine bodyPost_ret (v:=.tuple #[.agg #[.int .i64 0,.string ⟨([]).toArray⟩,.bool false,.slice none 0 0,.int .i64 0,.int .i64 0,.bool false,.slice none 0 0],.int .i64 10]) (by simp [results,Tryz.results131,go_sem,f0,f1,f2,f3,f4,f5,f6,f7]) rfl ?_;refine⟨?_,?_⟩
          ·iterate 8 (refine grown_setNew ?_ (by first|omega|(simp;done)|(simp;omega)) _)
           exact hgw7
          ·rw [←HR.out]
           refine⟨rfl,?_⟩;iterate 8 (refine RdE.setHi ?_ (by first|omega|(simp;done)|(simp;omega)) _)
           exact⟨_,HRD9.out⟩
    ·have HF2:Hid (classL n (rows++nm) r1=R0):=Lib.hid (by rw [←HF.out];simp only [classL,ht,hit];rw [if_pos hnm])
     have HNM:=Lib.hid hnm;clear HF ht hit hrd hok hnm;go_wp2_with (go_at_call 134;refine(take_none _ HRD.out HT.out (by simp)).mono ?_)
     rintro e w3 ⟨rfl,hrd3,hq3⟩;have hgr3:=grown_trans hg hq3;have hown3:=own_grownG HOWN.out hq3 (by omega);have HRD3:=Lib.hid hrd3;clear hrd3 hq3;go_wp2_with (go_at_call 137;refine(item_any _ HRD3.out).mono ?_)
     rintro e w4 hq;have hq4:=hq.1;have hqe:=hq.2;rw [HIT.out] at hqe;obtain⟨hrd4,hqe⟩:=hqe;rcases hqe with⟨q,_⟩|⟨_,a,k,rfl,hsl⟩
     ·exact absurd q HNM.out
     have hgr4:=grown_trans hgr3 hq4;have hown4:=own_grownG hown3 hq4 (by omega);have hlt4:=hown4.lt;obtain⟨va,vc,rfl⟩:=own_form hown4;have HOWN4:=Lib.hid hown4;have HSL:=Lib.hid hsl.sl;have HRD4:=Lib.hid hrd4;clear hq hq4 hsl hrd4 hown3 hown4;obtain⟨ir,hir⟩:=info_parts row_info;have hz4:=hgr4.size;go_wp2_with (at_builtin;refine wpList_appM w2.heap.size 103 rfl _ _ 31 rfl Tryz.underlying31 hir rfl (by decide) rfl (HOWN4.out) rfl (HSL.out) (rcells_one nm) (by omega) (by omega) (by decide) hz4 ?_)
     intro v5 w5 hown5 hq5 hb5 _;have hown6:w5.ownsRow w2.heap.size 103 2 v5 (rows++nm).length (rcells (rows++nm)):=by
      rw [List.length_append,show rcells (rows++nm)=rcells rows++rcells nm from by simp [rcells]];exact hown5
     have hrd5:=HRD4.out.grownHi hq5 (fun k hk=>by have:=(hlt4 k hk).1;omega);have hgr5:w2.grownBy w5 (some g):=cls_grown hgr4 hb5 (by omega);have hrl5:=rows_app HRL.out HI4.out;clear hown5 hq5 hb5;go_wp2
     go_roundg n
     case measure=>omega
     case rel=>exact⟨rows++nm,r1,hown6,hrd5,hgr5,by rw [List.length_append];omega,by omega,hrl5,HF2⟩
theorem class_any {g d:Nat} {r:List Str} (w:World) (h:Rd w g r d) :
  Calls Tryz.prog 131 #[.pointer (some ⟨g,0,none⟩)] w fun e w'=>ResPost g d w.heap.size w (classM r) e w':=by
 cases hng:takeM [94] r with
 | some r0=>exact class_not w h hng
 | none=>exact class_yes w h ⟨hng,rfl⟩
end Go.Proofs.YtbgcjpefocdkkaaGreat
