/- walks of rxread: term -/
import Derived.Test.YtbgcjpefocdkkaaGreatSm1
import Derived.Test.YtbgcjpefocdkkaaGreatSm2
import Derived.Test.YtbgcjpefocdkkaaGreatSm3
import Derived.Test.YtbgcjpefocdkkaaGreatSm4
import Derived.Test.YtbgcjpefocdkkaaGreatSm5
import Derived.Test.YtbgcjpefocdkkaaGreatSm6
import Derived.Test.YtbgcjpefocdkkaaGreatSm7
import Derived.Test.YtbgcjpefocdkkaaGreatSm8
import Derived.Test.YtbgcjpefocdkkaaGreatSm9
import Derived.Test.YtbgcjpefocdkkaaGreatSm10
import Derived.Test.YtbgcjpefocdkkaaGreatSm14
import Derived.Test.YtbgcjpefocdkkaaGreatSm15
import Derived.Test.YtbgcjpefocdkkaaGreatSm16
set_option maxRecDepth 100000
namespace Go.Proofs.YtbgcjpefocdkkaaGreat
open Go.RowKit
set_option maxHeartbeats 4000000 in
theorem term_any {n:Nat} (hp:PatC n) {g d:Nat} {r:List Str} (w:World) (h:Rd w g r d) (hlen:r.length≤n) (hd:d≤16) :
  Calls Tryz.prog 106 #[.pointer (some ⟨g,0,none⟩)] w fun e w'=>ResPost g d w.heap.size w (termM (patF n) r d) e w':=by
 obtain⟨R,hR⟩:∃R,termM (patF n) r d=R:=⟨_,rfl⟩;rw [hR];unfold termM at hR;have HP:=Lib.hid hp;clear hp;cases r with
 | nil =>
  have HR:Hid ((match atomM (patF n) [] d with|.error e=>.error e|.ok (x,r1)=>quantM x r1)=R):=Lib.hid hR;clear hR;obtain⟨w0,hw0⟩:∃w0,w0=w.alloc (.cells #[.int .i64 0,.string ⟨#[]⟩,.bool false,.slice none 0 0,.int .i64 0,.int .i64 0,.bool false,.slice none 0 0] 34):=⟨_,rfl⟩;obtain⟨hb0,hz0,hby0⟩:=alloc1 w hw0;have HRD:=Lib.hid (h.later hb0);rw [hw0] at HRD;have HW0:=Lib.hid hw0;have HBY0:=Lib.hid hby0;have hgg:w.grownBy w0 (some g):=grown_of_below hb0 _;have hgr:g<w.heap.size:=h.lt;clear hw0 hby0 h;go_enter Tryz.func106,Tryz.ntmps106
  go_wp2_with (go_at_call 90;refine(see_any _ HRD.out).mono ?_)
  rintro e w1 ⟨rfl,hst⟩;rw [←HW0.out] at hst;have hg1:=grown_trans hgg (hst.grown (some g));have HRD1:=Lib.hid (hst.rd (HW0.out▸HRD.out:Rd w0 g _ d));have HBY1:=Lib.hid (box_grown HBY0.out (hst.grown (some g)) (by omega));have hz1:w0.heap.size≤w1.heap.size:=by rw [hst.size];exact Nat.le_refl _
  clear hst;try rw [hdS_cons]
  have e0:hdS []=[]:=rfl;rw [e0];clear e0;have HAT:=Lib.hid (atom_any HP.out w1 HRD1.out hlen hd);go_wp2_with (go_at_call 121;refine HAT.out.mono ?_)
  rintro e w2 hq;clear HAT;cases hat:atomM (patF n) ([]) d with
  | error q =>
   rw [hat] at hq;obtain⟨hq2,rfl,r9,hrd9⟩:=hq;have hq0:q≠0:=atom_err (pat_err n) ([]) d q hat;have HR2:Hid (Except.error q=R):=Lib.hid (by rw [←HR.out];simp only [hat]);have HR:=HR2;have hg2:=grown_trans hg1 hq2;have hby2:=box_grown HBY1.out hq2 (by omega);have hb6:Below w2.heap.size w2 (w2.alloc (.cells #[.int .i64 0,.string ⟨#[]⟩,.bool false,.slice none 0 0,.int .i64 0,.int .i64 0,.bool false,.slice none 0 0] 34)):=(Below.refl _ _).alloc (Nat.le_refl _) _;have HRD6:=Lib.hid (hrd9.later hb6);have hg6:=grown_trans hg2 (grown_of_below hb6 (some g));have ne1:(q != 0)=true:=by simp [bne,hq0]
   obtain⟨f0,f1,f2,f3,f4,f5,f6,f7,f8⟩:=bx_cells (c:=[]) ((hb6.block _ (heap_lt hby2)).trans hby2);clear hat hby2 hrd9 hb6 hq2;unfold rxv0;go_wp2
   refine bodyPost_ret (v:=.tuple #[.agg #[.int .i64 0,.string ⟨([]).toArray⟩,.bool false,.slice none 0 0,.int .i64 0,.int .i64 0,.bool false,.slice none 0 0],.int .i64 q]) (by simp [results,Tryz.results106,go_sem,f0,f1,f2,f3,f4,f5,f6,f7]) rfl ?_;refine⟨?_,?_⟩
   ·iterate 8 (refine grown_setNew ?_ (by first|omega|(simp;done)|(simp;omega)) _)
    exact hg6
   ·rw [←HR.out]
    refine⟨rfl,?_⟩;iterate 8 (refine RdE.setHi ?_ (by first|omega|(simp;done)|(simp;omega)) _)
    exact⟨_,HRD6.out⟩
  | ok y =>
   obtain⟨x,r3⟩:=y;rw [hat] at hq;obtain⟨hq2,cc,rfl,hxv,hrd2⟩:=hq;have HR2:Hid (quantM x r3=R):=Lib.hid (by rw [←HR.out];simp only [hat]);have HR:=HR2;have hg2:=grown_trans hg1 hq2;have hby2:=box_grown HBY1.out hq2 (by omega);have hz2:=hq2.size;obtain⟨k,c,ng,rs,lo,hi,lz,ks⟩:=x;have hxv0:=hxv;obtain⟨ra,rc,ka,kc,rfl,hrs,hks⟩:=hxv.open_;have hb6:Below w2.heap.size w2 (w2.alloc (.cells #[.int .i64 k,.string ⟨(c).toArray⟩,.bool ng,.slice ra rs.length rc,.int .i64 lo,.int .i64 hi,.bool lz,.slice ka ks.length kc] 34)):=(Below.refl _ _).alloc (Nat.le_refl _) _;have HRD6:=Lib.hid (hrd2.later hb6);have hg6:=grown_trans hg2 (grown_of_below hb6 (some g));have HBY6:=Lib.hid ((hb6.block _ (heap_lt hby2)).trans hby2);have hxv6:RxV _ (fun b=>w.heap.size+1≤b) _ _:=(hxv0.mono (S':=fun b=>w.heap.size+1≤b) fun b hb _=>by have:=hz1;omega).later hb6;have hz6:w.heap.size+1≤(w2.alloc (.cells #[.int .i64 k,.string ⟨(c).toArray⟩,.bool ng,.slice ra rs.length rc,.int .i64 lo,.int .i64 hi,.bool lz,.slice ka ks.length kc] 34)).heap.size:=by simp;have:=hz1;omega
   have HQT:=Lib.hid (quantified_any _ HRD6.out hxv6 hz6 (by omega));clear hat hxv hxv0 hrs hks hrd2 hby2 hb6 hxv6 hz6;unfold rxc at HQT ⊢;go_wp2_with (go_at_call 122;refine HQT.out.mono ?_)
   rintro e w8 hq;clear HQT;cases hres:quantM (.mk k c ng rs lo hi lz ks) r3 with
   | error q =>
    rw [hres] at hq;obtain⟨hq8,rfl,r9,hrd9⟩:=hq;have HR2:Hid (Except.error q=R):=Lib.hid (by rw [←HR.out,hres]);have HR:=HR2;have hg8:=grown_trans hg6 hq8;have HRD9:=Lib.hid hrd9;obtain⟨f0,f1,f2,f3,f4,f5,f6,f7,f8⟩:=bx_cells (c:=[]) (box_grown HBY6.out hq8 (by omega));clear hres hq8 hrd9;unfold rxv0;go_wp2
    refine bodyPost_ret (v:=.tuple #[.agg #[.int .i64 0,.string ⟨([]).toArray⟩,.bool false,.slice none 0 0,.int .i64 0,.int .i64 0,.bool false,.slice none 0 0],.int .i64 q]) (by simp [results,Tryz.results106,go_sem,f0,f1,f2,f3,f4,f5,f6,f7]) rfl ?_;refine⟨?_,?_⟩
    ·iterate 8 (refine grown_setNew ?_ (by first|omega|(simp;done)|(simp;omega)) _)
     exact hg8
    ·rw [←HR.out]
     refine⟨rfl,?_⟩;iterate 8 (refine RdE.setHi ?_ (by first|omega|(simp;done)|(simp;omega)) _)
     exact⟨_,HRD9.out⟩
   | ok y =>
    obtain⟨x,r3⟩:=y;rw [hres] at hq;obtain⟨hq8,cc,rfl,hxv,hrd9⟩:=hq;have HR2:Hid (Except.ok (x,r3)=R):=Lib.hid (by rw [←HR.out,hres]);have HR:=HR2;have hg8:=grown_trans hg6 hq8;have HRD9:=Lib.hid hrd9;obtain⟨k,c,ng,rs,lo,hi,lz,ks⟩:=x;have hxv0:=hxv;obtain⟨ra,rc,ka,kc,rfl,hrs,hks⟩:=hxv.open_;have HXV:=Lib.hid (hxv0.mono (S':=fun b=>w.heap.size≤b∧b≠w.heap.size) fun b hb hlt=>by have:=hz2;constructor<;>omega);obtain⟨f0,f1,f2,f3,f4,f5,f6,f7,f8⟩:=bx_cells (c:=[]) (box_grown HBY6.out hq8 (by omega));clear hres hq8 hrd9 hxv hxv0 hrs hks;unfold rxc at HXV ⊢;go_wp2
    refine bodyPost_ret (v:=.tuple #[.agg #[.int .i64 k,.string ⟨(c).toArray⟩,.bool ng,.slice ra rs.length rc,.int .i64 lo,.int .i64 hi,.bool lz,.slice ka ks.length kc],.int .i64 0]) (by simp [results,Tryz.results106,go_sem,f0,f1,f2,f3,f4,f5,f6,f7]) rfl ?_;refine⟨?_,?_⟩
    ·iterate 8 (refine grown_setNew ?_ (by first|omega|(simp;done)|(simp;omega)) _)
     exact hg8
    rw [←HR.out];refine⟨rxc k c ng ra rs.length rc lo hi lz ka ks.length kc,rfl,RxV.mono (S:=fun b=>w.heap.size≤b∧b≠w.heap.size) (fun b hb _=>hb.1) ?_,?_⟩
    ·iterate 8 (refine RxV.keep (Kept.setLow _ (fun b hb=>by have:w.heap.size≤b∧b≠w.heap.size:=hb;first|omega|(simp;done)|(simp;omega))) ?_)
     exact HXV.out
    ·iterate 8 (refine RdT.setHi ?_ (by first|omega|(simp;done)|(simp;omega)) _)
     exact HRD9.out
 | cons c r1 =>
  by_cases h94:c=[94]
  ·subst h94
   have HR:Hid (Except.ok (rxK 8,r1)=R):=Lib.hid hR;clear hR hlen;obtain⟨w0,hw0⟩:∃w0,w0=w.alloc (.cells #[.int .i64 0,.string ⟨#[]⟩,.bool false,.slice none 0 0,.int .i64 0,.int .i64 0,.bool false,.slice none 0 0] 34):=⟨_,rfl⟩;obtain⟨hb0,hz0,hby0⟩:=alloc1 w hw0;have HRD:=Lib.hid (h.later hb0);rw [hw0] at HRD;have HW0:=Lib.hid hw0;have HBY0:=Lib.hid hby0;have hgg:w.grownBy w0 (some g):=grown_of_below hb0 _;have hgr:g<w.heap.size:=h.lt;clear hw0 hby0 h;go_enter Tryz.func106,Tryz.ntmps106
   go_wp2_with (go_at_call 90;refine(see_any _ HRD.out).mono ?_)
   rintro e w1 ⟨rfl,hst⟩;rw [←HW0.out] at hst;have hg1:=grown_trans hgg (hst.grown (some g));have HRD1:=Lib.hid (hst.rd (HW0.out▸HRD.out:Rd w0 g _ d));have HBY1:=Lib.hid (box_grown HBY0.out (hst.grown (some g)) (by omega));have hz1:w0.heap.size≤w1.heap.size:=by rw [hst.size];exact Nat.le_refl _
   clear hst;try rw [hdS_cons]
   obtain⟨i,hi,c1,hf,hr2⟩:=HRD1.out.step;have HRD2:=Lib.hid hr2;have hg2:=grown_set hg1 1 (.int .i64 ((i:Int)+1));obtain⟨f0,f1,f2,f3,f4,f5,f6,f7,f8⟩:=bx_cells (c:=[]) HBY1.out;clear hr2;go_wp2
   refine bodyPost_ret (v:=.tuple #[.agg #[.int .i64 8,.string ⟨([]).toArray⟩,.bool false,.slice none ([]:List Row).length 0,.int .i64 0,.int .i64 0,.bool false,.slice none ([]:List Rx).length 0],.int .i64 0]) (by simp [results,Tryz.results106,go_sem,f0,f1,f2,f3,f4,f5,f6,f7]) rfl ?_;refine⟨?_,?_⟩
   ·iterate 8 (refine grown_setNew ?_ (by first|omega|(simp;done)|(simp;omega)) _)
    exact hg2
   rw [←HR.out];refine⟨rxc 8 [] false none ([]:List Row).length 0 0 0 false none ([]:List Rx).length 0,rfl,RxV.mono (S:=fun b=>w.heap.size≤b∧b≠w.heap.size) (fun b hb _=>hb.1) ?_,?_⟩
   ·iterate 8 (refine RxV.keep (Kept.setLow _ (fun b hb=>by have:w.heap.size≤b∧b≠w.heap.size:=hb;first|omega|(simp;done)|(simp;omega))) ?_)
    exact(RxV.close (SlS.none_ _ _ _ _) ⟨[],SlS.none_ _ _ _ _,.nil⟩)
   ·iterate 8 (refine RdT.setHi ?_ (by first|omega|(simp;done)|(simp;omega)) _)
    exact HRD2.out
  by_cases h36:c=[36]
  ·subst h36
   have HR:Hid (Except.ok (rxK 9,r1)=R):=Lib.hid hR;clear hR hlen;obtain⟨w0,hw0⟩:∃w0,w0=w.alloc (.cells #[.int .i64 0,.string ⟨#[]⟩,.bool false,.slice none 0 0,.int .i64 0,.int .i64 0,.bool false,.slice none 0 0] 34):=⟨_,rfl⟩;obtain⟨hb0,hz0,hby0⟩:=alloc1 w hw0;have HRD:=Lib.hid (h.later hb0);rw [hw0] at HRD;have HW0:=Lib.hid hw0;have HBY0:=Lib.hid hby0;have hgg:w.grownBy w0 (some g):=grown_of_below hb0 _;have hgr:g<w.heap.size:=h.lt;clear hw0 hby0 h;go_enter Tryz.func106,Tryz.ntmps106
   go_wp2_with (go_at_call 90;refine(see_any _ HRD.out).mono ?_)
   rintro e w1 ⟨rfl,hst⟩;rw [←HW0.out] at hst;have hg1:=grown_trans hgg (hst.grown (some g));have HRD1:=Lib.hid (hst.rd (HW0.out▸HRD.out:Rd w0 g _ d));have HBY1:=Lib.hid (box_grown HBY0.out (hst.grown (some g)) (by omega));have hz1:w0.heap.size≤w1.heap.size:=by rw [hst.size];exact Nat.le_refl _
   clear hst;try rw [hdS_cons]
   obtain⟨i,hi,c1,hf,hr2⟩:=HRD1.out.step;have HRD2:=Lib.hid hr2;have hg2:=grown_set hg1 1 (.int .i64 ((i:Int)+1));obtain⟨f0,f1,f2,f3,f4,f5,f6,f7,f8⟩:=bx_cells (c:=[]) HBY1.out;clear hr2;go_wp2
   refine bodyPost_ret (v:=.tuple #[.agg #[.int .i64 9,.string ⟨([]).toArray⟩,.bool false,.slice none ([]:List Row).length 0,.int .i64 0,.int .i64 0,.bool false,.slice none ([]:List Rx).length 0],.int .i64 0]) (by simp [results,Tryz.results106,go_sem,f0,f1,f2,f3,f4,f5,f6,f7]) rfl ?_;refine⟨?_,?_⟩
   ·iterate 8 (refine grown_setNew ?_ (by first|omega|(simp;done)|(simp;omega)) _)
    exact hg2
   rw [←HR.out];refine⟨rxc 9 [] false none ([]:List Row).length 0 0 0 false none ([]:List Rx).length 0,rfl,RxV.mono (S:=fun b=>w.heap.size≤b∧b≠w.heap.size) (fun b hb _=>hb.1) ?_,?_⟩
   ·iterate 8 (refine RxV.keep (Kept.setLow _ (fun b hb=>by have:w.heap.size≤b∧b≠w.heap.size:=hb;first|omega|(simp;done)|(simp;omega))) ?_)
    exact(RxV.close (SlS.none_ _ _ _ _) ⟨[],SlS.none_ _ _ _ _,.nil⟩)
   ·iterate 8 (refine RdT.setHi ?_ (by first|omega|(simp;done)|(simp;omega)) _)
    exact HRD2.out
  have g94:(c==[94])=false:=beq_eq_false_iff_ne.2 h94;have g36:(c==[36])=false:=beq_eq_false_iff_ne.2 h36;by_cases h92:c=[92]
  ·subst h92
   clear g94 g36;cases r1 with
   | nil =>
    have HR:Hid ((match atomM (patF n) [[92]] d with|.error e=>.error e|.ok (x,r1)=>quantM x r1)=R):=Lib.hid hR;clear hR;obtain⟨w0,hw0⟩:∃w0,w0=w.alloc (.cells #[.int .i64 0,.string ⟨#[]⟩,.bool false,.slice none 0 0,.int .i64 0,.int .i64 0,.bool false,.slice none 0 0] 34):=⟨_,rfl⟩;obtain⟨hb0,hz0,hby0⟩:=alloc1 w hw0;have HRD:=Lib.hid (h.later hb0);rw [hw0] at HRD;have HW0:=Lib.hid hw0;have HBY0:=Lib.hid hby0;have hgg:w.grownBy w0 (some g):=grown_of_below hb0 _;have hgr:g<w.heap.size:=h.lt;clear hw0 hby0 h;go_enter Tryz.func106,Tryz.ntmps106
    go_wp2_with (go_at_call 90;refine(see_any _ HRD.out).mono ?_)
    rintro e w1 ⟨rfl,hst⟩;rw [←HW0.out] at hst;have hg1:=grown_trans hgg (hst.grown (some g));have HRD1:=Lib.hid (hst.rd (HW0.out▸HRD.out:Rd w0 g _ d));have HBY1:=Lib.hid (box_grown HBY0.out (hst.grown (some g)) (by omega));have hz1:w0.heap.size≤w1.heap.size:=by rw [hst.size];exact Nat.le_refl _
    clear hst;try rw [hdS_cons]
    obtain⟨la,lk,li,ln,l0,l1,l2,l3⟩:=HRD1.out.look0;have d0:∀x:ExtOf w1,x.val.cell? ⟨g,0,none⟩=some (.slice la ln lk):=ExtOf.cell l0;have d1:∀x:ExtOf w1,x.val.cell? ⟨g,1,none⟩=some (.int .i64 li):=ExtOf.cell l1;have gg:decide (li+1<ln)=false:=by simp;omega
    have gg2:decide ((li:Int)+1<(ln:Int))=false:=by simp;omega
    have gw:IntKind.i64.wrap ((li:Int)+1)=(li:Int)+1:=IntWalk.i64_in _ (by omega);clear l0 l1;go_upto_region 10 with fail
    refine wp_region_ext (by kernel_rfl) (by kernel_rfl) ?_;repeat (go_big_quiet_step ((fail)))
    refine wpQuiet_nil ?_;rintro _ ⟨xq,rfl⟩;obtain⟨w2,hw2⟩:∃w2,w2=xq.val:=⟨_,rfl⟩;have hb2:Below w1.heap.size w1 w2:=hw2▸xq.ext;rw [←hw2];have HRD2:=Lib.hid (HRD1.out.later hb2);have HBY2:=Lib.hid ((hb2.block _ (heap_lt HBY1.out)).trans HBY1.out);have hg2:=grown_trans hg1 (grown_of_below hb2 (some g));have hz2:w0.heap.size≤w2.heap.size:=Nat.le_trans hz1 hb2.size;clear d0 d1 gg gg2 gw hw2 HRD1 HBY1 hg1 hz1 hb2;have HAT:=Lib.hid (atom_any HP.out w2 HRD2.out hlen hd);go_wp2_with (go_at_call 121;refine HAT.out.mono ?_)
    rintro e w2 hq;clear HAT;cases hat:atomM (patF n) ([[92]]) d with
    | error q =>
     rw [hat] at hq;obtain⟨hq2,rfl,r9,hrd9⟩:=hq;have hq0:q≠0:=atom_err (pat_err n) ([[92]]) d q hat;have HR2:Hid (Except.error q=R):=Lib.hid (by rw [←HR.out];simp only [hat]);have HR:=HR2;have hg2:=grown_trans hg2 hq2;have hby2:=box_grown HBY2.out hq2 (by omega);have hb6:Below w2.heap.size w2 (w2.alloc (.cells #[.int .i64 0,.string ⟨#[]⟩,.bool false,.slice none 0 0,.int .i64 0,.int .i64 0,.bool false,.slice none 0 0] 34)):=(Below.refl _ _).alloc (Nat.le_refl _) _;have HRD6:=Lib.hid (hrd9.later hb6);have hg6:=grown_trans hg2 (grown_of_below hb6 (some g));have ne1:(q != 0)=true:=by simp [bne,hq0]
     obtain⟨f0,f1,f2,f3,f4,f5,f6,f7,f8⟩:=bx_cells (c:=[]) ((hb6.block _ (heap_lt hby2)).trans hby2);clear hat hby2 hrd9 hb6 hq2;unfold rxv0;go_wp2
     refine bodyPost_ret (v:=.tuple #[.agg #[.int .i64 0,.string ⟨([]).toArray⟩,.bool false,.slice none 0 0,.int .i64 0,.int .i64 0,.bool false,.slice none 0 0],.int .i64 q]) (by simp [results,Tryz.results106,go_sem,f0,f1,f2,f3,f4,f5,f6,f7]) rfl ?_;refine⟨?_,?_⟩
     ·iterate 8 (refine grown_setNew ?_ (by first|omega|(simp;done)|(simp;omega)) _)
      exact hg6
     ·rw [←HR.out]
      refine⟨rfl,?_⟩;iterate 8 (refine RdE.setHi ?_ (by first|omega|(simp;done)|(simp;omega)) _)
      exact⟨_,HRD6.out⟩
    | ok y =>
     obtain⟨x,r3⟩:=y;rw [hat] at hq;obtain⟨hq2,cc,rfl,hxv,hrd2⟩:=hq;have HR2:Hid (quantM x r3=R):=Lib.hid (by rw [←HR.out];simp only [hat]);have HR:=HR2;have hg2:=grown_trans hg2 hq2;have hby2:=box_grown HBY2.out hq2 (by omega);have hz2:=hq2.size;obtain⟨k,c,ng,rs,lo,hi,lz,ks⟩:=x;have hxv0:=hxv;obtain⟨ra,rc,ka,kc,rfl,hrs,hks⟩:=hxv.open_;have hb6:Below w2.heap.size w2 (w2.alloc (.cells #[.int .i64 k,.string ⟨(c).toArray⟩,.bool ng,.slice ra rs.length rc,.int .i64 lo,.int .i64 hi,.bool lz,.slice ka ks.length kc] 34)):=(Below.refl _ _).alloc (Nat.le_refl _) _;have HRD6:=Lib.hid (hrd2.later hb6);have hg6:=grown_trans hg2 (grown_of_below hb6 (some g));have HBY6:=Lib.hid ((hb6.block _ (heap_lt hby2)).trans hby2);have hxv6:RxV _ (fun b=>w.heap.size+1≤b) _ _:=(hxv0.mono (S':=fun b=>w.heap.size+1≤b) fun b hb _=>by have:=hz2;omega).later hb6;have hz6:w.heap.size+1≤(w2.alloc (.cells #[.int .i64 k,.string ⟨(c).toArray⟩,.bool ng,.slice ra rs.length rc,.int .i64 lo,.int .i64 hi,.bool lz,.slice ka ks.length kc] 34)).heap.size:=by simp;have:=hz2;omega
     have HQT:=Lib.hid (quantified_any _ HRD6.out hxv6 hz6 (by omega));clear hat hxv hxv0 hrs hks hrd2 hby2 hb6 hxv6 hz6;unfold rxc at HQT ⊢;go_wp2_with (go_at_call 122;refine HQT.out.mono ?_)
     rintro e w8 hq;clear HQT;cases hres:quantM (.mk k c ng rs lo hi lz ks) r3 with
     | error q =>
      rw [hres] at hq;obtain⟨hq8,rfl,r9,hrd9⟩:=hq;have HR2:Hid (Except.error q=R):=Lib.hid (by rw [←HR.out,hres]);have HR:=HR2;have hg8:=grown_trans hg6 hq8;have HRD9:=Lib.hid hrd9;obtain⟨f0,f1,f2,f3,f4,f5,f6,f7,f8⟩:=bx_cells (c:=[]) (box_grown HBY6.out hq8 (by omega));clear hres hq8 hrd9;unfold rxv0;go_wp2
      refine bodyPost_ret (v:=.tuple #[.agg #[.int .i64 0,.string ⟨([]).toArray⟩,.bool false,.slice none 0 0,.int .i64 0,.int .i64 0,.bool false,.slice none 0 0],.int .i64 q]) (by simp [results,Tryz.results106,go_sem,f0,f1,f2,f3,f4,f5,f6,f7]) rfl ?_;refine⟨?_,?_⟩
      ·iterate 8 (refine grown_setNew ?_ (by first|omega|(simp;done)|(simp;omega)) _)
       exact hg8
      ·rw [←HR.out]
       refine⟨rfl,?_⟩;iterate 8 (refine RdE.setHi ?_ (by first|omega|(simp;done)|(simp;omega)) _)
       exact⟨_,HRD9.out⟩
     | ok y =>
      obtain⟨x,r3⟩:=y;rw [hres] at hq;obtain⟨hq8,cc,rfl,hxv,hrd9⟩:=hq;have HR2:Hid (Except.ok (x,r3)=R):=Lib.hid (by rw [←HR.out,hres]);have HR:=HR2;have hg8:=grown_trans hg6 hq8;have HRD9:=Lib.hid hrd9;obtain⟨k,c,ng,rs,lo,hi,lz,ks⟩:=x;have hxv0:=hxv;obtain⟨ra,rc,ka,kc,rfl,hrs,hks⟩:=hxv.open_;have HXV:=Lib.hid (hxv0.mono (S':=fun b=>w.heap.size≤b∧b≠w.heap.size) fun b hb hlt=>by have:=hz2;constructor<;>omega);obtain⟨f0,f1,f2,f3,f4,f5,f6,f7,f8⟩:=bx_cells (c:=[]) (box_grown HBY6.out hq8 (by omega));clear hres hq8 hrd9 hxv hxv0 hrs hks;unfold rxc at HXV ⊢;go_wp2
      refine bodyPost_ret (v:=.tuple #[.agg #[.int .i64 k,.string ⟨(c).toArray⟩,.bool ng,.slice ra rs.length rc,.int .i64 lo,.int .i64 hi,.bool lz,.slice ka ks.length kc],.int .i64 0]) (by simp [results,Tryz.results106,go_sem,f0,f1,f2,f3,f4,f5,f6,f7]) rfl ?_;refine⟨?_,?_⟩
      ·iterate 8 (refine grown_setNew ?_ (by first|omega|(simp;done)|(simp;omega)) _)
       exact hg8
      rw [←HR.out];refine⟨rxc k c ng ra rs.length rc lo hi lz ka ks.length kc,rfl,RxV.mono (S:=fun b=>w.heap.size≤b∧b≠w.heap.size) (fun b hb _=>hb.1) ?_,?_⟩
      ·iterate 8 (refine RxV.keep (Kept.setLow _ (fun b hb=>by have:w.heap.size≤b∧b≠w.heap.size:=hb;first|omega|(simp;done)|(simp;omega))) ?_)
       exact HXV.out
      ·iterate 8 (refine RdT.setHi ?_ (by first|omega|(simp;done)|(simp;omega)) _)
       exact HRD9.out
   | cons c2 r2 =>
    by_cases h98:c2=[98]
    ·subst h98
     have HR:Hid (Except.ok (rxK 10,r2)=R):=Lib.hid hR;clear hR hlen;obtain⟨w0,hw0⟩:∃w0,w0=w.alloc (.cells #[.int .i64 0,.string ⟨#[]⟩,.bool false,.slice none 0 0,.int .i64 0,.int .i64 0,.bool false,.slice none 0 0] 34):=⟨_,rfl⟩;obtain⟨hb0,hz0,hby0⟩:=alloc1 w hw0;have HRD:=Lib.hid (h.later hb0);rw [hw0] at HRD;have HW0:=Lib.hid hw0;have HBY0:=Lib.hid hby0;have hgg:w.grownBy w0 (some g):=grown_of_below hb0 _;have hgr:g<w.heap.size:=h.lt;clear hw0 hby0 h;go_enter Tryz.func106,Tryz.ntmps106
     go_wp2_with (go_at_call 90;refine(see_any _ HRD.out).mono ?_)
     rintro e w1 ⟨rfl,hst⟩;rw [←HW0.out] at hst;have hg1:=grown_trans hgg (hst.grown (some g));have HRD1:=Lib.hid (hst.rd (HW0.out▸HRD.out:Rd w0 g _ d));have HBY1:=Lib.hid (box_grown HBY0.out (hst.grown (some g)) (by omega));have hz1:w0.heap.size≤w1.heap.size:=by rw [hst.size];exact Nat.le_refl _
     clear hst;try rw [hdS_cons]
     obtain⟨lb,lo,lk,li,ln,l0,l1,l2,l3,l4⟩:=HRD1.out.look1;have d0:∀x:ExtOf w1,x.val.cell? ⟨g,0,none⟩=some (.slice (some ⟨lb,lo,none⟩) ln lk):=ExtOf.cell l0;have d1:∀x:ExtOf w1,x.val.cell? ⟨g,1,none⟩=some (.int .i64 li):=ExtOf.cell l1;have gg:decide (li+1<ln)=true:=by simp;omega
     have gg2:decide ((li:Int)+1<(ln:Int))=true:=by simp;omega
     have gw:IntKind.i64.wrap ((li:Int)+1)=(li:Int)+1:=IntWalk.i64_in _ (by omega);clear l0 l1;go_upto_region 10 with fail
     refine wp_region_ext (by kernel_rfl) (by kernel_rfl) ?_;repeat (go_big_quiet_step ((fail)))
     refine wpQuiet_nil ?_;rintro _ ⟨xq,rfl⟩;obtain⟨w5,hw5⟩:∃w5,w5=xq.val:=⟨_,rfl⟩;have hb5:Below w1.heap.size w1 w5:=hw5▸xq.ext;rw [←hw5];have l04:=cell_kept hb5 _ _ l4;clear d0 d1 hw5;have HRD5:=Lib.hid (HRD1.out.later hb5);have HBY5:=Lib.hid ((hb5.block _ (heap_lt HBY1.out)).trans HBY1.out);have hg5:=grown_trans hg1 (grown_of_below hb5 (some g));have hz5:w0.heap.size≤w5.heap.size:=Nat.le_trans hz1 hb5.size;clear l04 l2 l3 l4 gg gg2 gw hb5;obtain⟨lb,lo,lk,li,ln,l0,l1,l2,l3,l4⟩:=HRD5.out.look1;have d0:∀x:ExtOf w5,x.val.cell? ⟨g,0,none⟩=some (.slice (some ⟨lb,lo,none⟩) ln lk):=ExtOf.cell l0;have d1:∀x:ExtOf w5,x.val.cell? ⟨g,1,none⟩=some (.int .i64 li):=ExtOf.cell l1;have d2:∀x:ExtOf w5,x.val.cell? ⟨lb,lo+(li+1),none⟩=some (.string ⟨([98]).toArray⟩):=ExtOf.cell l4;have gn:((li:Int)+1).toNat=li+1:=by omega
     have gn0:(0:Int)≤(li:Int)+1:=by omega
     have gn1:(li:Int)+1<(ln:Int):=by omega
     have gw:IntKind.i64.wrap ((li:Int)+1)=(li:Int)+1:=IntWalk.i64_in _ (by omega);clear l0 l1 l4;go_upto_region 11 with fail
     refine wp_region_ext (by kernel_rfl) (by kernel_rfl) ?_;repeat (go_big_quiet_step ((fail)))
     refine wpQuiet_nil ?_;rintro _ ⟨xq,rfl⟩;obtain⟨w2,hw2⟩:∃w2,w2=xq.val:=⟨_,rfl⟩;have hb2:Below w5.heap.size w5 w2:=hw2▸xq.ext;rw [←hw2];have HRD2:=Lib.hid (HRD5.out.later hb2);have HBY2:=Lib.hid ((hb2.block _ (heap_lt HBY5.out)).trans HBY5.out);have hg2:=grown_trans hg5 (grown_of_below hb2 (some g));have hz2:w0.heap.size≤w2.heap.size:=Nat.le_trans hz5 hb2.size;clear d0 d1 d2 gn gn0 gn1 gw hw2 HRD5 HBY5 hg5 hz5 hb2 HRD1 HBY1 hg1 hz1;obtain⟨i,hi,c1,hf,hr2⟩:=HRD2.out.step2;have HRD3:=Lib.hid hr2;have hg3:=grown_set hg2 1 (.int .i64 ((i:Int)+2));obtain⟨f0,f1,f2,f3,f4,f5,f6,f7,f8⟩:=bx_cells (c:=[]) HBY2.out;clear hr2;go_wp2
     refine bodyPost_ret (v:=.tuple #[.agg #[.int .i64 10,.string ⟨([]).toArray⟩,.bool false,.slice none ([]:List Row).length 0,.int .i64 0,.int .i64 0,.bool false,.slice none ([]:List Rx).length 0],.int .i64 0]) (by simp [results,Tryz.results106,go_sem,f0,f1,f2,f3,f4,f5,f6,f7]) rfl ?_;refine⟨?_,?_⟩
     ·iterate 8 (refine grown_setNew ?_ (by first|omega|(simp;done)|(simp;omega)) _)
      exact hg3
     rw [←HR.out];refine⟨rxc 10 [] false none ([]:List Row).length 0 0 0 false none ([]:List Rx).length 0,rfl,RxV.mono (S:=fun b=>w.heap.size≤b∧b≠w.heap.size) (fun b hb _=>hb.1) ?_,?_⟩
     ·iterate 8 (refine RxV.keep (Kept.setLow _ (fun b hb=>by have:w.heap.size≤b∧b≠w.heap.size:=hb;first|omega|(simp;done)|(simp;omega))) ?_)
      exact(RxV.close (SlS.none_ _ _ _ _) ⟨[],SlS.none_ _ _ _ _,.nil⟩)
     ·iterate 8 (refine RdT.setHi ?_ (by first|omega|(simp;done)|(simp;omega)) _)
      exact HRD3.out
    by_cases h66:c2=[66]
    ·subst h66
     have HR:Hid (Except.ok (rxK 11,r2)=R):=Lib.hid hR;clear hR hlen;obtain⟨w0,hw0⟩:∃w0,w0=w.alloc (.cells #[.int .i64 0,.string ⟨#[]⟩,.bool false,.slice none 0 0,.int .i64 0,.int .i64 0,.bool false,.slice none 0 0] 34):=⟨_,rfl⟩;obtain⟨hb0,hz0,hby0⟩:=alloc1 w hw0;have HRD:=Lib.hid (h.later hb0);rw [hw0] at HRD;have HW0:=Lib.hid hw0;have HBY0:=Lib.hid hby0;have hgg:w.grownBy w0 (some g):=grown_of_below hb0 _;have hgr:g<w.heap.size:=h.lt;clear hw0 hby0 h;go_enter Tryz.func106,Tryz.ntmps106
     go_wp2_with (go_at_call 90;refine(see_any _ HRD.out).mono ?_)
     rintro e w1 ⟨rfl,hst⟩;rw [←HW0.out] at hst;have hg1:=grown_trans hgg (hst.grown (some g));have HRD1:=Lib.hid (hst.rd (HW0.out▸HRD.out:Rd w0 g _ d));have HBY1:=Lib.hid (box_grown HBY0.out (hst.grown (some g)) (by omega));have hz1:w0.heap.size≤w1.heap.size:=by rw [hst.size];exact Nat.le_refl _
     clear hst;try rw [hdS_cons]
     obtain⟨lb,lo,lk,li,ln,l0,l1,l2,l3,l4⟩:=HRD1.out.look1;have d0:∀x:ExtOf w1,x.val.cell? ⟨g,0,none⟩=some (.slice (some ⟨lb,lo,none⟩) ln lk):=ExtOf.cell l0;have d1:∀x:ExtOf w1,x.val.cell? ⟨g,1,none⟩=some (.int .i64 li):=ExtOf.cell l1;have gg:decide (li+1<ln)=true:=by simp;omega
     have gg2:decide ((li:Int)+1<(ln:Int))=true:=by simp;omega
     have gw:IntKind.i64.wrap ((li:Int)+1)=(li:Int)+1:=IntWalk.i64_in _ (by omega);clear l0 l1;go_upto_region 10 with fail
     refine wp_region_ext (by kernel_rfl) (by kernel_rfl) ?_;repeat (go_big_quiet_step ((fail)))
     refine wpQuiet_nil ?_;rintro _ ⟨xq,rfl⟩;obtain⟨w5,hw5⟩:∃w5,w5=xq.val:=⟨_,rfl⟩;have hb5:Below w1.heap.size w1 w5:=hw5▸xq.ext;rw [←hw5];have l04:=cell_kept hb5 _ _ l4;clear d0 d1 hw5;have HRD5:=Lib.hid (HRD1.out.later hb5);have HBY5:=Lib.hid ((hb5.block _ (heap_lt HBY1.out)).trans HBY1.out);have hg5:=grown_trans hg1 (grown_of_below hb5 (some g));have hz5:w0.heap.size≤w5.heap.size:=Nat.le_trans hz1 hb5.size;clear l04 l2 l3 l4 gg gg2 gw hb5;obtain⟨lb,lo,lk,li,ln,l0,l1,l2,l3,l4⟩:=HRD5.out.look1;have d0:∀x:ExtOf w5,x.val.cell? ⟨g,0,none⟩=some (.slice (some ⟨lb,lo,none⟩) ln lk):=ExtOf.cell l0;have d1:∀x:ExtOf w5,x.val.cell? ⟨g,1,none⟩=some (.int .i64 li):=ExtOf.cell l1;have d2:∀x:ExtOf w5,x.val.cell? ⟨lb,lo+(li+1),none⟩=some (.string ⟨([66]).toArray⟩):=ExtOf.cell l4;have gn:((li:Int)+1).toNat=li+1:=by omega
     have gn0:(0:Int)≤(li:Int)+1:=by omega
     have gn1:(li:Int)+1<(ln:Int):=by omega
     have gw:IntKind.i64.wrap ((li:Int)+1)=(li:Int)+1:=IntWalk.i64_in _ (by omega);clear l0 l1 l4;go_upto_region 11 with fail
     refine wp_region_ext (by kernel_rfl) (by kernel_rfl) ?_;repeat (go_big_quiet_step ((fail)))
     refine wpQuiet_nil ?_;rintro _ ⟨xq,rfl⟩;obtain⟨w2,hw2⟩:∃w2,w2=xq.val:=⟨_,rfl⟩;have hb2:Below w5.heap.size w5 w2:=hw2▸xq.ext;rw [←hw2];have HRD2:=Lib.hid (HRD5.out.later hb2);have HBY2:=Lib.hid ((hb2.block _ (heap_lt HBY5.out)).trans HBY5.out);have hg2:=grown_trans hg5 (grown_of_below hb2 (some g));have hz2:w0.heap.size≤w2.heap.size:=Nat.le_trans hz5 hb2.size;clear d0 d1 d2 gn gn0 gn1 gw hw2 HRD5 HBY5 hg5 hz5 hb2 HRD1 HBY1 hg1 hz1;obtain⟨i,hi,c1,hf,hr2⟩:=HRD2.out.step2;have HRD3:=Lib.hid hr2;have hg3:=grown_set hg2 1 (.int .i64 ((i:Int)+2));obtain⟨f0,f1,f2,f3,f4,f5,f6,f7,f8⟩:=bx_cells (c:=[]) HBY2.out;clear hr2;go_wp2
     refine bodyPost_ret (v:=.tuple #[.agg #[.int .i64 11,.string ⟨([]).toArray⟩,.bool false,.slice none ([]:List Row).length 0,.int .i64 0,.int .i64 0,.bool false,.slice none ([]:List Rx).length 0],.int .i64 0]) (by simp [results,Tryz.results106,go_sem,f0,f1,f2,f3,f4,f5,f6,f7]) rfl ?_;refine⟨?_,?_⟩
     ·iterate 8 (refine grown_setNew ?_ (by first|omega|(simp;done)|(simp;omega)) _)
      exact hg3
     rw [←HR.out];refine⟨rxc 11 [] false none ([]:List Row).length 0 0 0 false none ([]:List Rx).length 0,rfl,RxV.mono (S:=fun b=>w.heap.size≤b∧b≠w.heap.size) (fun b hb _=>hb.1) ?_,?_⟩
     ·iterate 8 (refine RxV.keep (Kept.setLow _ (fun b hb=>by have:w.heap.size≤b∧b≠w.heap.size:=hb;first|omega|(simp;done)|(simp;omega))) ?_)
      exact(RxV.close (SlS.none_ _ _ _ _) ⟨[],SlS.none_ _ _ _ _,.nil⟩)
     ·iterate 8 (refine RdT.setHi ?_ (by first|omega|(simp;done)|(simp;omega)) _)
      exact HRD3.out
    have g98:(c2==[98])=false:=beq_eq_false_iff_ne.2 h98;have g66:(c2==[66])=false:=beq_eq_false_iff_ne.2 h66;have HR:Hid ((match atomM (patF n) ([92]::c2::r2) d with|.error e=>.error e|.ok (x,r1)=>quantM x r1)=R):=Lib.hid (by rw [←hR,show edgeM ([92]::c2::r2)=none from by simp [edgeM,takeM,h98,h66]];rfl);clear hR h98 h66;obtain⟨w0,hw0⟩:∃w0,w0=w.alloc (.cells #[.int .i64 0,.string ⟨#[]⟩,.bool false,.slice none 0 0,.int .i64 0,.int .i64 0,.bool false,.slice none 0 0] 34):=⟨_,rfl⟩;obtain⟨hb0,hz0,hby0⟩:=alloc1 w hw0;have HRD:=Lib.hid (h.later hb0);rw [hw0] at HRD;have HW0:=Lib.hid hw0;have HBY0:=Lib.hid hby0;have hgg:w.grownBy w0 (some g):=grown_of_below hb0 _;have hgr:g<w.heap.size:=h.lt;clear hw0 hby0 h;go_enter Tryz.func106,Tryz.ntmps106
    go_wp2_with (go_at_call 90;refine(see_any _ HRD.out).mono ?_)
    rintro e w1 ⟨rfl,hst⟩;rw [←HW0.out] at hst;have hg1:=grown_trans hgg (hst.grown (some g));have HRD1:=Lib.hid (hst.rd (HW0.out▸HRD.out:Rd w0 g _ d));have HBY1:=Lib.hid (box_grown HBY0.out (hst.grown (some g)) (by omega));have hz1:w0.heap.size≤w1.heap.size:=by rw [hst.size];exact Nat.le_refl _
    clear hst;try rw [hdS_cons]
    obtain⟨lb,lo,lk,li,ln,l0,l1,l2,l3,l4⟩:=HRD1.out.look1;have d0:∀x:ExtOf w1,x.val.cell? ⟨g,0,none⟩=some (.slice (some ⟨lb,lo,none⟩) ln lk):=ExtOf.cell l0;have d1:∀x:ExtOf w1,x.val.cell? ⟨g,1,none⟩=some (.int .i64 li):=ExtOf.cell l1;have gg:decide (li+1<ln)=true:=by simp;omega
    have gg2:decide ((li:Int)+1<(ln:Int))=true:=by simp;omega
    have gw:IntKind.i64.wrap ((li:Int)+1)=(li:Int)+1:=IntWalk.i64_in _ (by omega);clear l0 l1;go_upto_region 10 with fail
    refine wp_region_ext (by kernel_rfl) (by kernel_rfl) ?_;repeat (go_big_quiet_step ((fail)))
    refine wpQuiet_nil ?_;rintro _ ⟨xq,rfl⟩;obtain⟨w5,hw5⟩:∃w5,w5=xq.val:=⟨_,rfl⟩;have hb5:Below w1.heap.size w1 w5:=hw5▸xq.ext;rw [←hw5];have l04:=cell_kept hb5 _ _ l4;clear d0 d1 hw5;have HRD5:=Lib.hid (HRD1.out.later hb5);have HBY5:=Lib.hid ((hb5.block _ (heap_lt HBY1.out)).trans HBY1.out);have hg5:=grown_trans hg1 (grown_of_below hb5 (some g));have hz5:w0.heap.size≤w5.heap.size:=Nat.le_trans hz1 hb5.size;clear l04 l2 l3 l4 gg gg2 gw hb5;obtain⟨lb,lo,lk,li,ln,l0,l1,l2,l3,l4⟩:=HRD5.out.look1;have d0:∀x:ExtOf w5,x.val.cell? ⟨g,0,none⟩=some (.slice (some ⟨lb,lo,none⟩) ln lk):=ExtOf.cell l0;have d1:∀x:ExtOf w5,x.val.cell? ⟨g,1,none⟩=some (.int .i64 li):=ExtOf.cell l1;have d2:∀x:ExtOf w5,x.val.cell? ⟨lb,lo+(li+1),none⟩=some (.string ⟨(c2).toArray⟩):=ExtOf.cell l4;have gn:((li:Int)+1).toNat=li+1:=by omega
    have gn0:(0:Int)≤(li:Int)+1:=by omega
    have gn1:(li:Int)+1<(ln:Int):=by omega
    have gw:IntKind.i64.wrap ((li:Int)+1)=(li:Int)+1:=IntWalk.i64_in _ (by omega);clear l0 l1 l4;go_upto_region 11 with fail
    refine wp_region_ext (by kernel_rfl) (by kernel_rfl) ?_;repeat (go_big_quiet_step ((fail)))
    refine wpQuiet_nil ?_;rintro _ ⟨xq,rfl⟩;obtain⟨w2,hw2⟩:∃w2,w2=xq.val:=⟨_,rfl⟩;have hb2:Below w5.heap.size w5 w2:=hw2▸xq.ext;rw [←hw2];have HRD2:=Lib.hid (HRD5.out.later hb2);have HBY2:=Lib.hid ((hb2.block _ (heap_lt HBY5.out)).trans HBY5.out);have hg2:=grown_trans hg5 (grown_of_below hb2 (some g));have hz2:w0.heap.size≤w2.heap.size:=Nat.le_trans hz5 hb2.size;clear d0 d1 d2 gn gn0 gn1 gw hw2 HRD5 HBY5 hg5 hz5 hb2 HRD1 HBY1 hg1 hz1;have HAT:=Lib.hid (atom_any HP.out w2 HRD2.out hlen hd);go_wp2_with (go_at_call 121;refine HAT.out.mono ?_)
    rintro e w2 hq;clear HAT;cases hat:atomM (patF n) ([92]::c2::r2) d with
    | error q =>
     rw [hat] at hq;obtain⟨hq2,rfl,r9,hrd9⟩:=hq;have hq0:q≠0:=atom_err (pat_err n) ([92]::c2::r2) d q hat;have HR2:Hid (Except.error q=R):=Lib.hid (by rw [←HR.out];simp only [hat]);have HR:=HR2;have hg2:=grown_trans hg2 hq2;have hby2:=box_grown HBY2.out hq2 (by omega);have hb6:Below w2.heap.size w2 (w2.alloc (.cells #[.int .i64 0,.string ⟨#[]⟩,.bool false,.slice none 0 0,.int .i64 0,.int .i64 0,.bool false,.slice none 0 0] 34)):=(Below.refl _ _).alloc (Nat.le_refl _) _;have HRD6:=Lib.hid (hrd9.later hb6);have hg6:=grown_trans hg2 (grown_of_below hb6 (some g));have ne1:(q != 0)=true:=by simp [bne,hq0]
     obtain⟨f0,f1,f2,f3,f4,f5,f6,f7,f8⟩:=bx_cells (c:=[]) ((hb6.block _ (heap_lt hby2)).trans hby2);clear hat hby2 hrd9 hb6 hq2;unfold rxv0;go_wp2
     refine bodyPost_ret (v:=.tuple #[.agg #[.int .i64 0,.string ⟨([]).toArray⟩,.bool false,.slice none 0 0,.int .i64 0,.int .i64 0,.bool false,.slice none 0 0],.int .i64 q]) (by simp [results,Tryz.results106,go_sem,f0,f1,f2,f3,f4,f5,f6,f7]) rfl ?_;refine⟨?_,?_⟩
     ·iterate 8 (refine grown_setNew ?_ (by first|omega|(simp;done)|(simp;omega)) _)
      exact hg6
     ·rw [←HR.out]
      refine⟨rfl,?_⟩;iterate 8 (refine RdE.setHi ?_ (by first|omega|(simp;done)|(simp;omega)) _)
      exact⟨_,HRD6.out⟩
    | ok y =>
     obtain⟨x,r3⟩:=y;rw [hat] at hq;obtain⟨hq2,cc,rfl,hxv,hrd2⟩:=hq;have HR2:Hid (quantM x r3=R):=Lib.hid (by rw [←HR.out];simp only [hat]);have HR:=HR2;have hg2:=grown_trans hg2 hq2;have hby2:=box_grown HBY2.out hq2 (by omega);have hz2:=hq2.size;obtain⟨k,c,ng,rs,lo,hi,lz,ks⟩:=x;have hxv0:=hxv;obtain⟨ra,rc,ka,kc,rfl,hrs,hks⟩:=hxv.open_;have hb6:Below w2.heap.size w2 (w2.alloc (.cells #[.int .i64 k,.string ⟨(c).toArray⟩,.bool ng,.slice ra rs.length rc,.int .i64 lo,.int .i64 hi,.bool lz,.slice ka ks.length kc] 34)):=(Below.refl _ _).alloc (Nat.le_refl _) _;have HRD6:=Lib.hid (hrd2.later hb6);have hg6:=grown_trans hg2 (grown_of_below hb6 (some g));have HBY6:=Lib.hid ((hb6.block _ (heap_lt hby2)).trans hby2);have hxv6:RxV _ (fun b=>w.heap.size+1≤b) _ _:=(hxv0.mono (S':=fun b=>w.heap.size+1≤b) fun b hb _=>by have:=hz2;omega).later hb6;have hz6:w.heap.size+1≤(w2.alloc (.cells #[.int .i64 k,.string ⟨(c).toArray⟩,.bool ng,.slice ra rs.length rc,.int .i64 lo,.int .i64 hi,.bool lz,.slice ka ks.length kc] 34)).heap.size:=by simp;have:=hz2;omega
     have HQT:=Lib.hid (quantified_any _ HRD6.out hxv6 hz6 (by omega));clear hat hxv hxv0 hrs hks hrd2 hby2 hb6 hxv6 hz6;unfold rxc at HQT ⊢;go_wp2_with (go_at_call 122;refine HQT.out.mono ?_)
     rintro e w8 hq;clear HQT;cases hres:quantM (.mk k c ng rs lo hi lz ks) r3 with
     | error q =>
      rw [hres] at hq;obtain⟨hq8,rfl,r9,hrd9⟩:=hq;have HR2:Hid (Except.error q=R):=Lib.hid (by rw [←HR.out,hres]);have HR:=HR2;have hg8:=grown_trans hg6 hq8;have HRD9:=Lib.hid hrd9;obtain⟨f0,f1,f2,f3,f4,f5,f6,f7,f8⟩:=bx_cells (c:=[]) (box_grown HBY6.out hq8 (by omega));clear hres hq8 hrd9;unfold rxv0;go_wp2
      refine bodyPost_ret (v:=.tuple #[.agg #[.int .i64 0,.string ⟨([]).toArray⟩,.bool false,.slice none 0 0,.int .i64 0,.int .i64 0,.bool false,.slice none 0 0],.int .i64 q]) (by simp [results,Tryz.results106,go_sem,f0,f1,f2,f3,f4,f5,f6,f7]) rfl ?_;refine⟨?_,?_⟩
      ·iterate 8 (refine grown_setNew ?_ (by first|omega|(simp;done)|(simp;omega)) _)
       exact hg8
      ·rw [←HR.out]
       refine⟨rfl,?_⟩;iterate 8 (refine RdE.setHi ?_ (by first|omega|(simp;done)|(simp;omega)) _)
       exact⟨_,HRD9.out⟩
     | ok y =>
      obtain⟨x,r3⟩:=y;rw [hres] at hq;obtain⟨hq8,cc,rfl,hxv,hrd9⟩:=hq;have HR2:Hid (Except.ok (x,r3)=R):=Lib.hid (by rw [←HR.out,hres]);have HR:=HR2;have hg8:=grown_trans hg6 hq8;have HRD9:=Lib.hid hrd9;obtain⟨k,c,ng,rs,lo,hi,lz,ks⟩:=x;have hxv0:=hxv;obtain⟨ra,rc,ka,kc,rfl,hrs,hks⟩:=hxv.open_;have HXV:=Lib.hid (hxv0.mono (S':=fun b=>w.heap.size≤b∧b≠w.heap.size) fun b hb hlt=>by have:=hz2;constructor<;>omega);obtain⟨f0,f1,f2,f3,f4,f5,f6,f7,f8⟩:=bx_cells (c:=[]) (box_grown HBY6.out hq8 (by omega));clear hres hq8 hrd9 hxv hxv0 hrs hks;unfold rxc at HXV ⊢;go_wp2
      refine bodyPost_ret (v:=.tuple #[.agg #[.int .i64 k,.string ⟨(c).toArray⟩,.bool ng,.slice ra rs.length rc,.int .i64 lo,.int .i64 hi,.bool lz,.slice ka ks.length kc],.int .i64 0]) (by simp [results,Tryz.results106,go_sem,f0,f1,f2,f3,f4,f5,f6,f7]) rfl ?_;refine⟨?_,?_⟩
      ·iterate 8 (refine grown_setNew ?_ (by first|omega|(simp;done)|(simp;omega)) _)
       exact hg8
      rw [←HR.out];refine⟨rxc k c ng ra rs.length rc lo hi lz ka ks.length kc,rfl,RxV.mono (S:=fun b=>w.heap.size≤b∧b≠w.heap.size) (fun b hb _=>hb.1) ?_,?_⟩
      ·iterate 8 (refine RxV.keep (Kept.setLow _ (fun b hb=>by have:w.heap.size≤b∧b≠w.heap.size:=hb;first|omega|(simp;done)|(simp;omega))) ?_)
       exact HXV.out
      ·iterate 8 (refine RdT.setHi ?_ (by first|omega|(simp;done)|(simp;omega)) _)
       exact HRD9.out
  have g92:(c==[92])=false:=beq_eq_false_iff_ne.2 h92;have HR:Hid ((match atomM (patF n) (c::r1) d with|.error e=>.error e|.ok (x,r1)=>quantM x r1)=R):=Lib.hid (by rw [←hR,show edgeM (c::r1)=none from by simp [edgeM,h94,h36,h92]];rfl);clear hR h94 h36 h92;obtain⟨w0,hw0⟩:∃w0,w0=w.alloc (.cells #[.int .i64 0,.string ⟨#[]⟩,.bool false,.slice none 0 0,.int .i64 0,.int .i64 0,.bool false,.slice none 0 0] 34):=⟨_,rfl⟩;obtain⟨hb0,hz0,hby0⟩:=alloc1 w hw0;have HRD:=Lib.hid (h.later hb0);rw [hw0] at HRD;have HW0:=Lib.hid hw0;have HBY0:=Lib.hid hby0;have hgg:w.grownBy w0 (some g):=grown_of_below hb0 _;have hgr:g<w.heap.size:=h.lt;clear hw0 hby0 h;go_enter Tryz.func106,Tryz.ntmps106
  go_wp2_with (go_at_call 90;refine(see_any _ HRD.out).mono ?_)
  rintro e w1 ⟨rfl,hst⟩;rw [←HW0.out] at hst;have hg1:=grown_trans hgg (hst.grown (some g));have HRD1:=Lib.hid (hst.rd (HW0.out▸HRD.out:Rd w0 g _ d));have HBY1:=Lib.hid (box_grown HBY0.out (hst.grown (some g)) (by omega));have hz1:w0.heap.size≤w1.heap.size:=by rw [hst.size];exact Nat.le_refl _
  clear hst;try rw [hdS_cons]
  have HAT:=Lib.hid (atom_any HP.out w1 HRD1.out hlen hd);go_wp2_with (go_at_call 121;refine HAT.out.mono ?_)
  rintro e w2 hq;clear HAT;cases hat:atomM (patF n) (c::r1) d with
  | error q =>
   rw [hat] at hq;obtain⟨hq2,rfl,r9,hrd9⟩:=hq;have hq0:q≠0:=atom_err (pat_err n) (c::r1) d q hat;have HR2:Hid (Except.error q=R):=Lib.hid (by rw [←HR.out];simp only [hat]);have HR:=HR2;have hg2:=grown_trans hg1 hq2;have hby2:=box_grown HBY1.out hq2 (by omega);have hb6:Below w2.heap.size w2 (w2.alloc (.cells #[.int .i64 0,.string ⟨#[]⟩,.bool false,.slice none 0 0,.int .i64 0,.int .i64 0,.bool false,.slice none 0 0] 34)):=(Below.refl _ _).alloc (Nat.le_refl _) _;have HRD6:=Lib.hid (hrd9.later hb6);have hg6:=grown_trans hg2 (grown_of_below hb6 (some g));have ne1:(q != 0)=true:=by simp [bne,hq0]
   obtain⟨f0,f1,f2,f3,f4,f5,f6,f7,f8⟩:=bx_cells (c:=[]) ((hb6.block _ (heap_lt hby2)).trans hby2);clear hat hby2 hrd9 hb6 hq2;unfold rxv0;go_wp2
   refine bodyPost_ret (v:=.tuple #[.agg #[.int .i64 0,.string ⟨([]).toArray⟩,.bool false,.slice none 0 0,.int .i64 0,.int .i64 0,.bool false,.slice none 0 0],.int .i64 q]) (by simp [results,Tryz.results106,go_sem,f0,f1,f2,f3,f4,f5,f6,f7]) rfl ?_;refine⟨?_,?_⟩
   ·iterate 8 (refine grown_setNew ?_ (by first|omega|(simp;done)|(simp;omega)) _)
    exact hg6
   ·rw [←HR.out]
    refine⟨rfl,?_⟩;iterate 8 (refine RdE.setHi ?_ (by first|omega|(simp;done)|(simp;omega)) _)
    exact⟨_,HRD6.out⟩
  | ok y =>
   obtain⟨x,r3⟩:=y;rw [hat] at hq;obtain⟨hq2,cc,rfl,hxv,hrd2⟩:=hq;have HR2:Hid (quantM x r3=R):=Lib.hid (by rw [←HR.out];simp only [hat]);have HR:=HR2;have hg2:=grown_trans hg1 hq2;have hby2:=box_grown HBY1.out hq2 (by omega);have hz2:=hq2.size;obtain⟨k,c,ng,rs,lo,hi,lz,ks⟩:=x;have hxv0:=hxv;obtain⟨ra,rc,ka,kc,rfl,hrs,hks⟩:=hxv.open_;have hb6:Below w2.heap.size w2 (w2.alloc (.cells #[.int .i64 k,.string ⟨(c).toArray⟩,.bool ng,.slice ra rs.length rc,.int .i64 lo,.int .i64 hi,.bool lz,.slice ka ks.length kc] 34)):=(Below.refl _ _).alloc (Nat.le_refl _) _;have HRD6:=Lib.hid (hrd2.later hb6);have hg6:=grown_trans hg2 (grown_of_below hb6 (some g));have HBY6:=Lib.hid ((hb6.block _ (heap_lt hby2)).trans hby2);have hxv6:RxV _ (fun b=>w.heap.size+1≤b) _ _:=(hxv0.mono (S':=fun b=>w.heap.size+1≤b) fun b hb _=>by have:=hz1;omega).later hb6;have hz6:w.heap.size+1≤(w2.alloc (.cells #[.int .i64 k,.string ⟨(c).toArray⟩,.bool ng,.slice ra rs.length rc,.int .i64 lo,.int .i64 hi,.bool lz,.slice ka ks.length kc] 34)).heap.size:=by simp;have:=hz1;omega
   have HQT:=Lib.hid (quantified_any _ HRD6.out hxv6 hz6 (by omega));clear hat hxv hxv0 hrs hks hrd2 hby2 hb6 hxv6 hz6;unfold rxc at HQT ⊢;go_wp2_with (go_at_call 122;refine HQT.out.mono ?_)
   rintro e w8 hq;clear HQT;cases hres:quantM (.mk k c ng rs lo hi lz ks) r3 with
   | error q =>
    rw [hres] at hq;obtain⟨hq8,rfl,r9,hrd9⟩:=hq;have HR2:Hid (Except.error q=R):=Lib.hid (by rw [←HR.out,hres]);have HR:=HR2;have hg8:=grown_trans hg6 hq8;have HRD9:=Lib.hid hrd9;obtain⟨f0,f1,f2,f3,f4,f5,f6,f7,f8⟩:=bx_cells (c:=[]) (box_grown HBY6.out hq8 (by omega));clear hres hq8 hrd9;unfold rxv0;go_wp2
    refine bodyPost_ret (v:=.tuple #[.agg #[.int .i64 0,.string ⟨([]).toArray⟩,.bool false,.slice none 0 0,.int .i64 0,.int .i64 0,.bool false,.slice none 0 0],.int .i64 q]) (by simp [results,Tryz.results106,go_sem,f0,f1,f2,f3,f4,f5,f6,f7]) rfl ?_;refine⟨?_,?_⟩
    ·iterate 8 (refine grown_setNew ?_ (by first|omega|(simp;done)|(simp;omega)) _)
     exact hg8
    ·rw [←HR.out]
     refine⟨rfl,?_⟩;iterate 8 (refine RdE.setHi ?_ (by first|omega|(simp;done)|(simp;omega)) _)
     exact⟨_,HRD9.out⟩
   | ok y =>
    obtain⟨x,r3⟩:=y;rw [hres] at hq;obtain⟨hq8,cc,rfl,hxv,hrd9⟩:=hq;have HR2:Hid (Except.ok (x,r3)=R):=Lib.hid (by rw [←HR.out,hres]);have HR:=HR2;have hg8:=grown_trans hg6 hq8;have HRD9:=Lib.hid hrd9;obtain⟨k,c,ng,rs,lo,hi,lz,ks⟩:=x;have hxv0:=hxv;obtain⟨ra,rc,ka,kc,rfl,hrs,hks⟩:=hxv.open_;have HXV:=Lib.hid (hxv0.mono (S':=fun b=>w.heap.size≤b∧b≠w.heap.size) fun b hb hlt=>by have:=hz2;constructor<;>omega);obtain⟨f0,f1,f2,f3,f4,f5,f6,f7,f8⟩:=bx_cells (c:=[]) (box_grown HBY6.out hq8 (by omega));clear hres hq8 hrd9 hxv hxv0 hrs hks;unfold rxc at HXV ⊢;go_wp2
    refine bodyPost_ret (v:=.tuple #[.agg #[.int .i64 k,.string ⟨(c).toArray⟩,.bool ng,.slice ra rs.length rc,.int .i64 lo,.int .i64 hi,.bool lz,.slice ka ks.length kc],.int .i64 0]) (by simp [results,Tryz.results106,go_sem,f0,f1,f2,f3,f4,f5,f6,f7]) rfl ?_;refine⟨?_,?_⟩
    ·iterate 8 (refine grown_setNew ?_ (by first|omega|(simp;done)|(simp;omega)) _)
     exact hg8
    rw [←HR.out];refine⟨rxc k c ng ra rs.length rc lo hi lz ka ks.length kc,rfl,RxV.mono (S:=fun b=>w.heap.size≤b∧b≠w.heap.size) (fun b hb _=>hb.1) ?_,?_⟩
    ·iterate 8 (refine RxV.keep (Kept.setLow _ (fun b hb=>by have:w.heap.size≤b∧b≠w.heap.size:=hb;first|omega|(simp;done)|(simp;omega))) ?_)
     exact HXV.out
    ·iterate 8 (refine RdT.setHi ?_ (by first|omega|(simp;done)|(simp;omega)) _)
     exact HRD9.out
end Go.Proofs.YtbgcjpefocdkkaaGreat
