/- walks of rxread: atom -/
import Derived.Test.YtbgcjpefocdkkaaGreatSm1
import Derived.Test.YtbgcjpefocdkkaaGreatSm2
import Derived.Test.YtbgcjpefocdkkaaGreatSm3
import Derived.Test.YtbgcjpefocdkkaaGreatSm4
import Derived.Test.YtbgcjpefocdkkaaGreatSm5
import Derived.Test.YtbgcjpefocdkkaaGreatSm6
import Derived.Test.YtbgcjpefocdkkaaGreatSm7
import Derived.Test.YtbgcjpefocdkkaaGreatSm8
import Derived.Test.YtbgcjpefocdkkaaGreatSm9
import Derived.Test.YtbgcjpefocdkkaaGreatSm10
import Derived.Test.YtbgcjpefocdkkaaGreatSm14
import Derived.Test.YtbgcjpefocdkkaaGreatSm15
set_option maxRecDepth 100000
namespace Go.Proofs.YtbgcjpefocdkkaaGreat
open Go.RowKit
set_option maxHeartbeats 2000000 in
theorem atom_any {n:Nat} (hp:PatC n) {g d:Nat} {r:List Str} (w:World) (h:Rd w g r d) (hl:r.length≤n) (hd:d≤16) :
  Calls Tryz.prog 121 #[.pointer (some ⟨g,0,none⟩)] w fun e w'=>ResPost g d w.heap.size w (atomM (patF n) r d) e w':=by
 obtain⟨R,hR⟩:∃R,atomM (patF n) r d=R:=⟨_,rfl⟩;rw [hR];cases r with
 | nil =>
  have HR:Hid (Except.error 10=R):=Lib.hid hR;clear hR hp;obtain⟨w0,hw0⟩:∃w0,w0=w.alloc (.cells #[.int .i64 0,.string ⟨#[]⟩,.bool false,.slice none 0 0,.int .i64 0,.int .i64 0,.bool false,.slice none 0 0] 34):=⟨_,rfl⟩;obtain⟨hb0,hz0,hby0⟩:=alloc1 w hw0;have HRD:=Lib.hid (h.later hb0);rw [hw0] at HRD;have HW0:=Lib.hid hw0;have HBY0:=Lib.hid hby0;have hgg:w.grownBy w0 (some g):=grown_of_below hb0 _;have hgr:g<w.heap.size:=h.lt;clear hw0 hby0 h;go_enter Tryz.func121,Tryz.ntmps121
  go_wp2_with (go_at_call 129;refine(next_nil' _ HRD.out).mono ?_)
  rintro e w1 ⟨rfl,hrd1,hq1⟩;rw [←HW0.out] at hq1;have hg1:=grown_trans hgg hq1;have HRD1:=Lib.hid hrd1;have HBY1:=Lib.hid (box_grown HBY0.out hq1 (by omega));have hz1:=hq1.size;clear hrd1 hq1;obtain⟨f0,f1,f2,f3,f4,f5,f6,f7,f8⟩:=bx_cells (c:=[]) HBY1.out;go_wp2
  refine bodyPost_ret (v:=.tuple #[.agg #[.int .i64 0,.string ⟨([]).toArray⟩,.bool false,.slice none 0 0,.int .i64 0,.int .i64 0,.bool false,.slice none 0 0],.int .i64 10]) (by simp [results,Tryz.results121,go_sem,f0,f1,f2,f3,f4,f5,f6,f7]) rfl ?_;refine⟨?_,?_⟩
  ·iterate 8 (refine grown_setNew ?_ (by first|omega|(simp;done)|(simp;omega)) _)
   exact hg1
  ·rw [←HR.out]
   refine⟨rfl,?_⟩;iterate 8 (refine RdE.setHi ?_ (by first|omega|(simp;done)|(simp;omega)) _)
   exact⟨_,HRD1.out⟩
 | cons c r1 =>
  have hc:=h.pos.1;have hcl:=h.pos.2;simp only [List.length_cons] at hl;by_cases h46:c=[46]
  ·subst h46
   have HR:Hid (Except.ok (rxK 3,r1)=R):=Lib.hid hR;clear hR hp;obtain⟨w0,hw0⟩:∃w0,w0=w.alloc (.cells #[.int .i64 0,.string ⟨#[]⟩,.bool false,.slice none 0 0,.int .i64 0,.int .i64 0,.bool false,.slice none 0 0] 34):=⟨_,rfl⟩;obtain⟨hb0,hz0,hby0⟩:=alloc1 w hw0;have HRD:=Lib.hid (h.later hb0);rw [hw0] at HRD;have HW0:=Lib.hid hw0;have HBY0:=Lib.hid hby0;have hgg:w.grownBy w0 (some g):=grown_of_below hb0 _;have hgr:g<w.heap.size:=h.lt;clear hw0 hby0 h;go_enter Tryz.func121,Tryz.ntmps121
   go_wp2_with (go_at_call 129;refine(next_cons _ HRD.out).mono ?_)
   rintro e w1 ⟨rfl,hrd1,hq1⟩;rw [←HW0.out] at hq1;have hg1:=grown_trans hgg hq1;have HRD1:=Lib.hid hrd1;have HBY1:=Lib.hid (box_grown HBY0.out hq1 (by omega));have hz1:=hq1.size;clear hrd1 hq1;obtain⟨f0,f1,f2,f3,f4,f5,f6,f7,f8⟩:=bx_cells (c:=[]) HBY1.out;go_wp2
   refine bodyPost_ret (v:=.tuple #[.agg #[.int .i64 3,.string ⟨([]).toArray⟩,.bool false,.slice none ([]:List Row).length 0,.int .i64 0,.int .i64 0,.bool false,.slice none ([]:List Rx).length 0],.int .i64 0]) (by simp [results,Tryz.results121,go_sem,f0,f1,f2,f3,f4,f5,f6,f7]) rfl ?_;refine⟨?_,?_⟩
   ·iterate 8 (refine grown_setNew ?_ (by first|omega|(simp;done)|(simp;omega)) _)
    exact hg1
   rw [←HR.out];refine⟨rxc 3 [] false none ([]:List Row).length 0 0 0 false none ([]:List Rx).length 0,rfl,RxV.mono (S:=fun b=>w.heap.size≤b∧b≠w.heap.size) (fun b hb _=>hb.1) ?_,?_⟩
   ·iterate 8 (refine RxV.keep (Kept.setLow _ (fun b hb=>by have:w.heap.size≤b∧b≠w.heap.size:=hb;first|omega|(simp;done)|(simp;omega))) ?_)
    exact(RxV.close (SlS.none_ _ _ _ _) ⟨[],SlS.none_ _ _ _ _,.nil⟩)
   ·iterate 8 (refine RdT.setHi ?_ (by first|omega|(simp;done)|(simp;omega)) _)
    exact HRD1.out
  by_cases h40:c=[40]
  ·subst h40
   have HR:Hid (groupM (patF n) r1 d=R):=Lib.hid hR;have HP:=Lib.hid hp;clear hR hp;obtain⟨w0,hw0⟩:∃w0,w0=w.alloc (.cells #[.int .i64 0,.string ⟨#[]⟩,.bool false,.slice none 0 0,.int .i64 0,.int .i64 0,.bool false,.slice none 0 0] 34):=⟨_,rfl⟩;obtain⟨hb0,hz0,hby0⟩:=alloc1 w hw0;have HRD:=Lib.hid (h.later hb0);rw [hw0] at HRD;have HW0:=Lib.hid hw0;have HBY0:=Lib.hid hby0;have hgg:w.grownBy w0 (some g):=grown_of_below hb0 _;have hgr:g<w.heap.size:=h.lt;clear hw0 hby0 h;go_enter Tryz.func121,Tryz.ntmps121
   go_wp2_with (go_at_call 129;refine(next_cons _ HRD.out).mono ?_)
   rintro e w1 ⟨rfl,hrd1,hq1⟩;rw [←HW0.out] at hq1;have hg1:=grown_trans hgg hq1;have HRD1:=Lib.hid hrd1;have HBY1:=Lib.hid (box_grown HBY0.out hq1 (by omega));have hz1:=hq1.size;clear hrd1 hq1;go_wp2_with (go_at_call 130;refine(rgroup_any HP.out _ HRD1.out (by omega) hd).mono ?_)
   rintro e w2 hq;cases hres:groupM (patF n) r1 d with
   | error q =>
    rw [hres] at hq;obtain⟨hq8,rfl,r9,hrd9⟩:=hq;have HR2:Hid (Except.error q=R):=Lib.hid (by rw [←HR.out,hres]);have HR:=HR2;have hg8:=grown_trans hg1 hq8;have HRD9:=Lib.hid hrd9;obtain⟨f0,f1,f2,f3,f4,f5,f6,f7,f8⟩:=bx_cells (c:=[]) (box_grown HBY1.out hq8 (by omega));clear hres hq8 hrd9;unfold rxv0;go_wp2
    refine bodyPost_ret (v:=.tuple #[.agg #[.int .i64 0,.string ⟨([]).toArray⟩,.bool false,.slice none 0 0,.int .i64 0,.int .i64 0,.bool false,.slice none 0 0],.int .i64 q]) (by simp [results,Tryz.results121,go_sem,f0,f1,f2,f3,f4,f5,f6,f7]) rfl ?_;refine⟨?_,?_⟩
    ·iterate 8 (refine grown_setNew ?_ (by first|omega|(simp;done)|(simp;omega)) _)
     exact hg8
    ·rw [←HR.out]
     refine⟨rfl,?_⟩;iterate 8 (refine RdE.setHi ?_ (by first|omega|(simp;done)|(simp;omega)) _)
     exact⟨_,HRD9.out⟩
   | ok y =>
    obtain⟨x,r3⟩:=y;rw [hres] at hq;obtain⟨hq8,cc,rfl,hxv,hrd9⟩:=hq;have HR2:Hid (Except.ok (x,r3)=R):=Lib.hid (by rw [←HR.out,hres]);have HR:=HR2;have hg8:=grown_trans hg1 hq8;have HRD9:=Lib.hid hrd9;obtain⟨k,c,ng,rs,lo,hi,lz,ks⟩:=x;have hxv0:=hxv;obtain⟨ra,rc,ka,kc,rfl,hrs,hks⟩:=hxv.open_;have HXV:=Lib.hid (hxv0.mono (S':=fun b=>w.heap.size≤b∧b≠w.heap.size) fun b hb hlt=>by have:=hz1;constructor<;>omega);obtain⟨f0,f1,f2,f3,f4,f5,f6,f7,f8⟩:=bx_cells (c:=[]) (box_grown HBY1.out hq8 (by omega));clear hres hq8 hrd9 hxv hxv0 hrs hks;unfold rxc at HXV ⊢;go_wp2
    refine bodyPost_ret (v:=.tuple #[.agg #[.int .i64 k,.string ⟨(c).toArray⟩,.bool ng,.slice ra rs.length rc,.int .i64 lo,.int .i64 hi,.bool lz,.slice ka ks.length kc],.int .i64 0]) (by simp [results,Tryz.results121,go_sem,f0,f1,f2,f3,f4,f5,f6,f7]) rfl ?_;refine⟨?_,?_⟩
    ·iterate 8 (refine grown_setNew ?_ (by first|omega|(simp;done)|(simp;omega)) _)
     exact hg8
    rw [←HR.out];refine⟨rxc k c ng ra rs.length rc lo hi lz ka ks.length kc,rfl,RxV.mono (S:=fun b=>w.heap.size≤b∧b≠w.heap.size) (fun b hb _=>hb.1) ?_,?_⟩
    ·iterate 8 (refine RxV.keep (Kept.setLow _ (fun b hb=>by have:w.heap.size≤b∧b≠w.heap.size:=hb;first|omega|(simp;done)|(simp;omega))) ?_)
     exact HXV.out
    ·iterate 8 (refine RdT.setHi ?_ (by first|omega|(simp;done)|(simp;omega)) _)
     exact HRD9.out
  by_cases h91:c=[91]
  ·subst h91
   have HR:Hid (classM r1=R):=Lib.hid hR;clear hR hp;obtain⟨w0,hw0⟩:∃w0,w0=w.alloc (.cells #[.int .i64 0,.string ⟨#[]⟩,.bool false,.slice none 0 0,.int .i64 0,.int .i64 0,.bool false,.slice none 0 0] 34):=⟨_,rfl⟩;obtain⟨hb0,hz0,hby0⟩:=alloc1 w hw0;have HRD:=Lib.hid (h.later hb0);rw [hw0] at HRD;have HW0:=Lib.hid hw0;have HBY0:=Lib.hid hby0;have hgg:w.grownBy w0 (some g):=grown_of_below hb0 _;have hgr:g<w.heap.size:=h.lt;clear hw0 hby0 h;go_enter Tryz.func121,Tryz.ntmps121
   go_wp2_with (go_at_call 129;refine(next_cons _ HRD.out).mono ?_)
   rintro e w1 ⟨rfl,hrd1,hq1⟩;rw [←HW0.out] at hq1;have hg1:=grown_trans hgg hq1;have HRD1:=Lib.hid hrd1;have HBY1:=Lib.hid (box_grown HBY0.out hq1 (by omega));have hz1:=hq1.size;clear hrd1 hq1;go_wp2_with (go_at_call 131;refine(class_any _ HRD1.out).mono ?_)
   rintro e w2 hq;cases hres:classM r1 with
   | error q =>
    rw [hres] at hq;obtain⟨hq8,rfl,r9,hrd9⟩:=hq;have HR2:Hid (Except.error q=R):=Lib.hid (by rw [←HR.out,hres]);have HR:=HR2;have hg8:=grown_trans hg1 hq8;have HRD9:=Lib.hid hrd9;obtain⟨f0,f1,f2,f3,f4,f5,f6,f7,f8⟩:=bx_cells (c:=[]) (box_grown HBY1.out hq8 (by omega));clear hres hq8 hrd9;unfold rxv0;go_wp2
    refine bodyPost_ret (v:=.tuple #[.agg #[.int .i64 0,.string ⟨([]).toArray⟩,.bool false,.slice none 0 0,.int .i64 0,.int .i64 0,.bool false,.slice none 0 0],.int .i64 q]) (by simp [results,Tryz.results121,go_sem,f0,f1,f2,f3,f4,f5,f6,f7]) rfl ?_;refine⟨?_,?_⟩
    ·iterate 8 (refine grown_setNew ?_ (by first|omega|(simp;done)|(simp;omega)) _)
     exact hg8
    ·rw [←HR.out]
     refine⟨rfl,?_⟩;iterate 8 (refine RdE.setHi ?_ (by first|omega|(simp;done)|(simp;omega)) _)
     exact⟨_,HRD9.out⟩
   | ok y =>
    obtain⟨x,r3⟩:=y;rw [hres] at hq;obtain⟨hq8,cc,rfl,hxv,hrd9⟩:=hq;have HR2:Hid (Except.ok (x,r3)=R):=Lib.hid (by rw [←HR.out,hres]);have HR:=HR2;have hg8:=grown_trans hg1 hq8;have HRD9:=Lib.hid hrd9;obtain⟨k,c,ng,rs,lo,hi,lz,ks⟩:=x;have hxv0:=hxv;obtain⟨ra,rc,ka,kc,rfl,hrs,hks⟩:=hxv.open_;have HXV:=Lib.hid (hxv0.mono (S':=fun b=>w.heap.size≤b∧b≠w.heap.size) fun b hb hlt=>by have:=hz1;constructor<;>omega);obtain⟨f0,f1,f2,f3,f4,f5,f6,f7,f8⟩:=bx_cells (c:=[]) (box_grown HBY1.out hq8 (by omega));clear hres hq8 hrd9 hxv hxv0 hrs hks;unfold rxc at HXV ⊢;go_wp2
    refine bodyPost_ret (v:=.tuple #[.agg #[.int .i64 k,.string ⟨(c).toArray⟩,.bool ng,.slice ra rs.length rc,.int .i64 lo,.int .i64 hi,.bool lz,.slice ka ks.length kc],.int .i64 0]) (by simp [results,Tryz.results121,go_sem,f0,f1,f2,f3,f4,f5,f6,f7]) rfl ?_;refine⟨?_,?_⟩
    ·iterate 8 (refine grown_setNew ?_ (by first|omega|(simp;done)|(simp;omega)) _)
     exact hg8
    rw [←HR.out];refine⟨rxc k c ng ra rs.length rc lo hi lz ka ks.length kc,rfl,RxV.mono (S:=fun b=>w.heap.size≤b∧b≠w.heap.size) (fun b hb _=>hb.1) ?_,?_⟩
    ·iterate 8 (refine RxV.keep (Kept.setLow _ (fun b hb=>by have:w.heap.size≤b∧b≠w.heap.size:=hb;first|omega|(simp;done)|(simp;omega))) ?_)
     exact HXV.out
    ·iterate 8 (refine RdT.setHi ?_ (by first|omega|(simp;done)|(simp;omega)) _)
     exact HRD9.out
  by_cases h92:c=[92]
  ·subst h92
   have HR:Hid (escM r1=R):=Lib.hid hR;clear hR hp;obtain⟨w0,hw0⟩:∃w0,w0=w.alloc (.cells #[.int .i64 0,.string ⟨#[]⟩,.bool false,.slice none 0 0,.int .i64 0,.int .i64 0,.bool false,.slice none 0 0] 34):=⟨_,rfl⟩;obtain⟨hb0,hz0,hby0⟩:=alloc1 w hw0;have HRD:=Lib.hid (h.later hb0);rw [hw0] at HRD;have HW0:=Lib.hid hw0;have HBY0:=Lib.hid hby0;have hgg:w.grownBy w0 (some g):=grown_of_below hb0 _;have hgr:g<w.heap.size:=h.lt;clear hw0 hby0 h;go_enter Tryz.func121,Tryz.ntmps121
   go_wp2_with (go_at_call 129;refine(next_cons _ HRD.out).mono ?_)
   rintro e w1 ⟨rfl,hrd1,hq1⟩;rw [←HW0.out] at hq1;have hg1:=grown_trans hgg hq1;have HRD1:=Lib.hid hrd1;have HBY1:=Lib.hid (box_grown HBY0.out hq1 (by omega));have hz1:=hq1.size;clear hrd1 hq1;go_wp2_with (go_at_call 132;refine(escaped_any _ HRD1.out).mono ?_)
   rintro e w2 hq;cases hres:escM r1 with
   | error q =>
    rw [hres] at hq;obtain⟨hq8,rfl,r9,hrd9⟩:=hq;have HR2:Hid (Except.error q=R):=Lib.hid (by rw [←HR.out,hres]);have HR:=HR2;have hg8:=grown_trans hg1 hq8;have HRD9:=Lib.hid hrd9;obtain⟨f0,f1,f2,f3,f4,f5,f6,f7,f8⟩:=bx_cells (c:=[]) (box_grown HBY1.out hq8 (by omega));clear hres hq8 hrd9;unfold rxv0;go_wp2
    refine bodyPost_ret (v:=.tuple #[.agg #[.int .i64 0,.string ⟨([]).toArray⟩,.bool false,.slice none 0 0,.int .i64 0,.int .i64 0,.bool false,.slice none 0 0],.int .i64 q]) (by simp [results,Tryz.results121,go_sem,f0,f1,f2,f3,f4,f5,f6,f7]) rfl ?_;refine⟨?_,?_⟩
    ·iterate 8 (refine grown_setNew ?_ (by first|omega|(simp;done)|(simp;omega)) _)
     exact hg8
    ·rw [←HR.out]
     refine⟨rfl,?_⟩;iterate 8 (refine RdE.setHi ?_ (by first|omega|(simp;done)|(simp;omega)) _)
     exact⟨_,HRD9.out⟩
   | ok y =>
    obtain⟨x,r3⟩:=y;rw [hres] at hq;obtain⟨hq8,cc,rfl,hxv,hrd9⟩:=hq;have HR2:Hid (Except.ok (x,r3)=R):=Lib.hid (by rw [←HR.out,hres]);have HR:=HR2;have hg8:=grown_trans hg1 hq8;have HRD9:=Lib.hid hrd9;obtain⟨k,c,ng,rs,lo,hi,lz,ks⟩:=x;have hxv0:=hxv;obtain⟨ra,rc,ka,kc,rfl,hrs,hks⟩:=hxv.open_;have HXV:=Lib.hid (hxv0.mono (S':=fun b=>w.heap.size≤b∧b≠w.heap.size) fun b hb hlt=>by have:=hz1;constructor<;>omega);obtain⟨f0,f1,f2,f3,f4,f5,f6,f7,f8⟩:=bx_cells (c:=[]) (box_grown HBY1.out hq8 (by omega));clear hres hq8 hrd9 hxv hxv0 hrs hks;unfold rxc at HXV ⊢;go_wp2
    refine bodyPost_ret (v:=.tuple #[.agg #[.int .i64 k,.string ⟨(c).toArray⟩,.bool ng,.slice ra rs.length rc,.int .i64 lo,.int .i64 hi,.bool lz,.slice ka ks.length kc],.int .i64 0]) (by simp [results,Tryz.results121,go_sem,f0,f1,f2,f3,f4,f5,f6,f7]) rfl ?_;refine⟨?_,?_⟩
    ·iterate 8 (refine grown_setNew ?_ (by first|omega|(simp;done)|(simp;omega)) _)
     exact hg8
    rw [←HR.out];refine⟨rxc k c ng ra rs.length rc lo hi lz ka ks.length kc,rfl,RxV.mono (S:=fun b=>w.heap.size≤b∧b≠w.heap.size) (fun b hb _=>hb.1) ?_,?_⟩
    ·iterate 8 (refine RxV.keep (Kept.setLow _ (fun b hb=>by have:w.heap.size≤b∧b≠w.heap.size:=hb;first|omega|(simp;done)|(simp;omega))) ?_)
     exact HXV.out
    ·iterate 8 (refine RdT.setHi ?_ (by first|omega|(simp;done)|(simp;omega)) _)
     exact HRD9.out
  have g46:(c==[46])=false:=beq_eq_false_iff_ne.2 h46;have g40:(c==[40])=false:=beq_eq_false_iff_ne.2 h40;have g91:(c==[91])=false:=beq_eq_false_iff_ne.2 h91;have g92:(c==[92])=false:=beq_eq_false_iff_ne.2 h92;have g0:List.isEmpty c=false:=by cases c<;>simp at hc ⊢
  by_cases h42:c=[42]
  ·subst h42
   have HR:Hid (Except.error 10=R):=Lib.hid hR;clear hR hp hl;obtain⟨w0,hw0⟩:∃w0,w0=w.alloc (.cells #[.int .i64 0,.string ⟨#[]⟩,.bool false,.slice none 0 0,.int .i64 0,.int .i64 0,.bool false,.slice none 0 0] 34):=⟨_,rfl⟩;obtain⟨hb0,hz0,hby0⟩:=alloc1 w hw0;have HRD:=Lib.hid (h.later hb0);rw [hw0] at HRD;have HW0:=Lib.hid hw0;have HBY0:=Lib.hid hby0;have hgg:w.grownBy w0 (some g):=grown_of_below hb0 _;have hgr:g<w.heap.size:=h.lt;clear hw0 hby0 h;go_enter Tryz.func121,Tryz.ntmps121
   go_wp2_with (go_at_call 129;refine(next_cons _ HRD.out).mono ?_)
   rintro e w1 ⟨rfl,hrd1,hq1⟩;rw [←HW0.out] at hq1;have hg1:=grown_trans hgg hq1;have HRD1:=Lib.hid hrd1;have HBY1:=Lib.hid (box_grown HBY0.out hq1 (by omega));have hz1:=hq1.size;clear hrd1 hq1;obtain⟨f0,f1,f2,f3,f4,f5,f6,f7,f8⟩:=bx_cells (c:=[]) HBY1.out;go_wp2
   refine bodyPost_ret (v:=.tuple #[.agg #[.int .i64 0,.string ⟨([]).toArray⟩,.bool false,.slice none 0 0,.int .i64 0,.int .i64 0,.bool false,.slice none 0 0],.int .i64 10]) (by simp [results,Tryz.results121,go_sem,f0,f1,f2,f3,f4,f5,f6,f7]) rfl ?_;refine⟨?_,?_⟩
   ·iterate 8 (refine grown_setNew ?_ (by first|omega|(simp;done)|(simp;omega)) _)
    exact hg1
   ·rw [←HR.out]
    refine⟨rfl,?_⟩;iterate 8 (refine RdE.setHi ?_ (by first|omega|(simp;done)|(simp;omega)) _)
    exact⟨_,HRD1.out⟩
  have g42:(c==[42])=false:=beq_eq_false_iff_ne.2 h42;by_cases h43:c=[43]
  ·subst h43
   have HR:Hid (Except.error 10=R):=Lib.hid hR;clear hR hp hl;obtain⟨w0,hw0⟩:∃w0,w0=w.alloc (.cells #[.int .i64 0,.string ⟨#[]⟩,.bool false,.slice none 0 0,.int .i64 0,.int .i64 0,.bool false,.slice none 0 0] 34):=⟨_,rfl⟩;obtain⟨hb0,hz0,hby0⟩:=alloc1 w hw0;have HRD:=Lib.hid (h.later hb0);rw [hw0] at HRD;have HW0:=Lib.hid hw0;have HBY0:=Lib.hid hby0;have hgg:w.grownBy w0 (some g):=grown_of_below hb0 _;have hgr:g<w.heap.size:=h.lt;clear hw0 hby0 h;go_enter Tryz.func121,Tryz.ntmps121
   go_wp2_with (go_at_call 129;refine(next_cons _ HRD.out).mono ?_)
   rintro e w1 ⟨rfl,hrd1,hq1⟩;rw [←HW0.out] at hq1;have hg1:=grown_trans hgg hq1;have HRD1:=Lib.hid hrd1;have HBY1:=Lib.hid (box_grown HBY0.out hq1 (by omega));have hz1:=hq1.size;clear hrd1 hq1;obtain⟨f0,f1,f2,f3,f4,f5,f6,f7,f8⟩:=bx_cells (c:=[]) HBY1.out;go_wp2
   refine bodyPost_ret (v:=.tuple #[.agg #[.int .i64 0,.string ⟨([]).toArray⟩,.bool false,.slice none 0 0,.int .i64 0,.int .i64 0,.bool false,.slice none 0 0],.int .i64 10]) (by simp [results,Tryz.results121,go_sem,f0,f1,f2,f3,f4,f5,f6,f7]) rfl ?_;refine⟨?_,?_⟩
   ·iterate 8 (refine grown_setNew ?_ (by first|omega|(simp;done)|(simp;omega)) _)
    exact hg1
   ·rw [←HR.out]
    refine⟨rfl,?_⟩;iterate 8 (refine RdE.setHi ?_ (by first|omega|(simp;done)|(simp;omega)) _)
    exact⟨_,HRD1.out⟩
  have g43:(c==[43])=false:=beq_eq_false_iff_ne.2 h43;by_cases h63:c=[63]
  ·subst h63
   have HR:Hid (Except.error 10=R):=Lib.hid hR;clear hR hp hl;obtain⟨w0,hw0⟩:∃w0,w0=w.alloc (.cells #[.int .i64 0,.string ⟨#[]⟩,.bool false,.slice none 0 0,.int .i64 0,.int .i64 0,.bool false,.slice none 0 0] 34):=⟨_,rfl⟩;obtain⟨hb0,hz0,hby0⟩:=alloc1 w hw0;have HRD:=Lib.hid (h.later hb0);rw [hw0] at HRD;have HW0:=Lib.hid hw0;have HBY0:=Lib.hid hby0;have hgg:w.grownBy w0 (some g):=grown_of_below hb0 _;have hgr:g<w.heap.size:=h.lt;clear hw0 hby0 h;go_enter Tryz.func121,Tryz.ntmps121
   go_wp2_with (go_at_call 129;refine(next_cons _ HRD.out).mono ?_)
   rintro e w1 ⟨rfl,hrd1,hq1⟩;rw [←HW0.out] at hq1;have hg1:=grown_trans hgg hq1;have HRD1:=Lib.hid hrd1;have HBY1:=Lib.hid (box_grown HBY0.out hq1 (by omega));have hz1:=hq1.size;clear hrd1 hq1;obtain⟨f0,f1,f2,f3,f4,f5,f6,f7,f8⟩:=bx_cells (c:=[]) HBY1.out;go_wp2
   refine bodyPost_ret (v:=.tuple #[.agg #[.int .i64 0,.string ⟨([]).toArray⟩,.bool false,.slice none 0 0,.int .i64 0,.int .i64 0,.bool false,.slice none 0 0],.int .i64 10]) (by simp [results,Tryz.results121,go_sem,f0,f1,f2,f3,f4,f5,f6,f7]) rfl ?_;refine⟨?_,?_⟩
   ·iterate 8 (refine grown_setNew ?_ (by first|omega|(simp;done)|(simp;omega)) _)
    exact hg1
   ·rw [←HR.out]
    refine⟨rfl,?_⟩;iterate 8 (refine RdE.setHi ?_ (by first|omega|(simp;done)|(simp;omega)) _)
    exact⟨_,HRD1.out⟩
  have g63:(c==[63])=false:=beq_eq_false_iff_ne.2 h63;by_cases h41:c=[41]
  ·subst h41
   have HR:Hid (Except.error 10=R):=Lib.hid hR;clear hR hp hl;obtain⟨w0,hw0⟩:∃w0,w0=w.alloc (.cells #[.int .i64 0,.string ⟨#[]⟩,.bool false,.slice none 0 0,.int .i64 0,.int .i64 0,.bool false,.slice none 0 0] 34):=⟨_,rfl⟩;obtain⟨hb0,hz0,hby0⟩:=alloc1 w hw0;have HRD:=Lib.hid (h.later hb0);rw [hw0] at HRD;have HW0:=Lib.hid hw0;have HBY0:=Lib.hid hby0;have hgg:w.grownBy w0 (some g):=grown_of_below hb0 _;have hgr:g<w.heap.size:=h.lt;clear hw0 hby0 h;go_enter Tryz.func121,Tryz.ntmps121
   go_wp2_with (go_at_call 129;refine(next_cons _ HRD.out).mono ?_)
   rintro e w1 ⟨rfl,hrd1,hq1⟩;rw [←HW0.out] at hq1;have hg1:=grown_trans hgg hq1;have HRD1:=Lib.hid hrd1;have HBY1:=Lib.hid (box_grown HBY0.out hq1 (by omega));have hz1:=hq1.size;clear hrd1 hq1;obtain⟨f0,f1,f2,f3,f4,f5,f6,f7,f8⟩:=bx_cells (c:=[]) HBY1.out;go_wp2
   refine bodyPost_ret (v:=.tuple #[.agg #[.int .i64 0,.string ⟨([]).toArray⟩,.bool false,.slice none 0 0,.int .i64 0,.int .i64 0,.bool false,.slice none 0 0],.int .i64 10]) (by simp [results,Tryz.results121,go_sem,f0,f1,f2,f3,f4,f5,f6,f7]) rfl ?_;refine⟨?_,?_⟩
   ·iterate 8 (refine grown_setNew ?_ (by first|omega|(simp;done)|(simp;omega)) _)
    exact hg1
   ·rw [←HR.out]
    refine⟨rfl,?_⟩;iterate 8 (refine RdE.setHi ?_ (by first|omega|(simp;done)|(simp;omega)) _)
    exact⟨_,HRD1.out⟩
  have g41:(c==[41])=false:=beq_eq_false_iff_ne.2 h41;by_cases h123:c=[123]
  ·subst h123
   have HR:Hid (Except.error 10=R):=Lib.hid hR;clear hR hp hl;obtain⟨w0,hw0⟩:∃w0,w0=w.alloc (.cells #[.int .i64 0,.string ⟨#[]⟩,.bool false,.slice none 0 0,.int .i64 0,.int .i64 0,.bool false,.slice none 0 0] 34):=⟨_,rfl⟩;obtain⟨hb0,hz0,hby0⟩:=alloc1 w hw0;have HRD:=Lib.hid (h.later hb0);rw [hw0] at HRD;have HW0:=Lib.hid hw0;have HBY0:=Lib.hid hby0;have hgg:w.grownBy w0 (some g):=grown_of_below hb0 _;have hgr:g<w.heap.size:=h.lt;clear hw0 hby0 h;go_enter Tryz.func121,Tryz.ntmps121
   go_wp2_with (go_at_call 129;refine(next_cons _ HRD.out).mono ?_)
   rintro e w1 ⟨rfl,hrd1,hq1⟩;rw [←HW0.out] at hq1;have hg1:=grown_trans hgg hq1;have HRD1:=Lib.hid hrd1;have HBY1:=Lib.hid (box_grown HBY0.out hq1 (by omega));have hz1:=hq1.size;clear hrd1 hq1;obtain⟨f0,f1,f2,f3,f4,f5,f6,f7,f8⟩:=bx_cells (c:=[]) HBY1.out;go_wp2
   refine bodyPost_ret (v:=.tuple #[.agg #[.int .i64 0,.string ⟨([]).toArray⟩,.bool false,.slice none 0 0,.int .i64 0,.int .i64 0,.bool false,.slice none 0 0],.int .i64 10]) (by simp [results,Tryz.results121,go_sem,f0,f1,f2,f3,f4,f5,f6,f7]) rfl ?_;refine⟨?_,?_⟩
   ·iterate 8 (refine grown_setNew ?_ (by first|omega|(simp;done)|(simp;omega)) _)
    exact hg1
   ·rw [←HR.out]
    refine⟨rfl,?_⟩;iterate 8 (refine RdE.setHi ?_ (by first|omega|(simp;done)|(simp;omega)) _)
    exact⟨_,HRD1.out⟩
  have g123:(c==[123])=false:=beq_eq_false_iff_ne.2 h123;by_cases h124:c=[124]
  ·subst h124
   have HR:Hid (Except.error 10=R):=Lib.hid hR;clear hR hp hl;obtain⟨w0,hw0⟩:∃w0,w0=w.alloc (.cells #[.int .i64 0,.string ⟨#[]⟩,.bool false,.slice none 0 0,.int .i64 0,.int .i64 0,.bool false,.slice none 0 0] 34):=⟨_,rfl⟩;obtain⟨hb0,hz0,hby0⟩:=alloc1 w hw0;have HRD:=Lib.hid (h.later hb0);rw [hw0] at HRD;have HW0:=Lib.hid hw0;have HBY0:=Lib.hid hby0;have hgg:w.grownBy w0 (some g):=grown_of_below hb0 _;have hgr:g<w.heap.size:=h.lt;clear hw0 hby0 h;go_enter Tryz.func121,Tryz.ntmps121
   go_wp2_with (go_at_call 129;refine(next_cons _ HRD.out).mono ?_)
   rintro e w1 ⟨rfl,hrd1,hq1⟩;rw [←HW0.out] at hq1;have hg1:=grown_trans hgg hq1;have HRD1:=Lib.hid hrd1;have HBY1:=Lib.hid (box_grown HBY0.out hq1 (by omega));have hz1:=hq1.size;clear hrd1 hq1;obtain⟨f0,f1,f2,f3,f4,f5,f6,f7,f8⟩:=bx_cells (c:=[]) HBY1.out;go_wp2
   refine bodyPost_ret (v:=.tuple #[.agg #[.int .i64 0,.string ⟨([]).toArray⟩,.bool false,.slice none 0 0,.int .i64 0,.int .i64 0,.bool false,.slice none 0 0],.int .i64 10]) (by simp [results,Tryz.results121,go_sem,f0,f1,f2,f3,f4,f5,f6,f7]) rfl ?_;refine⟨?_,?_⟩
   ·iterate 8 (refine grown_setNew ?_ (by first|omega|(simp;done)|(simp;omega)) _)
    exact hg1
   ·rw [←HR.out]
    refine⟨rfl,?_⟩;iterate 8 (refine RdE.setHi ?_ (by first|omega|(simp;done)|(simp;omega)) _)
    exact⟨_,HRD1.out⟩
  have g124:(c==[124])=false:=beq_eq_false_iff_ne.2 h124;by_cases h94:c=[94]
  ·subst h94
   have HR:Hid (Except.error 10=R):=Lib.hid hR;clear hR hp hl;obtain⟨w0,hw0⟩:∃w0,w0=w.alloc (.cells #[.int .i64 0,.string ⟨#[]⟩,.bool false,.slice none 0 0,.int .i64 0,.int .i64 0,.bool false,.slice none 0 0] 34):=⟨_,rfl⟩;obtain⟨hb0,hz0,hby0⟩:=alloc1 w hw0;have HRD:=Lib.hid (h.later hb0);rw [hw0] at HRD;have HW0:=Lib.hid hw0;have HBY0:=Lib.hid hby0;have hgg:w.grownBy w0 (some g):=grown_of_below hb0 _;have hgr:g<w.heap.size:=h.lt;clear hw0 hby0 h;go_enter Tryz.func121,Tryz.ntmps121
   go_wp2_with (go_at_call 129;refine(next_cons _ HRD.out).mono ?_)
   rintro e w1 ⟨rfl,hrd1,hq1⟩;rw [←HW0.out] at hq1;have hg1:=grown_trans hgg hq1;have HRD1:=Lib.hid hrd1;have HBY1:=Lib.hid (box_grown HBY0.out hq1 (by omega));have hz1:=hq1.size;clear hrd1 hq1;obtain⟨f0,f1,f2,f3,f4,f5,f6,f7,f8⟩:=bx_cells (c:=[]) HBY1.out;go_wp2
   refine bodyPost_ret (v:=.tuple #[.agg #[.int .i64 0,.string ⟨([]).toArray⟩,.bool false,.slice none 0 0,.int .i64 0,.int .i64 0,.bool false,.slice none 0 0],.int .i64 10]) (by simp [results,Tryz.results121,go_sem,f0,f1,f2,f3,f4,f5,f6,f7]) rfl ?_;refine⟨?_,?_⟩
   ·iterate 8 (refine grown_setNew ?_ (by first|omega|(simp;done)|(simp;omega)) _)
    exact hg1
   ·rw [←HR.out]
    refine⟨rfl,?_⟩;iterate 8 (refine RdE.setHi ?_ (by first|omega|(simp;done)|(simp;omega)) _)
    exact⟨_,HRD1.out⟩
  have g94:(c==[94])=false:=beq_eq_false_iff_ne.2 h94;by_cases h36:c=[36]
  ·subst h36
   have HR:Hid (Except.error 10=R):=Lib.hid hR;clear hR hp hl;obtain⟨w0,hw0⟩:∃w0,w0=w.alloc (.cells #[.int .i64 0,.string ⟨#[]⟩,.bool false,.slice none 0 0,.int .i64 0,.int .i64 0,.bool false,.slice none 0 0] 34):=⟨_,rfl⟩;obtain⟨hb0,hz0,hby0⟩:=alloc1 w hw0;have HRD:=Lib.hid (h.later hb0);rw [hw0] at HRD;have HW0:=Lib.hid hw0;have HBY0:=Lib.hid hby0;have hgg:w.grownBy w0 (some g):=grown_of_below hb0 _;have hgr:g<w.heap.size:=h.lt;clear hw0 hby0 h;go_enter Tryz.func121,Tryz.ntmps121
   go_wp2_with (go_at_call 129;refine(next_cons _ HRD.out).mono ?_)
   rintro e w1 ⟨rfl,hrd1,hq1⟩;rw [←HW0.out] at hq1;have hg1:=grown_trans hgg hq1;have HRD1:=Lib.hid hrd1;have HBY1:=Lib.hid (box_grown HBY0.out hq1 (by omega));have hz1:=hq1.size;clear hrd1 hq1;obtain⟨f0,f1,f2,f3,f4,f5,f6,f7,f8⟩:=bx_cells (c:=[]) HBY1.out;go_wp2
   refine bodyPost_ret (v:=.tuple #[.agg #[.int .i64 0,.string ⟨([]).toArray⟩,.bool false,.slice none 0 0,.int .i64 0,.int .i64 0,.bool false,.slice none 0 0],.int .i64 10]) (by simp [results,Tryz.results121,go_sem,f0,f1,f2,f3,f4,f5,f6,f7]) rfl ?_;refine⟨?_,?_⟩
   ·iterate 8 (refine grown_setNew ?_ (by first|omega|(simp;done)|(simp;omega)) _)
    exact hg1
   ·rw [←HR.out]
    refine⟨rfl,?_⟩;iterate 8 (refine RdE.setHi ?_ (by first|omega|(simp;done)|(simp;omega)) _)
    exact⟨_,HRD1.out⟩
  have g36:(c==[36])=false:=beq_eq_false_iff_ne.2 h36;have HR:Hid (Except.ok (chrR c,r1)=R):=Lib.hid (by rw [←hR];simp [atomM,noAtom,h46,h40,h91,h92,h42,h43,h63,h41,h123,h124,h94,h36]);clear hR hp hl h46 h40 h91 h92 h42 h43 h63 h41 h123 h124 h94 h36 hc;obtain⟨w0,hw0⟩:∃w0,w0=w.alloc (.cells #[.int .i64 0,.string ⟨#[]⟩,.bool false,.slice none 0 0,.int .i64 0,.int .i64 0,.bool false,.slice none 0 0] 34):=⟨_,rfl⟩;obtain⟨hb0,hz0,hby0⟩:=alloc1 w hw0;have HRD:=Lib.hid (h.later hb0);rw [hw0] at HRD;have HW0:=Lib.hid hw0;have HBY0:=Lib.hid hby0;have hgg:w.grownBy w0 (some g):=grown_of_below hb0 _;have hgr:g<w.heap.size:=h.lt;clear hw0 hby0 h;go_enter Tryz.func121,Tryz.ntmps121
  go_wp2_with (go_at_call 129;refine(next_cons _ HRD.out).mono ?_)
  rintro e w1 ⟨rfl,hrd1,hq1⟩;rw [←HW0.out] at hq1;have hg1:=grown_trans hgg hq1;have HRD1:=Lib.hid hrd1;have HBY1:=Lib.hid (box_grown HBY0.out hq1 (by omega));have hz1:=hq1.size;clear hrd1 hq1;obtain⟨f0,f1,f2,f3,f4,f5,f6,f7,f8⟩:=bx_cells (c:=[]) HBY1.out;go_wp2
  refine bodyPost_ret (v:=.tuple #[.agg #[.int .i64 2,.string ⟨(c).toArray⟩,.bool false,.slice none ([]:List Row).length 0,.int .i64 0,.int .i64 0,.bool false,.slice none ([]:List Rx).length 0],.int .i64 0]) (by simp [results,Tryz.results121,go_sem,f0,f1,f2,f3,f4,f5,f6,f7]) rfl ?_;refine⟨?_,?_⟩
  ·iterate 8 (refine grown_setNew ?_ (by first|omega|(simp;done)|(simp;omega)) _)
   exact hg1
  rw [←HR.out];refine⟨rxc 2 c false none ([]:List Row).length 0 0 0 false none ([]:List Rx).length 0,rfl,RxV.mono (S:=fun b=>w.heap.size≤b∧b≠w.heap.size) (fun b hb _=>hb.1) ?_,?_⟩
  ·iterate 8 (refine RxV.keep (Kept.setLow _ (fun b hb=>by have:w.heap.size≤b∧b≠w.heap.size:=hb;first|omega|(simp;done)|(simp;omega))) ?_)
   exact(RxV.close (SlS.none_ _ _ _ _) ⟨[],SlS.none_ _ _ _ _,.nil⟩)
  ·iterate 8 (refine RdT.setHi ?_ (by first|omega|(simp;done)|(simp;omega)) _)
   exact HRD1.out
end Go.Proofs.YtbgcjpefocdkkaaGreat
