/- walk of snode.Join -/
import Derived.Test.YtbgcjpefocdkkaaSx1
import Derived.Test.YtbgcjpefocdkkaaSx2
import Derived.Test.YtbgcjpefocdkkaaSx3
import Derived.Test.YtbgcjpefocdkkaaSx4
import Derived.Test.YtbgcjpefocdkkaaSx5
import Derived.Test.YtbgcjpefocdkkaaSx6
import Derived.Test.YtbgcjpefocdkkaaSx7
import Derived.Test.YtbgcjpefocdkkaaSx8
import Derived.Test.YtbgcjpefocdkkaaSx9
import Derived.Test.YtbgcjpefocdkkaaSx10
import Derived.Test.YtbgcjpefocdkkaaSx11
import Derived.Test.YtbgcjpefocdkkaaSx12
import Derived.Lib.ItoaMem
import Derived.Test.YtbgcjpefocdkkaaSx13
import Derived.Test.YtbgcjpefocdkkaaSx14
import Derived.Test.YtbgcjpefocdkkaaSx15
import Derived.Test.YtbgcjpefocdkkaaSx16
import Derived.Test.YtbgcjpefocdkkaaSx17
import Derived.Test.YtbgcjpefocdkkaaSx18
import Derived.Test.YtbgcjpefocdkkaaSx19
import Derived.Test.YtbgcjpefocdkkaaSx20
import Derived.Test.YtbgcjpefocdkkaaSx26
import Derived.Test.YtbgcjpefocdkkaaSx21
import Derived.Test.YtbgcjpefocdkkaaSx22
import Derived.Test.YtbgcjpefocdkkaaSx27
import Derived.Test.YtbgcjpefocdkkaaSx28
import Derived.Test.YtbgcjpefocdkkaaSx23
import Derived.Test.YtbgcjpefocdkkaaSx24
import Derived.Test.YtbgcjpefocdkkaaSx25
import Derived.Test.YtbgcjpefocdkkaaRows
import Derived.WalkKit
import Derived.ProofKit
import Derived.OpenShut
import Derived.ShutString
import Derived.Below
import Derived.ChangeSame
import Derived.Carry
set_option maxRecDepth 100000
namespace Go.Proofs.Ytbgcjpefocdkkaa
open Go.RowKit
theorem rs_skip {P:Program} {ops:Array Oper} {Q:Exit→Act→World→Prop} {K:Act→World→Prop} {o:Oper} {a:Act} {w w':World} (hw:Region.wanted o (yielded ops a.tmps)=true) (hr:(execOp a.eval o).run P w=.ok .skip w') (h:K (a.put o.dst undef) w'):wpList P ops (Exit.then K Q) [o] a w:=by
 unfold wpList;rw [if_pos hw];refine .inl ?_;unfold Oper.wp;rw [hr];exact h
theorem ex_lenS {o:Oper} {a:Act} {w:World} {t n c:Nat} {s:Option Addr} (ho:o.op=.call { callee:=.builtin .len,args:=#[.tmp t],argTypes:=#[23] }) (e:a.tmps[t]?=some (.slice s n c)) (_h:n≤100000000):(execOp a.eval o).run Try.prog w=.ok (.value (.int .i64 (n:Int))) w:=by
 simp only [execOp,ho];go_simp
theorem ex_conv {o:Oper} {a:Act} {w:World} {t:Nat} {src dst:TypeId} {v u:Value} (ho:o.op=.convert src dst (.tmp t)) (e:a.tmps[t]?=some v) (h:(convert src dst v).run Try.prog w=.ok u w):(execOp a.eval o).run Try.prog w=.ok (.value u) w:=by
 have e2:=ev_of e;simp only [execOp,ho,e2];simp [h,Result.andThen]
theorem ex_idx {o:Oper} {a:Act} {w:World} {x y g n cap:Nat} (ho:o.op=.indexAddr 23 (.tmp x) (.tmp y)) (e1:a.tmps[x]?=some (.slice (some ⟨g,0,none⟩) (n+1) cap)) (e2:a.tmps[y]?=some (.int .i64 (n:Int))) (_h:n≤100000000):(execOp a.eval o).run Try.prog w=.ok (.value (.pointer (some ⟨g,n*18,none⟩))) w:=by
 simp only [execOp,ho];go_simp
 intro h;omega
theorem ex_sto {o:Oper} {a:Act} {w:World} {x y g:Nat} {s:Option Addr} {n c:Nat} {u:Value} (ho:o.op=.store 23 (.tmp x) (.tmp y)) (e1:a.tmps[x]?=some (.pointer (some ⟨g,0,none⟩))) (e2:a.tmps[y]?=some (.slice s n c)) (hc:w.cell? ⟨g,0,none⟩=some u) (hf:w.frozen? ⟨g,0,none⟩=false):(execOp a.eval o).run Try.prog w=.ok .skip (w.setCell ⟨g,0,none⟩ (.slice s n c)):=by
 have e3:=ev_of e1;have e4:=ev_of e2;simp only [execOp,ho,e3,e4];have hr:(Instr.storeAt 23 (.pointer (some ⟨g,0,none⟩)) (.slice s n c)).run Try.prog w=.ok () (w.setCell ⟨g,0,none⟩ (.slice s n c)):=by go_simp
 simp [hr,Result.andThen]
def JS (D bt bo:Nat) (S:Nat→Prop) (t:Str) (o:List Sn) (w:World):Prop :=
 ∃tv ov,w.heap[bt]?=some (.cells #[tv] 61 (0,0))∧w.heap[bo]?=some (.cells #[ov] 23 (0,0))∧w.ownsRow D 5 1 tv t.length (bcells t)∧OwnS w D S ov o
structure JI (W:World) (D bo:Nat) (S:Nat→Prop) (tv ov:Value) (t:Str) (o:List Sn) (V:Nat→Value) (L:Nat→Bool) (w':World):Prop where
 ap:AP W D bo S ov o (textS t) (L 5) (L 6) (L 8) (L 9) (V 5) (V 6) w'
 d0:L 6=true→L 0=true
 d7:L 7=true→L 6=true
 v0:L 0=true→V 0=ov
 v1:L 1=true→V 1=tv
 v2:L 2=true→V 2=.string ⟨(t).toArray⟩
 v3:L 3=true→V 3=.agg #[.int .i64 0,.string ⟨(t).toArray⟩,.int .i64 0,.bool false,.bool false,.int .i64 0,.string ⟨#[]⟩,.bool false,.slice none 0 0,.int .i64 0,.int .i64 0,.bool false,.slice none 0 0,.slice none 0 0,.bool false,.bool false,.slice none 0 0,.slice none 0 0]
 v4:L 4=true→V 4=.int .i64 (o.length:Int)
 v7:L 7=true→∃g cap,V 6=.slice (some ⟨g,0,none⟩) (o.length+1) cap∧V 7=.pointer (some ⟨g,o.length*18,none⟩)
def RJI (W:World) (D bo:Nat) (S:Nat→Prop) (tv ov:Value) (t:Str) (o:List Sn) (A0:Act) (L:Nat→Bool) (a:Act) (w':World):Prop :=
 ∃V:Nat→Value,Fm2 [5,6,7,8,9,10,11,12] V A0 a∧JI W D bo S tv ov t o V L w'
set_option maxHeartbeats 4000000 in
theorem jflush {D bt bo:Nat} {S:Nat→Prop} {t:Str} {o:List Sn} (w0 w:World) (h:JS D bt bo S t o w0) (hw:Below w0.heap.size w0 w) (hbt:bt<D) (hbo:bo<D) (hS:∀b,S b→b<D∧b≠bt∧b≠bo) (hD:D≤w0.heap.size) (htx:t.length≤1000000) (hol:o.length≤3000000) :
  Calls Try.prog 24 #[.pointer (some ⟨bt,0,none⟩),.pointer (some ⟨bo,0,none⟩)] w fun e w'=>e=.returned (.tuple #[])∧JS D bt bo S [] (withT o t) w'∧Gx (fun k=>k=bt∨k=bo∨(D≤k∧k<w0.heap.size)) w w':=by
 obtain⟨tv,ov,h1,h2,ht,hov⟩:=h;have hrow:=hov.lt;replace h1:=(hw.block _ (heap_lt h1)).trans h1;replace h2:=(hw.block _ (heap_lt h2)).trans h2;replace ht:=own_keep ht hw;replace hov:=hov.later hw;have hDw:D≤w.heap.size:=Nat.le_trans hD hw.size;have hne:bt≠bo:=fun e=>by subst e;rw [h1] at h2;simp at h2
 obtain⟨ta,tc,rfl⟩:=own_form ht;obtain⟨oa,oc,rfl⟩:=hov.form;have hto:∀k,(Value.slice ta t.length tc).ownBlock=some k→¬(k=bo∨(Value.slice oa o.length oc).ownBlock=some k):=fun k hk e=>by
  rcases e with e|e
  ·have:=(ht.lt k hk).1;omega
  ·obtain⟨css,ho1,_⟩:=hov
   rcases own_own ht ho1 (by decide) with e2|e2
   ·rw [hk] at e2;cases e2
   ·exact e2 (hk.trans e.symm)
 have hbo2:∀k,(Value.slice oa o.length oc).ownBlock=some k→D≤k:=fun k hk=>(hrow k hk).1
 have c1:w.cell? ⟨bt,0,none⟩=some (.slice ta t.length tc):=by rw [Lib.cell_of_heap h1];rfl
 have H1:=Lib.hid h1;have H2:=Lib.hid h2;have HOV:=Lib.hid hov;have HTV:=Lib.hid ht;have HROW:=Lib.hid hrow;have HNE:=Lib.hid hne;have HTO:=Lib.hid hto;have HBO:=Lib.hid hbo2;have HS:=Lib.hid hS;clear h1 h2 hov ht hrow hne hto hbo2 hw hS;by_cases h0:t=[]
 ·subst h0
  simp only [List.length_nil] at c1;go_enter Try.func24,Try.ntmps24
  go_wp2
  go_end0
  exact⟨rfl,⟨_,_,H1.out,H2.out,HTV.out,HOV.out⟩,Gx.refl _ _⟩
 ·have hl:0<t.length:=List.length_pos_iff.2 h0
  have HW:Hid (withT o t=o++[textS t]):=Lib.hid (by unfold withT;rw [if_neg h0]);obtain⟨iN,hiN⟩:=info_parts snip_info;clear h0;go_enter Try.func24,Try.ntmps24
  go_upto_region 1 with fail
  refine wp_region_relyH (by kernel_rfl) (by kernel_rfl) (fun A0 W0 L a w'=>RJI W0 D bo S (.slice ta t.length tc) (.slice oa o.length oc) t o A0 L a w') ?_;intro A0 HAA;have hsz:A0.tmps.size=13:=by rw [HAA.out];rfl
  have hnd:[5,6,7,8,9,10,11,12].Nodup:=by decide
  have hbd:∀d∈[5,6,7,8,9,10,11,12],d<A0.tmps.size:=by rw [hsz];decide
  have e0:A0.tmps[0]?=some (.pointer (some ⟨bt,0,none⟩)):=by rw [HAA.out];rfl
  have e1:A0.tmps[1]?=some (.pointer (some ⟨bo,0,none⟩)):=by rw [HAA.out];rfl
  have hSD:∀b,S b→b<D:=fun b hb=>(HS.out b hb).1
  refine⟨?_,?_,?_⟩
  ·obtain⟨V,hV⟩:=putsL_own A0 [5,6,7,8,9,10,11,12]
   exact⟨V,⟨hV⟩,AP.start HOV.out H2.out _ _,(fun h=>by cases h),(fun h=>by cases h),(fun h=>by cases h),(fun h=>by cases h),(fun h=>by cases h),(fun h=>by cases h),(fun h=>by cases h),(fun h=>by cases h)⟩
  ·refine⟨?_,?_,?_,?_,?_,?_,?_,?_,?_,?_,trivial⟩
   ·skip
    intro L a w' hL hd hI;obtain⟨V,hf,hJ⟩:=hI;simp [DepsOk,Region.binds] at hd
    have hL9:L 9=false:=by
     cases h:L 9 with
     | false=>rfl
     | true=>have:=hJ.d0 (hJ.ap.d3 h);rw [hL] at this;cases this
    have hb:=hJ.ap.bo1;rw [hL9,if_neg (by decide)] at hb;have c:=Lib.cell_of_heap hb 0;simp only [List.getElem?_toArray,List.getElem?_cons_zero] at c;refine rs_val (wanted_none rfl) (ex_load rfl ((hf.out (t:=1) (by decide)).trans e1) (u:=.slice oa o.length oc) (by go_simp)) ?_;exact⟨_,hf.put hnd hbd 0 rfl _,⟨by simpa [upd] using hJ.ap,by simp,by simpa [upd] using hJ.d7,fun _=>rfl,by simpa [upd] using hJ.v1,by simpa [upd] using hJ.v2,by simpa [upd] using hJ.v3,by simpa [upd] using hJ.v4,by simpa [upd] using hJ.v7⟩⟩
   ·skip
    intro L a w' hL hd hI;obtain⟨V,hf,hJ⟩:=hI;simp [DepsOk,Region.binds] at hd
    have c:=Lib.cell_of_heap (hJ.ap.gx.heap H1.out (fun e=>by rcases e with e|e;exact HNE.out e;have:=HBO.out _ e;omega)) 0;simp only [List.getElem?_toArray,List.getElem?_cons_zero] at c;refine rs_val (wanted_none rfl) (ex_load rfl ((hf.out (t:=0) (by decide)).trans e0) (u:=.slice ta t.length tc) (by go_simp)) ?_;exact⟨_,hf.put hnd hbd 1 rfl _,⟨by simpa [upd] using hJ.ap,by simpa [upd] using hJ.d0,by simpa [upd] using hJ.d7,by simpa [upd] using hJ.v0,fun _=>rfl,by simpa [upd] using hJ.v2,by simpa [upd] using hJ.v3,by simpa [upd] using hJ.v4,by simpa [upd] using hJ.v7⟩⟩
   ·skip
    intro L a w' hL hd hI;obtain⟨V,hf,hJ⟩:=hI;simp [DepsOk,Region.binds] at hd
    have ht':=own_gx HTV.out hJ.ap.gx HTO.out;have hcv:=conv_own (P:=Try.prog) (src:=61) (dst:=9) Try.underlying61 Try.underlying5 Try.underlying9 ht';refine rs_val (wanted_none rfl) (ex_conv rfl ((hf.ins hnd hbd 1 rfl).trans (congrArg some (hJ.v1 (by simp [hd])))) hcv) ?_;exact⟨_,hf.put hnd hbd 2 rfl _,⟨by simpa [upd] using hJ.ap,by simpa [upd] using hJ.d0,by simpa [upd] using hJ.d7,by simpa [upd] using hJ.v0,by simpa [upd] using hJ.v1,fun _=>rfl,by simpa [upd] using hJ.v3,by simpa [upd] using hJ.v4,by simpa [upd] using hJ.v7⟩⟩
   ·skip
    intro L a w' hL hd hI;obtain⟨V,hf,hJ⟩:=hI;simp [DepsOk,Region.binds] at hd
    have e:=ev_of ((hf.ins hnd hbd 2 rfl).trans (congrArg some (hJ.v2 (by simp [hd]))));refine rs_val (wanted_none rfl) (v:=.agg #[.int .i64 0,.string ⟨(t).toArray⟩,.int .i64 0,.bool false,.bool false,.int .i64 0,.string ⟨#[]⟩,.bool false,.slice none 0 0,.int .i64 0,.int .i64 0,.bool false,.slice none 0 0,.slice none 0 0,.bool false,.bool false,.slice none 0 0,.slice none 0 0]) (w':=w') (by simp only [execOp];simp [e];go_simp) ?_;exact⟨_,hf.put hnd hbd 3 rfl _,⟨by simpa [upd] using hJ.ap,by simpa [upd] using hJ.d0,by simpa [upd] using hJ.d7,by simpa [upd] using hJ.v0,by simpa [upd] using hJ.v1,by simpa [upd] using hJ.v2,fun _=>rfl,by simpa [upd] using hJ.v4,by simpa [upd] using hJ.v7⟩⟩
   ·skip
    intro L a w' hL hd hI;obtain⟨V,hf,hJ⟩:=hI;simp [DepsOk,Region.binds] at hd
    refine rs_val (wanted_none rfl) (ex_lenS rfl ((hf.ins hnd hbd 0 rfl).trans (congrArg some (hJ.v0 (by simp [hd])))) (by omega)) ?_;exact⟨_,hf.put hnd hbd 4 rfl _,⟨by simpa [upd] using hJ.ap,by simpa [upd] using hJ.d0,by simpa [upd] using hJ.d7,by simpa [upd] using hJ.v0,by simpa [upd] using hJ.v1,by simpa [upd] using hJ.v2,by simpa [upd] using hJ.v3,fun _=>rfl,by simpa [upd] using hJ.v7⟩⟩
   ·skip
    intro L a w' hL hd hI;obtain⟨V,hf,hJ⟩:=hI;simp [DepsOk,Region.binds] at hd
    have hap:=hJ.ap;rw [hL] at hap;refine rs_val (wanted_none rfl) (ex_bs (vs:=#[(0,.agg #[.int .i64 0,.string ⟨#[]⟩,.int .i64 0,.bool false,.bool false,.int .i64 0,.string ⟨#[]⟩,.bool false,.slice none 0 0,.int .i64 0,.int .i64 0,.bool false,.slice none 0 0,.slice none 0 0,.bool false,.bool false,.slice none 0 0,.slice none 0 0])]) rfl (by simp [Act.eval]) (bs_snip (cc:=[.int .i64 0,.string ⟨#[]⟩,.int .i64 0,.bool false,.bool false,.int .i64 0,.string ⟨#[]⟩,.bool false,.slice none 0 0,.int .i64 0,.int .i64 0,.bool false,.slice none 0 0,.slice none 0 0,.bool false,.bool false,.slice none 0 0,.slice none 0 0]) w' rfl)) ?_;exact⟨_,hf.put hnd hbd 5 rfl _,⟨by simpa [upd] using hap.alloc,by simpa [upd] using hJ.d0,by simpa [upd] using hJ.d7,by simpa [upd] using hJ.v0,by simpa [upd] using hJ.v1,by simpa [upd] using hJ.v2,by simpa [upd] using hJ.v3,by simpa [upd] using hJ.v4,by simpa [upd] using hJ.v7⟩⟩
   ·skip
    intro L a w' hL hd hI;obtain⟨V,hf,hJ⟩:=hI;simp [DepsOk,Region.binds] at hd
    have hap:=hJ.ap;rw [hL] at hap;have hl5:L 5=true:=by simp [hd]
    obtain⟨bz,hz1,hz2⟩:=hap.z rfl hl5;obtain⟨css,hown,hsv⟩:=hap.o0 rfl;have hv0:=hJ.v0 (by simp [hd]);refine wpList_appM D 36 rfl (.tmp 5) (.tmp 10) 23 rfl Try.underlying23 hiN rfl (by decide) (ev_of ((hf.ins hnd hbd 0 rfl).trans (congrArg some hv0))) hown (ev_of ((hf.ins hnd hbd 5 rfl).trans (congrArg some hz1))) (Sl.lit (n:=1) (sz:=18) hz2 rfl) (by decide) (by omega) (by decide) (by decide) (Nat.le_trans hDw hap.gx.size) ?_;intro v' w2 ho2 hg2 _ hmv;refine wpList_nil ?_;exact⟨_,hf.put hnd hbd 6 rfl _,⟨by simpa [upd] using hap.app hl5 hSD hbo hsv HBO.out ho2 hg2 hmv,by simp [hd],by simp,by simpa [upd] using hJ.v0,by simpa [upd] using hJ.v1,by simpa [upd] using hJ.v2,by simpa [upd] using hJ.v3,by simpa [upd] using hJ.v4,fun e=>by have:=hJ.d7 (by simpa using e);rw [hL] at this;cases this⟩⟩
   ·skip
    intro L a w' hL hd hI;obtain⟨V,hf,hJ⟩:=hI;simp [DepsOk,Region.binds] at hd
    have hl6:L 6=true:=by simp [hd]
    obtain⟨g,cap,hg⟩:=hJ.ap.fm hl6;refine rs_val (wanted_none rfl) (ex_idx rfl ((hf.ins hnd hbd 6 rfl).trans (congrArg some hg)) ((hf.ins hnd hbd 4 rfl).trans (congrArg some (hJ.v4 (by simp [hd])))) (by omega)) ?_;exact⟨_,hf.put hnd hbd 7 rfl _,⟨by simpa [upd] using hJ.ap,by simpa [upd] using hJ.d0,by simp [hd],by simpa [upd] using hJ.v0,by simpa [upd] using hJ.v1,by simpa [upd] using hJ.v2,by simpa [upd] using hJ.v3,by simpa [upd] using hJ.v4,fun _=>⟨g,cap,by simpa [upd] using hg,by simp [upd]⟩⟩⟩
   ·skip
    intro L a w' hL hd hI;obtain⟨V,hf,hJ⟩:=hI;simp [DepsOk,Region.binds] at hd
    have hl6:L 6=true:=by simp [hd]
    obtain⟨g,cap,hg,h7⟩:=hJ.v7 (by simp [hd]);have hap:=hJ.ap;rw [hL,hl6] at hap;obtain⟨css,hown,_⟩:=hap.a1 rfl rfl;rw [hg] at hown;have hth:w'.there g (o.length*18) (#[.int .i64 0,.string ⟨(t).toArray⟩,.int .i64 0,.bool false,.bool false,.int .i64 0,.string ⟨#[]⟩,.bool false,.slice none 0 0,.int .i64 0,.int .i64 0,.bool false,.slice none 0 0,.slice none 0 0,.bool false,.bool false,.slice none 0 0,.slice none 0 0]:Array Value).size:=fun j hj=>⟨by rw [hown.cellAt _ (by simp at hj;omega)];rw [List.getElem?_eq_getElem (by have:=hown.1;simp at hj;omega)];rfl,hown.frozenAt _⟩
    refine wpList_store_mid rfl 36 (.tmp 12) (.tmp 8) rfl g (o.length*18) #[.int .i64 0,.string ⟨(t).toArray⟩,.int .i64 0,.bool false,.bool false,.int .i64 0,.string ⟨#[]⟩,.bool false,.slice none 0 0,.int .i64 0,.int .i64 0,.bool false,.slice none 0 0,.slice none 0 0,.bool false,.bool false,.slice none 0 0,.slice none 0 0] (ev_of ((hf.ins hnd hbd 7 rfl).trans (congrArg some h7))) (ev_of ((hf.ins hnd hbd 3 rfl).trans (congrArg some (hJ.v3 (by simp [hd]))))) hth (by rw [snip_size];rfl) (by simp [Value.oneCell']) ?_;refine wpList_nil ?_;refine⟨_,hf.skip _,⟨?_,by simpa [upd] using hJ.d0,by simpa [upd] using hJ.d7,by simpa [upd] using hJ.v0,by simpa [upd] using hJ.v1,by simpa [upd] using hJ.v2,by simpa [upd] using hJ.v3,by simpa [upd] using hJ.v4,by simpa [upd] using hJ.v7⟩⟩;have:=hap.st hSD hbo hg rfl (textS_v w' S t)
    simpa [hl6] using this
   ·skip
    intro L a w' hL hd hI;obtain⟨V,hf,hJ⟩:=hI;simp [DepsOk,Region.binds] at hd
    have hl6:L 6=true:=by simp [hd]
    obtain⟨g,cap,hg⟩:=hJ.ap.fm hl6;have hap:=hJ.ap;rw [hL,hl6] at hap;have hb:=hap.bo1;rw [if_neg (by decide)] at hb;have c:=Lib.cell_of_heap hb 0;simp only [List.getElem?_toArray,List.getElem?_cons_zero] at c;refine rs_skip (wanted_none rfl) (ex_sto rfl ((hf.out (t:=1) (by decide)).trans e1) ((hf.ins hnd hbd 6 rfl).trans (congrArg some hg)) c (Lib.frozen_of_heap hb 0)) ?_;refine⟨_,hf.skip _,⟨?_,by simpa [upd] using hJ.d0,by simpa [upd] using hJ.d7,by simpa [upd] using hJ.v0,by simpa [upd] using hJ.v1,by simpa [upd] using hJ.v2,by simpa [upd] using hJ.v3,by simpa [upd] using hJ.v4,by simpa [upd] using hJ.v7⟩⟩;have:=hap.ou (fun b hb=>⟨(HS.out b hb).1,(HS.out b hb).2.2⟩) hbo
    simpa [hl6,hg] using this
  ·intro L a w' hL hI
   obtain⟨V,hf,hJ⟩:=hI;have ha:=hf.eq;have hA:=HAA.out;have hap:=hJ.ap;rw [hL 5 (by decide),hL 6 (by decide),hL 8 (by decide),hL 9 (by decide)] at hap;have hbt1:=hap.gx.heap H1.out (fun e=>by rcases e with e|e;exact HNE.out e;have:=HBO.out _ e;omega);have c:=Lib.cell_of_heap hbt1 0;have f:=Lib.frozen_of_heap hbt1 0;simp only [List.getElem?_toArray,List.getElem?_cons_zero] at c;have hgx:Gx (fun k=>k=bt) w' (w'.setCell ⟨bt,0,none⟩ (.slice none 0 0)):=Gx.set w' (a:=⟨bt,0,none⟩) _ rfl;have HB1:=Lib.hid (hgx.heap hap.bo1 (fun e=>HNE.out e.symm));have HB2:=Lib.hid (heap_set1 (u:=.slice none 0 0) hbt1);have HOW:=Lib.hid ((hap.a2 rfl rfl).gx hgx (fun b hb=>(HS.out b hb).2.1) (fun k hk e=>by have:=(hap.av rfl k hk).1;omega));have HGX:=Lib.hid hap.gx;have HG2:Hid (Gx (fun k=>k=bt∨k=bo∨(D≤k∧k<w0.heap.size)) w (w'.setCell ⟨bt,0,none⟩ (.slice none 0 0))):=Lib.hid (((Gx.refl _ w).to HGX.out (fun k _ e=>by
    rcases e with e|e
    ·exact .inr (.inl e)
    ·exact .inr (.inr (HROW.out k e)))).to hgx (fun k _ e=>.inl e))
   clear hJ hap hbt1 hgx;subst ha;subst hA;simp only [putsL];clear hf HAA hbd hsz e0 e1;go_wp2
   go_end0
   refine⟨rfl,⟨_,_,HB2.out,HB1.out,World.ownsRow_nil _ _ _ _,?_⟩,HG2.out⟩;rw [HW.out];exact HOW.out
end Go.Proofs.Ytbgcjpefocdkkaa
set_option maxRecDepth 100000
namespace Go.Proofs.Ytbgcjpefocdkkaa
open Go.RowKit
def tsum:List Sn→Nat
 | []=>0
 | x::l=>(if x.kind=0 then x.text.length else 0)+tsum l
def JnRel (ks R:List Sn) (D bt bo:Nat) (S:Nat→Prop) (wc:World) (q:Value) (wr:World):Prop :=
 ∃(i:Nat) (t:Str) (o:List Sn),q=.int .i64 i∧i≤ks.length∧JS D bt bo S t o wr∧Gx (fun k=>k=bt∨k=bo) wc wr∧Hid (o++joinG (ks.drop i) t=R)∧t.length+tsum (ks.drop i)≤1000000∧o.length≤2*i
structure KI (W:World) (D bo:Nat) (S:Nat→Prop) (ov:Value) (o:List Sn) (cc:List Value) (x:Sn) (V:Nat→Value) (L:Nat→Bool) (w':World):Prop where
 ap:AP W D bo S ov o x (L 3) (L 4) (L 6) (L 7) (V 3) (V 4) w'
 d0:L 4=true→L 0=true
 d1:L 4=true→L 1=true
 d7:L 5=true→L 4=true
 v0:L 0=true→V 0=ov
 v1:L 1=true→V 1=.agg cc.toArray
 v2:L 2=true→V 2=.int .i64 (o.length:Int)
 v7:L 5=true→∃g cap,V 4=.slice (some ⟨g,0,none⟩) (o.length+1) cap∧V 5=.pointer (some ⟨g,o.length*18,none⟩)
def RKI (W:World) (D bo:Nat) (S:Nat→Prop) (ov:Value) (o:List Sn) (cc:List Value) (x:Sn) (A0:Act) (L:Nat→Bool) (a:Act) (w':World):Prop :=
 ∃V:Nat→Value,Fm2 [25,26,27,28,29,30] V A0 a∧KI W D bo S ov o cc x V L w'
theorem joinG_part {x:Sn} (h:x.kind≠0) (l:List Sn) (t:Str):joinG (x::l) t=withT [] t++x::joinG l []:=by rw [joinG,if_neg h]
theorem withT_len (o:List Sn) (t:Str):(withT o t).length≤o.length+1:=by unfold withT;split<;>simp
set_option maxHeartbeats 4000000 in
theorem Join_any (S0:Nat→Prop) (ks:List Sn) (hsm:Sn.smallL ks) (hkl:ks.length≤1000000) (hts:tsum ks≤1000000) (a:Option Addr) (c:Nat) (w:World) (hx:SnSl w S0 a ks.length ks) :
  Calls Try.prog 18 #[.slice a ks.length c] w fun e w'=>∃a' c',e=.returned (.slice a' (joinG ks []).length c')∧SnSl w' (fun b=>w.heap.size≤b) a' (joinG ks []).length (joinG ks [])∧Below w.heap.size w w':=by
 obtain⟨R,hR⟩:∃R,joinG ks []=R:=⟨_,rfl⟩;rw [hR];have HR:=Lib.hid hR;have HC:=Lib.hid (fun a c w h=>NClone_any S0 (Sn.partsL ks+1) ks (by omega) hsm hkl a c w h);have HX:=Lib.hid hx;obtain⟨iN,hiN⟩:=info_parts snip_info;obtain⟨iu,hiu,hz0,hz1,hz2⟩:=info_parts u8_info;clear hR hsm hx;have hb2:Below w.heap.size w ((w.alloc (.cells #[.slice none 0 0] 23)).alloc (.cells #[.slice none 0 0] 61)):=((Below.refl _ _).alloc (Nat.le_refl _) _).alloc (by simp) _;have HC2:=Lib.hid (HC.out a c _ (HX.out.later hb2));have h3:((w.alloc (.cells #[.slice none 0 0] 23)).alloc (.cells #[.slice none 0 0] 61)).heap[w.heap.size+1]?=some (.cells #[.slice none 0 0] 61 (0,0)):=heap_alloc2_new _ _ _;have h4:((w.alloc (.cells #[.slice none 0 0] 23)).alloc (.cells #[.slice none 0 0] 61)).heap[w.heap.size]?=some (.cells #[.slice none 0 0] 23 (0,0)):=heap_alloc2_old _ _ _;have hz:((w.alloc (.cells #[.slice none 0 0] 23)).alloc (.cells #[.slice none 0 0] 61)).heap.size=w.heap.size+2:=by simp
 have H3:=Lib.hid h3;have H4:=Lib.hid h4;have HZ:=Lib.hid hz;have HB2:=Lib.hid hb2;clear hb2 h3 h4 hz HC HX;go_enter Try.func18,Try.ntmps18
 go_wp2_with (go_at_call 20;refine HC2.out.mono ?_)
 rintro e wc ⟨a',c',rfl,hsl,hbc⟩;have hzc:=hbc.size;rw [HZ.out] at hzc hsl;have HJ0:Hid (JS wc.heap.size (w.heap.size+1) w.heap.size (fun b=>w.heap.size+2≤b∧b<wc.heap.size) [] [] wc):=Lib.hid ⟨_,_,(hbc.block _ (heap_lt H3.out)).trans H3.out,(hbc.block _ (heap_lt H4.out)).trans H4.out,World.ownsRow_nil _ _ _ _,OwnS.nil _ _ _⟩;have HSL:Hid (SnSl wc (fun b=>w.heap.size+2≤b∧b<wc.heap.size) a' ks.length ks):=Lib.hid (hsl.mono fun b hb hlt=>⟨hb,hlt⟩);have HBC:Hid (Below w.heap.size w wc):=Lib.hid (HB2.out.trans (hbc.mono HB2.out.size));obtain⟨S,hS⟩:∃S,S=fun b=>w.heap.size+2≤b∧b<wc.heap.size:=⟨_,rfl⟩
 rw [←hS] at HJ0 HSL;have HS:Hid (∀b,S b→b<wc.heap.size∧b≠w.heap.size+1∧b≠w.heap.size∧w.heap.size≤b):=Lib.hid (by rw [hS];exact fun b hb=>⟨hb.2,by have:=hb.1;omega,by have:=hb.1;omega,by have:=hb.1;omega⟩);clear hS hsl hbc HC2 H3 H4 HB2 HZ;go_wp2
 go_loopw [12] (fun q wr=>JnRel ks R wc.heap.size (w.heap.size+1) w.heap.size S wc q wr) (fun q _=>ks.length-(intOf q).toNat)
 case atStart=>exact⟨0,[],[],rfl,by omega,HJ0.out,Gx.refl _ _,HR,by simpa using hts,by simp⟩
 case round =>
  obtain⟨i,t,o,rfl,hi,hjs,hgx,HF,htl,hol⟩:=hrel;have hD:=hgx.size;have hSx:∀b,S b→b<wc.heap.size∧b≠w.heap.size+1∧b≠w.heap.size:=fun b hb=>⟨(HS.out b hb).1,(HS.out b hb).2.1,(HS.out b hb).2.2.1⟩
  have HSX:=Lib.hid hSx;have HJS:=Lib.hid hjs;have HGX:=Lib.hid hgx;clear hSx HJ0 HR hts hjs hgx;cases hd:ks.drop i with
  | nil =>
   have h2:ks.length≤i:=by simpa using hd
   have HF':Hid (withT o t=R):=Lib.hid (by rw [←HF.out,hd,withT_app o];rfl);have ht1:t.length≤1000000:=by omega
   clear hd HF htl;have HFL:=Lib.hid (jflush (D:=wc.heap.size) (bt:=w.heap.size+1) (bo:=w.heap.size) (S:=S) wr wr HJS.out (Below.refl _ _) (by omega) (by omega) HSX.out hD ht1 (by omega));go_wp2_with (go_at_call 24;refine HFL.out.mono ?_)
   first|rintro e w6 rfl hj6 hg6|rintro e w6 ⟨rfl,hj6,hg6⟩
   rw [HF'.out] at hj6;obtain⟨tv6,ov6,_,hbo6,_,how6⟩:=hj6;obtain⟨oa6,oc6,rfl⟩:=how6.form;have c6:=Lib.cell_of_heap hbo6 0;simp only [List.getElem?_toArray,List.getElem?_cons_zero] at c6;have HO6:=Lib.hid how6.sl.2;have HB6:Hid (Below w.heap.size w w6):=Lib.hid (((HBC.out.trans (HGX.out.below (by omega) (fun k e=>by omega))).trans (hg6.below (by omega) (fun k e=>by omega))));clear hbo6 how6 hg6;go_wp2
   go_ret
   exact⟨oa6,oc6,rfl,HO6.out.mono fun b hb _=>by rcases hb with hb|hb;exact(HS.out b hb).2.2.2;omega,HB6.out⟩
  | cons y r =>
   obtain⟨h2,h3,hr⟩:=ldrop_cons hd;have hwr:SnSl wr S a' ks.length ks:=HSL.out.keep (HGX.out.kept fun b hb e=>by have:=HS.out b hb;omega);obtain⟨yk,yt,yn,yh,yu,yf,yo,ys⟩:=y;obtain⟨b,off,cc,hae,hSb,hbB,hyv,hcc⟩:=hwr.at_ h3;have hrg:wr.rangeAt b (off+i*18) cc:=fun j v hj=>by rw [Nat.add_assoc];exact hcc j v hj
   have hcl:=hyv.len;obtain⟨fc,foa,foc,fka,fkc,hA⟩:=hyv.at_;obtain⟨W5,hW5⟩:∃W5,W5=wr.alloc (.cells cc.toArray 36):=⟨_,rfl⟩;have HW5:Hid ((wr.alloc (.cells #[.int .i64 0,.string ⟨#[]⟩,.int .i64 0,.bool false,.bool false,.int .i64 0,.string ⟨#[]⟩,.bool false,.slice none 0 0,.int .i64 0,.int .i64 0,.bool false,.slice none 0 0,.slice none 0 0,.bool false,.bool false,.slice none 0 0,.slice none 0 0] 36)).setRow wr.heap.size cc.toArray=W5):=Lib.hid (by rw [hW5];exact World.setRow_alloc_new _ _ _ _);have hb5:Below wr.heap.size wr W5:=by rw [hW5];exact(Below.refl _ _).alloc (Nat.le_refl _) _
   have hz5:W5.heap.size=wr.heap.size+1:=by rw [hW5];simp
   have hbx5:W5.heap[wr.heap.size]?=some (.cells cc.toArray 36 (0,0)):=by rw [hW5];exact heap_alloc_new _ _
   have HBX:=Lib.hid hbx5;have HONE:Hid (∀u∈cc.toArray.toList,u.oneCell'=true):=Lib.hid (fun u hu=>hyv.one u (by simpa using hu));obtain⟨q0,q1,_,_,_,_,_,_⟩:=hA.box hbx5;have HYV:=Lib.hid (hyv.later hb5);have HB5:=Lib.hid hb5;have HDR:=Lib.hid hr;have HF':Hid (o++joinG (.mk yk yt yn yh yu yf yo ys::r) t=R):=Lib.hid (by rw [←hd];exact HF.out);have htl':t.length+((if yk=0 then yt.length else 0)+tsum r)≤1000000:=by rw [hd] at htl;exact htl
   subst hae;clear hd hr h3 hyv hcc hW5 hA hwr HF htl hbx5;by_cases hk0:yk=0
   ·subst hk0
    rw [if_pos rfl] at htl';obtain⟨tv,ov,j1,j2,j3,j4⟩:=HJS.out;have k1:=(HB5.out.block _ (heap_lt j1)).trans j1;have k2:=(HB5.out.block _ (heap_lt j2)).trans j2;have k3:=own_keep j3 HB5.out;have k4:=j4.later HB5.out;obtain⟨ta,tc,rfl⟩:=own_form k3;have d1:=Lib.cell_of_heap k1 0;simp only [List.getElem?_toArray,List.getElem?_cons_zero] at d1;have K1:=Lib.hid k1;have K2:=Lib.hid k2;have K4:=Lib.hid k4;have hDw:wc.heap.size≤W5.heap.size:=by omega
    have HTO:Hid (∀k,ov.ownBlock=some k→¬(Value.slice ta t.length tc).ownBlock=some k):=Lib.hid (fun k hk e=>by
     obtain⟨css,ho1,_⟩:=K4.out;rcases own_own k3 ho1 (by decide) with e2|e2
     ·rw [e] at e2;cases e2
     ·exact e2 (e.trans hk.symm))
    clear k1 k2 k4 j1 j2 j3 j4;go_wp2_with (first
     | (refine wpList_ldW rfl 36 (.tmp 14) rfl b (off+i*18) rfl cc _ hrg snip_under rfl (by rw [snip_size,hcl]) ?_)
     | (refine wpList_stW rfl 36 (.tmp 7) (.tmp 15) rfl (wr.heap.size) (cc.toArray) rfl rfl 36 (#[.int .i64 0,.string ⟨#[]⟩,.int .i64 0,.bool false,.bool false,.int .i64 0,.string ⟨#[]⟩,.bool false,.slice none 0 0,.int .i64 0,.int .i64 0,.bool false,.slice none 0 0,.slice none 0 0,.bool false,.bool false,.slice none 0 0,.slice none 0 0]) (heap_alloc_new wr _) (snip_size) (by simp [hcl]) rfl (HONE.out) (W:=W5) (HW5.out) ?_)
     | (at_builtin;refine Lib.wpList_append_own_string _ rfl _ _ 61 9 rfl wc.heap.size 5 iu Try.underlying61 Try.underlying9 hiu hz0 hz1 hz2 _ _ _ rfl k3 _ rfl (by simp only [maxLen,ba_size];omega) (by simp only [ba_size];omega) hDw ?_))
    intro v' w2 ho2 hg2 _;have ho3:w2.ownsRow wc.heap.size 5 1 v' (t.length+yt.length) (bcells (t++yt)):=by simpa [bcells,Lib.strCells] using ho2
    have hgg:Gx (fun k=>(Value.slice ta t.length tc).ownBlock=some k) W5 w2:=Gx.of_grown hg2 (fun _ e=>e);have hlt1:∀k,(Value.slice ta t.length tc).ownBlock=some k→wc.heap.size≤k:=fun k hk=>(k3.lt k hk).1
    have m1:=hgg.heap K1.out (fun e=>by have:=hlt1 _ e;omega);have m2:=hgg.heap K2.out (fun e=>by have:=hlt1 _ e;omega);have m4:=K4.out.gx hgg (fun b hb e=>by have:=hlt1 _ e;have:=HS.out b hb;omega) HTO.out;obtain⟨va,vc,rfl⟩:=own_form ho3;have hgs:Gx (fun k=>k=w.heap.size+1) w2 (w2.setCell ⟨w.heap.size+1,0,none⟩ (.slice va (t.length+yt.length) vc)):=Gx.set w2 (a:=⟨w.heap.size+1,0,none⟩) _ rfl;have HJN:Hid (JS wc.heap.size (w.heap.size+1) w.heap.size S (t++yt) o (w2.setCell ⟨w.heap.size+1,0,none⟩ (.slice va (t.length+yt.length) vc))):=Lib.hid ⟨_,_,heap_set1 m1,hgs.heap m2 (by omega),(by rw [List.length_append];exact own_gx ho3 hgs (fun k hk e=>by have:=(ho3.lt k hk).1;omega)),m4.gx hgs (fun b hb e=>by have:=HS.out b hb;omega) (fun k hk e=>by have:=(m4.lt k hk).1;omega)⟩;have HGN:Hid (Gx (fun k=>k=w.heap.size+1∨k=w.heap.size) wc (w2.setCell ⟨w.heap.size+1,0,none⟩ (.slice va (t.length+yt.length) vc))):=Lib.hid (((HGX.out.to (Gx.of_below (X:=fun _=>False) HB5.out) (fun _ _ h=>h.elim)).to hgg (fun k hk e=>by have:=hlt1 _ e;omega)).to hgs (fun k _ e=>.inl e));have e1:=Lib.cell_of_heap m1 0;simp only [List.getElem?_toArray,List.getElem?_cons_zero] at e1;have f1:=Lib.frozen_of_heap m1 0;clear ho2 hg2 ho3 hgg m1 m2 m4 hgs k3 hlt1;go_wp2
    go_roundw
    case rel=>exact⟨i+1,t++yt,o,by go_num,by omega,HJN.out,HGN.out,Lib.hid (by rw [HDR.out,←HF'.out];rfl),by rw [HDR.out,List.length_append];omega,by omega⟩
    case measure=>simp [intOf];omega
   ·rw [if_neg hk0] at htl'
    have hkb:(yk==0)=false:=by rw [beq_eq_false_iff_ne];exact hk0
    have ht1:t.length≤1000000:=by omega
    have HFL:=Lib.hid (jflush (D:=wc.heap.size) (bt:=w.heap.size+1) (bo:=w.heap.size) (S:=S) wr W5 HJS.out HB5.out (by omega) (by omega) HSX.out hD ht1 (by omega));have HKN:=Lib.hid hk0;clear hk0;go_wp2_with (first
     | (refine wpList_ldW rfl 36 (.tmp 14) rfl b (off+i*18) rfl cc _ hrg snip_under rfl (by rw [snip_size,hcl]) ?_)
     | (refine wpList_stW rfl 36 (.tmp 7) (.tmp 15) rfl (wr.heap.size) (cc.toArray) rfl rfl 36 (#[.int .i64 0,.string ⟨#[]⟩,.int .i64 0,.bool false,.bool false,.int .i64 0,.string ⟨#[]⟩,.bool false,.slice none 0 0,.int .i64 0,.int .i64 0,.bool false,.slice none 0 0,.slice none 0 0,.bool false,.bool false,.slice none 0 0,.slice none 0 0]) (heap_alloc_new wr _) (snip_size) (by simp [hcl]) rfl (HONE.out) (W:=W5) (HW5.out) ?_)
     | (go_at_call 24;refine HFL.out.mono ?_))
    first|rintro e w6 rfl hj6 hg6|rintro e w6 ⟨rfl,hj6,hg6⟩
    obtain⟨O,hO⟩:∃O,withT o t=O:=⟨_,rfl⟩;have hOl:O.length≤o.length+1:=by rw [←hO];exact withT_len o t
    have HO:=Lib.hid hO;have HR2:Hid ((O++[.mk yk yt yn yh yu yf yo ys])++joinG (ks.drop (i+1)) []=R):=Lib.hid (by
     rw [HDR.out,←HF'.out,←hO];rw [joinG_part (x:=.mk yk yt yn yh yu yf yo ys) HKN.out,withT_app o];simp)
    have HT2:Hid (([]:Str).length+tsum (ks.drop (i+1))≤1000000):=Lib.hid (by rw [HDR.out,List.length_nil];omega);have HL2:Hid ((O++[.mk yk yt yn yh yu yf yo ys]:List Sn).length≤2*(i+1)):=Lib.hid (by rw [List.length_append,List.length_singleton];omega);have HI2:Hid (i+1≤ks.length):=Lib.hid h2;rw [hO] at hj6;obtain⟨tv6,ov6,hbt6,hbo6,htr6,how6⟩:=hj6;obtain⟨oa6,oc6,rfl⟩:=how6.form;have hbx6:=hg6.heap HBX.out (fun e=>by omega);have HV6:=Lib.hid (HYV.out.keep (S:=S) (w':=w6) ⟨hg6.size,fun k hk hlt=>hg6.block k hlt (fun e=>by have:=HS.out k hk;omega)⟩);have HG6:Hid (Gx (fun k=>k=w.heap.size+1∨k=w.heap.size) wc w6):=Lib.hid ((HGX.out.to (Gx.of_below (X:=fun _=>False) HB5.out) (fun _ _ h=>h.elim)).to hg6 (fun k hk e=>by omega));have HT6:=Lib.hid hbt6;have HBO6:=Lib.hid hbo6;have HTR6:=Lib.hid htr6;have HOW6:=Lib.hid how6;have HBX6:=Lib.hid hbx6;have hw6:wr.heap.size+1≤w6.heap.size:=by have:=hg6.size;omega
    have HDO:Hid (∀k,(Value.slice oa6 O.length oc6).ownBlock=some k→wc.heap.size≤k):=Lib.hid (fun k hk=>(how6.lt k hk).1);clear hO hbt6 hbo6 htr6 how6 hbx6 hg6 HFL hrg;go_upto_region 10 with fail
    refine wp_region_relyH (by kernel_rfl) (by kernel_rfl) (fun A0 W0 L a w'=>RKI W0 wc.heap.size w.heap.size S (.slice oa6 O.length oc6) O cc (.mk yk yt yn yh yu yf yo ys) A0 L a w') ?_;intro A0 HAA;have hsz:A0.tmps.size=35:=by rw [HAA.out];rfl
    have hnd:[25,26,27,28,29,30].Nodup:=by decide
    have hbd:∀d∈[25,26,27,28,29,30],d<A0.tmps.size:=by rw [hsz];decide
    have e3:A0.tmps[3]?=some (.pointer (some ⟨w.heap.size,0,none⟩)):=by rw [HAA.out];rfl
    have e7:A0.tmps[7]?=some (.pointer (some ⟨wr.heap.size,0,none⟩)):=by rw [HAA.out];rfl
    have hSD:∀b,S b→b<wc.heap.size:=fun b hb=>(HS.out b hb).1
    have hbo:w.heap.size<wc.heap.size:=by omega
    have hDw:wc.heap.size≤w6.heap.size:=by omega
    refine⟨?_,?_,?_⟩
    ·obtain⟨V,hV⟩:=putsL_own A0 [25,26,27,28,29,30]
     exact⟨V,⟨hV⟩,AP.start HOW6.out HBO6.out _ _,(fun h=>by cases h),(fun h=>by cases h),(fun h=>by cases h),(fun h=>by cases h),(fun h=>by cases h),(fun h=>by cases h),(fun h=>by cases h)⟩
    ·refine⟨?_,?_,?_,?_,?_,?_,?_,?_,trivial⟩
     ·skip
      intro L a w' hL hd hI;obtain⟨V,hf,hJ⟩:=hI;simp [DepsOk,Region.binds] at hd
      have hL7:L 7=false:=by
       cases h:L 7 with
       | false=>rfl
       | true=>have:=hJ.d0 (hJ.ap.d3 h);rw [hL] at this;cases this
      have hb:=hJ.ap.bo1;rw [hL7,if_neg (by decide)] at hb;have c:=Lib.cell_of_heap hb 0;simp only [List.getElem?_toArray,List.getElem?_cons_zero] at c;refine rs_val (wanted_none rfl) (ex_load rfl ((hf.out (t:=3) (by decide)).trans e3) (u:=.slice oa6 O.length oc6) (by go_simp)) ?_;exact⟨_,hf.put hnd hbd 0 rfl _,⟨by simpa [upd] using hJ.ap,by simp,by simpa [upd] using hJ.d1,by simpa [upd] using hJ.d7,fun _=>rfl,by simpa [upd] using hJ.v1,by simpa [upd] using hJ.v2,by simpa [upd] using hJ.v7⟩⟩
     ·skip
      intro L a w' hL hd hI;obtain⟨V,hf,hJ⟩:=hI;simp [DepsOk,Region.binds] at hd
      have hL4:L 4=false:=by
       cases h:L 4 with
       | false=>rfl
       | true=>have:=hJ.d1 h;rw [hL] at this;cases this
      have hb0:=hJ.ap.b0 hL4;have hbx:=(hb0.block _ (heap_lt HBX6.out)).trans HBX6.out;refine wpList_ldW rfl 36 (.tmp 7) rfl wr.heap.size 0 (ev_of ((hf.out (t:=7) (by decide)).trans e7)) cc _ (range_blk (ds:=[]) (by simpa using hbx)) snip_under rfl (by rw [snip_size,hcl]) ?_;refine wpList_nil ?_;exact⟨_,hf.put hnd hbd 1 rfl _,⟨by simpa [upd] using hJ.ap,by simpa [upd] using hJ.d0,by simp,by simpa [upd] using hJ.d7,by simpa [upd] using hJ.v0,fun _=>rfl,by simpa [upd] using hJ.v2,by simpa [upd] using hJ.v7⟩⟩
     ·skip
      intro L a w' hL hd hI;obtain⟨V,hf,hJ⟩:=hI;simp [DepsOk,Region.binds] at hd
      refine rs_val (wanted_none rfl) (ex_lenS rfl ((hf.ins hnd hbd 0 rfl).trans (congrArg some (hJ.v0 (by simp [hd])))) (by omega)) ?_;exact⟨_,hf.put hnd hbd 2 rfl _,⟨by simpa [upd] using hJ.ap,by simpa [upd] using hJ.d0,by simpa [upd] using hJ.d1,by simpa [upd] using hJ.d7,by simpa [upd] using hJ.v0,by simpa [upd] using hJ.v1,fun _=>rfl,by simpa [upd] using hJ.v7⟩⟩
     ·skip
      intro L a w' hL hd hI;obtain⟨V,hf,hJ⟩:=hI;simp [DepsOk,Region.binds] at hd
      have hap:=hJ.ap;rw [hL] at hap;refine rs_val (wanted_none rfl) (ex_bs (vs:=#[(0,.agg #[.int .i64 0,.string ⟨#[]⟩,.int .i64 0,.bool false,.bool false,.int .i64 0,.string ⟨#[]⟩,.bool false,.slice none 0 0,.int .i64 0,.int .i64 0,.bool false,.slice none 0 0,.slice none 0 0,.bool false,.bool false,.slice none 0 0,.slice none 0 0])]) rfl (by simp [Act.eval]) (bs_snip (cc:=[.int .i64 0,.string ⟨#[]⟩,.int .i64 0,.bool false,.bool false,.int .i64 0,.string ⟨#[]⟩,.bool false,.slice none 0 0,.int .i64 0,.int .i64 0,.bool false,.slice none 0 0,.slice none 0 0,.bool false,.bool false,.slice none 0 0,.slice none 0 0]) w' rfl)) ?_;exact⟨_,hf.put hnd hbd 3 rfl _,⟨by simpa [upd] using hap.alloc,by simpa [upd] using hJ.d0,by simpa [upd] using hJ.d1,by simpa [upd] using hJ.d7,by simpa [upd] using hJ.v0,by simpa [upd] using hJ.v1,by simpa [upd] using hJ.v2,by simpa [upd] using hJ.v7⟩⟩
     ·skip
      intro L a w' hL hd hI;obtain⟨V,hf,hJ⟩:=hI;simp [DepsOk,Region.binds] at hd
      have hap:=hJ.ap;rw [hL] at hap;have hl3:L 3=true:=by simp [hd]
      obtain⟨bz,hz1,hz2⟩:=hap.z rfl hl3;obtain⟨css,hown,hsv⟩:=hap.o0 rfl;have hv0:=hJ.v0 (by simp [hd]);refine wpList_appM wc.heap.size 36 rfl (.tmp 25) (.tmp 28) 23 rfl Try.underlying23 hiN rfl (by decide) (ev_of ((hf.ins hnd hbd 0 rfl).trans (congrArg some hv0))) hown (ev_of ((hf.ins hnd hbd 3 rfl).trans (congrArg some hz1))) (Sl.lit (n:=1) (sz:=18) hz2 rfl) (by decide) (by omega) (by decide) (by decide) (Nat.le_trans hDw hap.gx.size) ?_;intro v' w2 ho2 hg2 _ hmv;refine wpList_nil ?_;exact⟨_,hf.put hnd hbd 4 rfl _,⟨by simpa [upd] using hap.app hl3 hSD hbo hsv HDO.out ho2 hg2 hmv,by simp [hd],by simp [hd],by simp,by simpa [upd] using hJ.v0,by simpa [upd] using hJ.v1,by simpa [upd] using hJ.v2,fun e=>by have:=hJ.d7 (by simpa using e);rw [hL] at this;cases this⟩⟩
     ·skip
      intro L a w' hL hd hI;obtain⟨V,hf,hJ⟩:=hI;simp [DepsOk,Region.binds] at hd
      have hl6:L 4=true:=by simp [hd]
      obtain⟨g,cap,hg⟩:=hJ.ap.fm hl6;refine rs_val (wanted_none rfl) (ex_idx rfl ((hf.ins hnd hbd 4 rfl).trans (congrArg some hg)) ((hf.ins hnd hbd 2 rfl).trans (congrArg some (hJ.v2 (by simp [hd])))) (by omega)) ?_;exact⟨_,hf.put hnd hbd 5 rfl _,⟨by simpa [upd] using hJ.ap,by simpa [upd] using hJ.d0,by simpa [upd] using hJ.d1,by simp [hd],by simpa [upd] using hJ.v0,by simpa [upd] using hJ.v1,by simpa [upd] using hJ.v2,fun _=>⟨g,cap,by simpa [upd] using hg,by simp [upd]⟩⟩⟩
     ·skip
      intro L a w' hL hd hI;obtain⟨V,hf,hJ⟩:=hI;simp [DepsOk,Region.binds] at hd
      have hl6:L 4=true:=by simp [hd]
      obtain⟨g,cap,hg,h7⟩:=hJ.v7 (by simp [hd]);have hap:=hJ.ap;rw [hL,hl6] at hap;obtain⟨css,hown,_⟩:=hap.a1 rfl rfl;rw [hg] at hown;have hth:w'.there g (O.length*18) cc.toArray.size:=fun j hj=>⟨by rw [hown.cellAt _ (by simp at hj;omega)];rw [List.getElem?_eq_getElem (by have:=hown.1;simp at hj;omega)];rfl,hown.frozenAt _⟩
      have hvx:SnV w' S cc (.mk yk yt yn yh yu yf yo ys):=HV6.out.keep (hap.gx.kept fun b hb e=>by
       rcases e with e|e
       ·exact(HS.out b hb).2.2.1 e
       ·have:=HDO.out b e;have:=hSD b hb;omega)
      refine wpList_store_mid rfl 36 (.tmp 30) (.tmp 26) rfl g (O.length*18) cc.toArray (ev_of ((hf.ins hnd hbd 5 rfl).trans (congrArg some h7))) (ev_of ((hf.ins hnd hbd 1 rfl).trans (congrArg some (hJ.v1 (by simp [hd]))))) hth (by rw [snip_size];simp [hcl]) (all_oneCell_toArray (fun u hu=>hvx.one u hu)) ?_;refine wpList_nil ?_;refine⟨_,hf.skip _,⟨?_,by simpa [upd] using hJ.d0,by simpa [upd] using hJ.d1,by simpa [upd] using hJ.d7,by simpa [upd] using hJ.v0,by simpa [upd] using hJ.v1,by simpa [upd] using hJ.v2,by simpa [upd] using hJ.v7⟩⟩;have:=hap.st hSD hbo hg hcl hvx
      simpa [hl6] using this
     ·skip
      intro L a w' hL hd hI;obtain⟨V,hf,hJ⟩:=hI;simp [DepsOk,Region.binds] at hd
      have hl6:L 4=true:=by simp [hd]
      obtain⟨g,cap,hg⟩:=hJ.ap.fm hl6;have hap:=hJ.ap;rw [hL,hl6] at hap;have hb:=hap.bo1;rw [if_neg (by decide)] at hb;have c:=Lib.cell_of_heap hb 0;simp only [List.getElem?_toArray,List.getElem?_cons_zero] at c;refine rs_skip (wanted_none rfl) (ex_sto rfl ((hf.out (t:=3) (by decide)).trans e3) ((hf.ins hnd hbd 4 rfl).trans (congrArg some hg)) c (Lib.frozen_of_heap hb 0)) ?_;refine⟨_,hf.skip _,⟨?_,by simpa [upd] using hJ.d0,by simpa [upd] using hJ.d1,by simpa [upd] using hJ.d7,by simpa [upd] using hJ.v0,by simpa [upd] using hJ.v1,by simpa [upd] using hJ.v2,by simpa [upd] using hJ.v7⟩⟩;have:=hap.ou (fun b hb=>⟨(HS.out b hb).1,(HS.out b hb).2.2.1⟩) hbo
      simpa [hl6,hg] using this
    ·intro L a w' hL hI
     obtain⟨V,hf,hJ⟩:=hI;have ha:=hf.eq;have hA:=HAA.out;have hap:=hJ.ap;rw [hL 3 (by decide),hL 4 (by decide),hL 6 (by decide),hL 7 (by decide)] at hap;have hto:∀k,tv6.ownBlock=some k→¬(k=w.heap.size∨(Value.slice oa6 O.length oc6).ownBlock=some k):=fun k hk e=>by
      rcases e with e|e
      ·have:=(HTR6.out.lt k hk).1;omega
      ·obtain⟨css,ho1,_⟩:=HOW6.out
       rcases own_own HTR6.out ho1 (by decide) with e2|e2
       ·rw [hk] at e2;cases e2
       ·exact e2 (hk.trans e.symm)
     have hbt1:=hap.gx.heap HT6.out (fun e=>by rcases e with e|e;omega;have:=HDO.out _ e;omega);have HJN:Hid (JS wc.heap.size (w.heap.size+1) w.heap.size S [] (O++[.mk yk yt yn yh yu yf yo ys]) w'):=Lib.hid ⟨_,_,hbt1,hap.bo1,own_gx HTR6.out hap.gx hto,hap.a2 rfl rfl⟩;have HGN:Hid (Gx (fun k=>k=w.heap.size+1∨k=w.heap.size) wc w'):=Lib.hid (HG6.out.to hap.gx (fun k hk e=>by
      rcases e with e|e
      ·exact .inr e
      ·have:=HDO.out k e;omega))
     clear hJ hap hbt1 hto;subst ha;subst hA;simp only [putsL];clear hf HAA hbd hsz e3 e7;go_wp2
     go_roundw
     case rel =>
      have hq:Value.int IntKind.i64 ((i:Int)+1)=Value.int IntKind.i64 ((i+1:Nat):Int):=rfl;have hj:=HJN.out;refine⟨i+1,[],O++[.mk yk yt yn yh yu yf yo ys],hq,HI2.out,?_,HGN.out,HR2,HT2.out,HL2.out⟩;exact hj
     case measure=>simp [intOf];omega
end Go.Proofs.Ytbgcjpefocdkkaa
set_option maxRecDepth 100000
namespace Go.Proofs.Ytbgcjpefocdkkaa
open Go.RowKit
theorem wpList_appG {P:Program} {w:World} {ops:Array Oper} {rest:List Oper} {o:Oper} {a:Act} {Q:Exit→Act→World→Prop} (hw:Region.wanted o (yielded ops a.tmps)=true) (base:Nat) (e:TypeId) (s x:Operand) (t:TypeId)
  (ho:o.op=.call { callee:=.builtin .append,args:=#[s,x],argTypes:=#[t,t] })
  {i:TypeInfo} {z:Value} {size bytes:Nat} (ht:P.underlying t=some (.slice e)) (hinf:P.info? e=some i∧i.zero=some z∧i.size=size∧i.bytes=bytes)
  (hzs:z.cells.size=size) (hsz:0<size)
  {v:Value} {n:Nat} {xs:List Value} (hs:a.eval s=v) (hown:w.ownsRow base e size v n xs)
  {B:Nat} {A:Option Addr} {m c:Nat} {news:List Value} (hx:a.eval x=.slice A m c) (hr:Sl w B A size m news) (h1:∀u∈news,u.oneCell'=true)
  (hn:n≤10000000) (hm:m≤10000000) (hb:bytes≤1000) (hB:base≤w.heap.size)
  (h:∀v' w',w'.ownsRow base e size v' (n+m) (xs++news)→w.grownBy w' v.ownBlock→Below base w w'→Moved w v v'→wpList P ops Q rest (a.put o.dst v') w') :
  wpList P ops Q (o::rest) a w:=by
 have h2:=wpList_appM (o:={ o with guard:=none }) base e rfl s x t ho ht hinf hzs hsz hs hown hx hr h1 hn hm hb hB h;unfold wpList at h2 ⊢;rw [if_pos (wanted_none rfl)] at h2;rw [if_pos hw];exact h2
theorem part_sp (s:Str):partS ([32]++s)=none:=(partS_bare (by decide) s).trans (head_none_of (by decide) (by decide))
end Go.Proofs.Ytbgcjpefocdkkaa
set_option maxRecDepth 100000
namespace Go.Proofs.Ytbgcjpefocdkkaa
open Go.RowKit Go.WideShapes Go.ChangeShapes
theorem own:ownKnob Try.prog.godebug=none:=by kernel_rfl
section
variable {H:Type} {enc:TypeId × Value→H} {P:Program}
theorem args_again (hl:laidOutB P=true) {W W':World} (hb:Below W.heap.size W W'):∀{ts:List TypeId} {vs:List Value} {ds:List (DataW H)} {ps:List MemPlace},
  (∀t∈ts,P.readableRec t=true∧t<P.types.size)→DataW.TrodAll enc P W 0 (fun _=>true) true ts vs ds ps→(∀p∈ps,p.block<W.heap.size)→∀sp:Nat→Bool,(∀p∈ps,sp p.block=true) →
  DataW.TrodAll enc P W' 0 sp true ts vs ds ps
 | [],vs,ds,ps,_,h,_,sp,_=>by
  obtain⟨rfl,rfl,rfl⟩:=trodAll_nil h;exact trodAll_mk0
 | t::ts,vs,ds,ps,ht,h,hlt,sp,hsp=>by
  obtain⟨v,vs',d,ds',p,q,rfl,rfl,rfl,h1,h2⟩:=trodAll_cons h;obtain⟨r1,r2⟩:=ht t (List.mem_cons_self ..);exact trodAll_cons_mk (WideElems.Trod_stays hl r1 r2 h1 (fun x hx=>hb.same (hlt x (List.mem_append_left _ hx))) (fun x hx=>hsp x (List.mem_append_left _ hx)))
   (args_again hl hb (fun t hm=>ht t (List.mem_cons_of_mem _ hm)) h2 (fun x hx=>hlt x (List.mem_append_right _ hx)) sp (fun x hx=>hsp x (List.mem_append_right _ hx)))
theorem post_of_below {f:Func} {s:ChangeSpec} {apart fresh handsOn again:Bool} {W W':World} {args:Array Value} {v:Value} {ds gs:List (DataW H)} {before pa pv:List MemPlace}
  (hW:DataW.Whole enc P f.params.toList s.vars apart W args.toList ds gs before)
  (hres:∀(b:Nat) (sp:Nat→Bool) (hd:Bool),DataW.TrodAll enc P W' b sp hd f.resultTypes.toList (v.resultList f.resultTypes.size) (s.fn H (ds++gs)).results [])
  (hargs:∀sp:Nat→Bool,(∀p∈before,sp p.block=true)→DataW.TrodAll enc P W' 0 sp true f.params.toList args.toList (s.fn H (ds++gs)).args pa)
  (hvars:∀sp:Nat→Bool,(∀p∈before,sp p.block=true)→DataW.TrodVars enc P W' sp s.vars (s.fn H (ds++gs)).vars pv)
  (hps:before=pa++pv) (hb:Below W.heap.size W W')
  (hok:∀(j:Nat) (t:TypeId) (r:Value),f.resultTypes[j]?=some t→(v.resultList f.resultTypes.size)[j]?=some r→Value.okWide P W' .any 0 t r) :
  s.post enc P f apart fresh handsOn again W args v W':=by
 have hlt:∀p∈before,p.block<W.heap.size:=fun p hp=>hW.lt p hp
 have hold:∀p∈before,(fun b=>decide (b<W.heap.size)) p.block=true:=fun p hp=>by simpa using hlt p hp
 refine⟨ds,gs,before,[],pa,pv,hW,hres _ _ _,hargs _ hold,hvars _ hold,World.keptBut_mono (fun p hp=>⟨hp,?_⟩) (hb.frame (·∈before)),fun _=>?_⟩
 ·rw [hps,List.mem_append] at hp
  exact Or.inr hp
 ·obtain⟨_,_,_,_,_,hz,hn⟩:=hW
  refine⟨hok,_,_,([]++pa)++pv,⟨[]++pa,pv,trodAll_append (hargs _ (fun _ _=>rfl)) (hres _ _ _),hvars _ (fun _ _=>rfl),rfl,?_,?_⟩,?_⟩
  ·intro b off hp
   have hin:MemPlace.cell b off∈before:=by rw [hps];simpa using hp
   rw [hb.frozen (hlt _ hin)];exact hz b off hin
  ·intro ha
   have:=hn ha
   rw [hps] at this;simpa using this
  ·intro p hp _
   rw [hps];simpa using hp
end
end Go.Proofs.Ytbgcjpefocdkkaa
