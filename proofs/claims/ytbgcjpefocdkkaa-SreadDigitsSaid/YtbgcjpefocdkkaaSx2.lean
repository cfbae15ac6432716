/- Rows of parts that a call owns; an append onto them. · walks of slices.Clone of rows, rxtree.Clone -/
import Derived.Test.YtbgcjpefocdkkaaSx1
import Derived.Laws.OwnMore
import Derived.Lib.LazyBuf
import Derived.StillTailTactics
set_option maxRecDepth 100000
namespace Go.Proofs.Ytbgcjpefocdkkaa
open Go.RowKit
def Moved (w:World) (v v':Value):Prop:=v'.ownBlock=v.ownBlock∨∀k,v'.ownBlock=some k→w.heap.size≤k
theorem append_moves {P:Program} {w:World} {base:Nat} {t ty e:TypeId} {i:TypeInfo} {z:Value} {size bytes:Nat} (ht:P.underlying t=some (.slice e)) (hi:P.info? e=some i) (hz:i.zero=some z)
  (hsize:i.size=size) (hby:i.bytes=bytes) (hzs:z.cells.size=size) (hsz:0<size)
  {v:Value} {n:Nat} {xs:List Value} (hown:w.ownsRow base e size v n xs)
  {a:Addr} {m c:Nat} {news:List Value} (hl:news.length=m*size) (hnews:∀j u,news[j]?=some u→w.cell? (a.add j)=some u) (h1:∀u∈news,u.oneCell'=true)
  (h63:n+m≤maxLen) (hbytes:(n+m)*bytes≤140737488355328) {v':Value} {w':World}
  (hr:(Builtin.append_ #[t,t] ty #[v,.slice (some a) m c]).run P w=.ok v' w'):Moved w v v':=by
 rcases hown.2 with⟨rfl,rfl⟩|⟨g,cap,cur,rfl,hbg,hg,hnc,hcm,hcs,htake⟩
 ·obtain⟨v2,w2,h2,h3,_,_⟩:=run_append_own (P:=P) w w.heap.size t ty e i z size bytes ht hi hz hsize hby hzs hsz _ 0 [] (World.ownsRow_nil w _ e size) a m c news hl hnews h1 h63 hbytes (Nat.le_refl _)
  rw [h2] at hr;injection hr with hr _
  subst hr;exact .inr fun k hk=>(h3.lt k hk).1
 ·subst hsize
  subst hby;by_cases hroom:n+m≤cap
  ·have hfit:n*i.size+news.length≤cur.size:=by rw [hl,hcs,←Nat.add_mul];exact Nat.mul_le_mul_right _ hroom
   have h2:=run_append_room (P:=P) w t ty e i ht hi g n cap cur hg a m c news hl hnews h1 hroom hfit;rw [h2] at hr;injection hr with hr _
   subst hr;exact .inl rfl
  ·have hsmall:n+m≤9223372036854775807:=by simp only [maxLen] at h63;omega
   have holds:∀j u,xs[j]?=some u→w.cell? ((⟨g,0,none⟩:Addr).add j)=some u:=hown.cells (g:=g) rfl;have h2:=run_append_grow (P:=P) w t ty e i z ht hi hz ⟨g,0,none⟩ n cap xs hown.1 holds a m c news hl hnews (by omega) (by omega) (growslice_fits (by omega) hbytes);rw [h2] at hr;injection hr with hr _
   subst hr;exact .inr fun k hk=>by simp [Value.ownBlock] at hk;omega
theorem wpList_appM {P:Program} {w:World} {ops:Array Oper} {rest:List Oper} {o:Oper} {a:Act} {Q:Exit→Act→World→Prop} (base:Nat) (e:TypeId) (hgd:o.guard=none) (s x:Operand) (t:TypeId)
  (ho:o.op=.call { callee:=.builtin .append,args:=#[s,x],argTypes:=#[t,t] })
  {i:TypeInfo} {z:Value} {size bytes:Nat} (ht:P.underlying t=some (.slice e)) (hinf:P.info? e=some i∧i.zero=some z∧i.size=size∧i.bytes=bytes)
  (hzs:z.cells.size=size) (hsz:0<size)
  {v:Value} {n:Nat} {xs:List Value} (hs:a.eval s=v) (hown:w.ownsRow base e size v n xs)
  {B:Nat} {A:Option Addr} {m c:Nat} {news:List Value} (hx:a.eval x=.slice A m c) (hr:Sl w B A size m news) (h1:∀u∈news,u.oneCell'=true)
  (hn:n≤10000000) (hm:m≤10000000) (hb:bytes≤1000) (hB:base≤w.heap.size)
  (h:∀v' w',w'.ownsRow base e size v' (n+m) (xs++news)→w.grownBy w' v.ownBlock→Below base w w'→Moved w v v'→wpList P ops Q rest (a.put o.dst v') w') :
  wpList P ops Q (o::rest) a w:=by
 refine wpList_plain hgd fun K hK=>?_
 obtain⟨hi,hz0,hz1,hz2⟩:=hinf;have key:∃v' w',(Builtin.append_ #[t,t] o.type #[v,.slice A m c]).run P w=.ok v' w'∧w'.ownsRow base e size v' (n+m) (xs++news)∧w.grownBy w' v.ownBlock∧Moved w v v':=by
  have h63:n+m≤maxLen:=by simp only [maxLen];omega
  have hby:(n+m)*bytes≤140737488355328:=by
   have:(n+m)*bytes≤(10000000+10000000)*1000:=Nat.mul_le_mul (by omega) hb
   omega
  rcases A with _|ad
  ·have hm0:m=0:=by
    rcases Nat.eq_zero_or_pos m with h0|h0
    ·exact h0
    ·obtain⟨b,o,h,_⟩:=hr.2 h0;cases h
   subst hm0;have hn0:news=[]:=List.eq_nil_of_length_eq_zero (by simpa using hr.1);subst hn0;exact⟨v,w,run_app_nil w base t o.type e i size ht hi v n xs hown c,by simpa using hown,⟨rfl,rfl,rfl,Nat.le_refl _,fun _ _ _=>rfl⟩,.inl rfl⟩
  ·have hnews:∀j u,news[j]?=some u→w.cell? (ad.add j)=some u:=by
    intro j u hu;rcases Nat.eq_zero_or_pos m with h0|h0
    ·subst h0
     have hn0:news=[]:=List.eq_nil_of_length_eq_zero (by simpa using hr.1);subst hn0;simp at hu
    ·obtain⟨b,o',hab,_,hc⟩:=hr.2 h0
     injection hab with hab;subst hab
     have hadd:(⟨b,o',none⟩:Addr).add j=⟨b,o'+j,none⟩:=by unfold Addr.add;split<;>simp_all
     rw [hadd];exact hc j u hu
   obtain⟨v',w',hrun,h2,h3,_⟩:=run_append_own (P:=P) w base t o.type e i z size bytes ht hi hz0 hz1 hz2 hzs hsz v n xs hown ad m c news hr.1 hnews h1 h63 hby hB;exact⟨v',w',hrun,h2,h3,append_moves ht hi hz0 hz1 hz2 hzs hsz hown hr.1 hnews h1 h63 hby hrun⟩
 obtain⟨v',w',hrun,h2,h3,h4⟩:=key;unfold Oper.wp execOp;simp only [ho,resolve,invoke,builtin,Sem.run_bind,Sem.run_pure,Result.andThen_ok,List.map_toArray,List.map_cons,List.map_nil,hs,hx,hrun];exact hK _ _ (h v' w' h2 h3 ((Below.refl base w).grown h3 hB fun k hk=>(hown.lt k hk).1) h4)
theorem rx_info:(Try.prog.info? 30).map (fun i=>(i.zero,i.size,i.bytes))=some (some (.agg #[.int .i64 0,.string ⟨#[]⟩,.bool false,.slice none 0 0,.int .i64 0,.int .i64 0,.bool false,.slice none 0 0]),8,104):=by kernel_rfl
theorem row_info:(Try.prog.info? 92).map (fun i=>(i.zero,i.size,i.bytes))=some (some (.agg #[.string ⟨#[]⟩,.string ⟨#[]⟩]),2,32):=by kernel_rfl
theorem rcells_one (rs:List (Str × Str)):∀u∈rcells rs,u.oneCell'=true:=by
 intro u hu;simp only [rcells,List.mem_flatMap] at hu;obtain⟨r,_,hr⟩:=hu;simp only [List.mem_cons,List.not_mem_nil,or_false] at hr;rcases hr with rfl|rfl<;>rfl
theorem RxV.one {w:World} {S:Nat→Prop} {c:List Value} {x:Rx} (h:RxV w S c x):∀u∈c,u.oneCell'=true:=by
 cases h
 intro u hu;simp only [rxc,List.mem_cons,List.not_mem_nil,or_false] at hu;rcases hu with rfl|rfl|rfl|rfl|rfl|rfl|rfl|rfl<;>rfl
theorem RxVs.one {w:World} {S:Nat→Prop}:∀{css:List (List Value)} {xs:List Rx},RxVs w S css xs→∀u∈css.flatten,u.oneCell'=true
 | _,_,.nil,u,hu=>by simp at hu
 | _,_,.cons h1 h2,u,hu=>by
  rw [List.flatten_cons,List.mem_append] at hu;rcases hu with hu|hu
  ·exact h1.one u hu
  ·exact h2.one u hu
def OwnX (w:World) (B:Nat) (v:Value) (xs:List Rx):Prop :=
 ∃css,w.ownsRow B 30 8 v xs.length css.flatten∧RxVs w (fun b=>B≤b∧v.ownBlock≠some b) css xs
theorem OwnX.nil (w:World) (B:Nat):OwnX w B (.slice none 0 0) []:=⟨[],World.ownsRow_nil _ _ _ _,.nil⟩
theorem own_below {w w':World} {B:Nat} {e:TypeId} {sz:Nat} {v:Value} {n:Nat} {xs:List Value} (h:w.ownsRow B e sz v n xs) (hb:Below w.heap.size w w'):w'.ownsRow B e sz v n xs:=by
 refine⟨h.1,?_⟩;rcases h.2 with h0|⟨g,cap,cur,rfl,h1,h2,h3⟩
 ·exact .inl h0
 ·exact .inr ⟨g,cap,cur,rfl,h1,(hb.block g (heap_lt h2)).trans h2,h3⟩
theorem OwnX.later {w w':World} {B:Nat} {v:Value} {xs:List Rx} (h:OwnX w B v xs) (hb:Below w.heap.size w w'):OwnX w' B v xs:=by
 obtain⟨css,h1,h2⟩:=h;exact⟨css,own_below h1 hb,h2.later hb⟩
theorem own_setLow {w:World} {B:Nat} {e:TypeId} {sz:Nat} {v:Value} {n:Nat} {xs:List Value} (h:w.ownsRow B e sz v n xs) {a:Addr} (ha:a.block<B) (u:Value):(w.setCell a u).ownsRow B e sz v n xs :=
 ownsRow_setCell_below h ha u
theorem Kept.setLow {w:World} {S:Nat→Prop} {a:Addr} (u:Value) (hS:∀b,S b→b≠a.block):Kept S w (w.setCell a u) :=
 ⟨by simp [World.setCell],fun b hb _=>heap_setCell_other w a b u (hS b hb)⟩
theorem OwnX.setLow {w:World} {B:Nat} {v:Value} {xs:List Rx} (h:OwnX w B v xs) {a:Addr} (ha:a.block<B) (u:Value):OwnX (w.setCell a u) B v xs:=by
 obtain⟨css,h1,h2⟩:=h;exact⟨css,own_setLow h1 ha u,h2.keep (Kept.setLow u fun b hb=>by have:=hb.1;omega)⟩
theorem OwnX.app {w w':World} {B:Nat} {v v':Value} {xs ys:List Rx} {css ds:List (List Value)} {m:Nat} (hr1:RxVs w (fun b=>B≤b∧v.ownBlock≠some b) css xs)
  (hr2:RxVs w (fun b=>B≤b∧v.ownBlock≠some b) ds ys) (hm:m=ys.length)
  (ho:w'.ownsRow B 30 8 v' (xs.length+m) (css.flatten++ds.flatten)) (hg:w.grownBy w' v.ownBlock) (hmv:Moved w v v'):OwnX w' B v' (xs++ys):=by
 subst hm;refine⟨css++ds,by rw [List.flatten_append,List.length_append];exact ho,?_⟩;have hS:∀b,(B≤b∧v.ownBlock≠some b)→b<w.heap.size→((B≤b∧v.ownBlock≠some b)∧b<w.heap.size):=fun b h1 h2=>⟨h1,h2⟩
 have hk:Kept (fun b=>(B≤b∧v.ownBlock≠some b)∧b<w.heap.size) w w':=⟨hg.size,fun b hb hlt=>hg.block b hlt (fun e=>hb.1.2 e.symm)⟩;refine(((hr1.append hr2).mono hS).keep hk).mono fun b hb _=>⟨hb.1.1,fun e=>?_⟩
 rcases hmv with h|h
 ·exact hb.1.2 (h▸e)
 ·have:=h b e;omega
theorem OwnX.sl {w:World} {B:Nat} {a:Option Addr} {n c:Nat} {xs:List Rx} (h:OwnX w B (.slice a n c) xs):n=xs.length∧RxSl w (fun b=>B≤b) a xs.length xs:=by
 obtain⟨css,h1,h2⟩:=h;have hn:n=xs.length:=by
  rcases h1.2 with⟨h,h0⟩|⟨g,cap,cur,h,_⟩
  ·injection h with _ h _;omega
  ·injection h with _ h _
 subst hn;refine⟨rfl,css,⟨(Sl.of_own h1).1,fun hn=>?_⟩,h2.mono fun b hb _=>hb.1⟩;obtain⟨b,o,e,hlt,hc⟩:=(Sl.of_own h1).2 hn;subst e;exact⟨b,o,rfl,(h1.lt b rfl).1,hlt,hc⟩
theorem bel2 {W w0 w1:World} (h:Below W.heap.size W w0) (h1:Below w0.heap.size w0 w1):Below W.heap.size W w1:=h.trans (h1.mono h.size)
theorem bx_cells {w:World} {g:Nat} {k:Int} {c:Str} {ng:Bool} {ra:Option Addr} {rn rc:Nat} {lo hi:Int} {lz:Bool} {ka:Option Addr} {kn kc:Nat}
  (h:w.heap[g]?=some (.cells #[.int .i64 k,.string ⟨(c).toArray⟩,.bool ng,.slice ra rn rc,.int .i64 lo,.int .i64 hi,.bool lz,.slice ka kn kc] 30 (0,0))) :
  w.cell? ⟨g,0,none⟩=some (.int .i64 k)∧w.cell? ⟨g,1,none⟩=some (.string ⟨(c).toArray⟩)∧w.cell? ⟨g,2,none⟩=some (.bool ng)∧w.cell? ⟨g,3,none⟩=some (.slice ra rn rc) ∧
  w.cell? ⟨g,4,none⟩=some (.int .i64 lo)∧w.cell? ⟨g,5,none⟩=some (.int .i64 hi)∧w.cell? ⟨g,6,none⟩=some (.bool lz)∧w.cell? ⟨g,7,none⟩=some (.slice ka kn kc) ∧
  ∀i,i<8→w.frozen? ⟨g,i,none⟩=false:=by
 refine⟨?_,?_,?_,?_,?_,?_,?_,?_,?_⟩
 ·rw [Lib.cell_of_heap h];rfl
 ·rw [Lib.cell_of_heap h];rfl
 ·rw [Lib.cell_of_heap h];rfl
 ·rw [Lib.cell_of_heap h];rfl
 ·rw [Lib.cell_of_heap h];rfl
 ·rw [Lib.cell_of_heap h];rfl
 ·rw [Lib.cell_of_heap h];rfl
 ·rw [Lib.cell_of_heap h];rfl
 ·intro i hi;simp only [World.frozen?,h];simp
end Go.Proofs.Ytbgcjpefocdkkaa
namespace Go.Proofs.Ytbgcjpefocdkkaa
open Go.RowKit
theorem own_slS {w:World} {B:Nat} {e:TypeId} {sz:Nat} {a:Option Addr} {n c:Nat} {xs:List Value} (h:w.ownsRow B e sz (.slice a n c) n xs):SlS w (fun b=>B≤b) a sz n xs:=by
 refine⟨(Sl.of_own h).1,fun hn=>?_⟩;obtain⟨b,o,e,hlt,hc⟩:=(Sl.of_own h).2 hn;subst e;exact⟨b,o,rfl,(h.lt b rfl).1,hlt,hc⟩
set_option maxHeartbeats 1000000 in
theorem SClone_any (a:Option Addr) (n c:Nat) (rs:List (Str × Str)) (w:World) (h:Sl w w.heap.size a 2 n (rcells rs)) (hn:n≤1000000) :
  Calls Try.prog 46 #[.slice a n c] w fun e w'=>∃a' c',e=.returned (.slice a' n c')∧SlS w' (fun b=>w.heap.size≤b) a' 2 n (rcells rs)∧Below w.heap.size w w':=by
 obtain rfl:=h.row_len;obtain⟨ir,hir⟩:=info_parts row_info;cases a with
 | none =>
  have h0:rs=[]:=by
   rcases Nat.eq_zero_or_pos rs.length with h0|h0
   ·exact List.eq_nil_of_length_eq_zero h0
   ·obtain⟨b,o,e,_⟩:=h.2 h0;cases e
  subst h0;have hq:(binOp .eql 27 (.slice none 0 c) (.slice none 0 0)).run Try.prog w=.ok (.bool true) w:=Go.run_eql_slice_nil w _ _ none 0 c Try.underlying27;go_enter Try.func46,Try.ntmps46
  go_wp2
  go_ret
  exact⟨none,0,rfl,SlS.none_ _ _ _ _,Below.refl _ _⟩
 | some ad =>
  have HS:=Lib.hid (h.alloc_self (.cells #[] 92));have hq:(binOp .eql 27 (.slice (some ad) rs.length c) (.slice none 0 0)).run Try.prog w=.ok (.bool false) w:=Go.run_eql_slice_nil w _ _ (some ad) _ c Try.underlying27;clear h;go_enter Try.func46,Try.ntmps46
  go_wp2_with (at_builtin;refine wpList_appM w.heap.size 92 rfl _ _ 27 rfl Try.underlying27 hir rfl (by decide) rfl (World.ownsRow_made w #[] 0 (Nat.le_refl _) (by simp [maxLen]) rfl) rfl HS.out (rcells_one rs) (by omega) (by omega) (by decide) (by simp) ?_)
  intro v1 w1 ho1 hg1 hb1 _;obtain⟨a1,c1,rfl⟩:=own_form ho1;go_wp2
  go_ret
  refine⟨a1,c1,by simp,by simpa using own_slS ho1,((Below.refl _ _).alloc (Nat.le_refl _) _).trans hb1⟩
end Go.Proofs.Ytbgcjpefocdkkaa
set_option maxRecDepth 100000
namespace Go.Proofs.Ytbgcjpefocdkkaa
open Go.RowKit
def ClRel (ks:List Rx) (w:World) (v q:Value) (wr:World):Prop :=
 ∃i:Nat,i≤ks.length∧q=.int .i64 i∧Below w.heap.size w wr∧OwnX wr w.heap.size v (ks.take i)
set_option maxHeartbeats 1000000 in
theorem Clone_any (S:Nat→Prop):∀(N:Nat) (x:Rx),x.parts≤N→x.small→∀(cc:List Value) (w:World),RxV w S cc x →
  Calls Try.prog 36 #[.agg cc.toArray] w fun e w'=>∃cc',e=.returned (.agg cc'.toArray)∧RxV w' (fun b=>w.heap.size≤b) cc' x∧Below w.heap.size w w'
 | 0,x,h,_,_,_,_=>by have:=Rx.parts_pos x;omega
 | N+1,.mk k c ng rs lo hi lz ks,h,hsm,cc,w,hv=>by
  obtain⟨ra,rc,ka,kc,rfl,hrs,hx⟩:=hv.open_;obtain⟨⟨s1,s2,s3,s4⟩,hsmL⟩:=hsm;simp only [Rx.parts] at h;have ih:∀y∈ks,∀(cc:List Value) (w:World),RxV w S cc y→Calls Try.prog 36 #[.agg cc.toArray] w fun e w'=>∃cc',e=.returned (.agg cc'.toArray)∧RxV w' (fun b=>w.heap.size≤b) cc' y∧Below w.heap.size w w' :=
   fun y hy=>Clone_any S N y (by have:=Rx.parts_mem hy;omega) (smallL_mem hsmL hy)
  have IH:=Lib.hid ih;obtain⟨ix,hix⟩:=info_parts rx_info;obtain⟨w0,hw0⟩:∃w0,w0=(w.alloc (.cells #[.int .i64 k,.string ⟨(c).toArray⟩,.bool ng,.slice ra rs.length rc,.int .i64 lo,.int .i64 hi,.bool lz,.slice ka ks.length kc] 30)).alloc (.cells #[.int .i64 0,.string ⟨#[]⟩,.bool false,.slice none 0 0,.int .i64 0,.int .i64 0,.bool false,.slice none 0 0] 30):=⟨_,rfl⟩;have hb0:Below w.heap.size w w0:=by rw [hw0];exact((Below.refl _ _).alloc (Nat.le_refl _) _).alloc (by simp) _
  have hz0:w0.heap.size=w.heap.size+2:=by rw [hw0];simp
  have hbx0:w0.heap[w.heap.size]?=some (.cells #[.int .i64 k,.string ⟨(c).toArray⟩,.bool ng,.slice ra rs.length rc,.int .i64 lo,.int .i64 hi,.bool lz,.slice ka ks.length kc] 30 (0,0)):=by
   rw [hw0,Below.heap_alloc _ _ _ (by simp)];exact heap_alloc_new w _
  have hby0:w0.heap[w.heap.size+1]?=some (.cells #[.int .i64 0,.string ⟨#[]⟩,.bool false,.slice none 0 0,.int .i64 0,.int .i64 0,.bool false,.slice none 0 0] 30 (0,0)):=by
   rw [hw0];have:=heap_alloc_new (w.alloc (.cells #[.int .i64 k,.string ⟨(c).toArray⟩,.bool ng,.slice ra rs.length rc,.int .i64 lo,.int .i64 hi,.bool lz,.slice ka ks.length kc] 30)) (.cells #[.int .i64 0,.string ⟨#[]⟩,.bool false,.slice none 0 0,.int .i64 0,.int .i64 0,.bool false,.slice none 0 0] 30)
   simpa using this
  have HX:=Lib.hid hx;have HRS:=Lib.hid (hrs.keep (Kept.all hb0)).sl;have HBX0:=Lib.hid hbx0;have HBY0:=Lib.hid hby0;have HW0:=Lib.hid hw0;rw [hw0] at HRS;clear hx hv hrs ih hsmL hbx0 hby0 hw0;unfold rxc;go_enter Try.func36,Try.ntmps36
  go_wp2_with (go_at_call 46;refine(SClone_any _ _ _ rs _ HRS.out s2).mono ?_)
  rintro e w1 ⟨ra',rc',rfl,hrs1,hb1⟩;rw [←HW0.out] at hb1 hrs1;have hbx1:=(hb1.block _ (heap_lt HBX0.out)).trans HBX0.out;have hby1:=(hb1.block _ (heap_lt HBY0.out)).trans HBY0.out;obtain⟨w2,hw2⟩:∃w2,w2=w1.setCell ⟨w.heap.size,3,none⟩ (.slice ra' rs.length rc'):=⟨_,rfl⟩;have HW2:=Lib.hid hw2;obtain⟨e0,e1,e2,e3,e4,e5,e6,e7,e8⟩:=bx_cells hbx1;go_wp2
  rw [←hw2];have hbw1:=bel2 hb0 hb1;have hz1:=hb1.size;have hbw2:Below w.heap.size w w2:=by rw [hw2];exact hbw1.setCell (Nat.le_refl _) _
  have HBX2:Hid (w2.heap[w.heap.size]?=some (.cells #[.int .i64 k,.string ⟨(c).toArray⟩,.bool ng,.slice ra' rs.length rc',.int .i64 lo,.int .i64 hi,.bool lz,.slice ka ks.length kc] 30 (0,0))):=Lib.hid (by
   rw [hw2,heap_setCell_same w1 _ _ _ _ _ hbx1];rfl)
  have HBY2:Hid (w2.heap[w.heap.size+1]?=some (.cells #[.int .i64 0,.string ⟨#[]⟩,.bool false,.slice none 0 0,.int .i64 0,.int .i64 0,.bool false,.slice none 0 0] 30 (0,0))):=Lib.hid (by
   rw [hw2,heap_setCell_other w1 _ _ _ (by simp)];exact hby1)
  have HRS2:Hid (SlS w2 (fun b=>w.heap.size+2≤b) ra' 2 rs.length (rcells rs)):=Lib.hid (by
   rw [hw2];rw [hz0] at hrs1;exact hrs1.keep (Kept.setLow _ fun b hb=>by have:w.heap.size+2≤b:=hb;simp;omega))
  have HX2:=Lib.hid (HX.out.later hbw2);have hz2:w.heap.size+2≤w2.heap.size:=by rw [hw2];simp [World.setCell];omega
  clear hb1 hbx1 hby1 hrs1 e0 e1 e2 e3 e4 e5 e6 e7 e8 hw2;go_loopw [3,13] (fun v q wr=>ClRel ks w2 v q wr) (fun _ q _=>ks.length-(intOf q).toNat)
  case atStart=>exact⟨0,by omega,rfl,Below.refl _ _,by rw [List.take_zero];exact OwnX.nil _ _⟩
  case round =>
   obtain⟨i,hik,rfl,hb,hox⟩:=hrel;have hB:=hb.size;have hbb:=hbw2.trans (hb.mono (by omega));cases hd:ks.drop i with
   | nil =>
    have h2:ks.length≤i:=by simpa using hd
    have hbxr:=(hb.block _ (heap_lt HBX2.out)).trans HBX2.out;have hbyr:=(hb.block _ (heap_lt HBY2.out)).trans HBY2.out;obtain⟨e0,e1,e2,e3,e4,e5,e6,e7,e8⟩:=bx_cells hbxr;obtain⟨f0,f1,f2,f3,f4,f5,f6,f7,f8⟩:=bx_cells (c:=[]) hbyr;rw [List.take_of_length_le h2] at hox;obtain⟨css,hown,hrv⟩:=hox;obtain⟨va,vc,rfl⟩:=own_form hown;have hxs:=OwnX.sl ⟨css,hown,hrv⟩;clear hd hown hrv hbxr hbyr;go_wp2
    have HRr:SlS wr (fun b=>w.heap.size+2≤b) ra' 2 rs.length (rcells rs):=HRS2.out.keep (Kept.all hb);have hxr:RxSl wr (fun b=>w.heap.size+2≤b) va ks.length ks:=hxs.2.mono fun b hb _=>by have:w2.heap.size≤b:=hb;show w.heap.size+2≤b;omega
    refine bodyPost_ret (v:=.agg #[.int .i64 k,.string ⟨(c).toArray⟩,.bool ng,.slice ra' rs.length rc',.int .i64 lo,.int .i64 hi,.bool lz,.slice va ks.length vc]) (by simp [results,Try.results36,go_sem,f0,f1,f2,f3,f4,f5,f6,f7]) rfl ?_;refine⟨rxc k c ng ra' rs.length rc' lo hi lz va ks.length vc,?_,RxV.mono (S:=fun b=>w.heap.size+2≤b) (fun b hb _=>by have:w.heap.size+2≤b:=hb;show w.heap.size≤b;omega) (RxV.close ?_ ?_),?_⟩
    ·rfl
    ·iterate 9 (refine SlS.keep ?_ (Kept.setLow _ (fun b hb=>by have:w.heap.size+2≤b:=hb;simp;omega)))
     exact HRr
    ·iterate 9 (refine RxSl.keep ?_ (Kept.setLow _ (fun b hb=>by have:w.heap.size+2≤b:=hb;simp;omega)))
     exact hxr
    ·iterate 9 (refine Below.setCell ?_ (by simp) _)
     exact hbb
   | cons y r =>
    obtain⟨h2,h3,hr⟩:=ldrop_cons hd;have hym:=List.mem_of_getElem? h3;have HYM:=Lib.hid (IH.out y hym);have HTK:Hid (ks.take (i+1)=ks.take i++[y]):=Lib.hid (by rw [List.take_add_one,h3];rfl);obtain⟨yk,yc,yn,yr,yl,yh,yz,ys⟩:=y;obtain⟨b,o,ya,yrc,yka,ykc,rfl,hS,hbB,_,_,hyv,c0,c1,c2,c3,c4,c5,c6,c7⟩:=(HX2.out.later hb).cells h3;have HYV:=Lib.hid (hyv.later ((Below.refl wr.heap.size wr).alloc (Nat.le_refl _) (.cells (rxc yk yc yn ya yr.length yrc yl yh yz yka ys.length ykc).toArray 30)));unfold rxc at HYV;obtain⟨css,hown,hrv⟩:=hox;have hli:(ks.take i).length=i:=by rw [List.length_take];omega
    rw [hli] at hown;have HLI:=Lib.hid hli;clear hli;obtain⟨va,vc,rfl⟩:=own_form hown;have hlt:=hown.lt;have hbr:∀ob:Obj,Below wr.heap.size wr (wr.alloc ob):=fun ob=>(Below.refl _ _).alloc (Nat.le_refl _) _
    clear hd hr h3 hyv hym;go_wp2_with (go_at_call 36;refine(HYM.out _ _ HYV.out).mono ?_)
    rintro e w3 ⟨cc',rfl,hcv,hb3⟩;obtain⟨za,zc,zka,zkc,rfl,hzr,hzx⟩:=hcv.open_;have hb3':Below wr.heap.size wr w3:=(hbr _).trans (hb3.mono (by simp));have hz3:=hb3'.size;have ho3:=own_below (own_below hown hb3') ((Below.refl w3.heap.size w3).alloc (Nat.le_refl _) (.cells (rxc yk yc yn za yr.length zc yl yh yz zka ys.length zkc).toArray 30));have hsl:=Sl.lit (n:=1) (sz:=8) (heap_alloc_new w3 (.cells (rxc yk yc yn za yr.length zc yl yh yz zka ys.length zkc).toArray 30)) rfl;have hrv3:=(hrv.later hb3').later ((Below.refl w3.heap.size w3).alloc (Nat.le_refl _) (.cells (rxc yk yc yn za yr.length zc yl yh yz zka ys.length zkc).toArray 30));have hcv3:=hcv.later ((Below.refl w3.heap.size w3).alloc (Nat.le_refl _) (.cells (rxc yk yc yn za yr.length zc yl yh yz zka ys.length zkc).toArray 30));have hone:=hcv.one;unfold rxc at ho3 hsl hrv3 hcv3 hone;have HO3:=Lib.hid ho3;have HSL:=Lib.hid hsl;have HRV3:=Lib.hid hrv3;have HCV3:=Lib.hid hcv3;have HONE:=Lib.hid hone;clear ho3 hsl hrv3 hcv3 hone hown hrv hcv hzr hzx hb3;unfold rxc;go_wp2_with (at_builtin;refine wpList_appM w2.heap.size 30 rfl _ _ 28 rfl Try.underlying28 hix rfl (by decide) rfl HO3.out rfl HSL.out HONE.out (by omega) (by omega) (by decide) (by simp;omega) ?_)
    intro v1 w4 ho1 hg1 hb4 hmv;have hox4:OwnX w4 w2.heap.size v1 (ks.take (i+1)):=by
     rw [HTK.out];refine OwnX.app (ds:=[_]) (m:=1) HRV3.out (.cons (HCV3.out.mono fun b hb _=>?_) .nil) rfl ?_ hg1 hmv
     ·have hb':wr.heap.size+1≤b:=by simpa using hb
      exact⟨by omega,fun e=>by have:=(hlt b e).2;omega⟩
     ·rw [HLI.out];simpa using ho1
    have hb4':Below w2.heap.size w2 w4:=(bel2 hb (hb3'.trans ((Below.refl w3.heap.size w3).alloc (Nat.le_refl _) (.cells #[.int .i64 yk,.string ⟨(yc).toArray⟩,.bool yn,.slice za yr.length zc,.int .i64 yl,.int .i64 yh,.bool yz,.slice zka ys.length zkc] 30) |>.mono hz3))).trans hb4;clear ho1 hg1 hmv;go_wp2
    go_roundw
    case rel=>exact⟨i+1,by omega,by go_num,hb4',hox4⟩
    case measure=>simp [intOf];omega
end Go.Proofs.Ytbgcjpefocdkkaa
set_option maxRecDepth 100000
namespace Go.Proofs.Ytbgcjpefocdkkaa
open Go.RowKit
def flatL (kd:Int) (xs:List Rx):List Rx:=xs.flatMap fun x=>if x.kind=kd then x.kids else [x]
theorem flatL_snoc (kd:Int) (xs:List Rx) (x:Rx):flatL kd (xs++[x])=flatL kd xs++(if x.kind=kd then x.kids else [x]):=by simp [flatL]
theorem flatL_len (kd:Int):∀xs:List Rx,(flatL kd xs).length≤Rx.partsL xs
 | []=>by simp [flatL]
 | x::r=>by
  have ih:=flatL_len kd r;have he:flatL kd (x::r)=(if x.kind=kd then x.kids else [x])++flatL kd r:=by simp [flatL]
  have hp:=Rx.parts_pos x;have hk:x.kids.length+1≤x.parts:=by
   obtain⟨_,_,_,_,_,_,_,ks⟩:=x;have:=Rx.len_parts ks
   simp only [Rx.kids,Rx.parts];omega
  rw [he,List.length_append];simp only [Rx.partsL];split
  ·omega
  ·simp;omega
theorem partsL_take (xs:List Rx):∀i:Nat,Rx.partsL (xs.take i)≤Rx.partsL xs:=by
 induction xs with
 | nil=>intro i;simp
 | cons x r ih =>
  intro i;cases i with
  | zero=>simp [Rx.partsL]
  | succ i=>have:=ih i;simp only [List.take_succ_cons,Rx.partsL];omega
def FlRel (kd:Int) (xs:List Rx) (w:World) (v q:Value) (wr:World):Prop :=
 ∃i:Nat,i≤xs.length∧q=.int .i64 i∧Below w.heap.size w wr∧OwnX wr w.heap.size v (flatL kd (xs.take i))
theorem Kept.trans {S:Nat→Prop} {a b c:World} (h1:Kept S a b) (h2:Kept S b c):Kept S a c :=
 ⟨Nat.le_trans h1.1 h2.1,fun k hk hl=>(h2.2 k hk (Nat.lt_of_lt_of_le hl h1.1)).trans (h1.2 k hk hl)⟩
theorem Kept.sub {S S':Nat→Prop} {a b:World} (h:Kept S a b) (hS:∀k,S' k→S k):Kept S' a b:=⟨h.1,fun k hk hl=>h.2 k (hS k hk) hl⟩
theorem own_setOther {w:World} {B:Nat} {e:TypeId} {sz:Nat} {v:Value} {n:Nat} {xs:List Value} (h:w.ownsRow B e sz v n xs) {a:Addr} (ha:v.ownBlock≠some a.block) (u:Value):(w.setCell a u).ownsRow B e sz v n xs :=
 ownsRow_setCell_other h ha u
set_option maxHeartbeats 1000000 in
theorem flat_any (S:Nat→Prop) (kd:Int) (a:Option Addr) (c:Nat) (xs:List Rx) (w:World) (hx:RxSl w S a xs.length xs) (hp:Rx.partsL xs≤1000000) (hsm:Rx.smallL xs) :
  Calls Try.prog 69 #[.int .i64 kd,.slice a xs.length c] w fun e w'=>∃a' c',e=.returned (.slice a' (flatL kd xs).length c')∧RxSl w' (fun b=>w.heap.size≤b) a' (flatL kd xs).length (flatL kd xs)∧Below w.heap.size w w':=by
 have HX:=Lib.hid hx;have HSM:=Lib.hid hsm;have hlp:=Rx.len_parts xs;obtain⟨ix,hix⟩:=info_parts rx_info;clear hx hsm;go_enter Try.func69,Try.ntmps69
 go_wp2
 go_loopw [5,10] (fun v q wr=>FlRel kd xs w v q wr) (fun _ q _=>xs.length-(intOf q).toNat)
 case atStart=>exact⟨0,by omega,rfl,Below.refl _ _,by rw [List.take_zero];exact OwnX.nil _ _⟩
 case round =>
  obtain⟨i,hik,rfl,hb,hox⟩:=hrel;have hB:=hb.size;cases hd:xs.drop i with
  | nil =>
   have h2:xs.length≤i:=by simpa using hd
   rw [List.take_of_length_le h2] at hox;obtain⟨css,hown,hrv⟩:=hox;obtain⟨va,vc,rfl⟩:=own_form hown;have HXS:=Lib.hid (OwnX.sl ⟨css,hown,hrv⟩).2;clear hd hown hrv;go_wp2
   go_ret
   exact⟨va,vc,rfl,HXS.out,hb⟩
  | cons y r =>
   obtain⟨h2,h3,hr⟩:=ldrop_cons hd;have hym:=List.mem_of_getElem? h3;have hyp:=Rx.parts_mem hym;have HYS:=Lib.hid (smallL_mem HSM.out hym);have HTK:Hid (flatL kd (xs.take (i+1))=flatL kd (xs.take i)++(if y.kind=kd then y.kids else [y])):=Lib.hid (by
    rw [List.take_add_one,h3];exact flatL_snoc kd _ y)
   have hfl:=flatL_len kd (xs.take i);have hpt:=partsL_take xs i;obtain⟨yk,yc,yn,yr,yl,yh,yz,ys⟩:=y;have hyl:=Rx.len_parts ys;simp only [Rx.parts] at hyp;obtain⟨b,o,ya,yrc,yka,ykc,rfl,hS,hbB,_,_,hyv,c0,c1,c2,c3,c4,c5,c6,c7⟩:=(HX.out.later hb).cells h3;obtain⟨w0,hw0⟩:∃w0,w0=wr.alloc (.cells #[.int .i64 yk,.string ⟨(yc).toArray⟩,.bool yn,.slice ya yr.length yrc,.int .i64 yl,.int .i64 yh,.bool yz,.slice yka ys.length ykc] 30):=⟨_,rfl⟩;have hb0:Below wr.heap.size wr w0:=by rw [hw0];exact(Below.refl _ _).alloc (Nat.le_refl _) _
   have hbx0:w0.heap[wr.heap.size]?=some (.cells #[.int .i64 yk,.string ⟨(yc).toArray⟩,.bool yn,.slice ya yr.length yrc,.int .i64 yl,.int .i64 yh,.bool yz,.slice yka ys.length ykc] 30 (0,0)):=by rw [hw0];exact heap_alloc_new wr _
   have HYV:=Lib.hid (hyv.later hb0);have hz0:w0.heap.size=wr.heap.size+1:=by rw [hw0];simp
   have HW0:=Lib.hid hw0;rw [hw0] at HYV;unfold rxc at HYV;obtain⟨css,hown,hrv⟩:=hox;generalize hFL:flatL kd (xs.take i)=fl at *
   obtain⟨va,vc,rfl⟩:=own_form hown;have hlt:=hown.lt;clear hd hr h3 hyv hym hw0;go_wp2_with (go_at_call 36;refine(Clone_any S _ _ (Nat.le_refl _) HYS.out _ _ HYV.out).mono ?_)
   rintro e w3 ⟨cc',rfl,hcv,hb3⟩;rw [←HW0.out] at hb3 hcv;obtain⟨za,zc,zka,zkc,rfl,hzr,hzx⟩:=hcv.open_;have hb3':=bel2 hb0 hb3;have hz3:=hb3.size;have hbx3:=(hb3.block _ (heap_lt hbx0)).trans hbx0;have HBX3:=Lib.hid hbx3;obtain⟨e0,e1,e2,e3,e4,e5,e6,e7,e8⟩:=bx_cells hbx3;have HOWN3:=Lib.hid (own_below hown hb3');have HRV0:=Lib.hid hrv;have HCV3:=Lib.hid hcv;have HZX:=Lib.hid hzx;clear hown hrv hcv hzr hzx hbx3;have hgo:∀g,va=some g→g.block≠wr.heap.size:=fun g hg e=>by have:=(hlt g.block (by rw [hg];rfl)).2;omega
   have hob:(Value.slice va fl.length vc).ownBlock≠some wr.heap.size:=fun e=>by have:=(hlt _ e).2;omega
   have hkF:Kept (fun b=>b≠wr.heap.size) w3 ((((((((((w3).setCell ⟨wr.heap.size,0,none⟩ (.int .i64 yk)).setCell ⟨wr.heap.size,1,none⟩ (.string ⟨(yc).toArray⟩)).setCell ⟨wr.heap.size,2,none⟩ (.bool yn)).setCell ⟨wr.heap.size,3,none⟩ (.slice za yr.length zc)).setCell ⟨wr.heap.size,4,none⟩ (.int .i64 yl)).setCell ⟨wr.heap.size,5,none⟩ (.int .i64 yh)).setCell ⟨wr.heap.size,6,none⟩ (.bool yz)).setCell ⟨wr.heap.size,7,none⟩ (.slice zka ys.length zkc))):=by
    iterate 7 (refine Kept.trans ?_ (Kept.setLow _ (fun b hb=>hb)))
    exact Kept.setLow _ (fun b hb=>hb)
   have hoF:((((((((((w3).setCell ⟨wr.heap.size,0,none⟩ (.int .i64 yk)).setCell ⟨wr.heap.size,1,none⟩ (.string ⟨(yc).toArray⟩)).setCell ⟨wr.heap.size,2,none⟩ (.bool yn)).setCell ⟨wr.heap.size,3,none⟩ (.slice za yr.length zc)).setCell ⟨wr.heap.size,4,none⟩ (.int .i64 yl)).setCell ⟨wr.heap.size,5,none⟩ (.int .i64 yh)).setCell ⟨wr.heap.size,6,none⟩ (.bool yz)).setCell ⟨wr.heap.size,7,none⟩ (.slice zka ys.length zkc))).ownsRow w.heap.size 30 8 (.slice va fl.length vc) fl.length css.flatten:=by
    iterate 8 (refine own_setOther ?_ hob _)
    exact HOWN3.out
   have hrF:RxVs ((((((((((w3).setCell ⟨wr.heap.size,0,none⟩ (.int .i64 yk)).setCell ⟨wr.heap.size,1,none⟩ (.string ⟨(yc).toArray⟩)).setCell ⟨wr.heap.size,2,none⟩ (.bool yn)).setCell ⟨wr.heap.size,3,none⟩ (.slice za yr.length zc)).setCell ⟨wr.heap.size,4,none⟩ (.int .i64 yl)).setCell ⟨wr.heap.size,5,none⟩ (.int .i64 yh)).setCell ⟨wr.heap.size,6,none⟩ (.bool yz)).setCell ⟨wr.heap.size,7,none⟩ (.slice zka ys.length zkc))) (fun b=>w.heap.size≤b∧(Value.slice va fl.length vc).ownBlock≠some b) css fl :=
    ((RxVs.keep (S:=fun b=>(w.heap.size≤b∧(Value.slice va fl.length vc).ownBlock≠some b)∧b<wr.heap.size) (hkF.sub fun b hb e=>by have:=hb.2;omega)
     ((HRV0.out.mono (fun b hb hl=>⟨hb,hl⟩)).later hb3')).mono fun b hb _=>hb.1)
   have hcF:RxV ((((((((((w3).setCell ⟨wr.heap.size,0,none⟩ (.int .i64 yk)).setCell ⟨wr.heap.size,1,none⟩ (.string ⟨(yc).toArray⟩)).setCell ⟨wr.heap.size,2,none⟩ (.bool yn)).setCell ⟨wr.heap.size,3,none⟩ (.slice za yr.length zc)).setCell ⟨wr.heap.size,4,none⟩ (.int .i64 yl)).setCell ⟨wr.heap.size,5,none⟩ (.int .i64 yh)).setCell ⟨wr.heap.size,6,none⟩ (.bool yz)).setCell ⟨wr.heap.size,7,none⟩ (.slice zka ys.length zkc))) (fun b=>w.heap.size≤b∧(Value.slice va fl.length vc).ownBlock≠some b) [.int .i64 yk,.string ⟨(yc).toArray⟩,.bool yn,.slice za yr.length zc,.int .i64 yl,.int .i64 yh,.bool yz,.slice zka ys.length zkc] (.mk yk yc yn yr yl yh yz ys) :=
    (HCV3.out.keep (hkF.sub fun b hb e=>by have:w0.heap.size≤b:=hb;omega)).mono fun b hb _=>by
     have hb':w0.heap.size≤b:=hb;exact⟨by omega,fun e=>by have:=(hlt b e).2;omega⟩
   have hbF:Below w.heap.size w ((((((((((w3).setCell ⟨wr.heap.size,0,none⟩ (.int .i64 yk)).setCell ⟨wr.heap.size,1,none⟩ (.string ⟨(yc).toArray⟩)).setCell ⟨wr.heap.size,2,none⟩ (.bool yn)).setCell ⟨wr.heap.size,3,none⟩ (.slice za yr.length zc)).setCell ⟨wr.heap.size,4,none⟩ (.int .i64 yl)).setCell ⟨wr.heap.size,5,none⟩ (.int .i64 yh)).setCell ⟨wr.heap.size,6,none⟩ (.bool yz)).setCell ⟨wr.heap.size,7,none⟩ (.slice zka ys.length zkc))):=by
    iterate 8 (refine Below.setCell ?_ (by simp;omega) _)
    exact bel2 hb hb3'
   have HOF:=Lib.hid hoF;have HRF:=Lib.hid hrF;have HCF:=Lib.hid hcF;have hzF:w.heap.size≤((((((((((w3).setCell ⟨wr.heap.size,0,none⟩ (.int .i64 yk)).setCell ⟨wr.heap.size,1,none⟩ (.string ⟨(yc).toArray⟩)).setCell ⟨wr.heap.size,2,none⟩ (.bool yn)).setCell ⟨wr.heap.size,3,none⟩ (.slice za yr.length zc)).setCell ⟨wr.heap.size,4,none⟩ (.int .i64 yl)).setCell ⟨wr.heap.size,5,none⟩ (.int .i64 yh)).setCell ⟨wr.heap.size,6,none⟩ (.bool yz)).setCell ⟨wr.heap.size,7,none⟩ (.slice zka ys.length zkc))).heap.size:=hbF.size;clear hkF hoF hrF hcF;by_cases hkk:yk=kd
   ·have hkb:(yk==kd)=true:=by simpa using hkk
    have HTK2:Hid (flatL kd (xs.take (i+1))=fl++ys):=Lib.hid (by rw [HTK.out,if_pos (show (Rx.mk yk yc yn yr yl yh yz ys).kind=kd from hkk)];rfl);obtain⟨_,_,_,_,hq,_,hzF2⟩:=HCF.out.open_;unfold rxc at hq;simp only [List.cons.injEq,Value.slice.injEq,and_true,true_and] at hq;obtain⟨⟨rfl,rfl⟩,rfl,rfl⟩:=hq;obtain⟨ds,hds,hdv⟩:=hzF2;have HDS:=Lib.hid hds.sl;have HDV:=Lib.hid hdv;clear hkk hds hdv;unfold rxc;go_wp2_with (at_builtin;refine wpList_appM w.heap.size 30 rfl _ _ 28 rfl Try.underlying28 hix rfl (by decide) rfl HOF.out rfl HDS.out HDV.out.one (by omega) (by omega) (by decide) hzF ?_)
    intro v1 w4 ho1 hg1 hb4 hmv;have hox4:OwnX w4 w.heap.size v1 (flatL kd (xs.take (i+1))):=by
     rw [HTK2.out];exact OwnX.app HRF.out HDV.out rfl ho1 hg1 hmv
    have hb4':=hbF.trans hb4;clear ho1 hg1 hmv;go_wp2
    go_roundw
    case rel=>exact⟨i+1,by omega,by go_num,hb4',hox4⟩
    case measure=>simp [intOf];omega
   ·have hkb:(yk==kd)=false:=by simpa using hkk
    have HTK2:Hid (flatL kd (xs.take (i+1))=fl++[.mk yk yc yn yr yl yh yz ys]):=Lib.hid (by rw [HTK.out,if_neg (show ¬(Rx.mk yk yc yn yr yl yh yz ys).kind=kd from hkk)]);have hsl:=Sl.lit (n:=1) (sz:=8) (heap_alloc_new ((((((((((w3).setCell ⟨wr.heap.size,0,none⟩ (.int .i64 yk)).setCell ⟨wr.heap.size,1,none⟩ (.string ⟨(yc).toArray⟩)).setCell ⟨wr.heap.size,2,none⟩ (.bool yn)).setCell ⟨wr.heap.size,3,none⟩ (.slice za yr.length zc)).setCell ⟨wr.heap.size,4,none⟩ (.int .i64 yl)).setCell ⟨wr.heap.size,5,none⟩ (.int .i64 yh)).setCell ⟨wr.heap.size,6,none⟩ (.bool yz)).setCell ⟨wr.heap.size,7,none⟩ (.slice zka ys.length zkc))) (.cells #[.int .i64 yk,.string ⟨(yc).toArray⟩,.bool yn,.slice za yr.length zc,.int .i64 yl,.int .i64 yh,.bool yz,.slice zka ys.length zkc] 30)) rfl;have hszF:((((((((((w3).setCell ⟨wr.heap.size,0,none⟩ (.int .i64 yk)).setCell ⟨wr.heap.size,1,none⟩ (.string ⟨(yc).toArray⟩)).setCell ⟨wr.heap.size,2,none⟩ (.bool yn)).setCell ⟨wr.heap.size,3,none⟩ (.slice za yr.length zc)).setCell ⟨wr.heap.size,4,none⟩ (.int .i64 yl)).setCell ⟨wr.heap.size,5,none⟩ (.int .i64 yh)).setCell ⟨wr.heap.size,6,none⟩ (.bool yz)).setCell ⟨wr.heap.size,7,none⟩ (.slice zka ys.length zkc))).heap.size=w3.heap.size:=by simp [World.setCell]
    rw [hszF] at hsl;have hone:=HCF.out.one;have ho3:=own_below HOF.out ((Below.refl ((((((((((w3).setCell ⟨wr.heap.size,0,none⟩ (.int .i64 yk)).setCell ⟨wr.heap.size,1,none⟩ (.string ⟨(yc).toArray⟩)).setCell ⟨wr.heap.size,2,none⟩ (.bool yn)).setCell ⟨wr.heap.size,3,none⟩ (.slice za yr.length zc)).setCell ⟨wr.heap.size,4,none⟩ (.int .i64 yl)).setCell ⟨wr.heap.size,5,none⟩ (.int .i64 yh)).setCell ⟨wr.heap.size,6,none⟩ (.bool yz)).setCell ⟨wr.heap.size,7,none⟩ (.slice zka ys.length zkc))).heap.size ((((((((((w3).setCell ⟨wr.heap.size,0,none⟩ (.int .i64 yk)).setCell ⟨wr.heap.size,1,none⟩ (.string ⟨(yc).toArray⟩)).setCell ⟨wr.heap.size,2,none⟩ (.bool yn)).setCell ⟨wr.heap.size,3,none⟩ (.slice za yr.length zc)).setCell ⟨wr.heap.size,4,none⟩ (.int .i64 yl)).setCell ⟨wr.heap.size,5,none⟩ (.int .i64 yh)).setCell ⟨wr.heap.size,6,none⟩ (.bool yz)).setCell ⟨wr.heap.size,7,none⟩ (.slice zka ys.length zkc)))).alloc (Nat.le_refl _) (.cells #[.int .i64 yk,.string ⟨(yc).toArray⟩,.bool yn,.slice za yr.length zc,.int .i64 yl,.int .i64 yh,.bool yz,.slice zka ys.length zkc] 30));have hrv3:=HRF.out.later ((Below.refl ((((((((((w3).setCell ⟨wr.heap.size,0,none⟩ (.int .i64 yk)).setCell ⟨wr.heap.size,1,none⟩ (.string ⟨(yc).toArray⟩)).setCell ⟨wr.heap.size,2,none⟩ (.bool yn)).setCell ⟨wr.heap.size,3,none⟩ (.slice za yr.length zc)).setCell ⟨wr.heap.size,4,none⟩ (.int .i64 yl)).setCell ⟨wr.heap.size,5,none⟩ (.int .i64 yh)).setCell ⟨wr.heap.size,6,none⟩ (.bool yz)).setCell ⟨wr.heap.size,7,none⟩ (.slice zka ys.length zkc))).heap.size ((((((((((w3).setCell ⟨wr.heap.size,0,none⟩ (.int .i64 yk)).setCell ⟨wr.heap.size,1,none⟩ (.string ⟨(yc).toArray⟩)).setCell ⟨wr.heap.size,2,none⟩ (.bool yn)).setCell ⟨wr.heap.size,3,none⟩ (.slice za yr.length zc)).setCell ⟨wr.heap.size,4,none⟩ (.int .i64 yl)).setCell ⟨wr.heap.size,5,none⟩ (.int .i64 yh)).setCell ⟨wr.heap.size,6,none⟩ (.bool yz)).setCell ⟨wr.heap.size,7,none⟩ (.slice zka ys.length zkc)))).alloc (Nat.le_refl _) (.cells #[.int .i64 yk,.string ⟨(yc).toArray⟩,.bool yn,.slice za yr.length zc,.int .i64 yl,.int .i64 yh,.bool yz,.slice zka ys.length zkc] 30));have hcv3:=HCF.out.later ((Below.refl ((((((((((w3).setCell ⟨wr.heap.size,0,none⟩ (.int .i64 yk)).setCell ⟨wr.heap.size,1,none⟩ (.string ⟨(yc).toArray⟩)).setCell ⟨wr.heap.size,2,none⟩ (.bool yn)).setCell ⟨wr.heap.size,3,none⟩ (.slice za yr.length zc)).setCell ⟨wr.heap.size,4,none⟩ (.int .i64 yl)).setCell ⟨wr.heap.size,5,none⟩ (.int .i64 yh)).setCell ⟨wr.heap.size,6,none⟩ (.bool yz)).setCell ⟨wr.heap.size,7,none⟩ (.slice zka ys.length zkc))).heap.size ((((((((((w3).setCell ⟨wr.heap.size,0,none⟩ (.int .i64 yk)).setCell ⟨wr.heap.size,1,none⟩ (.string ⟨(yc).toArray⟩)).setCell ⟨wr.heap.size,2,none⟩ (.bool yn)).setCell ⟨wr.heap.size,3,none⟩ (.slice za yr.length zc)).setCell ⟨wr.heap.size,4,none⟩ (.int .i64 yl)).setCell ⟨wr.heap.size,5,none⟩ (.int .i64 yh)).setCell ⟨wr.heap.size,6,none⟩ (.bool yz)).setCell ⟨wr.heap.size,7,none⟩ (.slice zka ys.length zkc)))).alloc (Nat.le_refl _) (.cells #[.int .i64 yk,.string ⟨(yc).toArray⟩,.bool yn,.slice za yr.length zc,.int .i64 yl,.int .i64 yh,.bool yz,.slice zka ys.length zkc] 30))
    have HO3:=Lib.hid ho3;have HSL:=Lib.hid hsl;have HRV3':=Lib.hid hrv3;have HCV3':=Lib.hid hcv3;have HONE:=Lib.hid hone;have hzF':w.heap.size≤(((((((((((w3).setCell ⟨wr.heap.size,0,none⟩ (.int .i64 yk)).setCell ⟨wr.heap.size,1,none⟩ (.string ⟨(yc).toArray⟩)).setCell ⟨wr.heap.size,2,none⟩ (.bool yn)).setCell ⟨wr.heap.size,3,none⟩ (.slice za yr.length zc)).setCell ⟨wr.heap.size,4,none⟩ (.int .i64 yl)).setCell ⟨wr.heap.size,5,none⟩ (.int .i64 yh)).setCell ⟨wr.heap.size,6,none⟩ (.bool yz)).setCell ⟨wr.heap.size,7,none⟩ (.slice zka ys.length zkc))).alloc (.cells #[.int .i64 yk,.string ⟨(yc).toArray⟩,.bool yn,.slice za yr.length zc,.int .i64 yl,.int .i64 yh,.bool yz,.slice zka ys.length zkc] 30)).heap.size:=by rw [World.size_alloc];omega
    have hbF':=hbF.alloc hzF (.cells #[.int .i64 yk,.string ⟨(yc).toArray⟩,.bool yn,.slice za yr.length zc,.int .i64 yl,.int .i64 yh,.bool yz,.slice zka ys.length zkc] 30);clear hkk ho3 hsl hrv3 hcv3 hone;unfold rxc;go_wp2_with (at_builtin;refine wpList_appM w.heap.size 30 rfl _ _ 28 rfl Try.underlying28 hix rfl (by decide) rfl HO3.out rfl HSL.out HONE.out (by omega) (by omega) (by decide) hzF' ?_)
    intro v1 w4 ho1 hg1 hb4 hmv;have hox4:OwnX w4 w.heap.size v1 (flatL kd (xs.take (i+1))):=by
     rw [HTK2.out];exact OwnX.app (ds:=[_]) (m:=1) HRV3'.out (.cons HCV3'.out .nil) rfl (by simpa using ho1) hg1 hmv
    have hb4':=hbF'.trans hb4;clear ho1 hg1 hmv;go_wp2
    go_roundw
    case rel=>exact⟨i+1,by omega,by go_num,hb4',hox4⟩
    case measure=>simp [intOf];omega
end Go.Proofs.Ytbgcjpefocdkkaa
set_option maxRecDepth 100000
namespace Go.Proofs.Ytbgcjpefocdkkaa
open Go.RowKit
def kind0 (l:List Rx):Rx:=.mk 0 [] false [] 0 0 false l
def kind1 (l:List Rx):Rx:=.mk 1 [] false [] 0 0 false l
def seqR (xs:List Rx):Rx:=match flatL 0 xs with|[x]=>x|l=>kind0 l
def altR (xs:List Rx):Rx:=match flatL 1 xs with|[]=>kind0 []|[x]=>x|l=>kind1 l
set_option maxHeartbeats 1000000 in
theorem Seq_any (S:Nat→Prop) (a:Option Addr) (c:Nat) (xs:List Rx) (w:World) (hx:RxSl w S a xs.length xs) (hp:Rx.partsL xs≤1000000) (hsm:Rx.smallL xs) :
  Calls Try.prog 64 #[.slice a xs.length c] w fun e w'=>∃cc',e=.returned (.agg cc'.toArray)∧RxV w' (fun b=>w.heap.size≤b) cc' (seqR xs)∧Below w.heap.size w w':=by
 unfold seqR;obtain⟨w0,hw0⟩:∃w0,w0=w.alloc (.cells #[.int .i64 0,.string ⟨#[]⟩,.bool false,.slice none 0 0,.int .i64 0,.int .i64 0,.bool false,.slice none 0 0] 30):=⟨_,rfl⟩;have hb0:Below w.heap.size w w0:=by rw [hw0];exact(Below.refl _ _).alloc (Nat.le_refl _) _
 have hz0:w0.heap.size=w.heap.size+1:=by rw [hw0];simp
 have hby0:w0.heap[w.heap.size]?=some (.cells #[.int .i64 0,.string ⟨#[]⟩,.bool false,.slice none 0 0,.int .i64 0,.int .i64 0,.bool false,.slice none 0 0] 30 (0,0)):=by rw [hw0];exact heap_alloc_new w _
 have HX0:=Lib.hid (hx.later hb0);rw [hw0] at HX0;have HSM:=Lib.hid hsm;have HW0:=Lib.hid hw0;have HBY0:=Lib.hid hby0;have hfl:=flatL_len 0 xs;clear hx hsm hw0 hby0;generalize hL:flatL 0 xs=L at *
 go_enter Try.func64,Try.ntmps64
 go_wp2_with (go_at_call 69;refine(flat_any S 0 _ _ xs _ HX0.out hp HSM.out).mono ?_)
 rintro e w1 ⟨a1,c1,rfl,hx1,hb1⟩;rw [hL] at hx1 ⊢;rw [←HW0.out] at hb1 hx1;have hbw1:=bel2 hb0 hb1;obtain⟨f0,f1,f2,f3,f4,f5,f6,f7,f8⟩:=bx_cells (c:=[]) ((hb1.block _ (heap_lt HBY0.out)).trans HBY0.out);replace hx1:RxSl w1 (fun b=>w.heap.size+1≤b) a1 L.length L:=hx1.mono fun b hb _=>by have:w0.heap.size≤b:=hb;show w.heap.size+1≤b;omega
 clear hL hb1;rcases L with _|⟨y,_|⟨z,L⟩⟩
 ·have HX1:=Lib.hid hx1
  clear hx1;go_wp2
  refine bodyPost_ret (v:=.agg #[.int .i64 0,.string ⟨([]).toArray⟩,.bool false,.slice none ([]:List (Str × Str)).length 0,.int .i64 0,.int .i64 0,.bool false,.slice a1 ([]:List Rx).length c1]) (by simp [results,Try.results64,go_sem,f0,f1,f2,f3,f4,f5,f6,f7]) rfl ?_;refine⟨rxc 0 [] false none ([]:List (Str × Str)).length 0 0 0 false a1 ([]:List Rx).length c1,rfl,RxV.mono (S:=fun b=>w.heap.size+1≤b) (fun b hb _=>by have:w.heap.size+1≤b:=hb;show w.heap.size≤b;omega) (RxV.close ?_ ?_),?_⟩
  ·iterate 8 (refine SlS.keep ?_ (Kept.setLow _ (fun b hb=>by have:w.heap.size+1≤b:=hb;simp;omega)))
   exact SlS.none_ _ _ _ _
  ·iterate 8 (refine RxSl.keep ?_ (Kept.setLow _ (fun b hb=>by have:w.heap.size+1≤b:=hb;simp;omega)))
   exact HX1.out
  ·iterate 8 (refine Below.setCell ?_ (by simp) _)
   exact hbw1
 ·skip
  obtain⟨yk,yc,yn,yr,yl,yh,yz,ys⟩:=y;obtain⟨b,o,ya,yrc,yka,ykc,rfl,hS,hbB,hyr,hyx,hyv,c0,c1',c2,c3,c4,c5,c6,c7⟩:=hx1.cells (m:=0) rfl;simp only [Nat.zero_mul,Nat.add_zero] at c0 c1' c2 c3 c4 c5 c6 c7;have HYR:=Lib.hid hyr;have HYX:=Lib.hid hyx;clear hyr hyx hyv;go_wp2
  refine bodyPost_ret (v:=.agg #[.int .i64 yk,.string ⟨(yc).toArray⟩,.bool yn,.slice ya yr.length yrc,.int .i64 yl,.int .i64 yh,.bool yz,.slice yka ys.length ykc]) (by simp [results,Try.results64,go_sem,f0,f1,f2,f3,f4,f5,f6,f7]) rfl ?_;refine⟨rxc yk yc yn ya yr.length yrc yl yh yz yka ys.length ykc,rfl,RxV.mono (S:=fun b=>w.heap.size+1≤b) (fun b hb _=>by have:w.heap.size+1≤b:=hb;show w.heap.size≤b;omega) (RxV.close ?_ ?_),?_⟩
  ·iterate 8 (refine SlS.keep ?_ (Kept.setLow _ (fun b hb=>by have:w.heap.size+1≤b:=hb;simp;omega)))
   exact HYR.out
  ·iterate 8 (refine RxSl.keep ?_ (Kept.setLow _ (fun b hb=>by have:w.heap.size+1≤b:=hb;simp;omega)))
   exact HYX.out
  ·iterate 8 (refine Below.setCell ?_ (by simp) _)
   exact hbw1
 ·have HX1:=Lib.hid hx1
  have hne:(((z::L).length:Int)+1==1)=false:=by rw [beq_eq_false_iff_ne];simp;omega
  have hne2:((L.length:Int)+1+1==1)=false:=by rw [beq_eq_false_iff_ne];omega
  clear hx1;go_wp2
  refine bodyPost_ret (v:=.agg #[.int .i64 0,.string ⟨([]).toArray⟩,.bool false,.slice none ([]:List (Str × Str)).length 0,.int .i64 0,.int .i64 0,.bool false,.slice a1 (y::z::L).length c1]) (by simp [results,Try.results64,go_sem,f0,f1,f2,f3,f4,f5,f6,f7]) rfl ?_;refine⟨rxc 0 [] false none ([]:List (Str × Str)).length 0 0 0 false a1 (y::z::L).length c1,rfl,RxV.mono (S:=fun b=>w.heap.size+1≤b) (fun b hb _=>by have:w.heap.size+1≤b:=hb;show w.heap.size≤b;omega) (RxV.close ?_ ?_),?_⟩
  ·iterate 8 (refine SlS.keep ?_ (Kept.setLow _ (fun b hb=>by have:w.heap.size+1≤b:=hb;simp;omega)))
   exact SlS.none_ _ _ _ _
  ·iterate 8 (refine RxSl.keep ?_ (Kept.setLow _ (fun b hb=>by have:w.heap.size+1≤b:=hb;simp;omega)))
   exact HX1.out
  ·iterate 8 (refine Below.setCell ?_ (by simp) _)
   exact hbw1
set_option maxHeartbeats 1000000 in
theorem Alt_any (S:Nat→Prop) (a:Option Addr) (c:Nat) (xs:List Rx) (w:World) (hx:RxSl w S a xs.length xs) (hp:Rx.partsL xs≤1000000) (hsm:Rx.smallL xs) :
  Calls Try.prog 63 #[.slice a xs.length c] w fun e w'=>∃cc',e=.returned (.agg cc'.toArray)∧RxV w' (fun b=>w.heap.size≤b) cc' (altR xs)∧Below w.heap.size w w':=by
 unfold altR;obtain⟨w0,hw0⟩:∃w0,w0=w.alloc (.cells #[.int .i64 0,.string ⟨#[]⟩,.bool false,.slice none 0 0,.int .i64 0,.int .i64 0,.bool false,.slice none 0 0] 30):=⟨_,rfl⟩;have hb0:Below w.heap.size w w0:=by rw [hw0];exact(Below.refl _ _).alloc (Nat.le_refl _) _
 have hz0:w0.heap.size=w.heap.size+1:=by rw [hw0];simp
 have hby0:w0.heap[w.heap.size]?=some (.cells #[.int .i64 0,.string ⟨#[]⟩,.bool false,.slice none 0 0,.int .i64 0,.int .i64 0,.bool false,.slice none 0 0] 30 (0,0)):=by rw [hw0];exact heap_alloc_new w _
 have HX0:=Lib.hid (hx.later hb0);rw [hw0] at HX0;have HSM:=Lib.hid hsm;have HW0:=Lib.hid hw0;have HBY0:=Lib.hid hby0;have hfl:=flatL_len 1 xs;clear hx hsm hw0 hby0;generalize hL:flatL 1 xs=L at *
 go_enter Try.func63,Try.ntmps63
 go_wp2_with (go_at_call 69;refine(flat_any S 1 _ _ xs _ HX0.out hp HSM.out).mono ?_)
 rintro e w1 ⟨a1,c1,rfl,hx1,hb1⟩;rw [hL] at hx1 ⊢;rw [←HW0.out] at hb1 hx1;have hbw1:=bel2 hb0 hb1;obtain⟨f0,f1,f2,f3,f4,f5,f6,f7,f8⟩:=bx_cells (c:=[]) ((hb1.block _ (heap_lt HBY0.out)).trans HBY0.out);replace hx1:RxSl w1 (fun b=>w.heap.size+1≤b) a1 L.length L:=hx1.mono fun b hb _=>by have:w0.heap.size≤b:=hb;show w.heap.size+1≤b;omega
 clear hL hb1;rcases L with _|⟨y,_|⟨z,L⟩⟩
 ·clear hx1
  go_wp2
  refine bodyPost_ret (v:=.agg #[.int .i64 0,.string ⟨([]).toArray⟩,.bool false,.slice none ([]:List (Str × Str)).length 0,.int .i64 0,.int .i64 0,.bool false,.slice none ([]:List Rx).length 0]) (by simp [results,Try.results63,go_sem,f0,f1,f2,f3,f4,f5,f6,f7]) rfl ?_;refine⟨rxc 0 [] false none ([]:List (Str × Str)).length 0 0 0 false none ([]:List Rx).length 0,rfl,RxV.mono (S:=fun b=>w.heap.size+1≤b) (fun b hb _=>by have:w.heap.size+1≤b:=hb;show w.heap.size≤b;omega) (RxV.close ?_ ?_),?_⟩
  ·iterate 8 (refine SlS.keep ?_ (Kept.setLow _ (fun b hb=>by have:w.heap.size+1≤b:=hb;simp;omega)))
   exact SlS.none_ _ _ _ _
  ·iterate 8 (refine RxSl.keep ?_ (Kept.setLow _ (fun b hb=>by have:w.heap.size+1≤b:=hb;simp;omega)))
   exact⟨[],SlS.none_ _ _ _ _,.nil⟩
  ·iterate 8 (refine Below.setCell ?_ (by simp) _)
   exact hbw1
 ·skip
  obtain⟨yk,yc,yn,yr,yl,yh,yz,ys⟩:=y;obtain⟨b,o,ya,yrc,yka,ykc,rfl,hS,hbB,hyr,hyx,hyv,c0,c1',c2,c3,c4,c5,c6,c7⟩:=hx1.cells (m:=0) rfl;simp only [Nat.zero_mul,Nat.add_zero] at c0 c1' c2 c3 c4 c5 c6 c7;have HYR:=Lib.hid hyr;have HYX:=Lib.hid hyx;clear hyr hyx hyv;go_wp2
  refine bodyPost_ret (v:=.agg #[.int .i64 yk,.string ⟨(yc).toArray⟩,.bool yn,.slice ya yr.length yrc,.int .i64 yl,.int .i64 yh,.bool yz,.slice yka ys.length ykc]) (by simp [results,Try.results63,go_sem,f0,f1,f2,f3,f4,f5,f6,f7]) rfl ?_;refine⟨rxc yk yc yn ya yr.length yrc yl yh yz yka ys.length ykc,rfl,RxV.mono (S:=fun b=>w.heap.size+1≤b) (fun b hb _=>by have:w.heap.size+1≤b:=hb;show w.heap.size≤b;omega) (RxV.close ?_ ?_),?_⟩
  ·iterate 8 (refine SlS.keep ?_ (Kept.setLow _ (fun b hb=>by have:w.heap.size+1≤b:=hb;simp;omega)))
   exact HYR.out
  ·iterate 8 (refine RxSl.keep ?_ (Kept.setLow _ (fun b hb=>by have:w.heap.size+1≤b:=hb;simp;omega)))
   exact HYX.out
  ·iterate 8 (refine Below.setCell ?_ (by simp) _)
   exact hbw1
 ·have HX1:=Lib.hid hx1
  have hne0:((L.length:Int)+1+1==0)=false:=by rw [beq_eq_false_iff_ne];omega
  have hne2:((L.length:Int)+1+1==1)=false:=by rw [beq_eq_false_iff_ne];omega
  clear hx1;go_wp2
  refine bodyPost_ret (v:=.agg #[.int .i64 1,.string ⟨([]).toArray⟩,.bool false,.slice none ([]:List (Str × Str)).length 0,.int .i64 0,.int .i64 0,.bool false,.slice a1 (y::z::L).length c1]) (by simp [results,Try.results63,go_sem,f0,f1,f2,f3,f4,f5,f6,f7]) rfl ?_;refine⟨rxc 1 [] false none ([]:List (Str × Str)).length 0 0 0 false a1 (y::z::L).length c1,rfl,RxV.mono (S:=fun b=>w.heap.size+1≤b) (fun b hb _=>by have:w.heap.size+1≤b:=hb;show w.heap.size≤b;omega) (RxV.close ?_ ?_),?_⟩
  ·iterate 8 (refine SlS.keep ?_ (Kept.setLow _ (fun b hb=>by have:w.heap.size+1≤b:=hb;simp;omega)))
   exact SlS.none_ _ _ _ _
  ·iterate 8 (refine RxSl.keep ?_ (Kept.setLow _ (fun b hb=>by have:w.heap.size+1≤b:=hb;simp;omega)))
   exact HX1.out
  ·iterate 8 (refine Below.setCell ?_ (by simp) _)
   exact hbw1
end Go.Proofs.Ytbgcjpefocdkkaa
set_option maxRecDepth 100000
namespace Go.Proofs.Ytbgcjpefocdkkaa
open Go.RowKit
theorem less_irrefl:∀a:Str,Op.bytesLess a a=false
 | []=>rfl
 | c::r=>by simp [Op.bytesLess,less_irrefl r]
theorem less_trans:∀{a b c:Str},Op.bytesLess a b=true→Op.bytesLess b c=true→Op.bytesLess a c=true
 | _,[],_,h,_=>by simp [Op.bytesLess] at h
 | _,_::_,[],_,h=>by simp [Op.bytesLess] at h
 | [],_::_,_::_,_,_=>rfl
 | x::a,y::b,z::c,h1,h2=>by
  simp only [Op.bytesLess,Bool.or_eq_true,Bool.and_eq_true,decide_eq_true_eq,beq_iff_eq] at h1 h2 ⊢;rcases h1 with h1|⟨rfl,h1⟩<;>rcases h2 with h2|⟨rfl,h2⟩
  ·exact .inl (UInt8.lt_trans h1 h2)
  ·exact .inl h1
  ·exact .inl h2
  ·exact .inr ⟨rfl,less_trans h1 h2⟩
theorem less_total:∀a b:Str,Op.bytesLess a b=true∨a=b∨Op.bytesLess b a=true
 | [],[]=>.inr (.inl rfl)
 | [],_::_=>.inl rfl
 | _::_,[]=>.inr (.inr rfl)
 | x::a,y::b=>by
  simp only [Op.bytesLess,Bool.or_eq_true,Bool.and_eq_true,decide_eq_true_eq,beq_iff_eq];rcases Nat.lt_trichotomy x.toNat y.toNat with h|h|h
  ·exact .inl (.inl (UInt8.lt_iff_toNat_lt.2 h))
  ·obtain rfl:=UInt8.toNat_inj.1 h
   rcases less_total a b with h|rfl|h
   ·exact .inl (.inr ⟨rfl,h⟩)
   ·exact .inr (.inl rfl)
   ·exact .inr (.inr (.inr ⟨rfl,h⟩))
  ·exact .inr (.inr (.inl (UInt8.lt_iff_toNat_lt.2 h)))
theorem less_asymm {a b:Str} (h:Op.bytesLess a b=true):Op.bytesLess b a=false:=by
 cases h2:Op.bytesLess b a with
 | false=>rfl
 | true=>have:=less_trans h h2;rw [less_irrefl] at this;cases this
def cmpS (a b:Str):Int:=if Op.bytesLess a b=true then -1 else if a=b then 0 else 1
def cmpR (a b:Str × Str):Int:=if cmpS a.1 b.1=0 then cmpS a.2 b.2 else cmpS a.1 b.1
theorem cmpS_cases (a b:Str):(cmpS a b=-1∧Op.bytesLess a b=true)∨(cmpS a b=0∧a=b)∨(cmpS a b=1∧Op.bytesLess b a=true):=by
 unfold cmpS;rcases less_total a b with h|rfl|h
 ·rw [if_pos h];exact .inl ⟨rfl,h⟩
 ·rw [if_neg (by rw [less_irrefl];simp),if_pos rfl];exact .inr (.inl ⟨rfl,rfl⟩)
 ·have h2:=less_asymm h
  rw [if_neg (by rw [h2];simp),if_neg (by rintro rfl;rw [less_irrefl] at h;cases h)];exact .inr (.inr ⟨rfl,h⟩)
theorem isNaN_any (a:Str) (w:World):Calls Try.prog 94 #[.string ⟨(a).toArray⟩] w fun e w'=>e=.returned (.bool false)∧w=w':=by
 go_enter Try.func94,Try.ntmps94
 go_wp2
 go_ret
 exact⟨ret_bool (by simp),rfl⟩
theorem Compare_any (a b:Str) (w:World):Calls Try.prog 91 #[.string ⟨(a).toArray⟩,.string ⟨(b).toArray⟩] w fun e w'=>e=.returned (.int .i64 (cmpS a b))∧w=w':=by
 have hc:=Lib.hid (cmpS_cases a b);generalize hR:cmpS a b=R
 have HR:=Lib.hid hR;clear hR;rcases less_total a b with h|rfl|h
 ·have HE:Hid (R=-1):=Lib.hid (by rw [←HR.out];unfold cmpS;rw [if_pos h])
  go_enter Try.func91,Try.ntmps91
  go_wp2_with (go_at_call 94;refine(isNaN_any _ _).mono ?_;rintro e w1 ⟨rfl,rfl⟩)
  go_ret
  exact⟨ret_int HE.out.symm,rfl⟩
 ·have HE:Hid (R=0):=Lib.hid (by rw [←HR.out];unfold cmpS;rw [if_neg (by rw [less_irrefl];simp),if_pos rfl])
  have h1:=less_irrefl a;have h2:leS a a=true:=by simp [leS]
  go_enter Try.func91,Try.ntmps91
  go_wp2_with (go_at_call 94;refine(isNaN_any _ _).mono ?_;rintro e w1 ⟨rfl,rfl⟩)
  go_ret
  exact⟨ret_int HE.out.symm,rfl⟩
 ·have h2:=less_asymm h
  have hne:a≠b:=by rintro rfl;rw [less_irrefl] at h;cases h
  have HE:Hid (R=1):=Lib.hid (by rw [←HR.out];unfold cmpS;rw [if_neg (by rw [h2];simp),if_neg hne]);have h3:leS a b=false:=by simp [leS,h2,hne]
  have h4:(a==b)=false:=by simpa using hne
  go_enter Try.func91,Try.ntmps91
  go_wp2_with (go_at_call 94;refine(isNaN_any _ _).mono ?_;rintro e w1 ⟨rfl,rfl⟩)
  go_ret
  exact⟨ret_int HE.out.symm,rfl⟩
def OrRel (a b:Int) (w:World) (q:Value) (wr:World):Prop:=wr=w∧(q=.int .i64 0∨(q=.int .i64 1∧a=0)∨(q=.int .i64 2∧a=0∧b=0))
theorem Or_any (a b:Int) (g c:Nat) (w:World) (h0:w.cell? ⟨g,0,none⟩=some (.int .i64 a)) (h1:w.cell? ⟨g,1,none⟩=some (.int .i64 b)) :
  Calls Try.prog 90 #[.slice (some ⟨g,0,none⟩) 2 c] w fun e w'=>e=.returned (.int .i64 (if a=0 then b else a))∧w=w':=by
 go_enter Try.func90,Try.ntmps90
 by_cases ha:a=0
 ·subst ha
  by_cases hb:b=0
  ·subst hb
   go_wp2
   go_loopw [8] (fun q wr=>OrRel 0 0 w q wr) (fun q _=>2-(intOf q).toNat)
   case atStart=>exact⟨rfl,.inl rfl⟩
   case round =>
    obtain⟨rfl,rfl|⟨rfl,_⟩|⟨rfl,_⟩⟩:=hrel
    ·go_wp2
     go_roundw
     case rel=>exact⟨rfl,.inr (.inl ⟨rfl,rfl⟩)⟩
     case measure=>simp [intOf]
    ·go_wp2
     go_roundw
     case rel=>exact⟨rfl,.inr (.inr ⟨rfl,rfl,rfl⟩)⟩
     case measure=>simp [intOf]
    ·go_wp2
     go_ret
     exact⟨rfl,rfl⟩
  ·have hbb:(b==0)=false:=by simpa using hb
   have hbb':(b != 0)=true:=by simpa using hb
   have HB:=Lib.hid hb;clear hb;go_wp2
   go_loopw [8] (fun q wr=>OrRel 0 b w q wr) (fun q _=>2-(intOf q).toNat)
   case atStart=>exact⟨rfl,.inl rfl⟩
   case round =>
    obtain⟨rfl,rfl|⟨rfl,_⟩|⟨rfl,_,hx⟩⟩:=hrel
    ·go_wp2
     go_roundw
     case rel=>exact⟨rfl,.inr (.inl ⟨rfl,rfl⟩)⟩
     case measure=>simp [intOf]
    ·go_wp2
     go_ret
     exact⟨ret_int (by simp),rfl⟩
    ·exact absurd hx HB.out
 ·have haa:(a==0)=false:=by simpa using ha
  have haa':(a != 0)=true:=by simpa using ha
  have HA:=Lib.hid ha;clear ha;go_wp2
  go_loopw [8] (fun q wr=>OrRel a b w q wr) (fun q _=>2-(intOf q).toNat)
  case atStart=>exact⟨rfl,.inl rfl⟩
  case round =>
   obtain⟨rfl,rfl|⟨rfl,hx⟩|⟨rfl,hx,_⟩⟩:=hrel
   ·go_wp2
    go_ret
    exact⟨ret_int (by first|rfl|rw [if_neg HA.out]),rfl⟩
   ·exact absurd hx HA.out
   ·exact absurd hx HA.out
theorem cmpU_any (a b:Str × Str) (w:World) :
  Calls Try.prog 89 #[.agg #[.string ⟨(a.1).toArray⟩,.string ⟨(a.2).toArray⟩],.agg #[.string ⟨(b.1).toArray⟩,.string ⟨(b.2).toArray⟩]] w fun e w'=>e=.returned (.int .i64 (cmpR a b))∧Below w.heap.size w w':=by
 obtain⟨a1,a2⟩:=a;obtain⟨b1,b2⟩:=b;generalize hR:cmpR (a1,a2) (b1,b2)=R
 have HR:=Lib.hid hR;clear hR;obtain⟨W,hW⟩:∃W,W=(w.alloc (.cells #[.string ⟨(a1).toArray⟩,.string ⟨(a2).toArray⟩] 92)).alloc (.cells #[.string ⟨(b1).toArray⟩,.string ⟨(b2).toArray⟩] 92):=⟨_,rfl⟩;have hb0:Below w.heap.size w W:=by rw [hW];exact((Below.refl _ _).alloc (Nat.le_refl _) _).alloc (by simp) _
 have d0:W.cell? ⟨w.heap.size,0,none⟩=some (.string ⟨(a1).toArray⟩):=by rw [hW];simp
 have d1:W.cell? ⟨w.heap.size,1,none⟩=some (.string ⟨(a2).toArray⟩):=by rw [hW];simp
 have d2:W.cell? ⟨w.heap.size+1,0,none⟩=some (.string ⟨(b1).toArray⟩):=by rw [hW];simp
 have d3:W.cell? ⟨w.heap.size+1,1,none⟩=some (.string ⟨(b2).toArray⟩):=by rw [hW];simp
 have HC1:Hid (∀w,Calls Try.prog 91 #[.string ⟨(a1).toArray⟩,.string ⟨(b1).toArray⟩] w fun e w'=>e=.returned (.int .i64 (cmpS a1 b1))∧w'=w):=Lib.hid (fun w=>(Compare_any a1 b1 w).mono fun _ _ ⟨h1,h2⟩=>⟨h1,h2.symm⟩);have HC2:Hid (∀w,Calls Try.prog 91 #[.string ⟨(a2).toArray⟩,.string ⟨(b2).toArray⟩] w fun e w'=>e=.returned (.int .i64 (cmpS a2 b2))∧w'=w):=Lib.hid (fun w=>(Compare_any a2 b2 w).mono fun _ _ ⟨h1,h2⟩=>⟨h1,h2.symm⟩);generalize hc1:cmpS a1 b1=c1 at *
 generalize hc2:cmpS a2 b2=c2 at *
 have HRR:Hid (R=if c1=0 then c2 else c1):=Lib.hid (by rw [←HR.out];unfold cmpR;rw [←hc1,←hc2]);clear hc1 hc2 HR;go_enter Try.func89,Try.ntmps89
 go_wp2
 rw [←hW];clear hW;go_still_tail 10,(by kernel_rfl)
 still_call (HC1.out _)
 repeat still_step
 still_call (HC2.out _)
 repeat still_step
 try refine wpStill_nil ?_
 change wpList _ _ _ _ _ W.drew
 have hs0:=heap_alloc_new W.drew (.cells #[.int .i64 c1,.int .i64 c2] 3);have z0:(W.drew.alloc (.cells #[.int .i64 c1,.int .i64 c2] 3)).cell? ⟨W.heap.size,0,none⟩=some (.int .i64 c1):=by show (W.drew.alloc _).cell? ⟨W.drew.heap.size,0,none⟩=_;rw [Lib.cell_of_heap hs0];rfl
 have z1:(W.drew.alloc (.cells #[.int .i64 c1,.int .i64 c2] 3)).cell? ⟨W.heap.size,1,none⟩=some (.int .i64 c2):=by show (W.drew.alloc _).cell? ⟨W.drew.heap.size,1,none⟩=_;rw [Lib.cell_of_heap hs0];rfl
 go_wp2_with (go_at_call 90;refine(Or_any c1 c2 _ _ _ z0 z1).mono ?_;rintro e w1 ⟨rfl,rfl⟩;rw [←HRR.out])
 go_ret
 exact⟨rfl,(hb0.drew).alloc hb0.size _⟩
end Go.Proofs.Ytbgcjpefocdkkaa
