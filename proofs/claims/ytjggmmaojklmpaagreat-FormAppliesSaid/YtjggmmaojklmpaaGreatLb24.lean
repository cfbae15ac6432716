/- walk of rxrun.laid -/
import Derived.Test.YtjggmmaojklmpaaGreatLb23
set_option maxRecDepth 100000
set_option maxHeartbeats 4000000
namespace Go.Proofs.YtjggmmaojklmpaaGreat
open Go.RowKit
theorem Ai:(Tryz.prog.info? 121).map (fun i=>(i.zero,i.size,i.bytes))=some (some (.agg #[.int .i64 0,.string ⟨#[]⟩,.bool false,.slice none 0 0,.int .i64 0,.int .i64 0,.bool false,.slice none 0 0,.slice none 0 0,.int .i64 0,.int .i64 0]),11,144):=by kernel_rfl
theorem BJ {P:Program} {w:World} {ops:Array Oper} {o:Oper} {a:Act} {K:Act→World→Prop} {Q:Exit→Act→World→Prop} {E:Prop} (base:Nat) (e:TypeId) (hgd:o.guard=none) (s x:Operand) (t:TypeId)
  (ho:o.op=.call { callee:=.builtin .append,args:=#[s,x],argTypes:=#[t,t] })
  {i:TypeInfo} {z:Value} {size bytes:Nat} (ht:P.underlying t=some (.slice e)) (hinf:P.info? e=some i∧i.zero=some z∧i.size=size∧i.bytes=bytes)
  (hzs:z.cells.size=size) (hsz:0<size)
  {v:Value} {n:Nat} {xs:List Value} (hs:a.eval s=v) (hown:w.ownsRow base e size v n xs)
  {B:Nat} {A:Option Addr} {m c:Nat} {news:List Value} (hx:a.eval x=.slice A m c) (hr:Sl w B A size m news) (h1:∀u∈news,u.oneCell'=true)
  (hn:n≤10000000) (hm:m≤10000000) (hb:bytes≤1000) (hB:base≤w.heap.size)
  (h:∀v' w',w'.ownsRow base e size v' (n+m) (xs++news)→w.grownBy w' v.ownBlock→Below base w w'→sw w v v'→K (a.put o.dst v') w') :
  if Region.wanted o (yielded ops a.tmps)=true then Oper.wp P o a w K Q else E:=by
 have hwt:Region.wanted o (yielded ops a.tmps)=true:=jt;rw [Cl hwt];exact B3 base e s x t ho ht hinf hzs hsz hs hown hx hr h1 hn hm hb hB h
def OwnP (w:World) (D:Nat) (S:Nat→Prop) (v:Value) (xs:List Rx) (g:Nat):Prop :=
 ∃css,w.ownsRow D 121 11 v xs.length css.flatten∧PtVs w (fun b=>S b∧v.ownBlock≠some b) css xs g
theorem OwnP.nil (w:World) (D:Nat) (S:Nat→Prop) (g:Nat):OwnP w D S (.slice none 0 0) [] g:=⟨[],World.ownsRow_nil _ _ _ _,.nil⟩
theorem OwnP.gx {X:Nat→Prop} {w w':World} {D:Nat} {S:Nat→Prop} {v:Value} {xs:List Rx} {g:Nat} (h:OwnP w D S v xs g) (hg:Gx X w w') (hS:∀b,S b→¬X b) (hv:∀k,v.ownBlock=some k→¬X k):OwnP w' D S v xs g:=by
 obtain⟨css,h1,h2⟩:=h;exact⟨css,pe h1 hg hv,h2.keep (hg.kept fun b hb=>hS b hb.1)⟩
theorem OwnP.later {w w':World} {D:Nat} {S:Nat→Prop} {v:Value} {xs:List Rx} {g:Nat} (h:OwnP w D S v xs g) (hb:Below w.heap.size w w'):OwnP w' D S v xs g :=
 h.gx (X:=fun _=>False) (Gx.of_below hb) (fun _ _ h=>h) (fun _ _ h=>h)
theorem OwnP.form {w:World} {D:Nat} {S:Nat→Prop} {v:Value} {xs:List Rx} {g:Nat} (h:OwnP w D S v xs g):∃a c,v=.slice a xs.length c∧xs.length≤c:=by
 exact dn
theorem OwnP.sl {w:World} {D:Nat} {S:Nat→Prop} {a:Option Addr} {n c:Nat} {xs:List Rx} {g:Nat} (h:OwnP w D S (.slice a n c) xs g):n=xs.length∧PtSl w (fun b=>S b∨D≤b) a xs.length xs g:=by
 obtain⟨css,h1,h2⟩:=h;have hn:n=xs.length:=by
  rcases h1.2 with⟨h,h0⟩|⟨_,cap,cur,h,_⟩
  ·injection h with _ h _;omega
  ·injection h with _ h _
 subst hn;refine⟨rfl,css,⟨(Sl.of_own h1).1,fun hn=>?_⟩,h2.mono fun b hb _=>.inl hb.1⟩;obtain⟨b,o,e,hlt,hc⟩:=(Sl.of_own h1).2 hn;subst e;exact⟨b,o,rfl,.inr (h1.lt b rfl).1,hlt,hc⟩
theorem OwnP.app {w w':World} {D:Nat} {S:Nat→Prop} {v v':Value} {xs:List Rx} {x:Rx} {css:List (List Value)} {c:List Value} {g:Nat} (h1:PtVs w (fun b=>S b∧v.ownBlock≠some b) css xs g) (h2:PtV w (fun b=>S b∧v.ownBlock≠some b) c x (g+Rx.groupsL xs))
  (ho:w'.ownsRow D 121 11 v' (xs.length+1) (css.flatten++c)) (hg:w.grownBy w' v.ownBlock) (hmv:sw w v v'):OwnP w' D S v' (xs++[x]) g:=by
 refine⟨css++[c],by rw [List.flatten_append,Cy];simpa using ho,?_⟩;have hk:Kept (fun b=>(S b∧v.ownBlock≠some b)∧b<w.heap.size) w w':=⟨hg.size,fun b hb hlt=>hg.block b hlt (fun e=>hb.1.2 e.symm)⟩;refine(((h1.snoc h2).mono (S':=fun b=>(S b∧v.ownBlock≠some b)∧b<w.heap.size) fun b h1 h2=>⟨h1,h2⟩).keep hk).mono fun b hb _=>⟨hb.1.1,fun e=>?_⟩
 exact cZ
theorem laid_app {wk w9:World} {D gb G0 GI n:Nat} {S0:Nat→Prop} {v:Value} {xs:List Rx} {y:Rx} {pc:List Value} (h:OwnP wk D (fun b=>S0 b∨D≤b) v xs G0) (hx:Gx (fun k=>k=gb) wk w9) (hv:PtV w9 (fun b=>(S0 b∧b<wk.heap.size)∨wk.heap.size≤b) pc y GI) (hG:G0+Rx.groupsL xs=GI) (hgb:gb<D) (hS:∀b,S0 b→b<D∧b≠gb) (hD:D≤wk.heap.size) (hn:n=xs.length) :
  ∃css,(w9.alloc (.cells pc.toArray 121)).ownsRow D 121 11 v n css.flatten∧PtVs (w9.alloc (.cells pc.toArray 121)) (fun b=>(S0 b∨D≤b)∧v.ownBlock≠some b) css xs G0 ∧
   PtV (w9.alloc (.cells pc.toArray 121)) (fun b=>(S0 b∨D≤b)∧v.ownBlock≠some b) pc y (G0+Rx.groupsL xs)∧Sl (w9.alloc (.cells pc.toArray 121)) (w9.alloc (.cells pc.toArray 121)).heap.size (some ⟨w9.heap.size,0,none⟩) 11 1 pc:=by
 subst hn;have hal:Below w9.heap.size w9 (w9.alloc (.cells pc.toArray 121)):=(Below.refl _ _).alloc (Cp _) _;have hown:∀k,v.ownBlock=some k→D≤k∧k<wk.heap.size:=by
  obtain⟨css,h1,_⟩:=h;exact h1.lt
 have h9:=(h.gx hx (fun b hb e=>by rcases hb with hb|hb;exact(hS b hb).2 e;omega) (fun k hk e=>by have:=(hown k hk).1;omega)).later hal;obtain⟨css,h1,h2⟩:=h9;refine⟨css,h1,h2,?_,?_⟩
 ·rw [hG]
  refine(hv.mono (S':=fun b=>(S0 b∨D≤b)∧v.ownBlock≠some b) fun b hb _=>?_).later hal
  rcases hb with⟨hb,_⟩|hb
  ·exact⟨.inl hb,fun e=>by have:=(hown b e).1;have:=(hS b hb).1;omega⟩
  ·exact⟨.inr gu,fun e=>by have:=(hown b e).2;omega⟩
 ·have:=Sl.lit (n:=1) (sz:=11) (heap_alloc_new w9 (.cells pc.toArray 121)) (by simp [hv.len])
  simpa using this
theorem wY {wk w9 w8:World} {bp gb n D sz:Nat} {e:TypeId} {v:Value} {o o':Obj} {xs:List Value} (h:wk.heap[bp]?=some o) (hx:Gx (fun k=>k=gb) wk w9) (hne:bp≠gb) (hg:(w9.alloc o').grownBy w8 v.ownBlock) (hv:(w9.alloc o').ownsRow D e sz v n xs) (hD:bp<D):w8.heap[bp]?=some o:=by
 have h9:=hx.heap h hne;have hlt:=jO h9;rw [hg.block bp gH (fun e=>by have:=(hv.lt bp e.symm).1;omega),Below.heap_alloc _ _ _ hlt];exact h9
def LaidPost (S:Nat→Prop) (gb g:Nat) (x:Rx) (w:World) (e:Ending) (w':World):Prop :=
 ∃pc,e=.returned (.agg pc.toArray)∧PtV w' (fun b=>(S b∧b<w.heap.size)∨w.heap.size≤b) pc x g∧w'.heap[gb]?=some (.cells #[.int .i64 ((g+x.groups:Nat):Int)] 3 (0,0))∧Gx (fun k=>k=gb) w w'
def LaidC (x:Rx):Prop:=∀(S:Nat→Prop) (cc:List Value) (w:World) (gb g:Nat),RxV w S cc x→w.heap[gb]?=some (.cells #[.int .i64 (g:Int)] 3 (0,0))→¬S gb→g+x.groups≤1000000 →
 Calls Tryz.prog 95 #[.agg cc.toArray,.pointer (some ⟨gb,0,none⟩)] w (LaidPost S gb g x w)
theorem qD (w:World) (b:Nat) (cs:Array Value):Gx (fun k=>k=b) w (w.setRow b cs):=⟨rfl,rfl,rfl,by rw [oB];exact Cp _,fun _ _ hk=>lY _ hk⟩
theorem xZ:Tryz.prog.underlying 121=some (.struct (Tryz.prog.fieldsOf 121)):=by kernel_rfl
theorem um:(Tryz.prog.info? 121).map (·.size)=some 11:=by kernel_rfl
def pbox (kd:Int) (c:Str) (ng:Bool) (ra:Option Addr) (rn rc:Nat) (lo hi:Int) (lz:Bool) (ka:Option Addr) (kn kc:Nat) (v:Value) (g h:Int):Obj :=
 .cells #[.int .i64 kd,.string ⟨c.toArray⟩,.bool ng,.slice ra rn rc,.int .i64 lo,.int .i64 hi,.bool lz,.slice ka kn kc,v,.int .i64 g,.int .i64 h] 121 (0,0)
def LdRel (P:Value→Obj) (S:Nat→Prop) (w:World) (gb bp G0:Nat) (ks:List Rx) (q:Value) (wr:World):Prop :=
 ∃(i:Nat) (v:Value),i≤ks.length∧q=.int .i64 i∧Hid (wr.heap[gb]?=some (.cells #[.int .i64 ((G0+Rx.groupsL (ks.take i):Nat):Int)] 3 (0,0)))∧Hid (wr.heap[bp]?=some (P v))
   ∧ Hid (OwnP wr (bp+1) (fun b=>(S b∧b<w.heap.size)∨bp+1≤b) v (ks.take i) G0)∧Hid (Gx (fun k=>k=gb) w wr)∧Hid (bp+1≤wr.heap.size)∧Hid (wr.heap[w.heap.size+1]?=some (.cells #[.int .i64 0,.string ⟨#[]⟩,.bool false,.slice none 0 0,.int .i64 0,.int .i64 0,.bool false,.slice none 0 0,.slice none 0 0,.int .i64 0,.int .i64 0] 121 (0,0)))
theorem Az {kd:Int} {c:Str} {ng:Bool} {rs:List (Str × Str)} {lo hi:Int} {lz:Bool} {ks:List Rx} (IH:∀y∈ks,LaidC y) (hkl:ks.length≤1000000):LaidC (.mk kd c ng rs lo hi lz ks):=by
 intro S cc w gb g hv hgb hSg hgl;obtain⟨ra,rc,ka,kc,rfl,hrs,hks⟩:=hv.open_;have hgt:=jO hgb;obtain⟨W1,hW1⟩:∃W1,W1=(w.alloc (.cells (rxc kd c ng ra rs.length rc lo hi lz ka ks.length kc).toArray 25)).alloc (.cells #[.int .i64 0,.string ⟨#[]⟩,.bool false,.slice none 0 0,.int .i64 0,.int .i64 0,.bool false,.slice none 0 0,.slice none 0 0,.int .i64 0,.int .i64 0] 121):=⟨_,rfl⟩;have hb1:Below w.heap.size w W1:=by rw [hW1];exact((Below.refl _ _).alloc (Cp _) _).alloc gz _
 have hz1:W1.heap.size=w.heap.size+1+1:=by rw [hW1];simp
 have hx1:W1.heap[w.heap.size]?=some (.cells (rxc kd c ng ra rs.length rc lo hi lz ka ks.length kc).toArray 25 (0,0)):=by rw [hW1,Below.heap_alloc _ _ _ gz];exact heap_alloc_new w _
 have hg1:=(hb1.block _ hgt).trans hgb;have hx1':=hx1;unfold rxc at hx1';obtain⟨f0,f1,f2,f3,f4,f5,f6,f7,_⟩:=jR hx1';have c0:=jY hg1;have hal:Below W1.heap.size W1 (W1.alloc (.cells #[.int .i64 0,.string ⟨#[]⟩,.bool false,.slice none 0 0,.int .i64 0,.int .i64 0,.bool false,.slice none 0 0,.slice none 0 0,.int .i64 0,.int .i64 0] 121)):=(Below.refl _ _).alloc (Cp _) _;have d0:=jP hal _ _ f0;have d1:=jP hal _ _ f1;have d2:=jP hal _ _ f2;have d3:=jP hal _ _ f3;have d4:=jP hal _ _ f4;have d5:=jP hal _ _ f5;have d6:=jP hal _ _ f6;have d7:=jP hal _ _ f7;have d8:=jP hal _ _ c0;have HW:=ab hW1;have HX1:=ab hx1;have HR1:Hid (W1.heap[w.heap.size+1]?=some (.cells #[.int .i64 0,.string ⟨#[]⟩,.bool false,.slice none 0 0,.int .i64 0,.int .i64 0,.bool false,.slice none 0 0,.slice none 0 0,.int .i64 0,.int .i64 0] 121 (0,0))):=ab (by
  have:=heap_alloc_new (w.alloc (.cells (rxc kd c ng ra rs.length rc lo hi lz ka ks.length kc).toArray 25)) (.cells #[.int .i64 0,.string ⟨#[]⟩,.bool false,.slice none 0 0,.int .i64 0,.int .i64 0,.bool false,.slice none 0 0,.slice none 0 0,.int .i64 0,.int .i64 0] 121)
  rw [hW1];rw [CL] at this;exact this)
 have HG1:=ab hg1;have HB1:=ab hb1;have HZ1:=ab hz1;have HRS:=ab hrs;have HKS:Hid (RxSl w (fun b=>S b∧b<w.heap.size) ka ks.length ks):=ab (hks.mono fun b h1 h2=>⟨h1,h2⟩);have HIH:=ab IH;clear hW1 hx1 hx1' hg1 hb1 hz1 hrs hks IH hv hgb hal;unfold rxc at HW ⊢;go_enter Tryz.func95,Tryz.ntmps95
 go_upto_region 1 with fail
 rw [←HW.out];go_region
 obtain⟨W2,hW2⟩:∃W2,W2=(W1.alloc (.cells #[.int .i64 kd,.string ⟨c.toArray⟩,.bool ng,.slice ra rs.length rc,.int .i64 lo,.int .i64 hi,.bool lz,.slice ka ks.length kc,.slice none 0 0,.int .i64 (g:Int),.int .i64 0] 121)).drew:=⟨_,rfl⟩;rw [←hW2];have hb2:Below W1.heap.size W1 W2:=by rw [hW2];exact((Below.refl _ _).alloc (Cp _) _).drew
 have hp2:W2.heap[W1.heap.size]?=some (.cells #[.int .i64 kd,.string ⟨c.toArray⟩,.bool ng,.slice ra rs.length rc,.int .i64 lo,.int .i64 hi,.bool lz,.slice ka ks.length kc,.slice none 0 0,.int .i64 (g:Int),.int .i64 0] 121 (0,0)):=by rw [hW2];exact heap_alloc_new W1 _
 have hg2:=(hb2.block _ (jO HG1.out)).trans HG1.out;have hx2:=(hb2.block _ (jO HX1.out)).trans HX1.out;have hr2:=(hb2.block _ (jO HR1.out)).trans HR1.out;have hz2:W2.heap.size=W1.heap.size+1:=by rw [hW2];simp
 clear hW2 f0 f1 f2 f3 f4 f5 f6 f7 d0 d1 d2 d3 d4 d5 d6 d7 d8 c0 HW;have c0:=jY hg2;have c0f:W2.frozen? ⟨gb,0,none⟩=false:=by simp only [World.frozen?,hg2];simp
 have hx2':=hx2;unfold rxc at hx2';obtain⟨f0,f1,f2,f3,f4,f5,f6,f7,_⟩:=jR hx2';obtain⟨G0,hG0⟩:∃G0,G0=g+own5 kd:=⟨_,rfl⟩;have hgne:gb≠W1.heap.size∧gb≠w.heap.size:=⟨by have:=HZ1.out;omega,by omega⟩;obtain⟨bb,hbb⟩:∃bb:Bool,(kd==5)=bb:=⟨_,rfl⟩;have hdec:(bb=true∧kd=5)∨(bb=false∧kd≠5):=by
  cases bb with
  | true=>exact .inl ⟨rfl,by simpa using hbb⟩
  | false=>exact .inr ⟨rfl,by simpa using hbb⟩
  /- the group's own number -/
 have hq2:Gx (fun k=>k=gb) w W2:=Gx.of_below (HB1.out.trans (hb2.mono HB1.out.size));rcases hdec with⟨rfl,hk5⟩|⟨rfl,hk5⟩
 case' inl =>
  have HK5:=ab hk5;clear hk5;go_upto_region 4 with fail
  obtain⟨W3,hW3⟩:∃W3,W3=W2.setCell ⟨gb,0,none⟩ (.int .i64 ((g:Int)+1)):=⟨_,rfl⟩;rw [←hW3];have HG3:Hid (W3.heap[gb]?=some (.cells #[.int .i64 (G0:Int)] 3 (0,0))):=ab (by rw [hW3,heap_setCell_same _ _ _ _ _ _ hg2,hG0];simp [own5,HK5.out]);have HP3:=ab ((show W3.heap[W1.heap.size]?=_ by rw [hW3];exact heap_setCell_other _ _ _ _ (Ne.symm hgne.1)).trans hp2);have HX3:=ab ((show W3.heap[w.heap.size]?=_ by rw [hW3];exact heap_setCell_other _ _ _ _ (Ne.symm hgne.2)).trans hx2);have HR3:=ab ((show W3.heap[w.heap.size+1]?=_ by rw [hW3];exact heap_setCell_other _ _ _ _ (by show w.heap.size+1≠gb;omega)).trans hr2);have HQ3:Hid (Gx (fun k=>k=gb) w W3):=ab (by rw [hW3];exact hq2.to (Gx.set (X:=fun k=>k=gb) W2 (a:=⟨gb,0,none⟩) _ rfl) (fun _ _ h=>h));have HZ3:Hid (W3.heap.size=W1.heap.size+1):=ab (by rw [hW3];simpa [World.setCell] using hz2);clear hW3
 case' inr =>
  go_upto_region 4 with fail
  obtain⟨W3,hW3⟩:∃W3,W3=W2:=⟨_,rfl⟩;rw [←hW3];have HG3:Hid (W3.heap[gb]?=some (.cells #[.int .i64 (G0:Int)] 3 (0,0))):=ab (by rw [hW3,hg2,hG0];simp [own5,hk5]);have HP3:=ab ((show W3.heap[W1.heap.size]?=_ by rw [hW3]).trans hp2);have HX3:=ab ((show W3.heap[w.heap.size]?=_ by rw [hW3]).trans hx2);have HR3:=ab ((show W3.heap[w.heap.size+1]?=_ by rw [hW3]).trans hr2);have HQ3:Hid (Gx (fun k=>k=gb) w W3):=ab (by rw [hW3];exact hq2);have HZ3:Hid (W3.heap.size=W1.heap.size+1):=ab (by rw [hW3];exact hz2);clear hW3
 all_goals
  have HG0:=ab hG0;have HNE:=ab hgne;clear c0 c0f f0 f1 f2 f3 f4 f5 f6 f7 hx2 hx2' hp2 hr2 hg2 hb2 hz2 hq2 hbb hG0 hgne;have f7:W3.cell? ⟨w.heap.size,7,none⟩=some (.slice ka ks.length kc):=by rw [Cv HX3.out];rfl
  go_upto_region 5 with fail
  clear f7;obtain⟨bp,hbp⟩:∃bp,bp=W1.heap.size:=⟨_,rfl⟩;rw [←hbp] at HP3 HZ3 ⊢;have hzp:bp=w.heap.size+1+1:=by rw [hbp];exact HZ1.out
  have HZP:=ab hzp;rw [←hbp] at HNE;clear hbp hzp;go_loopw [24] (fun q wr=>LdRel (fun v=>pbox kd c ng ra rs.length rc lo hi lz ka ks.length kc v g 0) S w gb bp G0 ks q wr) (fun q _=>ks.length-(intOf q).toNat)
  case atStart=>exact⟨0,.slice none 0 0,by omega,rfl,ab (by simpa [Rx.groupsL] using HG3.out),HP3,ab (OwnP.nil _ _ _ _),HQ3,ab (by rw [HZ3.out];omega),HR3⟩
  case round =>
   obtain⟨i,v,hile,rfl,HGI,HPI,HOI,HQI,HZI,HRI⟩:=hrel;unfold pbox at HPI;clear HG3 HP3 HQ3 HX3 HZ3 HR3;cases hd:ks.drop i with
   | nil =>
    have hie:i=ks.length:=by
     have:ks.length≤i:=gU
     omega
    rw [hie,List.take_length] at HGI HOI;obtain⟨G,hG⟩:∃G,G0+Rx.groupsL ks=G:=⟨_,rfl⟩;rw [hG] at HGI;obtain⟨va,vc,rfl,hvc⟩:=HOI.out.form;have c0:=jY HGI.out;have s10:wr.cell? ⟨bp,10,none⟩=some (.int .i64 0):=by rw [Cv HPI.out];rfl
    have s10f:wr.frozen? ⟨bp,10,none⟩=false:=by simp only [World.frozen?,HPI.out];simp
    obtain⟨Wa,hWa⟩:∃Wa,Wa=wr.setCell ⟨bp,10,none⟩ (.int .i64 (G:Int)):=⟨_,rfl⟩;have hpa:Wa.heap[bp]?=some (.cells (ptc kd c ng ra rs.length rc lo hi lz ka ks.length kc va ks.length vc g G).toArray 121 (0,0)):=by rw [hWa,heap_setCell_same _ _ _ _ _ _ HPI.out];rfl
    have hra:Wa.heap[w.heap.size+1]?=some (.cells #[.int .i64 0,.string ⟨#[]⟩,.bool false,.slice none 0 0,.int .i64 0,.int .i64 0,.bool false,.slice none 0 0,.slice none 0 0,.int .i64 0,.int .i64 0] 121 (0,0)):=by rw [hWa,heap_setCell_other _ _ _ _ (by show w.heap.size+1≠bp;have:=HZP.out;omega)];exact HRI.out
    have hga:Wa.heap[gb]?=some (.cells #[.int .i64 (G:Int)] 3 (0,0)):=by rw [hWa,heap_setCell_other _ _ _ _ HNE.out.1];exact HGI.out
    have hqa:Gx (fun k=>k=gb) w Wa:=by
     rw [hWa];refine HQI.out.to (Gx.set (X:=fun k=>k=bp) wr (a:=⟨bp,10,none⟩) _ rfl) (fun k hk h=>?_);have:=HZP.out
     have:k=bp:=h
     omega
    have hGx:G=g+own5 kd+Rx.groupsL ks:=by rw [←hG,HG0.out]
    have hks:=(HOI.out.gx (X:=fun k=>k=bp) (show Gx (fun k=>k=bp) wr Wa by rw [hWa];exact Gx.set wr (a:=⟨bp,10,none⟩) _ rfl) (fun b hb e=>by have:=HZP.out;rcases hb with hb|hb<;>omega) (fun k hk e=>by
     obtain⟨cs8,h8,_⟩:=HOI.out;have:=(h8.lt k hk).1;omega)).sl.2
    have hrs:=(HRS.out.keep (HQI.out.kept (S:=S) fun b hb e=>hSg (e▸hb)));have hv:PtV Wa (fun b=>(S b∧b<w.heap.size)∨w.heap.size+1+1≤b) (ptc kd c ng ra rs.length rc lo hi lz ka ks.length kc va ks.length vc g G) (.mk kd c ng rs lo hi lz ks) g:=by
     have hz:=HZP.out;obtain⟨css,e1,e2⟩:=hks;rw [hGx];rw [HG0.out] at e2;refine .mk (SlS.mono (S:=fun b=>S b∧b<w.heap.size) ?_ fun b hb _=>.inl hb) (e1.mono fun b hb _=>by rcases hb with(hb|hb)|hb;exact .inl hb;exact .inr gu;exact .inr gu) hvc (e2.mono fun b hb _=>by rcases hb with(hb|hb)|hb;exact .inl hb;exact .inr gu;exact .inr gu);have h1:SlS w (fun b=>S b∧b<w.heap.size) ra 2 rs.length (jX rs):=HRS.out.mono fun b h1 h2=>⟨h1,h2⟩
     refine(h1.keep (hqa.kept (S:=fun b=>S b∧b<w.heap.size) fun b hb e=>hSg (e▸hb.1)))
    have HGX:=ab hGx;have HPA:=ab hpa;have HRA:=ab hra;have HGA:=ab hga;have HQA:=ab hqa;have HV:=ab hv;have HWA:Hid (wr.setCell ⟨bp,10,none⟩ (.int .i64 (G:Int))=Wa):=ab hWa.symm;clear hd HGI HPI HOI HQI HRI hpa hra hga hqa hks hrs hv hWa hGx hG;go_upto_region 10 with fail
    rw [HWA.out];clear c0 s10 s10f HWA;go_wp2_with (first
     | (refine kF rfl 121 (.tmp 5) rfl (bp) 0 rfl ((ptc kd c ng ra rs.length rc lo hi lz ka ks.length kc va ks.length vc g G)) _ (kJ (ds:=[]) ((by rw [C2];exact HPA.out))) xZ rfl (by rw [um];rfl) ?_)
     | (refine kE rfl 121 (.tmp 4) (.tmp 41) rfl ((w.heap.size+1)) ((ptc kd c ng ra rs.length rc lo hi lz ka ks.length kc va ks.length vc g G).toArray) rfl rfl 121 _ (HRA.out) (um) rfl rfl ((fun u hu=>HV.out.one u (by simpa using hu))) (W:=(Wa.setRow (w.heap.size+1) (ptc kd c ng ra rs.length rc lo hi lz ka ks.length kc va ks.length vc g G).toArray)) (rfl) ?_))
    have hres:=lC (cs:=(ptc kd c ng ra rs.length rc lo hi lz ka ks.length kc va ks.length vc g G).toArray) HRA.out;refine CJ (results_cell_row Tryz.results95 _ _ (w.heap.size+1) _ _ _ _ rfl hres xZ rfl um) rfl ?_;have hkr:Kept (fun b=>(S b∧b<w.heap.size)∨w.heap.size+1+1≤b) Wa (Wa.setRow (w.heap.size+1) (ptc kd c ng ra rs.length rc lo hi lz ka ks.length kc va ks.length vc g G).toArray):=⟨by rw [oB];exact Cp _,fun b hb _=>lY _ (by rcases hb with hb|hb<;>omega)⟩;refine⟨_,rfl,(HV.out.keep hkr).mono fun b hb _=>by rcases hb with hb|hb;exact .inl hb;exact .inr gu,?_,?_⟩
    ·rw [lY _ gu,HGA.out,HGX.out]
     simp only [Rx.groups,own5,CY]
    ·refine HQA.out.to (qD Wa (w.heap.size+1) _) (fun k hk h=>?_)
     have:k=w.heap.size+1:=h
     omega
   | cons y r =>
    obtain⟨h2,h3,hr⟩:=j6 hd;obtain⟨e1,e2⟩:=ox ks i y h3;have HEY:=ab (show ks[i]?.toList=[y] by rw [h3];rfl);have hkk:=HKS.out.keep (HQI.out.kept (S:=fun b=>S b∧b<w.heap.size) fun b hb e=>hSg (e▸hb.1));have hiy:=HIH.out y (CF h3);obtain⟨yk,yc,yn,yr,yl,yh,yz,ys⟩:=y;obtain⟨b,o,ya,yrc,yka,ykc,rfl,_,_,_,_,hyv,k0,k1,k2,k3,k4,k5,k6,k7⟩:=hkk.cells h3;obtain⟨GI,hGI⟩:∃GI,G0+Rx.groupsL (ks.take i)=GI:=⟨_,rfl⟩;rw [hGI] at HGI;have hgI:GI+(Rx.mk yk yc yn yr yl yh yz ys).groups≤1000000:=by
     have:=HG0.out;simp only [Rx.groups,own5] at hgl this;rw [←hGI];simp only [Rx.groups] at e2 ⊢;omega
    obtain⟨va,vc,rfl,_⟩:=HOI.out.form;have hil:(ks.take i).length=i:=by rw [CK];omega
    rw [hil] at HPI HOI;obtain⟨wk,hwk⟩:∃wk,wk=wr.alloc (.cells (rxc yk yc yn ya yr.length yrc yl yh yz yka ys.length ykc).toArray 25):=⟨_,rfl⟩;have hbk:Below wr.heap.size wr wk:=by rw [hwk];exact(Below.refl _ _).alloc (Cp _) _
    have hxk:wk.heap[wr.heap.size]?=some (.cells (rxc yk yc yn ya yr.length yrc yl yh yz yka ys.length ykc).toArray 25 (0,0)):=by rw [hwk];exact heap_alloc_new wr _
    have hgk:=(hbk.block _ (jO HGI.out)).trans HGI.out;have hpk:=(hbk.block _ (jO HPI.out)).trans HPI.out;have hok:=HOI.out.later hbk;have hdk:Below wk.heap.size wk wk.drew:=(Below.refl _ _).drew;have hC:=hiy (fun b=>S b∧b<w.heap.size) _ wk.drew gb GI ((hyv.later hbk).later hdk) hgk (fun h=>hSg h.1) hgI;have HC:=ab hC;have HWK:=ab hwk;have HPK:=ab hpk;have HRK:=ab ((hbk.block _ (jO HRI.out)).trans HRI.out);have HOK:=ab hok;have HQK:Hid (Gx (fun k=>k=gb) w wk):=ab (HQI.out.to (Gx.of_below (X:=fun k=>k=gb) hbk) (fun _ _ h=>h));have hzk:wk.heap.size=wr.heap.size+1:=by rw [hwk];simp
    have HZK:=ab hzk;have hxk':=hxk;unfold rxc at hxk' HC HWK;obtain⟨m0,m1,m2,m3,m4,m5,m6,m7,_⟩:=jR hxk';have m8:wk.cell? ⟨bp,8,none⟩=some (.slice va i vc):=by rw [Cv hpk];rfl
    clear hC hwk hbk hxk hxk' hgk hpk hok hyv hiy hkk HGI HPI HOI HQI HRI hd hzk;go_upto_region 7 with fail
    rw [←HWK.out];clear k0 k1 k2 k3 k4 k5 k6 k7 HWK;obtain⟨ip,hip⟩:=info_parts Ai;have HGI2:=ab hGI;have HIL:=ab hil;clear hGI hil;go_region_law (first
     | (go_simp;go_at_call 95;refine HC.out.mono ?_;rintro e w9 ⟨pc,rfl,hpv,hg9,hx9⟩;have m9:w9.cell? ⟨bp,8,none⟩=some (.slice va i vc):=(by rw [Cv (hx9.heap HPK.out (fun e=>HNE.out.1 e.symm))];rfl);obtain⟨css,hl1,hl2,hl3,hl4⟩:=laid_app (HOK.out.later hdk) hx9 hpv HGI2.out (by have:=HZP.out;omega) (fun b hb=>⟨by have:=HZP.out;omega,fun e=>hSg (e▸hb.1)⟩) (by have:=HZI.out;have:=HZK.out;simp;omega) HIL.out.symm;have HL1:=ab hl1;have HL2:=ab hl2;have HL3:=ab hl3;have HL4:=ab hl4;have HPV:=ab hpv;have HG9:=ab hg9;have HX9:=ab hx9;clear hl1 hl2 hl3 hl4 hg9 hx9;have m9b:=jP ((Below.refl w9.heap.size w9).alloc (Cp _) (.cells pc.toArray 121)) _ _ m9;obtain⟨qa,qc,qka,qkn,qkc,qpa,qpc,hqe,_,_,_⟩:=hpv.open_;generalize GI+own5 yk+Rx.groupsL ys=gq at hqe;subst hqe;unfold ptc at m9b ⊢)
     | (refine BJ (bp+1) 121 rfl _ _ 119 rfl Tryz.underlying119 hip rfl gD rfl HL1.out rfl HL4.out (HPV.out.one) gu gu gD (by have:=HX9.out.size;have:=HZI.out;have:=HZK.out;simp at *;omega) ?_;intro v8 w8 ho8 hg8 hb8 hm8;have hp8:=wY (wk:=wk.drew) HPK.out HX9.out HNE.out.1.symm hg8 HL1.out (Nat.lt_succ_self bp);obtain⟨a8,c8,rfl⟩:=j7 ho8;have s8:w8.cell? ⟨bp,8,none⟩=some (.slice va i vc):=(by rw [Cv hp8];rfl);have s8f:w8.frozen? ⟨bp,8,none⟩=false:=(by simp only [World.frozen?,hp8];simp);have HP8:=ab hp8;clear hp8;have HO8:=ab (OwnP.app HL2.out HL3.out (by rw [HIL.out];exact ho8) hg8 hm8);have HG8:=ab hg8;clear ho8 hg8 hb8 hm8))
    all_goals
     have hgb8:w8.heap[gb]?=some (.cells #[.int .i64 ((GI+(Rx.mk yk yc yn yr yl yh yz ys).groups:Nat):Int)] 3 (0,0)):=wY (wk:=w9) HG9.out (Gx.refl (fun k=>k=bp) w9) HNE.out.1 HG8.out HL1.out (by have:=HZP.out;omega);have hbv:=HL1.out.lt;obtain⟨W9,hW9⟩:∃W9,W9=(w8.setCell ⟨bp,8,none⟩ (.slice a8 (i+1) c8)):=⟨_,rfl⟩;have HGI':Hid (W9.heap[gb]?=some (.cells #[.int .i64 ((G0+Rx.groupsL (ks.take (i+1)):Nat):Int)] 3 (0,0))):=ab (by
      rw [hW9,heap_setCell_other _ _ _ _ HNE.out.1,hgb8,e1,←CY,HGI2.out])
     have HPI':Hid (W9.heap[bp]?=some (pbox kd c ng ra rs.length rc lo hi lz (some ⟨b,o,none⟩) ks.length kc (.slice a8 (i+1) c8) g 0)):=ab (by rw [hW9,heap_setCell_same _ _ _ _ _ _ HP8.out];rfl);have HRI':Hid (W9.heap[w.heap.size+1]?=some (.cells #[.int .i64 0,.string ⟨#[]⟩,.bool false,.slice none 0 0,.int .i64 0,.int .i64 0,.bool false,.slice none 0 0,.slice none 0 0,.int .i64 0,.int .i64 0] 121 (0,0))):=ab (by
      rw [hW9,heap_setCell_other _ _ _ _ (by show w.heap.size+1≠bp;have:=HZP.out;omega)];exact wY (wk:=wk.drew) HRK.out HX9.out (by have:=HNE.out;omega) HG8.out HL1.out (by have:=HZP.out;omega))
     have HOI':Hid (OwnP W9 (bp+1) (fun b=>(S b∧b<w.heap.size)∨bp+1≤b) (.slice a8 (i+1) c8) (ks.take (i+1)) G0):=ab (by
      have h:=HO8.out.gx (X:=fun k=>k=bp) (Gx.set w8 (a:=⟨bp,8,none⟩) (.slice a8 (i+1) c8) rfl) (fun b hb e=>by have:=HZP.out;rcases hb with hb|hb<;>omega) (fun k hk e=>by
       obtain⟨cs8,h8,_⟩:=HO8.out;have:=(h8.lt k hk).1;omega)
      rw [hW9,List.take_add_one,HEY.out];exact h)
     have HQI':Hid (Gx (fun k=>k=gb) w W9):=ab (by
      have hz:=HZP.out;rw [hW9];refine(((HQK.out.to (Gx.of_below (X:=fun k=>k=gb) hdk) (fun _ _ h=>h)).to HX9.out (fun _ _ h=>h)).to (Gx.of_below (X:=fun k=>k=gb) ((Below.refl _ _).alloc (Cp _) _)) (fun _ _ h=>h)).to ((Gx.of_grown (X:=fun k=>bp≤k) HG8.out (fun k hk=>by have:=(hbv k hk).1;omega)).to (Gx.set (X:=fun k=>bp≤k) w8 (a:=⟨bp,8,none⟩) _ (Cp bp)) (fun _ _ h=>h)) (fun k hk h=>?_)
      have:bp≤k:=h
      omega)
     have HZI':Hid (bp+1≤W9.heap.size):=ab (by have:=jO HPI'.out;omega);rw [←hW9];clear hgb8 hbv hW9 s8 s8f HG8 HP8 HO8 HL1 HL2 HL3 HL4 HPV HG9 HX9 m0 m1 m2 m3 m4 m5 m6 m7 m8 m9 m9b;go_wp2
     go_roundw
     case rel=>exact⟨i+1,.slice a8 (i+1) c8,by omega,by go_num,HGI',HPI',HOI',HQI',HZI',HRI'⟩
     case measure=>simp [intOf];omega
theorem xV:∀(N:Nat) (x:Rx),x.parts≤N→x.small→LaidC x
 | 0,x,h,_=>by have:=Rx.parts_pos x;omega
 | N+1,.mk kd c ng rs lo hi lz ks,h,hsm=>by
  obtain⟨⟨_,_,_,s4⟩,hsmL⟩:=hsm;simp only [Rx.parts] at h;exact Az (fun y hy=>xV N y iG (lK hsmL hy)) s4
structure RunJ (R:Rn) (w:World) (st:Rst):Prop where
 box:w.heap[R.r]?=some (.cells (R.cells st).toArray 123 (0,0))
 ps:w.ownsRow R.B 48 2 R.pv R.n (jV st.ps)
 ch:SlS w R.S R.ca 1 R.C.cs.length (kv R.C.cs)
 of:SlS w R.S R.oa 1 (R.C.cs.length+1) (mg R.C.offs)
 fu:st.fuel≤20000
structure RnJ (R:Rn):Prop where
 tp:R.tp.length=11
 one:∀u∈R.tp,u.oneCell'=true
 cs:R.C.cs.length≤1000000
 ch:∀c∈R.C.cs,c.length≤1000000
 of:R.C.offs.length=R.C.cs.length+1
 ov:∀o∈R.C.offs,o≤1000000
 pr:R.pv.ownBlock≠some R.r
 sr:∀b,R.S b→b≠R.r∧R.pv.ownBlock≠some b
 n:R.n≤1000
def Rn.at_ (R:Rn) (t:Nat):Rn:={ R with t:=t }
def Rn.Y (R:Rn) (k:Nat):Prop:=k=R.r∨R.pv.ownBlock=some k
theorem RunJ.lt {R:Rn} {w:World} {st:Rst} (h:RunJ R w st):R.r<w.heap.size∧∀k,R.pv.ownBlock=some k→k<w.heap.size:=⟨jO h.box,fun k hk=>(h.ps.lt k hk).2⟩
theorem RnJ.ok {R:Rn} (h:RnJ R) {t:Nat} (h1:R.r≠t) (h2:R.pv.ownBlock≠some t) (h3:¬R.S t):RnOk (R.at_ t) :=
 ⟨h.tp,h.one,h.cs,h.ch,h.of,h.ov,h1,h.pr,h2,fun b hb e=>by
  rcases e with e|e|e
  ·exact(h.sr b hb).1 e
  ·exact h3 ((show b=t from e)▸hb)
  ·exact(h.sr b hb).2 e,h.n⟩
theorem RunJ.later {R:Rn} {w w':World} {st:Rst} (h:RunJ R w st) (hb:Below w.heap.size w w'):RunJ R w' st :=
 ⟨(hb.block _ (jO h.box)).trans h.box,kL h.ps hb,h.ch.keep (Kept.all hb),h.of.keep (Kept.all hb),h.fu⟩
theorem RunJ.open {R:Rn} {w:World} {st:Rst} (h:RunJ R w st) {t:Nat} (ht:w.heap[t]?=some (.cells #[.int .i64 st.en] 3 (0,0))):RunI (R.at_ t) w st:=⟨h.box,ht,h.ps,h.ch,h.of,h.fu⟩
theorem RunI.close {R:Rn} {w:World} {st:Rst} {t:Nat} (h:RunI (R.at_ t) w st):RunJ R w st:=⟨h.box,h.ps,h.ch,h.of,h.fu⟩
theorem RunJ.en {R:Rn} {w:World} {st:Rst} (h:RunJ R w st) (e:Int):RunJ R w { st with en:=e }:=⟨h.box,h.ps,h.ch,h.of,h.fu⟩
theorem oneW {R:Rn} (ok:RnOk R) (w0:World) (k:Nat) :
  KW R w0 k (.func (.func 130) #[] #[.pointer (some ⟨R.t,0,none⟩)]) (fun e s=>(true,{ s with en:=(e:Int) })):=by
 refine⟨_,_,rfl,enters_of Tryz.func130 gE rfl,fun w st e hx hr hk he=>?_⟩;have c0:=jY hr.tb;have f0:w.frozen? ⟨R.t,0,none⟩=false:=by simp only [World.frozen?,hr.tb];simp
 have hfx:Fx R w (w.setCell ⟨R.t,0,none⟩ (.int .i64 (e:Int))):=Gx.set w _ (.inr (.inl rfl));have hk2:=Fx.kept ok hfx;have HRI:Hid (RunI R (w.setCell ⟨R.t,0,none⟩ (.int .i64 (e:Int))) { st with en:=(e:Int) }):=ab
  ⟨(heap_setCell_other w _ _ _ ok.rt).trans hr.box,by rw [heap_setCell_same _ _ _ _ _ _ hr.tb];rfl,
   pe (X:=fun k=>k=R.t) hr.ps (Gx.set w _ rfl) (fun k hk e=>ok.pt (by rw [hk,e])),hr.ch.keep hk2,hr.of.keep hk2,hr.fu⟩
 have HFX:=ab hfx;clear hr hx hfx hk2 ok;show Calls Tryz.prog 130 #[.int .i64 (e:Int),.pointer (some ⟨R.t,0,none⟩)] w _
 go_enter Tryz.func130,Tryz.ntmps130
 go_wp2
 go_ret
 exact⟨rfl,HRI.out,HFX.out⟩
def NoneRow (w:World) (B b n cap:Nat) (ps:List (Int × Int)) (q:Value) (wr:World):Prop :=
 ∃k:Nat,k≤n∧q=.int .i64 k∧wr.ownsRow B 48 2 (.slice (some ⟨b,0,none⟩) n cap) n (jV (kA ps 0 k))∧Gx (fun k=>k=b) w wr
theorem zC (ps:List (Int × Int)):kA ps 0 ps.length=List.replicate ps.length (-1,-1):=by simp [kA]
theorem none_row {B b n cap:Nat} {ps:List (Int × Int)} (w:World) (h:w.ownsRow B 48 2 (.slice (some ⟨b,0,none⟩) n cap) n (jV ps)) (hn:n≤1000) :
  Calls Tryz.prog 128 #[.slice (some ⟨b,0,none⟩) n cap] w fun e w'=>e=.returned (.tuple #[])∧w'.ownsRow B 48 2 (.slice (some ⟨b,0,none⟩) n cap) n (jV (List.replicate n (-1,-1)))∧Gx (fun k=>k=b) w w':=by
 have hl:ps.length=n:=by have:=h.1;rw [kC] at this;omega
 have H0:Hid (w.ownsRow B 48 2 (.slice (some ⟨b,0,none⟩) n cap) n (jV (kA ps 0 0))):=ab (by rw [nU];exact h);have HL:=ab hl;clear h hl;go_enter Tryz.func128,Tryz.ntmps128
 go_wp2
 go_loopw [5] (fun q wr=>NoneRow w B b n cap ps q wr) (fun q _=>n-(intOf q).toNat)
 case atStart=>exact⟨0,by omega,rfl,H0.out,Gx.refl _ _⟩
 case round =>
  obtain⟨k,hk,rfl,ho,hx⟩:=hrel;clear H0;by_cases hlt:k<n
  ·have hpl:(kA ps 0 k).length=n:=by rw [qA _ _ _ (Nat.zero_le _) (by rw [HL.out];omega),HL.out]
   obtain⟨e1,e2⟩:=oK (Cn (show k<(kA ps 0 k).length by omega));have c1:=(ho.cellAt (k*2) gu).trans e1;have c2:=(ho.cellAt (k*2+1) gu).trans e2;have f1:=ho.frozenAt (k*2);have f2:=ho.frozenAt (k*2+1);have hs:=((ho.stored (k*2) (.int .i64 (-1))).1.stored (k*2+1) (.int .i64 (-1))).1;rw [oP _ k (-1,-1) gu] at hs;have hst:=py ps 0 k (by rw [HL.out];omega);simp only [Nat.zero_add,mG] at hst;rw [hst] at hs;have hx2:Gx (fun k=>k=b) w ((wr.setCell ⟨b,k*2,none⟩ (.int .i64 (-1))).setCell ⟨b,k*2+1,none⟩ (.int .i64 (-1))) :=
    (hx.to (Gx.set (X:=fun k=>k=b) wr (a:=⟨b,k*2,none⟩) _ rfl) (fun _ _ h=>h)).to (Gx.set (X:=fun k=>k=b) _ (a:=⟨b,k*2+1,none⟩) _ rfl) (fun _ _ h=>h)
   have HS:=ab hs;have HX:=ab hx2;clear e1 e2;generalize (kA ps 0 k)[k]' gu=pk at c1 c2
   clear hs hx2 hst hpl ho hx;go_wp2_with (fail)
   go_roundw
   case rel=>exact⟨k+1,by omega,by go_num,HS.out,HX.out⟩
   case measure=>simp [intOf];omega
  ·have e:k=n:=gu
   subst e;have HR:Hid (wr.ownsRow B 48 2 (.slice (some ⟨b,0,none⟩) k cap) k (jV (List.replicate k (-1,-1)))):=ab (by
    have:=zC ps;rw [HL.out] at this;rw [←this];exact ho)
   clear ho;go_wp2_with (fail)
   go_end0
   exact⟨rfl,HR.out,hx⟩
theorem none_all {R:Rn} (j:RnJ R) {w:World} {st:Rst} (h:RunJ R w st) :
  Calls Tryz.prog 128 #[.slice R.pa R.n R.pc] w fun e w'=>e=.returned (.tuple #[])∧RunJ R w' { st with ps:=List.replicate R.n (-1,-1) }∧Gx R.Y w w':=by
 rcases Nat.eq_zero_or_pos R.n with h0|h0
 ·have hps:=h.ps
  have hz:jV st.ps=[]:=Cm (by rw [hps.1,h0]);rw [h0];refine(xM R.pa R.pc w).mono fun e w2 ⟨e1,e2⟩=>?_
  subst e2;exact⟨e1,⟨h.box,by rw [hz] at hps;exact hps,h.ch,h.of,h.fu⟩,Gx.refl _ _⟩
 ·have hps:=h.ps
  obtain⟨b,hb⟩:∃b,R.pa=some ⟨b,0,none⟩:=by
   rcases hps.2 with⟨_,h1⟩|⟨g,cap,cur,hv,_⟩
   ·omega
   ·injection hv with hv _ _;exact⟨g,hv⟩
  have hpv:R.pv.ownBlock=some b:=by unfold Rn.pv;rw [hb];rfl
  unfold Rn.pv at hps;rw [hb] at hps ⊢;refine(none_row w hps j.n).mono fun e w2 ⟨e1,e2,e3⟩=>?_
  have hk:Kept R.S w w2:=e3.kept fun b' hb' e=>(j.sr b' hb').2 (by rw [hpv,e])
  refine⟨e1,⟨Gx.heap e3 h.box (fun e=>j.pr (by rw [hpv,e])),by unfold Rn.pv;rw [hb];exact e2,h.ch.keep hk,h.of.keep hk,h.fu⟩,⟨e3.os,e3.tape,e3.output,e3.size,fun k hk hy=>e3.block k hk (fun e=>hy (.inr (by rw [hpv,e])))⟩⟩
theorem AH {P:Program} {o:Oper} {a:Act} {w:World} {K:Act→World→Prop} {Q:Exit→Act→World→Prop} (h:o.wp P a w K (Exit.then K Q)):o.wp P a w K Q:=by
 exact bL
theorem zX {P:Program} {o:Oper} {a:Act} {w:World} {K K1 K2:Act→World→Prop} {Q:Exit→Act→World→Prop} (h:o.wp P a w K (Exit.then K1 Q)):o.wp P a w K (Exit.then K2 Q):=by
 exact bL
def open_ (ops:Array Oper) (listed:Array Bool):Nat:=((List.range ops.size).filter fun j=>!listed.getD j true).length
theorem xO {ops:Array Oper} {listed:Array Bool} {i:Nat} (hi:i<ops.size) (hs:listed.size=ops.size) (h:listed.getD i true=false):open_ ops (listed.setIfInBounds i true)<open_ ops listed:=by
 unfold open_;have e:((List.range ops.size).filter fun j=>!(listed.setIfInBounds i true).getD j true)=((List.range ops.size).filter fun j=>!listed.getD j true).filter fun j=>decide (j≠i):=by
  rw [List.filter_filter];apply List.filter_congr
  intro j hj;by_cases hji:j=i
  ·subst hji
   have:(listed.setIfInBounds j true).getD j true=true:=by simp [Array.getD_eq_getD_getElem?,hs]
   rw [this];simp
  ·have:(listed.setIfInBounds i true).getD j true=listed.getD j true:=by
    simp only [Array.getD_eq_getD_getElem?];rw [Array.getElem?_setIfInBounds_ne (Ne.symm hji)]
   rw [this];simp [hji]
 rw [e,List.length_filter_lt_length_iff_exists];exact⟨i,List.mem_filter.2 ⟨List.mem_range.2 hi,by rw [h];rfl⟩,by simp⟩
def lp (o:Oper) (L:Nat→Bool):Prop:=∀e∈o.after,Region.binds .any e=true→L e.on=true
theorem put_self (a:Act) (d:Nat):a.put (some d) (a.tmps.getD d undef)=a:=by
 have e:a.tmps.setIfInBounds d (a.tmps.getD d undef)=a.tmps:=by
  apply Array.ext_getElem?
  intro i;by_cases h:d=i
  ·subst h
   by_cases hd:d<a.tmps.size
   ·rw [Array.getElem?_setIfInBounds_self_of_lt hd,Array.getElem?_eq_getElem hd,Array.getD_eq_getD_getElem?,Array.getElem?_eq_getElem hd];rfl
   ·rw [Array.getElem?_eq_none gU,Array.getElem?_eq_none gU]
  ·rw [Array.getElem?_setIfInBounds_ne h]
 show ({ a with tmps:=a.tmps.setIfInBounds d (a.tmps.getD d undef) }:Act)=a
 rw [e]
def oZ:List Nat→Nat→(Nat→Value)→Act→Act
 | [],_,_,a=>a
 | d::ds,k,V,a=>oZ ds (k+1) V (a.put (some d) (V k))
theorem sL (a:Act):∀(ds:List Nat) (k:Nat) (V:Nat→Value),(∀i d,ds[i]?=some d→V (k+i)=a.tmps.getD d undef)→oZ ds k V a=a
 | [],_,_,_=>rfl
 | d::ds,k,V,h=>by
  have h0:=h 0 d rfl;simp only [oZ];rw [show V k=a.tmps.getD d undef from h0,put_self];exact sL a ds (k+1) V fun i d' hi=>by have:=h (i+1) d' (by simpa using hi);rw [show k+(i+1)=k+1+i by omega] at this;exact this
theorem Cc (a:Act) (ds:List Nat):∃V:Nat→Value,a=oZ ds 0 V a:=by
 refine⟨fun i=>a.tmps.getD (ds.getD i 0) undef,(sL a ds 0 _ fun i d hi=>?_).symm⟩;have e:ds.getD i 0=d:=by rw [List.getD_eq_getElem?_getD,hi];rfl
 simp only [Nat.zero_add,e]
def upd (V:Nat→Value) (i:Nat) (v:Value):Nat→Value:=fun j=>if j=i then v else V j
def vK (ops:Array Oper):Bool:=(List.range ops.size).all fun i=>((ops[i]?).map fun o=>o.after.all fun e=>!Region.binds .any e||decide (e.on<i)).getD true
theorem AC {ops:Array Oper} (h:vK ops=true) {i:Nat} {o:Oper} (ho:ops[i]?=some o):∀e∈o.after,Region.binds .any e=true→e.on<i:=by
 have hi:i<ops.size:=(Array.getElem?_eq_some_iff.1 ho).1;have h1:=List.all_eq_true.1 h i (List.mem_range.2 hi);rw [ho] at h1;simp only [Option.map_some,Option.getD_some,Array.all_eq_true_iff_forall_mem] at h1;intro e he hb;have:=h1 e he
 rw [hb] at this;simpa using this
theorem v6 {ops:Array Oper} (hB:vK ops=true) {listed:Array Bool} (h:Region.ready .any ops listed=[]) (hs:listed.size=ops.size):∀i,i<ops.size→listed.getD i false=true:=by
 intro i;induction i using Nat.strongRecOn with
 | ind i ih =>
  intro hi;cases hl:listed.getD i false with
  | true=>rfl
  | false =>
   exfalso;obtain⟨o,ho⟩:∃o,ops[i]?=some o:=⟨_,Array.getElem?_eq_getElem hi⟩;have hm:i∈Region.ready .any ops listed:=by
    rw [mem_ready];refine⟨?_,o,ho,fun e he hb=>?_⟩
    ·have hls:i<listed.size:=gu
     simp only [Array.getD_eq_getD_getElem?,Array.getElem?_eq_getElem hls,Option.getD_some] at hl ⊢;exact hl
    ·have hlt:=AC hB ho e he hb
     exact ih e.on hlt gu
   rw [h] at hm;cases hm
theorem oper_to {P:Program} {o:Oper} {a:Act} {w:World} {K K2:Act→World→Prop} {Q:Exit→Act→World→Prop} (h:o.wp P a w K Q):o.wp P a w K (Exit.then K2 Q):=by
 exact bL
theorem wJ {P:Program} {ops:Array Oper} {Q:Exit→Act→World→Prop} (hB:vK ops=true) (I:(Nat→Bool)→Act→World→Prop)
  (hstep:∀(L:Nat→Bool) (i:Nat) (o:Oper) (a:Act) (w:World),ops[i]?=some o→L i=false→(∀e∈o.after,Region.binds .any e=true→L e.on=true)→I L a w →
   wpList P ops (Exit.then (fun a' w'=>I (fun j=>L j||j==i) a' w') Q) [o] a w)
  (hend:∀(L:Nat→Bool) (a:Act) (w:World),(∀i,i<ops.size→L i=true)→I L a w→Q .normal a w) :
  ∀(fuel:Nat) (listed:Array Bool) (L:Nat→Bool) (a:Act) (w:World),listed.size=ops.size→open_ ops listed≤fuel→(∀j,L j=listed.getD j false)→I L a w→wpAny P .any ops Q fuel listed a w:=by
 have fin:∀(listed:Array Bool) (L:Nat→Bool) (a:Act) (w:World),listed.size=ops.size→(∀j,L j=listed.getD j false)→I L a w→Region.ready .any ops listed=[]→Q .normal a w :=
  fun listed L a w hs hL h hr=>hend _ a w (fun i hi=>by rw [hL];exact v6 hB hr hs i hi) h
 intro fuel;induction fuel with
 | zero =>
  intro listed L a w hs hf hL h;have hr:Region.ready .any ops listed=[]:=by
   apply List.eq_nil_iff_forall_not_mem.2
   intro i hi;obtain⟨h1,o,ho,_⟩:=mem_ready.1 hi;have hlt:=(Array.getElem?_eq_some_iff.1 ho).1;have:=xO hlt hs h1
   omega
  exact⟨hr,fin listed L a w hs hL h hr⟩
 | succ fuel ih =>
  intro listed L a w hs hf hL h;refine⟨fin listed L a w hs hL h,fun i hi=>?_⟩;obtain⟨h1,o,ho,hall⟩:=mem_ready.1 hi;have hlt:=(Array.getElem?_eq_some_iff.1 ho).1;have hd:=xO hlt hs h1;have hls:i<listed.size:=gu;have hLi:L i=false:=by
   rw [hL];simp only [Array.getD_eq_getD_getElem?,Array.getElem?_eq_getElem hls,Option.getD_some] at h1 ⊢;exact h1
  have hst:=hstep L i o a w ho hLi (fun e he hb=>by rw [hL];exact hall e he hb) h;have key:∀a' w',I (fun j=>L j||j==i) a' w'→wpAny P .any ops Q fuel (listed.setIfInBounds i true) a' w':=fun a' w' h' =>
   ih _ (fun j=>L j||j==i) a' w' (by simpa using hs) gu (fun j=>by
    by_cases hji:j=i
    ·subst hji
     simp [Array.getD_eq_getD_getElem?,hls]
    ·have e1:(j==i)=false:=CM.2 hji
     rw [e1,Bool.or_false,hL];simp only [Array.getD_eq_getD_getElem?];rw [Array.getElem?_setIfInBounds_ne (Ne.symm hji)]) h'
  unfold wpOp;rw [ho];show if Region.wanted o (yielded ops a.tmps)=true then _ else _
  unfold wpList at hst;by_cases hw:Region.wanted o (yielded ops a.tmps)=true
  ·rw [Cl hw] at hst ⊢
   rcases hst with h2|⟨h2,h3⟩
   ·exact .inl (Oper.wp_mono key (AH h2))
   ·exact .inr ⟨h2,h3⟩
  ·rw [Co hw] at hst ⊢
   exact key _ _ hst
theorem rG {P:Program} {id:Nat} {ops:Array Oper} {Q:Exit→Act→World→Prop} {a:Act} {w:World} (hm:P.follows .mixedOrders=true) (hB:vK ops=true) (I:(Nat→Bool)→Act→World→Prop)
  (h0:I (fun _=>false) a w.drew)
  (hstep:∀(L:Nat→Bool) (i:Nat) (o:Oper) (a:Act) (w:World),ops[i]?=some o→L i=false→(∀e∈o.after,Region.binds .any e=true→L e.on=true)→I L a w →
   wpList P ops (Exit.then (fun a' w'=>I (fun j=>L j||j==i) a' w') Q) [o] a w)
  (hend:∀(L:Nat→Bool) (a:Act) (w:World),(∀i,i<ops.size→L i=true)→I L a w→Q .normal a w):(Code.region id ops true).wp P Q a w :=
 wp_region_any hm (wJ hB I hstep hend ops.size (Array.replicate ops.size false) (fun _=>false) a w.drew gF (by
  have:=List.length_filter_le (fun j=>!(Array.replicate ops.size false).getD j true) (List.range ops.size)
  simpa [open_] using this) (fun j=>by simp [Array.getD_eq_getD_getElem?,Array.getElem?_replicate];split<;>rfl) h0)
def BR (ops:Array Oper) (n:Nat):Bool:=vK ops&&decide (n<ops.size)&&Region.sinkB .any ops n&&Region.chainB .any ops n
def RelyStepsT (P:Program) (ops:Array Oper) (Q:Exit→Act→World→Prop) (I:(Nat→Bool)→Act→World→Prop):List Oper→Nat→Prop
 | [],_=>True
 | o::rest,i=>(∀(L:Nat→Bool) (a:Act) (w:World),L i=false→lp o L→I L a w→wpList P ops (Exit.then (fun a' w'=>I (fun j=>L j||j==i) a' w') Q) [o] a w)∧RelyStepsT P ops Q I rest (i+1)
theorem RelyStepsT.at_ {P:Program} {ops:Array Oper} {Q:Exit→Act→World→Prop} {I:(Nat→Bool)→Act→World→Prop}:∀{l:List Oper} {k i:Nat} {o:Oper},RelyStepsT P ops Q I l k→l[i]?=some o →
  ∀(L:Nat→Bool) (a:Act) (w:World),L (k+i)=false→lp o L→I L a w→wpList P ops (Exit.then (fun a' w'=>I (fun j=>L j||j==k+i) a' w') Q) [o] a w
 | [],_,_,_,_,h=>by simp at h
 | x::l,k,0,o,hs,h=>by simp at h;subst h;exact hs.1
 | x::l,k,i+1,o,hs,h=>by
  have:=RelyStepsT.at_ (k:=k+1) (i:=i) hs.2 ik
  rw [show k+(i+1)=k+1+i by omega];exact this
def Clo (ops:Array Oper) (L:Nat→Bool):Prop:=∀j o,ops[j]?=some o→L j=true→lp o L
theorem Clo.add {ops:Array Oper} {L:Nat→Bool} (h:Clo ops L) {i:Nat} {o:Oper} (ho:ops[i]?=some o) (hd:lp o L):Clo ops (fun j=>L j||j==i):=by
 intro j oj hj hL e he hb;have key:lp oj L:=by
  by_cases hji:j=i
  ·subst hji
   obtain rfl:oj=o:=by rw [hj] at ho;injection ho
   exact hd
  ·have e1:(j==i)=false:=CM.2 hji
   simp only [e1,Bool.or_false] at hL;exact h j oj hj hL
 simp [key e he hb]
theorem Clo.sink {ops:Array Oper} {L:Nat→Bool} (h:Clo ops L) {n:Nat} {o:Oper} (hs:Region.sinkB .any ops n=true) (ho:ops[n]?=some o) (hd:lp o L):∀(d i:Nat),n-i=d→i<n→L i=true:=by
 intro d;induction d using Nat.strongRecOn with
 | _ d ih =>
  intro i hdi hi;have h1:=List.all_eq_true.1 hs i (List.mem_range.2 hi);obtain⟨j,hj,hj2⟩:=List.any_eq_true.1 h1;simp only [Cs,Cj] at hj2;obtain⟨oj,hoj,e,he,hb,hon⟩:=Region.waitsFor_spec hj2.2;have hjle:j≤n:=by have:=List.mem_range.1 hj;omega
  rw [←hon];by_cases hjn:j=n
  ·subst hjn
   obtain rfl:oj=o:=by rw [hoj] at ho;injection ho
   exact hd e he hb
  ·exact h j oj hoj (ih (n-j) gu j rfl gu) e he hb
theorem ue {ops:Array Oper} {n t:Nat} {o:Oper} (hc:Region.chainB .any ops n=true) (ht:n<t) (ho:ops[t]?=some o) {L:Nat→Bool} (hd:lp o L):L (t-1)=true:=by
 have htl:=(Array.getElem?_eq_some_iff.1 ho).1;have h1:=List.all_eq_true.1 hc t (List.mem_range.2 htl);simp only [CG,Cj] at h1;rcases h1 with h1|h1
 ·omega
 ·obtain⟨o',ho',e,he,hb,hon⟩:=Region.waitsFor_spec h1
  obtain rfl:o'=o:=by rw [ho'] at ho;injection ho
  rw [←hon];exact hd e he hb
theorem wv {P:Program} {ops:Array Oper} {Q:Exit→Act→World→Prop} {o:Oper} {rest:List Oper} {a:Act} {w:World} {K:Act→World→Prop} (h:wpList P ops Q (o::rest) a w) (hK:∀a' w',wpList P ops Q rest a' w'→K a' w') :
  wpList P ops (Exit.then K Q) [o] a w:=by
 unfold wpList at h ⊢;split
 ·rename_i hw
  rw [Cl hw] at h;rcases h with h|⟨h1,h2⟩
  ·exact .inl (oper_to (Oper.wp_mono (K':=wpList P ops (Exit.then K Q) []) (fun a' w' h'=>hK a' w' h') h))
  ·exact .inr ⟨h1,h2⟩
 ·rename_i hw
  rw [Co hw] at h;exact hK _ _ h
def TailI (P:Program) (ops:List Oper) (Q:Exit→Act→World→Prop) (n:Nat) (I:(Nat→Bool)→Act→World→Prop) (L:Nat→Bool) (a:Act) (w:World):Prop :=
 Clo ops.toArray L∧((∀t,n≤t→t<ops.length→L t=false)∧I L a w∨∃t,n≤t∧t<ops.length∧L t=true∧(∀j,t<j→j<ops.length→L j=false)∧wpList P ops.toArray Q (ops.drop (t+1)) a w)
theorem rj {P:Program} {id:Nat} {ops:List Oper} {Q:Exit→Act→World→Prop} {a:Act} {w:World} (n:Nat) (hm:P.follows .mixedOrders=true) (hB:BR ops.toArray n=true) (I:Act→World→(Nat→Bool)→Act→World→Prop)
  (h0:I a w (fun _=>false) a w.drew) (hs:RelyStepsT P ops.toArray Q (I a w) (ops.take n) 0)
  (hend:∀L a' w',(∀j,j<n→L j=true)→I a w L a' w'→wpList P ops.toArray Q (ops.drop n) a' w'):(Code.region id ops.toArray true).wp P Q a w:=by
 simp only [BR,Cs,Cj] at hB;obtain⟨⟨⟨hB1,hn⟩,hsk⟩,hch⟩:=hB;have hn':n<ops.length:=by simpa using hn
 obtain⟨on,hon⟩:∃on,ops[n]?=some on:=⟨_,Cn hn'⟩;refine rG hm hB1 (TailI P ops Q n (I a w)) ⟨fun j o hj h=>(by cases h),.inl ⟨fun _ _ _=>rfl,h0⟩⟩ ?_ ?_
 ·intro L i o a' w' ho hLi hde hI
  have ho':ops[i]?=some o:=by simpa using ho
  have hil:=(Cq.1 ho').1;obtain⟨hclo,hI⟩:=hI;have hclo':=hclo.add ho hde;by_cases hin:i<n
  ·have hno:∀t,n≤t→t<ops.length→L t=false:=by
    rcases hI with⟨h,_⟩|⟨t,ht,htl,hLt,_,_⟩
    ·exact h
    ·exfalso
     obtain⟨ot,hot⟩:∃ot,ops[t]?=some ot:=⟨_,Cn htl⟩;have hdown:∀k,n+k≤t→L (t-k)=true:=by
      intro k;induction k with
      | zero=>intro _;exact hLt
      | succ k ih =>
       exact bM
     have hLn:L n=true:=by have:=hdown (t-n) gu;rwa [show t-(t-n)=n by omega] at this
     have:=hclo.sink hsk (by simpa using hon) (hclo n on (by simpa using hon) hLn) (n-i) i rfl hin
     rw [this] at hLi;cases hLi
   have hIo:I a w L a' w':=by
    rcases hI with⟨_,h⟩|⟨t,ht,htl,hLt,_,_⟩
    ·exact h
    ·rw [hno t ht htl] at hLt;cases hLt
   have hst:=hs.at_ (i:=i) (o:=o) (by rw [List.getElem?_take_of_lt hin];exact ho') L a' w' (by simpa using hLi) hde hIo;simp only [Nat.zero_add] at hst;have key:∀a2 w2,I a w (fun j=>L j||j==i) a2 w2→TailI P ops Q n (I a w) (fun j=>L j||j==i) a2 w2:=fun a2 w2 h=>⟨hclo',.inl ⟨fun t ht htl=>by
    have e1:(t==i)=false:=CM.2 gu;simp [hno t ht htl,e1],h⟩⟩
   unfold wpList at hst ⊢;split
   ·rename_i hw
    rw [Cl hw] at hst;refine hst.imp (fun h=>?_) (fun h=>h);exact zX (Oper.wp_mono (K':=wpList P ops.toArray _ []) (fun a2 w2 h2=>key a2 w2 h2) h)
   ·rename_i hw
    rw [Co hw] at hst;exact key _ _ hst
  ·have hni:n≤i:=Nat.le_of_not_lt hin
   have hrest:wpList P ops.toArray Q (ops.drop i) a' w':=by
    by_cases he:i=n
    ·subst he
     rcases hI with⟨hno,hI⟩|⟨t,ht,htl,hLt,hgt,_⟩
     ·exact hend L a' w' (fun j hj=>hclo.sink hsk ho hde (i-j) j rfl hj) hI
     ·exfalso
      by_cases hte:t=i
      ·subst hte;rw [hLt] at hLi;cases hLi
      ·obtain⟨ot,hot⟩:∃ot,ops[t]?=some ot:=⟨_,Cn htl⟩
       have hdown:∀k,i+k≤t→L (t-k)=true:=by
        intro k;induction k with
        | zero=>intro _;exact hLt
        | succ k ih =>
         exact bM
       have:=hdown (t-i) gu
       rw [show t-(t-i)=i by omega,hLi] at this;cases this
    ·have hp:=ue hch (t:=i) gu ho hde
     rcases hI with⟨hno,_⟩|⟨t,ht,htl,hLt,hgt,hw⟩
     ·rw [hno (i-1) gu gu] at hp;cases hp
     ·have hti:t=i-1:=by
       rcases Nat.lt_trichotomy t (i-1) with h|h|h
       ·rw [hgt (i-1) h gu] at hp;cases hp
       ·exact h
       ·exfalso
        by_cases hte:t=i
        ·subst hte;rw [hLt] at hLi;cases hLi
        ·have hdown:∀k,i+k≤t→L (t-k)=true:=by
          intro k;induction k with
          | zero=>intro _;exact hLt
          | succ k ih =>
           exact bM
         have:=hdown (t-i) gu
         rw [show t-(t-i)=i by omega,hLi] at this;cases this
      subst hti;rwa [show i-1+1=i by omega] at hw
   have hcons:ops.drop i=o::ops.drop (i+1):=by
    rw [List.drop_eq_getElem_cons hil];have:=(Cq.1 ho').2
    rw [this]
   rw [hcons] at hrest;refine wv hrest fun a2 w2 h2=>⟨hclo',.inr ⟨i,hni,hil,by simp,fun j hj hjl=>?_,h2⟩⟩
   have e1:(j==i)=false:=CM.2 gu;cases hLj:L j with
   | false=>simp [hLj,e1]
   | true =>
    exfalso;have hdown:∀k,i+k≤j→L (j-k)=true:=by
     intro k;induction k with
     | zero=>intro _;exact hLj
     | succ k ih =>
      intro hk;have h1:=ih gu;obtain⟨ok,hok⟩:∃ok,ops[j-k]?=some ok:=⟨_,Cn gu⟩;have h2:=ue hch (t:=j-k) gu (by simpa using hok) (hclo _ ok (by simpa using hok) h1);rw [show j-(k+1)=j-k-1 by omega];exact h2
    have:=hdown (j-i) gu
    rw [show j-(j-i)=i by omega,hLi] at this;cases this
 ·intro L a' w' hL hI
  obtain⟨_,hI⟩:=hI;rcases hI with⟨hno,_⟩|⟨t,ht,htl,hLt,hgt,hw⟩
  ·have h1:=hno n (Cp _) hn'
   rw [hL n hn] at h1;cases h1
  ·have hte:t+1=ops.length:=by
    rcases Nat.lt_or_ge (t+1) ops.length with h|h
    ·have h1:=hgt (t+1) gu h
     rw [hL (t+1) ik] at h1;cases h1
    ·omega
   rw [List.drop_eq_nil_of_le gu] at hw;exact hw
theorem rN (d:Nat) (ds:List Nat) (k:Nat) (V:Nat→Value) (a:Act):oZ (d::ds) k V a=oZ ds (k+1) V (a.put (some d) (V k)):=rfl
theorem rK:∀(ds:List Nat) (k:Nat) (V:Nat→Value) (a:Act),(oZ ds k V a).tmps.size=a.tmps.size
 | [],_,_,_=>rfl
 | d::ds,k,V,a=>(rK ds (k+1) V _).trans (by simp [Act.put])
theorem pR:∀(ds:List Nat) (k:Nat) (V:Nat→Value) (a:Act) (t:Nat),t ∉ ds→(oZ ds k V a).tmps[t]?=a.tmps[t]?
 | [],_,_,_,_,_=>rfl
 | d::ds,k,V,a,t,h=>by
  rw [rN,pR ds (k+1) V _ t (fun e=>h (CC _ e))];simp only [Act.put];rw [Array.getElem?_setIfInBounds_ne (fun e=>h (by simp [e]))]
theorem rU:∀(ds:List Nat) (k:Nat) (V:Nat→Value) (a:Act) (i t:Nat),ds.Nodup→ds[i]?=some t→t<a.tmps.size→(oZ ds k V a).tmps[t]?=some (V (k+i))
 | [],_,_,_,i,t,_,h,_=>by simp at h
 | d::ds,k,V,a,0,t,hn,h,hs=>by
  simp at h;subst h
  rw [rN,pR ds (k+1) V _ _ (List.nodup_cons.1 hn).1];simp [Act.put,hs]
 | d::ds,k,V,a,i+1,t,hn,h,hs=>by
  rw [rN,rU ds (k+1) V _ i t (List.nodup_cons.1 hn).2 ik (by simpa [Act.put] using hs)];rw [show k+1+i=k+(i+1) by omega]
theorem nR:∀(ds:List Nat) (k:Nat) (V:Nat→Value) (a:Act),(oZ ds k V a).defers=a.defers
 | [],_,_,_=>rfl
 | _::ds,k,V,_=>(nR ds (k+1) V _).trans rfl
theorem puts_put (ds:List Nat) (V:Nat→Value) (a:Act) (i t:Nat) (v:Value) (hn:ds.Nodup) (h:ds[i]?=some t) (hb:∀d∈ds,d<a.tmps.size):(oZ ds 0 V a).put (some t) v=oZ ds 0 (upd V i v) a:=by
 have e:((oZ ds 0 V a).put (some t) v).tmps=(oZ ds 0 (upd V i v) a).tmps:=by
  apply Array.ext_getElem?
  intro j;simp only [Act.put];have ht:=hb t (CF h);by_cases hjt:t=j
  ·subst hjt
   rw [Array.getElem?_setIfInBounds_self_of_lt (by rw [rK];exact ht),rU ds 0 _ a i t hn h ht];simp [upd]
  ·rw [Array.getElem?_setIfInBounds_ne hjt]
   by_cases hj:j∈ds
   ·obtain⟨m,hm⟩:=List.getElem?_of_mem hj
    rw [rU ds 0 _ a m j hn hm (hb j hj),rU ds 0 _ a m j hn hm (hb j hj)];have:m≠i:=fun e=>by subst e;rw [hm] at h;injection h with h;exact hjt h.symm
    simp [upd,this]
   ·rw [pR ds 0 _ a j hj,pR ds 0 _ a j hj]
 have key:∀x y:Act,x.tmps=y.tmps→x.defers=y.defers→x=y:=fun x y h h'=>by cases x;cases y;simp only at h h';subst h;subst h';rfl
 refine key _ _ e ?_;show (oZ ds 0 V a).defers=_
 rw [nR,nR]
structure Fm2 (ds:List Nat) (V:Nat→Value) (A0 a:Act):Prop where
 eq:a=oZ ds 0 V A0
theorem Fm2.size {ds:List Nat} {V:Nat→Value} {A0 a:Act} (h:Fm2 ds V A0 a):a.tmps.size=A0.tmps.size:=by rw [h.eq,rK]
theorem Fm2.ins {ds:List Nat} {V:Nat→Value} {A0 a:Act} (h:Fm2 ds V A0 a) (hn:ds.Nodup) (hb:∀d∈ds,d<A0.tmps.size) (i:Nat) {t:Nat} (hi:ds[i]?=some t):a.tmps[t]?=some (V i):=by
 rw [h.eq,rU ds 0 V A0 i t hn hi (hb t (CF hi))];simp
theorem Fm2.out {ds:List Nat} {V:Nat→Value} {A0 a:Act} (h:Fm2 ds V A0 a) {t:Nat} (ht:t ∉ ds):a.tmps[t]?=A0.tmps[t]?:=by
 rw [h.eq,pR ds 0 V A0 t ht]
theorem Fm2.put {ds:List Nat} {V:Nat→Value} {A0 a:Act} (h:Fm2 ds V A0 a) (hn:ds.Nodup) (hb:∀d∈ds,d<A0.tmps.size) (i:Nat) {t:Nat} (hi:ds[i]?=some t) (v:Value):Fm2 ds (upd V i v) A0 (a.put (some t) v):=⟨by rw [h.eq,puts_put ds V A0 i t v hn hi hb]⟩
theorem pm {a:Act} {t:Nat} {v:Value} (h:a.tmps[t]?=some v):a.eval (.tmp t)=v:=by
 simp [Act.eval,Array.getD_eq_getD_getElem?,h]
theorem kp {o:Oper} {y:Nat→Option Bool} (h:o.guard=none):Region.wanted o y=true:=by simp [Region.wanted,h]
section
variable {P:Program} {ops:Array Oper} {Q:Exit→Act→World→Prop} {K:Act→World→Prop} {o:Oper} {a:Act} {w:World}
theorem l8 {v:Value} {w':World} (hw:Region.wanted o (yielded ops a.tmps)=true) (hr:(execOp a.eval o).run P w=.ok (.value v) w') (h:K (a.put o.dst v) w'):wpList P ops (Exit.then K Q) [o] a w:=by
 unfold wpList;rw [Cl hw];refine .inl ?_;unfold Oper.wp;rw [hr];exact h
theorem rs_call {f:FuncId} {args:Array Value} (hw:Region.wanted o (yielded ops a.tmps)=true) (hr:(execOp a.eval o).run P w=.ok (.enter f args) w) (hc:Calls P f args w fun e w'=>∃v,e=.returned v∧K (a.put o.dst v) w'):wpList P ops (Exit.then K Q) [o] a w:=by
 unfold wpList;rw [Cl hw];refine .inl ?_;unfold Oper.wp;rw [hr];exact hc.mono fun e w' ⟨v,he,hk⟩=>by subst he;exact hk
theorem tV {x:Operand} (ho:o.op=.move x∨o.op=.assign x):(execOp a.eval o).run P w=.ok (.value (a.eval x)) w:=by
 unfold execOp;rcases ho with h|h<;>rw [h]<;>rfl
theorem Ap {x:Operand} {ad:Addr} (ho:o.op=.nilCheck x) (hx:a.eval x=.pointer (some ad)):(execOp a.eval o).run P w=.ok (.value (.pointer (some ad))) w:=by
 unfold execOp;rw [ho];simp only [hx];rfl
theorem ex_call {f:FuncId} {args:Array Operand} {tys:Array TypeId} {fn:Func} {vs:Array Value} (ho:o.op=.call { callee:=.value (.func f),args:=args,argTypes:=tys })
  (hf : P.funcs[f]? = some fn) (hn : (fn.name == "runtime.NumGoroutine" || fn.body.isNone) = false) (hvs : args.map a.eval = vs) : (execOp a.eval o).run P w = .ok (.enter f vs) w := by
 subst hvs;simp only [Bool.or_eq_false_iff] at hn;have h1 : fn.name ≠ "runtime.NumGoroutine" := by simpa using hn.1
 have h2:fn.body≠none:=by cases hb:fn.body with
  | none=>rw [hb] at hn;simp at hn
  | some _=>simp
 unfold execOp;simp only [ho,resolve,invoke,Sem.run_bind,Act.eval];simp [Deferred.ofValue,callFunc,hf,h1,h2]
end
theorem upd_c {VC:Nat→Value→Prop} {V:Nat→Value} {L:Nat→Bool} (H:∀j,L j=true→VC j (V j)) (k:Nat) {v:Value} (hv:VC k v):∀j,(L j||j==k)=true→VC j (upd V k v j):=by
 intro j hj;unfold upd;by_cases e:j=k
 ·subst e;rw [Cl rfl];exact hv
 ·rw [Co e]
  have e1:(j==k)=false:=CM.2 e;rw [e1,Bool.or_false] at hj;exact H j hj
theorem upd_ne {V:Nat→Value} {k j:Nat} {v:Value} (h:j≠k):upd V k v j=V j:=by unfold upd;rw [Co h]
theorem upd_at {V:Nat→Value} {k:Nat} {v:Value}:upd V k v k=v:=by unfold upd;rw [Cl rfl]
theorem lor_ne {L:Nat→Bool} {k j:Nat} (h:j≠k):(L j||j==k)=L j:=by rw [CM.2 h,Bool.or_false]
structure OneE (M:Nat) (W0:World) (PM:Value→World→Prop) (VC:Nat→Value→Prop) (V:Nat→Value) (L:Nat→Bool) (w':World):Prop where
 h0:L M=false→w'=W0
 h1:L M=true→PM (V M) w'
 vs:∀j,L j=true→VC j (V j)
theorem OneE.start (M:Nat) (W0:World) (PM:Value→World→Prop) (VC:Nat→Value→Prop) (V:Nat→Value):OneE M W0 PM VC V (fun _=>false) W0:=⟨fun _=>rfl,(fun h=>by cases h),(fun _ h=>by cases h)⟩
theorem OneE.pure {M:Nat} {W0:World} {PM:Value→World→Prop} {VC:Nat→Value→Prop} {V:Nat→Value} {L:Nat→Bool} {w':World} (h:OneE M W0 PM VC V L w') (k:Nat) {v:Value} (hk:M≠k) (hv:VC k v):OneE M W0 PM VC (upd V k v) (fun j=>L j||j==k) w' :=
 ⟨fun e=>h.h0 ((lor_ne (L:=L) hk).symm.trans e),fun e=>by rw [upd_ne hk];exact h.h1 ((lor_ne (L:=L) hk).symm.trans e),upd_c h.vs k hv⟩
theorem OneE.event {M:Nat} {W0:World} {PM:Value→World→Prop} {VC:Nat→Value→Prop} {V:Nat→Value} {L:Nat→Bool} {w' w2:World} (h:OneE M W0 PM VC V L w') {v:Value} (hM:PM v w2) (hv:VC M v):OneE M W0 PM VC (upd V M v) (fun j=>L j||j==M) w2 :=
 ⟨fun e=>by simp at e,fun _=>by rw [upd_at];exact hM,upd_c h.vs M hv⟩
theorem qB {o:Oper} {a:Act} {w:World} {t:Nat} {ad:Addr} {u:Value} {ty:TypeId} (ho:o.op=.load ty (.tmp t)) (e:a.tmps[t]?=some (.pointer (some ad))) (hr:(Instr.loadAt ty (.pointer (some ad))).run Tryz.prog w=.ok u w):(execOp a.eval o).run Tryz.prog w=.ok (.value u) w:=by
 have e2:=pm e;simp only [execOp,ho,e2];simp [hr,Result.andThen]
theorem AG {w:World} {ad:Addr} {n:Int} (h:w.cell? ad=some (.int .i64 n)):(Instr.loadAt 3 (.pointer (some ad))).run Tryz.prog w=.ok (.int .i64 n) w:=by go_simp
theorem sk {P:Program} {id:Nat} {ops:List Oper} {Q:Exit→Act→World→Prop} {a:Act} {w:World} (n:Nat) (hm:P.follows .mixedOrders=true) (hB:BR ops.toArray n=true) (I:Act→World→(Nat→Bool)→Act→World→Prop)
  (h:∀A0,Hid (A0=a)→I A0 w (fun _=>false) A0 w.drew∧RelyStepsT P ops.toArray Q (I A0 w) (ops.take n) 0∧∀L a' w',(∀j,j<n→L j=true)→I A0 w L a' w'→wpList P ops.toArray Q (ops.drop n) a' w'):(Code.region id ops.toArray true).wp P Q a w:=by
 obtain⟨h0,h1,h2⟩:=h a (ab rfl);exact rj n hm hB I h0 h1 h2
end Go.Proofs.YtjggmmaojklmpaaGreat
