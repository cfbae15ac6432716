/- walk of rxrun.laid -/
import Derived.Test.YtjggmmaojklmpaaGreatDoorKb22
set_option maxRecDepth 100000
set_option maxHeartbeats 4000000
namespace Go.Proofs.YtjggmmaojklmpaaGreatDoor
open Go.RowKit
theorem Bi:(Tryz.prog.info? 118).map (fun i=>(i.zero,i.size,i.bytes))=some (some (.agg #[.int .i64 0,.string ⟨#[]⟩,.bool false,.slice none 0 0,.int .i64 0,.int .i64 0,.bool false,.slice none 0 0,.slice none 0 0,.int .i64 0,.int .i64 0]),11,144):=by kernel_rfl
theorem Ce {P:Program} {w:World} {ops:Array Oper} {o:Oper} {a:Act} {K:Act→World→Prop} {Q:Exit→Act→World→Prop} {E:Prop} (base:Nat) (e:TypeId) (hgd:o.guard=none) (s x:Operand) (t:TypeId)
  (ho:o.op=.call { callee:=.builtin .append,args:=#[s,x],argTypes:=#[t,t] })
  {i:TypeInfo} {z:Value} {size bytes:Nat} (ht:P.underlying t=some (.slice e)) (hinf:P.info? e=some i∧i.zero=some z∧i.size=size∧i.bytes=bytes)
  (hzs:z.cells.size=size) (hsz:0<size)
  {v:Value} {n:Nat} {xs:List Value} (hs:a.eval s=v) (hown:w.ownsRow base e size v n xs)
  {B:Nat} {A:Option Addr} {m c:Nat} {news:List Value} (hx:a.eval x=.slice A m c) (hr:Sl w B A size m news) (h1:∀u∈news,u.oneCell'=true)
  (hn:n≤10000000) (hm:m≤10000000) (hb:bytes≤1000) (hB:base≤w.heap.size)
  (h:∀v' w',w'.ownsRow base e size v' (n+m) (xs++news)→w.grownBy w' v.ownBlock→Below base w w'→uO w v v'→K (a.put o.dst v') w') :
  if Region.wanted o (yielded ops a.tmps)=true then Oper.wp P o a w K Q else E:=by
 have hwt:Region.wanted o (yielded ops a.tmps)=true:=by simp [Region.wanted,hgd]
 rw [Dr hwt];exact CY base e s x t ho ht hinf hzs hsz hs hown hx hr h1 hn hm hb hB h
def OwnP (w:World) (D:Nat) (S:Nat→Prop) (v:Value) (xs:List Rx) (g:Nat):Prop :=
 ∃css,w.ownsRow D 118 11 v xs.length css.flatten∧PtVs w (fun b=>S b∧v.ownBlock≠some b) css xs g
theorem OwnP.nil (w:World) (D:Nat) (S:Nat→Prop) (g:Nat):OwnP w D S (.slice none 0 0) [] g:=⟨[],World.ownsRow_nil _ _ _ _,.nil⟩
theorem OwnP.gx {X:Nat→Prop} {w w':World} {D:Nat} {S:Nat→Prop} {v:Value} {xs:List Rx} {g:Nat} (h:OwnP w D S v xs g) (hg:Gx X w w') (hS:∀b,S b→¬X b) (hv:∀k,v.ownBlock=some k→¬X k):OwnP w' D S v xs g:=by
 obtain⟨css,h1,h2⟩:=h;exact⟨css,pT h1 hg hv,h2.keep (hg.kept fun b hb=>hS b hb.1)⟩
theorem OwnP.later {w w':World} {D:Nat} {S:Nat→Prop} {v:Value} {xs:List Rx} {g:Nat} (h:OwnP w D S v xs g) (hb:Below w.heap.size w w'):OwnP w' D S v xs g :=
 h.gx (X:=fun _=>False) (Gx.of_below hb) (fun _ _ h=>h) (fun _ _ h=>h)
theorem OwnP.form {w:World} {D:Nat} {S:Nat→Prop} {v:Value} {xs:List Rx} {g:Nat} (h:OwnP w D S v xs g):∃a c,v=.slice a xs.length c∧xs.length≤c:=by
 exact dB
theorem OwnP.sl {w:World} {D:Nat} {S:Nat→Prop} {a:Option Addr} {n c:Nat} {xs:List Rx} {g:Nat} (h:OwnP w D S (.slice a n c) xs g):n=xs.length∧PtSl w (fun b=>S b∨D≤b) a xs.length xs g:=by
 obtain⟨css,h1,h2⟩:=h;have hn:n=xs.length:=by
  rcases h1.2 with⟨h,h0⟩|⟨_,cap,cur,h,_⟩
  ·injection h with _ h _;omega
  ·injection h with _ h _
 subst hn;refine⟨rfl,css,⟨(Sl.of_own h1).1,fun hn=>?_⟩,h2.mono fun b hb _=>.inl hb.1⟩;obtain⟨b,o,e,hlt,hc⟩:=(Sl.of_own h1).2 hn;subst e;exact⟨b,o,rfl,.inr (h1.lt b rfl).1,hlt,hc⟩
theorem OwnP.app {w w':World} {D:Nat} {S:Nat→Prop} {v v':Value} {xs:List Rx} {x:Rx} {css:List (List Value)} {c:List Value} {g:Nat} (h1:PtVs w (fun b=>S b∧v.ownBlock≠some b) css xs g) (h2:PtV w (fun b=>S b∧v.ownBlock≠some b) c x (g+Rx.groupsL xs))
  (ho:w'.ownsRow D 118 11 v' (xs.length+1) (css.flatten++c)) (hg:w.grownBy w' v.ownBlock) (hmv:uO w v v'):OwnP w' D S v' (xs++[x]) g:=by
 refine⟨css++[c],by rw [List.flatten_append,DE];simpa using ho,?_⟩;have hk:Kept (fun b=>(S b∧v.ownBlock≠some b)∧b<w.heap.size) w w':=⟨hg.size,fun b hb hlt=>hg.block b hlt (fun e=>hb.1.2 e.symm)⟩;refine(((h1.snoc h2).mono (S':=fun b=>(S b∧v.ownBlock≠some b)∧b<w.heap.size) fun b h1 h2=>⟨h1,h2⟩).keep hk).mono fun b hb _=>⟨hb.1.1,fun e=>?_⟩
 exact dO
theorem laid_app {wk w9:World} {D gb G0 GI n:Nat} {S0:Nat→Prop} {v:Value} {xs:List Rx} {y:Rx} {pc:List Value} (h:OwnP wk D (fun b=>S0 b∨D≤b) v xs G0) (hx:Gx (fun k=>k=gb) wk w9) (hv:PtV w9 (fun b=>(S0 b∧b<wk.heap.size)∨wk.heap.size≤b) pc y GI) (hG:G0+Rx.groupsL xs=GI) (hgb:gb<D) (hS:∀b,S0 b→b<D∧b≠gb) (hD:D≤wk.heap.size) (hn:n=xs.length) :
  ∃css,(w9.alloc (.cells pc.toArray 118)).ownsRow D 118 11 v n css.flatten∧PtVs (w9.alloc (.cells pc.toArray 118)) (fun b=>(S0 b∨D≤b)∧v.ownBlock≠some b) css xs G0 ∧
   PtV (w9.alloc (.cells pc.toArray 118)) (fun b=>(S0 b∨D≤b)∧v.ownBlock≠some b) pc y (G0+Rx.groupsL xs)∧Sl (w9.alloc (.cells pc.toArray 118)) (w9.alloc (.cells pc.toArray 118)).heap.size (some ⟨w9.heap.size,0,none⟩) 11 1 pc:=by
 subst hn;have hal:Below w9.heap.size w9 (w9.alloc (.cells pc.toArray 118)):=(Below.refl _ _).alloc (Dv _) _;have hown:∀k,v.ownBlock=some k→D≤k∧k<wk.heap.size:=by
  obtain⟨css,h1,_⟩:=h;exact h1.lt
 have h9:=(h.gx hx (fun b hb e=>by rcases hb with hb|hb;exact(hS b hb).2 e;omega) (fun k hk e=>by have:=(hown k hk).1;omega)).later hal;obtain⟨css,h1,h2⟩:=h9;refine⟨css,h1,h2,?_,?_⟩
 ·rw [hG]
  refine(hv.mono (S':=fun b=>(S0 b∨D≤b)∧v.ownBlock≠some b) fun b hb _=>?_).later hal
  rcases hb with⟨hb,_⟩|hb
  ·exact⟨.inl hb,fun e=>by have:=(hown b e).1;have:=(hS b hb).1;omega⟩
  ·exact⟨.inr fR,fun e=>by have:=(hown b e).2;omega⟩
 ·have:=Sl.lit (n:=1) (sz:=11) (heap_alloc_new w9 (.cells pc.toArray 118)) (by simp [hv.len])
  simpa using this
theorem xQ {wk w9 w8:World} {bp gb n D sz:Nat} {e:TypeId} {v:Value} {o o':Obj} {xs:List Value} (h:wk.heap[bp]?=some o) (hx:Gx (fun k=>k=gb) wk w9) (hne:bp≠gb) (hg:(w9.alloc o').grownBy w8 v.ownBlock) (hv:(w9.alloc o').ownsRow D e sz v n xs) (hD:bp<D):w8.heap[bp]?=some o:=by
 have h9:=hx.heap h hne;have hlt:=jA h9;rw [hg.block bp fY (fun e=>by have:=(hv.lt bp e.symm).1;omega),Below.heap_alloc _ _ _ hlt];exact h9
def LaidPost (S:Nat→Prop) (gb g:Nat) (x:Rx) (w:World) (e:Ending) (w':World):Prop :=
 ∃pc,e=.returned (.agg pc.toArray)∧PtV w' (fun b=>(S b∧b<w.heap.size)∨w.heap.size≤b) pc x g∧w'.heap[gb]?=some (.cells #[.int .i64 ((g+x.groups:Nat):Int)] 3 (0,0))∧Gx (fun k=>k=gb) w w'
def LaidC (x:Rx):Prop:=∀(S:Nat→Prop) (cc:List Value) (w:World) (gb g:Nat),RxV w S cc x→w.heap[gb]?=some (.cells #[.int .i64 (g:Int)] 3 (0,0))→¬S gb→g+x.groups≤1000000 →
 Calls Tryz.prog 105 #[.agg cc.toArray,.pointer (some ⟨gb,0,none⟩)] w (LaidPost S gb g x w)
theorem qI (w:World) (b:Nat) (cs:Array Value):Gx (fun k=>k=b) w (w.setRow b cs):=⟨rfl,rfl,rfl,by rw [xj];exact Dv _,fun _ _ hk=>q9 _ hk⟩
theorem zD:Tryz.prog.underlying 118=some (.struct (Tryz.prog.fieldsOf 118)):=by kernel_rfl
theorem uo:(Tryz.prog.info? 118).map (·.size)=some 11:=by kernel_rfl
def pbox (kd:Int) (c:Str) (ng:Bool) (ra:Option Addr) (rn rc:Nat) (lo hi:Int) (lz:Bool) (ka:Option Addr) (kn kc:Nat) (v:Value) (g h:Int):Obj :=
 .cells #[.int .i64 kd,.string ⟨c.toArray⟩,.bool ng,.slice ra rn rc,.int .i64 lo,.int .i64 hi,.bool lz,.slice ka kn kc,v,.int .i64 g,.int .i64 h] 118 (0,0)
def LdRel (P:Value→Obj) (S:Nat→Prop) (w:World) (gb bp G0:Nat) (ks:List Rx) (q:Value) (wr:World):Prop :=
 ∃(i:Nat) (v:Value),i≤ks.length∧q=.int .i64 i∧Hid (wr.heap[gb]?=some (.cells #[.int .i64 ((G0+Rx.groupsL (ks.take i):Nat):Int)] 3 (0,0)))∧Hid (wr.heap[bp]?=some (P v))
   ∧ Hid (OwnP wr (bp+1) (fun b=>(S b∧b<w.heap.size)∨bp+1≤b) v (ks.take i) G0)∧Hid (Gx (fun k=>k=gb) w wr)∧Hid (bp+1≤wr.heap.size)∧Hid (wr.heap[w.heap.size+1]?=some (.cells #[.int .i64 0,.string ⟨#[]⟩,.bool false,.slice none 0 0,.int .i64 0,.int .i64 0,.bool false,.slice none 0 0,.slice none 0 0,.int .i64 0,.int .i64 0] 118 (0,0)))
theorem Cj {kd:Int} {c:Str} {ng:Bool} {rs:List (Str × Str)} {lo hi:Int} {lz:Bool} {ks:List Rx} (IH:∀y∈ks,LaidC y) (hkl:ks.length≤1000000):LaidC (.mk kd c ng rs lo hi lz ks):=by
 intro S cc w gb g hv hgb hSg hgl;obtain⟨ra,rc,ka,kc,rfl,hrs,hks⟩:=hv.open_;have hgt:=jA hgb;obtain⟨W1,hW1⟩:∃W1,W1=(w.alloc (.cells (rxc kd c ng ra rs.length rc lo hi lz ka ks.length kc).toArray 25)).alloc (.cells #[.int .i64 0,.string ⟨#[]⟩,.bool false,.slice none 0 0,.int .i64 0,.int .i64 0,.bool false,.slice none 0 0,.slice none 0 0,.int .i64 0,.int .i64 0] 118):=⟨_,rfl⟩;have hb1:Below w.heap.size w W1:=by rw [hW1];exact((Below.refl _ _).alloc (Dv _) _).alloc fS _
 have hz1:W1.heap.size=w.heap.size+1+1:=by rw [hW1];simp
 have hx1:W1.heap[w.heap.size]?=some (.cells (rxc kd c ng ra rs.length rc lo hi lz ka ks.length kc).toArray 25 (0,0)):=by rw [hW1,Below.heap_alloc _ _ _ fS];exact heap_alloc_new w _
 have hg1:=(hb1.block _ hgt).trans hgb;have hx1':=hx1;unfold rxc at hx1';obtain⟨f0,f1,f2,f3,f4,f5,f6,f7,_⟩:=jD hx1';have c0:=jM hg1;have hal:Below W1.heap.size W1 (W1.alloc (.cells #[.int .i64 0,.string ⟨#[]⟩,.bool false,.slice none 0 0,.int .i64 0,.int .i64 0,.bool false,.slice none 0 0,.slice none 0 0,.int .i64 0,.int .i64 0] 118)):=(Below.refl _ _).alloc (Dv _) _;have d0:=jH hal _ _ f0;have d1:=jH hal _ _ f1;have d2:=jH hal _ _ f2;have d3:=jH hal _ _ f3;have d4:=jH hal _ _ f4;have d5:=jH hal _ _ f5;have d6:=jH hal _ _ f6;have d7:=jH hal _ _ f7;have d8:=jH hal _ _ c0;have HW:=ab hW1;have HX1:=ab hx1;have HR1:Hid (W1.heap[w.heap.size+1]?=some (.cells #[.int .i64 0,.string ⟨#[]⟩,.bool false,.slice none 0 0,.int .i64 0,.int .i64 0,.bool false,.slice none 0 0,.slice none 0 0,.int .i64 0,.int .i64 0] 118 (0,0))):=ab (by
  have:=heap_alloc_new (w.alloc (.cells (rxc kd c ng ra rs.length rc lo hi lz ka ks.length kc).toArray 25)) (.cells #[.int .i64 0,.string ⟨#[]⟩,.bool false,.slice none 0 0,.int .i64 0,.int .i64 0,.bool false,.slice none 0 0,.slice none 0 0,.int .i64 0,.int .i64 0] 118)
  rw [hW1];rw [D0] at this;exact this)
 have HG1:=ab hg1;have HB1:=ab hb1;have HZ1:=ab hz1;have HRS:=ab hrs;have HKS:Hid (RxSl w (fun b=>S b∧b<w.heap.size) ka ks.length ks):=ab (hks.mono fun b h1 h2=>⟨h1,h2⟩);have HIH:=ab IH;clear hW1 hx1 hx1' hg1 hb1 hz1 hrs hks IH hv hgb hal;unfold rxc at HW ⊢;go_enter Tryz.func105,Tryz.ntmps105
 go_upto_region 1 with fail
 rw [←HW.out];go_region
 obtain⟨W2,hW2⟩:∃W2,W2=(W1.alloc (.cells #[.int .i64 kd,.string ⟨c.toArray⟩,.bool ng,.slice ra rs.length rc,.int .i64 lo,.int .i64 hi,.bool lz,.slice ka ks.length kc,.slice none 0 0,.int .i64 (g:Int),.int .i64 0] 118)).drew:=⟨_,rfl⟩;rw [←hW2];have hb2:Below W1.heap.size W1 W2:=by rw [hW2];exact((Below.refl _ _).alloc (Dv _) _).drew
 have hp2:W2.heap[W1.heap.size]?=some (.cells #[.int .i64 kd,.string ⟨c.toArray⟩,.bool ng,.slice ra rs.length rc,.int .i64 lo,.int .i64 hi,.bool lz,.slice ka ks.length kc,.slice none 0 0,.int .i64 (g:Int),.int .i64 0] 118 (0,0)):=by rw [hW2];exact heap_alloc_new W1 _
 have hg2:=(hb2.block _ (jA HG1.out)).trans HG1.out;have hx2:=(hb2.block _ (jA HX1.out)).trans HX1.out;have hr2:=(hb2.block _ (jA HR1.out)).trans HR1.out;have hz2:W2.heap.size=W1.heap.size+1:=by rw [hW2];simp
 clear hW2 f0 f1 f2 f3 f4 f5 f6 f7 d0 d1 d2 d3 d4 d5 d6 d7 d8 c0 HW;have c0:=jM hg2;have c0f:W2.frozen? ⟨gb,0,none⟩=false:=by simp only [World.frozen?,hg2];simp
 have hx2':=hx2;unfold rxc at hx2';obtain⟨f0,f1,f2,f3,f4,f5,f6,f7,_⟩:=jD hx2';obtain⟨G0,hG0⟩:∃G0,G0=g+own5 kd:=⟨_,rfl⟩;have hgne:gb≠W1.heap.size∧gb≠w.heap.size:=⟨by have:=HZ1.out;omega,by omega⟩;obtain⟨bb,hbb⟩:∃bb:Bool,(kd==5)=bb:=⟨_,rfl⟩;have hdec:(bb=true∧kd=5)∨(bb=false∧kd≠5):=by
  cases bb with
  | true=>exact .inl ⟨rfl,by simpa using hbb⟩
  | false=>exact .inr ⟨rfl,by simpa using hbb⟩
  /- the group's own number -/
 have hq2:Gx (fun k=>k=gb) w W2:=Gx.of_below (HB1.out.trans (hb2.mono HB1.out.size));rcases hdec with⟨rfl,hk5⟩|⟨rfl,hk5⟩
 case' inl =>
  have HK5:=ab hk5;clear hk5;go_upto_region 4 with fail
  obtain⟨W3,hW3⟩:∃W3,W3=W2.setCell ⟨gb,0,none⟩ (.int .i64 ((g:Int)+1)):=⟨_,rfl⟩;rw [←hW3];have HG3:Hid (W3.heap[gb]?=some (.cells #[.int .i64 (G0:Int)] 3 (0,0))):=ab (by rw [hW3,heap_setCell_same _ _ _ _ _ _ hg2,hG0];simp [own5,HK5.out]);have HP3:=ab ((show W3.heap[W1.heap.size]?=_ by rw [hW3];exact heap_setCell_other _ _ _ _ (Ne.symm hgne.1)).trans hp2);have HX3:=ab ((show W3.heap[w.heap.size]?=_ by rw [hW3];exact heap_setCell_other _ _ _ _ (Ne.symm hgne.2)).trans hx2);have HR3:=ab ((show W3.heap[w.heap.size+1]?=_ by rw [hW3];exact heap_setCell_other _ _ _ _ (by show w.heap.size+1≠gb;omega)).trans hr2);have HQ3:Hid (Gx (fun k=>k=gb) w W3):=ab (by rw [hW3];exact hq2.to (Gx.set (X:=fun k=>k=gb) W2 (a:=⟨gb,0,none⟩) _ rfl) (fun _ _ h=>h));have HZ3:Hid (W3.heap.size=W1.heap.size+1):=ab (by rw [hW3];simpa [World.setCell] using hz2);clear hW3
 case' inr =>
  go_upto_region 4 with fail
  obtain⟨W3,hW3⟩:∃W3,W3=W2:=⟨_,rfl⟩;rw [←hW3];have HG3:Hid (W3.heap[gb]?=some (.cells #[.int .i64 (G0:Int)] 3 (0,0))):=ab (by rw [hW3,hg2,hG0];simp [own5,hk5]);have HP3:=ab ((show W3.heap[W1.heap.size]?=_ by rw [hW3]).trans hp2);have HX3:=ab ((show W3.heap[w.heap.size]?=_ by rw [hW3]).trans hx2);have HR3:=ab ((show W3.heap[w.heap.size+1]?=_ by rw [hW3]).trans hr2);have HQ3:Hid (Gx (fun k=>k=gb) w W3):=ab (by rw [hW3];exact hq2);have HZ3:Hid (W3.heap.size=W1.heap.size+1):=ab (by rw [hW3];exact hz2);clear hW3
 all_goals
  have HG0:=ab hG0;have HNE:=ab hgne;clear c0 c0f f0 f1 f2 f3 f4 f5 f6 f7 hx2 hx2' hp2 hr2 hg2 hb2 hz2 hq2 hbb hG0 hgne;have f7:W3.cell? ⟨w.heap.size,7,none⟩=some (.slice ka ks.length kc):=by rw [DB HX3.out];rfl
  go_upto_region 5 with fail
  clear f7;obtain⟨bp,hbp⟩:∃bp,bp=W1.heap.size:=⟨_,rfl⟩;rw [←hbp] at HP3 HZ3 ⊢;have hzp:bp=w.heap.size+1+1:=by rw [hbp];exact HZ1.out
  have HZP:=ab hzp;rw [←hbp] at HNE;clear hbp hzp;go_loopw [24] (fun q wr=>LdRel (fun v=>pbox kd c ng ra rs.length rc lo hi lz ka ks.length kc v g 0) S w gb bp G0 ks q wr) (fun q _=>ks.length-(intOf q).toNat)
  case atStart=>exact⟨0,.slice none 0 0,by omega,rfl,ab (by simpa [Rx.groupsL] using HG3.out),HP3,ab (OwnP.nil _ _ _ _),HQ3,ab (by rw [HZ3.out];omega),HR3⟩
  case round =>
   obtain⟨i,v,hile,rfl,HGI,HPI,HOI,HQI,HZI,HRI⟩:=hrel;unfold pbox at HPI;clear HG3 HP3 HQ3 HX3 HZ3 HR3;cases hd:ks.drop i with
   | nil =>
    have hie:i=ks.length:=by
     have:ks.length≤i:=gm
     omega
    rw [hie,List.take_length] at HGI HOI;obtain⟨G,hG⟩:∃G,G0+Rx.groupsL ks=G:=⟨_,rfl⟩;rw [hG] at HGI;obtain⟨va,vc,rfl,hvc⟩:=HOI.out.form;have c0:=jM HGI.out;have s10:wr.cell? ⟨bp,10,none⟩=some (.int .i64 0):=by rw [DB HPI.out];rfl
    have s10f:wr.frozen? ⟨bp,10,none⟩=false:=by simp only [World.frozen?,HPI.out];simp
    obtain⟨Wa,hWa⟩:∃Wa,Wa=wr.setCell ⟨bp,10,none⟩ (.int .i64 (G:Int)):=⟨_,rfl⟩;have hpa:Wa.heap[bp]?=some (.cells (ptc kd c ng ra rs.length rc lo hi lz ka ks.length kc va ks.length vc g G).toArray 118 (0,0)):=by rw [hWa,heap_setCell_same _ _ _ _ _ _ HPI.out];rfl
    have hra:Wa.heap[w.heap.size+1]?=some (.cells #[.int .i64 0,.string ⟨#[]⟩,.bool false,.slice none 0 0,.int .i64 0,.int .i64 0,.bool false,.slice none 0 0,.slice none 0 0,.int .i64 0,.int .i64 0] 118 (0,0)):=by rw [hWa,heap_setCell_other _ _ _ _ (by show w.heap.size+1≠bp;have:=HZP.out;omega)];exact HRI.out
    have hga:Wa.heap[gb]?=some (.cells #[.int .i64 (G:Int)] 3 (0,0)):=by rw [hWa,heap_setCell_other _ _ _ _ HNE.out.1];exact HGI.out
    have hqa:Gx (fun k=>k=gb) w Wa:=by
     rw [hWa];refine HQI.out.to (Gx.set (X:=fun k=>k=bp) wr (a:=⟨bp,10,none⟩) _ rfl) (fun k hk h=>?_);have:=HZP.out
     have:k=bp:=h
     omega
    have hGx:G=g+own5 kd+Rx.groupsL ks:=by rw [←hG,HG0.out]
    have hks:=(HOI.out.gx (X:=fun k=>k=bp) (show Gx (fun k=>k=bp) wr Wa by rw [hWa];exact Gx.set wr (a:=⟨bp,10,none⟩) _ rfl) (fun b hb e=>by have:=HZP.out;rcases hb with hb|hb<;>omega) (fun k hk e=>by
     obtain⟨cs8,h8,_⟩:=HOI.out;have:=(h8.lt k hk).1;omega)).sl.2
    have hrs:=(HRS.out.keep (HQI.out.kept (S:=S) fun b hb e=>hSg (e▸hb)));have hv:PtV Wa (fun b=>(S b∧b<w.heap.size)∨w.heap.size+1+1≤b) (ptc kd c ng ra rs.length rc lo hi lz ka ks.length kc va ks.length vc g G) (.mk kd c ng rs lo hi lz ks) g:=by
     have hz:=HZP.out;obtain⟨css,e1,e2⟩:=hks;rw [hGx];rw [HG0.out] at e2;refine .mk (SlS.mono (S:=fun b=>S b∧b<w.heap.size) ?_ fun b hb _=>.inl hb) (e1.mono fun b hb _=>by rcases hb with(hb|hb)|hb;exact .inl hb;exact .inr fR;exact .inr fR) hvc (e2.mono fun b hb _=>by rcases hb with(hb|hb)|hb;exact .inl hb;exact .inr fR;exact .inr fR);have h1:SlS w (fun b=>S b∧b<w.heap.size) ra 2 rs.length (jN rs):=HRS.out.mono fun b h1 h2=>⟨h1,h2⟩
     refine(h1.keep (hqa.kept (S:=fun b=>S b∧b<w.heap.size) fun b hb e=>hSg (e▸hb.1)))
    have HGX:=ab hGx;have HPA:=ab hpa;have HRA:=ab hra;have HGA:=ab hga;have HQA:=ab hqa;have HV:=ab hv;have HWA:Hid (wr.setCell ⟨bp,10,none⟩ (.int .i64 (G:Int))=Wa):=ab hWa.symm;clear hd HGI HPI HOI HQI HRI hpa hra hga hqa hks hrs hv hWa hGx hG;go_upto_region 10 with fail
    rw [HWA.out];clear c0 s10 s10f HWA;go_wp2_with (first
     | (refine jI rfl 118 (.tmp 5) rfl (bp) 0 rfl ((ptc kd c ng ra rs.length rc lo hi lz ka ks.length kc va ks.length vc g G)) _ (jK (ds:=[]) ((by rw [D8];exact HPA.out))) zD rfl (by rw [uo];rfl) ?_)
     | (refine lM rfl 118 (.tmp 4) (.tmp 41) rfl ((w.heap.size+1)) ((ptc kd c ng ra rs.length rc lo hi lz ka ks.length kc va ks.length vc g G).toArray) rfl rfl 118 _ (HRA.out) (uo) rfl rfl ((fun u hu=>HV.out.one u (by simpa using hu))) (W:=(Wa.setRow (w.heap.size+1) (ptc kd c ng ra rs.length rc lo hi lz ka ks.length kc va ks.length vc g G).toArray)) (rfl) ?_))
    have hres:=oi (cs:=(ptc kd c ng ra rs.length rc lo hi lz ka ks.length kc va ks.length vc g G).toArray) HRA.out;refine DX (results_cell_row Tryz.results105 _ _ (w.heap.size+1) _ _ _ _ rfl hres zD rfl uo) rfl ?_;have hkr:Kept (fun b=>(S b∧b<w.heap.size)∨w.heap.size+1+1≤b) Wa (Wa.setRow (w.heap.size+1) (ptc kd c ng ra rs.length rc lo hi lz ka ks.length kc va ks.length vc g G).toArray):=⟨by rw [xj];exact Dv _,fun b hb _=>q9 _ (by rcases hb with hb|hb<;>omega)⟩;refine⟨_,rfl,(HV.out.keep hkr).mono fun b hb _=>by rcases hb with hb|hb;exact .inl hb;exact .inr fR,?_,?_⟩
    ·rw [q9 _ fR,HGA.out,HGX.out]
     simp only [Rx.groups,own5,Eb]
    ·refine HQA.out.to (qI Wa (w.heap.size+1) _) (fun k hk h=>?_)
     have:k=w.heap.size+1:=h
     omega
   | cons y r =>
    obtain⟨h2,h3,hr⟩:=jO hd;obtain⟨e1,e2⟩:=oE ks i y h3;have HEY:=ab (show ks[i]?.toList=[y] by rw [h3];rfl);have hkk:=HKS.out.keep (HQI.out.kept (S:=fun b=>S b∧b<w.heap.size) fun b hb e=>hSg (e▸hb.1));have hiy:=HIH.out y (DL h3);obtain⟨yk,yc,yn,yr,yl,yh,yz,ys⟩:=y;obtain⟨b,o,ya,yrc,yka,ykc,rfl,_,_,_,_,hyv,k0,k1,k2,k3,k4,k5,k6,k7⟩:=hkk.cells h3;obtain⟨GI,hGI⟩:∃GI,G0+Rx.groupsL (ks.take i)=GI:=⟨_,rfl⟩;rw [hGI] at HGI;have hgI:GI+(Rx.mk yk yc yn yr yl yh yz ys).groups≤1000000:=by
     have:=HG0.out;simp only [Rx.groups,own5] at hgl this;rw [←hGI];simp only [Rx.groups] at e2 ⊢;omega
    obtain⟨va,vc,rfl,_⟩:=HOI.out.form;have hil:(ks.take i).length=i:=by rw [DT];omega
    rw [hil] at HPI HOI;obtain⟨wk,hwk⟩:∃wk,wk=wr.alloc (.cells (rxc yk yc yn ya yr.length yrc yl yh yz yka ys.length ykc).toArray 25):=⟨_,rfl⟩;have hbk:Below wr.heap.size wr wk:=by rw [hwk];exact(Below.refl _ _).alloc (Dv _) _
    have hxk:wk.heap[wr.heap.size]?=some (.cells (rxc yk yc yn ya yr.length yrc yl yh yz yka ys.length ykc).toArray 25 (0,0)):=by rw [hwk];exact heap_alloc_new wr _
    have hgk:=(hbk.block _ (jA HGI.out)).trans HGI.out;have hpk:=(hbk.block _ (jA HPI.out)).trans HPI.out;have hok:=HOI.out.later hbk;have hdk:Below wk.heap.size wk wk.drew:=(Below.refl _ _).drew;have hC:=hiy (fun b=>S b∧b<w.heap.size) _ wk.drew gb GI ((hyv.later hbk).later hdk) hgk (fun h=>hSg h.1) hgI;have HC:=ab hC;have HWK:=ab hwk;have HPK:=ab hpk;have HRK:=ab ((hbk.block _ (jA HRI.out)).trans HRI.out);have HOK:=ab hok;have HQK:Hid (Gx (fun k=>k=gb) w wk):=ab (HQI.out.to (Gx.of_below (X:=fun k=>k=gb) hbk) (fun _ _ h=>h));have hzk:wk.heap.size=wr.heap.size+1:=by rw [hwk];simp
    have HZK:=ab hzk;have hxk':=hxk;unfold rxc at hxk' HC HWK;obtain⟨m0,m1,m2,m3,m4,m5,m6,m7,_⟩:=jD hxk';have m8:wk.cell? ⟨bp,8,none⟩=some (.slice va i vc):=by rw [DB hpk];rfl
    clear hC hwk hbk hxk hxk' hgk hpk hok hyv hiy hkk HGI HPI HOI HQI HRI hd hzk;go_upto_region 7 with fail
    rw [←HWK.out];clear k0 k1 k2 k3 k4 k5 k6 k7 HWK;obtain⟨ip,hip⟩:=info_parts Bi;have HGI2:=ab hGI;have HIL:=ab hil;clear hGI hil;go_region_law (first
     | (go_simp;go_at_call 105;refine HC.out.mono ?_;rintro e w9 ⟨pc,rfl,hpv,hg9,hx9⟩;have m9:w9.cell? ⟨bp,8,none⟩=some (.slice va i vc):=(by rw [DB (hx9.heap HPK.out (fun e=>HNE.out.1 e.symm))];rfl);obtain⟨css,hl1,hl2,hl3,hl4⟩:=laid_app (HOK.out.later hdk) hx9 hpv HGI2.out (by have:=HZP.out;omega) (fun b hb=>⟨by have:=HZP.out;omega,fun e=>hSg (e▸hb.1)⟩) (by have:=HZI.out;have:=HZK.out;simp;omega) HIL.out.symm;have HL1:=ab hl1;have HL2:=ab hl2;have HL3:=ab hl3;have HL4:=ab hl4;have HPV:=ab hpv;have HG9:=ab hg9;have HX9:=ab hx9;clear hl1 hl2 hl3 hl4 hg9 hx9;have m9b:=jH ((Below.refl w9.heap.size w9).alloc (Dv _) (.cells pc.toArray 118)) _ _ m9;obtain⟨qa,qc,qka,qkn,qkc,qpa,qpc,hqe,_,_,_⟩:=hpv.open_;generalize GI+own5 yk+Rx.groupsL ys=gq at hqe;subst hqe;unfold ptc at m9b ⊢)
     | (refine Ce (bp+1) 118 rfl _ _ 116 rfl Tryz.underlying116 hip rfl fU rfl HL1.out rfl HL4.out (HPV.out.one) fR fR fU (by have:=HX9.out.size;have:=HZI.out;have:=HZK.out;simp at *;omega) ?_;intro v8 w8 ho8 hg8 hb8 hm8;have hp8:=xQ (wk:=wk.drew) HPK.out HX9.out HNE.out.1.symm hg8 HL1.out (Nat.lt_succ_self bp);obtain⟨a8,c8,rfl⟩:=jX ho8;have s8:w8.cell? ⟨bp,8,none⟩=some (.slice va i vc):=(by rw [DB hp8];rfl);have s8f:w8.frozen? ⟨bp,8,none⟩=false:=(by simp only [World.frozen?,hp8];simp);have HP8:=ab hp8;clear hp8;have HO8:=ab (OwnP.app HL2.out HL3.out (by rw [HIL.out];exact ho8) hg8 hm8);have HG8:=ab hg8;clear ho8 hg8 hb8 hm8))
    all_goals
     have hgb8:w8.heap[gb]?=some (.cells #[.int .i64 ((GI+(Rx.mk yk yc yn yr yl yh yz ys).groups:Nat):Int)] 3 (0,0)):=xQ (wk:=w9) HG9.out (Gx.refl (fun k=>k=bp) w9) HNE.out.1 HG8.out HL1.out (by have:=HZP.out;omega);have hbv:=HL1.out.lt;obtain⟨W9,hW9⟩:∃W9,W9=(w8.setCell ⟨bp,8,none⟩ (.slice a8 (i+1) c8)):=⟨_,rfl⟩;have HGI':Hid (W9.heap[gb]?=some (.cells #[.int .i64 ((G0+Rx.groupsL (ks.take (i+1)):Nat):Int)] 3 (0,0))):=ab (by
      rw [hW9,heap_setCell_other _ _ _ _ HNE.out.1,hgb8,e1,←Eb,HGI2.out])
     have HPI':Hid (W9.heap[bp]?=some (pbox kd c ng ra rs.length rc lo hi lz (some ⟨b,o,none⟩) ks.length kc (.slice a8 (i+1) c8) g 0)):=ab (by rw [hW9,heap_setCell_same _ _ _ _ _ _ HP8.out];rfl);have HRI':Hid (W9.heap[w.heap.size+1]?=some (.cells #[.int .i64 0,.string ⟨#[]⟩,.bool false,.slice none 0 0,.int .i64 0,.int .i64 0,.bool false,.slice none 0 0,.slice none 0 0,.int .i64 0,.int .i64 0] 118 (0,0))):=ab (by
      rw [hW9,heap_setCell_other _ _ _ _ (by show w.heap.size+1≠bp;have:=HZP.out;omega)];exact xQ (wk:=wk.drew) HRK.out HX9.out (by have:=HNE.out;omega) HG8.out HL1.out (by have:=HZP.out;omega))
     have HOI':Hid (OwnP W9 (bp+1) (fun b=>(S b∧b<w.heap.size)∨bp+1≤b) (.slice a8 (i+1) c8) (ks.take (i+1)) G0):=ab (by
      have h:=HO8.out.gx (X:=fun k=>k=bp) (Gx.set w8 (a:=⟨bp,8,none⟩) (.slice a8 (i+1) c8) rfl) (fun b hb e=>by have:=HZP.out;rcases hb with hb|hb<;>omega) (fun k hk e=>by
       obtain⟨cs8,h8,_⟩:=HO8.out;have:=(h8.lt k hk).1;omega)
      rw [hW9,List.take_add_one,HEY.out];exact h)
     have HQI':Hid (Gx (fun k=>k=gb) w W9):=ab (by
      have hz:=HZP.out;rw [hW9];refine(((HQK.out.to (Gx.of_below (X:=fun k=>k=gb) hdk) (fun _ _ h=>h)).to HX9.out (fun _ _ h=>h)).to (Gx.of_below (X:=fun k=>k=gb) ((Below.refl _ _).alloc (Dv _) _)) (fun _ _ h=>h)).to ((Gx.of_grown (X:=fun k=>bp≤k) HG8.out (fun k hk=>by have:=(hbv k hk).1;omega)).to (Gx.set (X:=fun k=>bp≤k) w8 (a:=⟨bp,8,none⟩) _ (Dv bp)) (fun _ _ h=>h)) (fun k hk h=>?_)
      have:bp≤k:=h
      omega)
     have HZI':Hid (bp+1≤W9.heap.size):=ab (by have:=jA HPI'.out;omega);rw [←hW9];clear hgb8 hbv hW9 s8 s8f HG8 HP8 HO8 HL1 HL2 HL3 HL4 HPV HG9 HX9 m0 m1 m2 m3 m4 m5 m6 m7 m8 m9 m9b;go_wp2
     go_roundw
     case rel=>exact⟨i+1,.slice a8 (i+1) c8,by omega,by go_num,HGI',HPI',HOI',HQI',HZI',HRI'⟩
     case measure=>simp [intOf];omega
theorem yQ:∀(N:Nat) (x:Rx),x.parts≤N→x.small→LaidC x
 | 0,x,h,_=>by have:=Rx.parts_pos x;omega
 | N+1,.mk kd c ng rs lo hi lz ks,h,hsm=>by
  obtain⟨⟨_,_,_,s4⟩,hsmL⟩:=hsm;simp only [Rx.parts] at h;exact Cj (fun y hy=>yQ N y gS (kV hsmL hy)) s4
theorem nan_int (x:Int) (w:World):Calls Tryz.prog 155 #[.int .i64 x] w fun e w'=>e=.returned (.bool false)∧w=w':=by
 go_enter Tryz.func155,Tryz.ntmps155
 go_wp2
 go_ret
 exact⟨jG fX,rfl⟩
theorem less_int (x y:Int) (w:World):Calls Tryz.prog 132 #[.int .i64 x,.int .i64 y] w fun e w'=>e=.returned (.bool (decide (x<y)))∧w=w':=by
 go_enter Tryz.func132,Tryz.ntmps132
 go_wp2_with (go_at_call 155;refine(nan_int _ _).mono ?_;rintro e w1 ⟨rfl,rfl⟩)
 go_ret
 exact⟨rfl,rfl⟩
theorem By {x y:Int} {b:Bool} (w:World) (h:decide (x<y)=b):Calls Tryz.prog 132 #[.int .i64 x,.int .i64 y] w fun e w'=>e=.returned (.bool b)∧w=w':=h▸less_int x y w
def Rises (l:List Nat):Prop:=∀a b,a<b→b<l.length→l.getD a 0<l.getD b 0
def BnRel (w:World) (n k:Nat) (p q:Value) (wr:World):Prop:=∃i j:Nat,i≤k∧k≤j∧j≤n∧p=.int .i64 i∧q=.int .i64 j∧wr=w
theorem AX (S:Nat→Prop) (a:Option Addr) (c:Nat) (l:List Nat) (w:World) (h:SlS w S a 1 l.length (nU l)) (hl:l.length≤2000000) (hr:Rises l) (k:Nat) (hk:k<l.length) (t:Nat) (ht:l.getD k 0=t) :
  Calls Tryz.prog 108 #[.slice a l.length c,.int .i64 t] w fun e w'=>e=.returned (.tuple #[.int .i64 k,.bool true])∧w=w':=by
 obtain⟨b,o,rfl,_,_,hc⟩:=h.2 fR;have hcell:∀j,j<l.length→w.cell? ⟨b,o+j,none⟩=some (.int .i64 ((l.getD j 0:Nat):Int)):=fun j hj=>hc j _ (vZ hj)
 have HC:=ab hcell;have HR:=ab hr;have HT:=ab ht;clear h hc hcell hr ht;go_enter Tryz.func108,Tryz.ntmps108
 go_wp2
 go_loopw [7,8] (fun p q wr=>BnRel w l.length k p q wr) (fun p q _=>(intOf q).toNat-(intOf p).toNat)
 case atStart=>exact⟨0,l.length,by omega,by omega,by omega,rfl,rfl,rfl⟩
 case round =>
  obtain⟨i,j,h1,h2,h3,rfl,rfl,rfl⟩:=hrel;by_cases hij:i<j
  ·obtain⟨m,hm⟩:∃m,m=(i+j) / 2:=⟨_,rfl⟩
   have hm1:m<j:=fR;have hm2:i≤m:=fR;have hme:((i:Int)+(j:Int)) / 2=(m:Int):=fR;have HME:=ab hme;have hcm:=HC.out m fR;obtain⟨u,hu⟩:∃u,l.getD m 0=u:=⟨_,rfl⟩;rw [hu] at hcm;have hml:(m:Int)<(l.length:Int):=fR;have HU:Hid ((u<t→m<k)∧(¬u<t→k≤m)):=ab (by
    rw [←hu,←HT.out];refine⟨fun h=>?_,fun h=>?_⟩
    ·rcases Nat.lt_or_ge m k with h1|h1
     ·exact h1
     ·rcases Nat.eq_or_lt_of_le h1 with rfl|h1
      ·omega
      ·have:=HR.out k m h1 fR;omega
    ·rcases Nat.lt_or_ge m k with h1|h1
     ·exact absurd (HR.out m k h1 hk) h
     ·exact h1)
   clear hm hme hu;go_upto_region 5 with fail
   rw [HME.out];clear HME;by_cases hut:u<t
   ·have hmk:=HU.out.1 hut
    have HL:=ab (fun w=>By (x:=(u:Int)) (y:=(t:Int)) w (DN fR));go_wp2_with (go_at_call 132;refine(HL.out _).mono ?_;rintro e w1 ⟨rfl,rfl⟩)
    go_roundw
    case rel=>exact⟨m+1,j,by omega,by omega,by omega,by go_num,rfl,rfl⟩
    case measure=>simp [intOf];omega
   ·have hmk:=HU.out.2 hut
    have HL:=ab (fun w=>By (x:=(u:Int)) (y:=(t:Int)) w (DU fR));go_wp2_with (go_at_call 132;refine(HL.out _).mono ?_;rintro e w1 ⟨rfl,rfl⟩)
    go_roundw
    case rel=>exact⟨i,m,by omega,by omega,by omega,rfl,rfl,rfl⟩
    case measure=>simp [intOf];omega
  ·have hik:i=k:=fR
   subst hik;have hjk:j=i:=fR;subst hjk;have hcm:=HC.out j hk;rw [HT.out] at hcm;go_wp2
   go_ret2
   exact⟨rfl,rfl⟩
theorem vx (S:Nat→Prop) (a:Option Addr) (c:Nat) (l:List Nat) (w:World) (h:SlS w S a 1 l.length (nU l)) (hl:l.length≤2000000) (hr:Rises l) (k:Nat) (hk:k<l.length) (t:Nat) (ht:l.getD k 0=t) :
  Calls Tryz.prog 85 #[.slice a l.length c,.int .i64 t] w fun e w'=>e=.returned (.tuple #[.int .i64 k,.bool true])∧w=w':=by
 have HS:=ab (AX S a c l w h hl hr k hk t ht);clear h hr ht;go_enter Tryz.func85,Tryz.ntmps85
 go_wp2_with (go_at_call 108;refine HS.out.mono ?_;rintro e w1 ⟨rfl,rfl⟩)
 go_ret2
 exact⟨rfl,rfl⟩
theorem xU (a:Option Addr) (n c:Nat) (l:List (Int × Int)) (w:World) (hl:n=l.length) (h:Sl w w.heap.size a 2 n (jV l)) (hn:n≤1000000) :
  Calls Tryz.prog 131 #[.slice a n c] w fun e w'=>∃a' c',e=.returned (.slice a' n c')∧SlS w' (fun b=>w.heap.size≤b) a' 2 n (jV l)∧Below w.heap.size w w':=by
 subst hl;obtain⟨ir,hir⟩:=info_parts sD;cases a with
 | none =>
  have h0:l=[]:=by
   rcases Nat.eq_zero_or_pos l.length with h0|h0
   ·exact Ds h0
   ·obtain⟨b,o,e,_⟩:=h.2 h0;cases e
  subst h0;have hq:(binOp .eql 68 (.slice none 0 c) (.slice none 0 0)).run Tryz.prog w=.ok (.bool true) w:=Go.run_eql_slice_nil w _ _ none 0 c Tryz.underlying68;go_enter Tryz.func131,Tryz.ntmps131
  go_wp2
  go_ret
  exact⟨none,0,rfl,SlS.none_ _ _ _ _,Below.refl _ _⟩
 | some ad =>
  have HS:=ab (h.alloc_self (.cells #[] 67));have hq:(binOp .eql 68 (.slice (some ad) l.length c) (.slice none 0 0)).run Tryz.prog w=.ok (.bool false) w:=Go.run_eql_slice_nil w _ _ (some ad) _ c Tryz.underlying68;clear h;go_enter Tryz.func131,Tryz.ntmps131
  go_wp2_with (at_builtin;refine kf w.heap.size 67 rfl _ _ 68 rfl Tryz.underlying68 hir rfl fU rfl (World.ownsRow_made w #[] 0 (Dv _) (by simp [maxLen]) rfl) rfl HS.out (oR l) fR fR fU fX ?_)
  exact cY
structure RunJ (R:Rn) (w:World) (st:Rst):Prop where
 box:w.heap[R.r]?=some (.cells (R.cells st).toArray 121 (0,0))
 ps:w.ownsRow R.B 67 2 R.pv R.n (jV st.ps)
 ch:SlS w R.S R.ca 1 R.C.cs.length (kS R.C.cs)
 of:SlS w R.S R.oa 1 (R.C.cs.length+1) (nU R.C.offs)
 fu:st.fuel≤20000
structure RnJ (R:Rn):Prop where
 tp:R.tp.length=11
 one:∀u∈R.tp,u.oneCell'=true
 cs:R.C.cs.length≤1000000
 ch:∀c∈R.C.cs,c.length≤1000000
 of:R.C.offs.length=R.C.cs.length+1
 ov:∀o∈R.C.offs,o≤1000000
 pr:R.pv.ownBlock≠some R.r
 sr:∀b,R.S b→b≠R.r∧R.pv.ownBlock≠some b
 n:R.n≤1000
def Rn.at_ (R:Rn) (t:Nat):Rn:={ R with t:=t }
def Rn.Y (R:Rn) (k:Nat):Prop:=k=R.r∨R.pv.ownBlock=some k
theorem RunJ.lt {R:Rn} {w:World} {st:Rst} (h:RunJ R w st):R.r<w.heap.size∧∀k,R.pv.ownBlock=some k→k<w.heap.size:=⟨jA h.box,fun k hk=>(h.ps.lt k hk).2⟩
theorem RnJ.ok {R:Rn} (h:RnJ R) {t:Nat} (h1:R.r≠t) (h2:R.pv.ownBlock≠some t) (h3:¬R.S t):RnOk (R.at_ t) :=
 ⟨h.tp,h.one,h.cs,h.ch,h.of,h.ov,h1,h.pr,h2,fun b hb e=>by
  rcases e with e|e|e
  ·exact(h.sr b hb).1 e
  ·exact h3 ((show b=t from e)▸hb)
  ·exact(h.sr b hb).2 e,h.n⟩
theorem RunJ.later {R:Rn} {w w':World} {st:Rst} (h:RunJ R w st) (hb:Below w.heap.size w w'):RunJ R w' st :=
 ⟨(hb.block _ (jA h.box)).trans h.box,lX h.ps hb,h.ch.keep (Kept.all hb),h.of.keep (Kept.all hb),h.fu⟩
theorem RunJ.open {R:Rn} {w:World} {st:Rst} (h:RunJ R w st) {t:Nat} (ht:w.heap[t]?=some (.cells #[.int .i64 st.en] 3 (0,0))):RunI (R.at_ t) w st:=⟨h.box,ht,h.ps,h.ch,h.of,h.fu⟩
theorem RunI.close {R:Rn} {w:World} {st:Rst} {t:Nat} (h:RunI (R.at_ t) w st):RunJ R w st:=⟨h.box,h.ps,h.ch,h.of,h.fu⟩
theorem RunJ.en {R:Rn} {w:World} {st:Rst} (h:RunJ R w st) (e:Int):RunJ R w { st with en:=e }:=⟨h.box,h.ps,h.ch,h.of,h.fu⟩
theorem oneW {R:Rn} (ok:RnOk R) (w0:World) (k:Nat) :
  KW R w0 k (.func (.func 130) #[] #[.pointer (some ⟨R.t,0,none⟩)]) (fun e s=>(true,{ s with en:=(e:Int) })):=by
 refine⟨_,_,rfl,enters_of Tryz.func130 fW rfl,fun w st e hx hr hk he=>?_⟩;have c0:=jM hr.tb;have f0:w.frozen? ⟨R.t,0,none⟩=false:=by simp only [World.frozen?,hr.tb];simp
 have hfx:Fx R w (w.setCell ⟨R.t,0,none⟩ (.int .i64 (e:Int))):=Gx.set w _ (.inr (.inl rfl));have hk2:=Fx.kept ok hfx;have HRI:Hid (RunI R (w.setCell ⟨R.t,0,none⟩ (.int .i64 (e:Int))) { st with en:=(e:Int) }):=ab
  ⟨(heap_setCell_other w _ _ _ ok.rt).trans hr.box,by rw [heap_setCell_same _ _ _ _ _ _ hr.tb];rfl,
   pT (X:=fun k=>k=R.t) hr.ps (Gx.set w _ rfl) (fun k hk e=>ok.pt (by rw [hk,e])),hr.ch.keep hk2,hr.of.keep hk2,hr.fu⟩
 have HFX:=ab hfx;clear hr hx hfx hk2 ok;show Calls Tryz.prog 130 #[.int .i64 (e:Int),.pointer (some ⟨R.t,0,none⟩)] w _
 go_enter Tryz.func130,Tryz.ntmps130
 go_wp2
 go_ret
 exact⟨rfl,HRI.out,HFX.out⟩
def NoneRow (w:World) (B b n cap:Nat) (ps:List (Int × Int)) (q:Value) (wr:World):Prop :=
 ∃k:Nat,k≤n∧q=.int .i64 k∧wr.ownsRow B 67 2 (.slice (some ⟨b,0,none⟩) n cap) n (jV (kP ps 0 k))∧Gx (fun k=>k=b) w wr
theorem A9 (ps:List (Int × Int)):kP ps 0 ps.length=List.replicate ps.length (-1,-1):=by simp [kP]
theorem none_row {B b n cap:Nat} {ps:List (Int × Int)} (w:World) (h:w.ownsRow B 67 2 (.slice (some ⟨b,0,none⟩) n cap) n (jV ps)) (hn:n≤1000) :
  Calls Tryz.prog 128 #[.slice (some ⟨b,0,none⟩) n cap] w fun e w'=>e=.returned (.tuple #[])∧w'.ownsRow B 67 2 (.slice (some ⟨b,0,none⟩) n cap) n (jV (List.replicate n (-1,-1)))∧Gx (fun k=>k=b) w w':=by
 have hl:ps.length=n:=by have:=h.1;rw [ko] at this;omega
 have H0:Hid (w.ownsRow B 67 2 (.slice (some ⟨b,0,none⟩) n cap) n (jV (kP ps 0 0))):=ab (by rw [ph];exact h);have HL:=ab hl;clear h hl;go_enter Tryz.func128,Tryz.ntmps128
 go_wp2
 go_loopw [5] (fun q wr=>NoneRow w B b n cap ps q wr) (fun q _=>n-(intOf q).toNat)
 case atStart=>exact⟨0,by omega,rfl,H0.out,Gx.refl _ _⟩
 case round =>
  obtain⟨k,hk,rfl,ho,hx⟩:=hrel;clear H0;by_cases hlt:k<n
  ·have hpl:(kP ps 0 k).length=n:=by rw [Aa _ _ _ (Nat.zero_le _) (by rw [HL.out];omega),HL.out]
   obtain⟨e1,e2⟩:=pz (Dt (show k<(kP ps 0 k).length by omega));have c1:=(ho.cellAt (k*2) fR).trans e1;have c2:=(ho.cellAt (k*2+1) fR).trans e2;have f1:=ho.frozenAt (k*2);have f2:=ho.frozenAt (k*2+1);have hs:=((ho.stored (k*2) (.int .i64 (-1))).1.stored (k*2+1) (.int .i64 (-1))).1;rw [qj _ k (-1,-1) fR] at hs;have hst:=rA ps 0 k (by rw [HL.out];omega);simp only [Nat.zero_add,sy] at hst;rw [hst] at hs;have hx2:Gx (fun k=>k=b) w ((wr.setCell ⟨b,k*2,none⟩ (.int .i64 (-1))).setCell ⟨b,k*2+1,none⟩ (.int .i64 (-1))) :=
    (hx.to (Gx.set (X:=fun k=>k=b) wr (a:=⟨b,k*2,none⟩) _ rfl) (fun _ _ h=>h)).to (Gx.set (X:=fun k=>k=b) _ (a:=⟨b,k*2+1,none⟩) _ rfl) (fun _ _ h=>h)
   have HS:=ab hs;have HX:=ab hx2;clear e1 e2;generalize (kP ps 0 k)[k]' fR=pk at c1 c2
   clear hs hx2 hst hpl ho hx;go_wp2_with (fail)
   go_roundw
   case rel=>exact⟨k+1,by omega,by go_num,HS.out,HX.out⟩
   case measure=>simp [intOf];omega
  ·have e:k=n:=fR
   subst e;have HR:Hid (wr.ownsRow B 67 2 (.slice (some ⟨b,0,none⟩) k cap) k (jV (List.replicate k (-1,-1)))):=ab (by
    have:=A9 ps;rw [HL.out] at this;rw [←this];exact ho)
   clear ho;go_wp2_with (fail)
   go_end0
   exact⟨rfl,HR.out,hx⟩
theorem none_all {R:Rn} (j:RnJ R) {w:World} {st:Rst} (h:RunJ R w st) :
  Calls Tryz.prog 128 #[.slice R.pa R.n R.pc] w fun e w'=>e=.returned (.tuple #[])∧RunJ R w' { st with ps:=List.replicate R.n (-1,-1) }∧Gx R.Y w w':=by
 rcases Nat.eq_zero_or_pos R.n with h0|h0
 ·have hps:=h.ps
  have hz:jV st.ps=[]:=Ds (by rw [hps.1,h0]);rw [h0];refine(zM R.pa R.pc w).mono fun e w2 ⟨e1,e2⟩=>?_
  subst e2;exact⟨e1,⟨h.box,by rw [hz] at hps;exact hps,h.ch,h.of,h.fu⟩,Gx.refl _ _⟩
 ·have hps:=h.ps
  obtain⟨b,hb⟩:∃b,R.pa=some ⟨b,0,none⟩:=by
   rcases hps.2 with⟨_,h1⟩|⟨g,cap,cur,hv,_⟩
   ·omega
   ·injection hv with hv _ _;exact⟨g,hv⟩
  have hpv:R.pv.ownBlock=some b:=by unfold Rn.pv;rw [hb];rfl
  unfold Rn.pv at hps;rw [hb] at hps ⊢;refine(none_row w hps j.n).mono fun e w2 ⟨e1,e2,e3⟩=>?_
  have hk:Kept R.S w w2:=e3.kept fun b' hb' e=>(j.sr b' hb').2 (by rw [hpv,e])
  refine⟨e1,⟨Gx.heap e3 h.box (fun e=>j.pr (by rw [hpv,e])),by unfold Rn.pv;rw [hb];exact e2,h.ch.keep hk,h.of.keep hk,h.fu⟩,⟨e3.os,e3.tape,e3.output,e3.size,fun k hk hy=>e3.block k hk (fun e=>hy (.inr (by rw [hpv,e])))⟩⟩
theorem lx:Tryz.prog.underlying 70=some (.struct (Tryz.prog.fieldsOf 70)):=by kernel_rfl
theorem ky:(Tryz.prog.info? 70).map (·.size)=some 3:=by kernel_rfl
def mz:Value:=.agg #[.int .i64 0,.int .i64 0,.slice none 0 0]
def OneP (R:Rn) (k:Nat) (q:Option (Nat × List (Int × Int)) × Rst) (w:World) (e:Ending) (w':World):Prop :=
 RunJ R w' q.2∧Gx R.Y w w'∧match q.1 with
  | none=>e=.returned (.tuple #[mz,.bool false])
  | some (en,ps)=>∃a c,e=.returned (.tuple #[.agg #[.int .i64 ((R.C.offs.getD k 0:Nat):Int),.int .i64 ((R.C.offs.getD en 0:Nat):Int),.slice a R.n c],.bool true])∧SlS w' (fun b=>w.heap.size≤b) a 2 R.n (jV ps)∧ps.length=R.n∧k≤en∧en≤R.C.cs.length
theorem ex_fld {o:Oper} {a:Act} {w:World} {t r:Nat} (ho:o.op=.fieldAddr 121 (.tmp t) 3) (e:a.tmps[t]?=some (.pointer (some ⟨r,0,none⟩))):(execOp a.eval o).run Tryz.prog w=.ok (.value (.pointer (some ⟨r,13,none⟩))) w:=by
 have e2:=pg e;simp only [execOp,ho];go_simp
theorem ex_fld4 {o:Oper} {a:Act} {w:World} {t r:Nat} (ho:o.op=.fieldAddr 121 (.tmp t) 4) (e:a.tmps[t]?=some (.pointer (some ⟨r,0,none⟩))):(execOp a.eval o).run Tryz.prog w=.ok (.value (.pointer (some ⟨r,14,none⟩))) w:=by
 have e2:=pg e;simp only [execOp,ho];go_simp
theorem CU {o:Oper} {a:Act} {w:World} {x y b f n cap k:Nat} (ho:o.op=.indexAddr 119 (.tmp x) (.tmp y)) (e1:a.tmps[x]?=some (.slice (some ⟨b,f,none⟩) n cap)) (e2:a.tmps[y]?=some (.int .i64 (k:Int))) (hk:k<n):(execOp a.eval o).run Tryz.prog w=.ok (.value (.pointer (some ⟨b,f+k,none⟩))) w:=by
 exact dL
theorem ex_bld {o:Oper} {a:Act} {w:World} {x y:Nat} {u v:Int} (ho:o.op=.build 67 #[(0,.tmp x),(1,.tmp y)]) (e1:a.tmps[x]?=some (.int .i64 u)) (e2:a.tmps[y]?=some (.int .i64 v)):(execOp a.eval o).run Tryz.prog w=.ok (.value (.agg #[.int .i64 u,.int .i64 v])) w:=by
 exact dL
theorem ex_bldM {o:Oper} {a:Act} {w:World} {x y:Nat} {u v:Int} {A:Option Addr} {n c:Nat} (ho:o.op=.build 70 #[(0,.tmp x),(1,.tmp y)]) (e1:a.tmps[x]?=some (.agg #[.int .i64 u,.int .i64 v])) (e2:a.tmps[y]?=some (.slice A n c)):(execOp a.eval o).run Tryz.prog w=.ok (.value (.agg #[.int .i64 u,.int .i64 v,.slice A n c])) w:=by
 exact dL
theorem ex_asg {P:Program} {o:Oper} {a:Act} {w:World} {v:Value} (ho:o.op=.assign (.const v)):(execOp a.eval o).run P w=.ok (.value v) w:=by
 simp [execOp,ho,Act.eval]
theorem C1 {P:Program} {ops:Array Oper} {rest:List Oper} {o:Oper} {a:Act} {w:World} {Q:Exit→Act→World→Prop} {v:Value} (hgd:o.guard=none) (hx:(execOp a.eval o).run P w=.ok (.value v) w) (h:wpList P ops Q rest (a.put o.dst v) w):wpList P ops Q (o::rest) a w :=
 wpList_plain hgd fun _ hK=>by
  unfold Oper.wp;rw [hx];exact hK _ _ h
theorem yq {a:Act} {d:Nat} (v:Value) (h:d<a.tmps.size):(a.put (some d) v).tmps[d]?=some v:=by
 simp [Act.put,h]
theorem vb {a:Act} {d t:Nat} (v:Value) (h:d≠t):(a.put (some d) v).tmps[t]?=a.tmps[t]?:=by
 simp [Act.put,h]
theorem ld_slI {w:World} {ad:Addr} {a:Option Addr} {n c:Nat} (h:w.cell? ad=some (.slice a n c)):(Instr.loadAt 119 (.pointer (some ad))).run Tryz.prog w=.ok (.slice a n c) w:=by go_simp
theorem ld_slS {w:World} {ad:Addr} {a:Option Addr} {n c:Nat} (h:w.cell? ad=some (.slice a n c)):(Instr.loadAt 68 (.pointer (some ad))).run Tryz.prog w=.ok (.slice a n c) w:=by go_simp
def one6 (r b f k e ka ea nc oc:Nat) (pa:Option Addr) (n pc:Nat) (i:Nat):Value :=
 [Value.pointer (some ⟨r,0,none⟩),.pointer (some ⟨r,0,none⟩),.pointer (some ⟨r,13,none⟩),.slice (some ⟨b,f,none⟩) nc oc,.int .i64 (k:Int),.pointer (some ⟨b,f+k,none⟩),.int .i64 (ka:Int),
  .pointer (some ⟨r,0,none⟩),.pointer (some ⟨r,0,none⟩),.pointer (some ⟨r,13,none⟩),.slice (some ⟨b,f,none⟩) nc oc,.int .i64 (e:Int),.pointer (some ⟨b,f+e,none⟩),.int .i64 (ea:Int),
  .agg #[.int .i64 (ka:Int),.int .i64 (ea:Int)],.pointer (some ⟨r,0,none⟩),.pointer (some ⟨r,0,none⟩),.pointer (some ⟨r,14,none⟩),.slice pa n pc].getD i undef
def OneI (W:World) (PM:Value→World→Prop) (cst:Nat→Value) (A0:Act) (W0:World) (L:Nat→Bool) (a:Act) (w':World):Prop :=
 W0.drew=W∧∃V:Nat→Value,Fm2 [29,30,31,32,33,34,35,36,37,38,39,40,41,42,43,44,45,46,47,48] V A0 a∧OneE 19 W PM (fun i v=>i=19∨v=cst i) V L w'
theorem nb {W w':World} {PM:Value→World→Prop} {VC:Nat→Value→Prop} {V:Nat→Value} {L:Nat→Bool} (hO:OneE 19 W PM VC V L w') (hP:∀v x,PM v x→Below W.heap.size W x) {ad:Addr} {u:Value} (h:W.cell? ad=some u):w'.cell? ad=some u:=by
 cases hm:L 19 with
 | false=>rw [hO.h0 hm];exact h
 | true=>exact jH (hP _ _ (hO.h1 hm)) _ _ h
structure RunT (R:Rn) (x:Rx) (w:World):Prop where
 tp:PtV w R.S R.tp x 0
 n:x.groups=R.n
 wf:x.wf=true
 sm:x.small
 lt:∀b,R.S b→b<w.heap.size
def ol (R:Rn) (st:Rst):Rst:={ st with ps:=List.replicate R.n (-1,-1),en:=-1 }
theorem RunJ.gx {X:Nat→Prop} {R:Rn} {w w':World} {st:Rst} (h:RunJ R w st) (hg:Gx X w w') (h1:¬X R.r) (h2:∀k,R.pv.ownBlock=some k→¬X k) (h3:∀b,R.S b→¬X b):RunJ R w' st:=by
 have hk:=hg.kept h3;exact⟨Gx.heap hg h.box h1,pT h.ps hg h2,h.ch.keep hk,h.of.keep hk,h.fu⟩
theorem one_any {R:Rn} (j:RnJ R) {x:Rx} {w:World} {st:Rst} (h:RunJ R w st) (hx:RunT R x w) {k:Nat} (hk:k≤R.C.cs.length) :
  Calls Tryz.prog 107 #[.pointer (some ⟨R.r,0,none⟩),.int .i64 k] w (OneP R k (oneM R.C x k st) w):=by
 obtain⟨hlr,hlp⟩:=h.lt;obtain⟨W1,hW1⟩:∃W1,W1=w.alloc (.cells #[.int .i64 0,.int .i64 0,.slice none 0 0] 70):=⟨_,rfl⟩;have hb1:Below w.heap.size w W1:=by rw [hW1];exact(Below.refl _ _).alloc (Dv _) _
 have hz1:W1.heap.size=w.heap.size+1:=by rw [hW1];simp
 have hx1:W1.heap[w.heap.size]?=some (.cells #[.int .i64 0,.int .i64 0,.slice none 0 0] 70 (0,0)):=by rw [hW1];exact heap_alloc_new w _
 have hj1:=h.later hb1;have c14:W1.cell? ⟨R.r,14,none⟩=some (.slice R.pa R.n R.pc):=by
  have hl:=j.tp;rw [DB hj1.box];unfold Rn.cells;simp only [List.getElem?_toArray];rw [DJ fR,hl];rfl
 have HN:=ab (none_all j hj1);have HJ:=ab j;have HH:=ab h;have HX:=ab hx;have HW1:=ab hW1;have HX1:=ab hx1;have HB1:=ab hb1;have HZ1:=ab hz1;clear j h hx hW1 hx1 hj1 hb1 hz1;go_enter Tryz.func107,Tryz.ntmps107
 go_upto_region 1 with fail
 rw [←HW1.out];go_wp2_with (go_at_call 128;refine HN.out.mono ?_)
 first|rintro e w2 rfl hj2 hg2|rintro e w2 ⟨rfl,hj2,hg2⟩
 have HJ2:=ab hj2;have HG2:Hid (Gx R.Y w w2):=ab ((Gx.of_below (X:=R.Y) HB1.out).to hg2 (fun _ _ h=>h));have hz2:=hg2.size;have HX2:Hid (w2.heap[w.heap.size]?=some (.cells #[.int .i64 0,.int .i64 0,.slice none 0 0] 70 (0,0))):=ab (Gx.heap hg2 HX1.out (fun e=>by
  rcases e with e|e
  ·omega
  ·have:=hlp _ e;omega))
 clear hj2 hg2 c14 HN;go_upto_region 3 with fail
 obtain⟨W3,hW3⟩:∃W3,W3=w2.alloc (.cells #[.int .i64 (-1)] 3):=⟨_,rfl⟩;rw [←hW3];obtain⟨t,ht⟩:∃t,t=w2.heap.size:=⟨_,rfl⟩;rw [←ht];have hb3:Below w2.heap.size w2 W3:=by rw [hW3];exact(Below.refl _ _).alloc (Dv _) _
 have ht3:W3.heap[t]?=some (.cells #[.int .i64 (-1)] 3 (0,0)):=by rw [hW3,ht];exact heap_alloc_new w2 _
 have hzw:w.heap.size<t:=by have:=HZ1.out;omega
 have hok:RnOk (R.at_ t):=HJ.out.ok fR (fun e=>by have:=hlp _ e;omega) (fun e=>by have:=HX.out.lt t e;omega);have hr3:RunI (R.at_ t) W3 (ol R st):=RunJ.open (st:=ol R st) (((HJ2.out.later hb3)).en (-1)) ht3;have hpt:PtV W3 R.S R.tp x 0:=HX.out.tp.keep ⟨by have:=hb3.size;omega,fun b hb hlt=>(hb3.block b fR).trans (HG2.out.block b hlt (fun e=>by
  rcases e with e|e
  ·exact(HJ.out.sr b hb).1 e
  ·exact(HJ.out.sr b hb).2 e))⟩
 have hC:=Bp hok x.parts x (Dv _) HX.out.wf HX.out.sm W3 (ol R st) 0 k _ _ R.tp hpt (by have:=HX.out.n;show 0+x.groups≤R.n;omega) hr3 hk (oneW hok W3 k);have hinv:=rB (C:=R.C) (n:=R.n) (F:=st.fuel) (E:=fun z=>z=-1∨∃e:Nat,z=e∧k≤e∧e≤R.C.cs.length) x 0 k (fun e s=>(true,{ s with en:=(e:Int) })) (ol R st) (by rw [HX.out.n];omega) hk
  (fun e s h1 h2 h3=>⟨h3.len,h3.sp,.inr ⟨e,rfl,h1,h2⟩,h3.fu⟩) ⟨by simp [ol],fun v hv=>.inl (by simp [ol] at hv;exact hv.2),.inl rfl,Dv _⟩
 have hone:oneM R.C x k st=(let r:=tryM R.C x 0 k (fun e s=>(true,{ s with en:=(e:Int) })) (ol R st);if r.2.en<0∨r.2.out=true then(none,r.2) else(some (r.2.en.toNat,r.2.ps),r.2)):=by
  unfold oneM ol;rw [HX.out.n]
 obtain⟨r,hr⟩:∃r,tryM R.C x 0 k (fun e s=>(true,{ s with en:=(e:Int) })) (ol R st)=r:=⟨_,rfl⟩;rw [hr] at hinv hone;have hC':Calls Tryz.prog 129 #[.pointer (some ⟨R.r,0,none⟩),.agg R.tp.toArray,.int .i64 k,.func (.func 130) #[] #[.pointer (some ⟨t,0,none⟩)]] W3 (kL (R.at_ t) r W3):=by rw [←hr];exact hC
 obtain⟨kd,ch,ng,rs,lo,hi,lz,xs⟩:=x;obtain⟨ra,rc,ka,kn,kc,pa,pc,hte,_,_,_⟩:=hpt.open_;have hbx:W3.heap[R.r]?=some (.cells (R.tp++([.bool R.C.fold,.slice R.ca R.C.cs.length R.cc,.slice R.oa (R.C.cs.length+1) R.oc,.slice R.pa R.n R.pc,.int .i64 ((ol R st).fuel:Int),.bool (ol R st).out]:List Value)).toArray 121 (0,0)):=hr3.box;have hcs3:∀(j:Nat) (u:Value),R.tp[j]?=some u→W3.cell? ⟨R.r,0+j,none⟩=some u:=fun j u hj=>by
  rw [Nat.zero_add,DB hbx];simp only [List.getElem?_toArray];rw [DG (Dw.1 hj).1];exact hj
 rw [hte] at hcs3 hC';generalize 0+own5 kd+Rx.groupsL xs=gh at hcs3 hC'
 obtain⟨p0,p1,p2,p3,p4,p5,p6,p7,p8,p9,p10⟩:=jY hcs3;simp only [Nat.zero_add] at p1 p2 p3 p4 p5 p6 p7 p8 p9 p10;have HC:=ab hC';have HINV:=ab hinv;have HONE:=ab hone;have HOK:=ab hok;have HX3:=ab ((hb3.block _ (jA HX2.out)).trans HX2.out);have HG3:Hid (Gx R.Y w W3):=ab (HG2.out.to (Gx.of_below (X:=R.Y) hb3) (fun _ _ h=>h));have HT:=ab ht;clear hC hC' hinv hone hok hr hpt hte hbx hcs3 hb3 ht3 hW3 hr3 ht HW1 HX1;unfold ptc at HC;go_wp2_with (go_at_call 129;refine HC.out.mono ?_)
 first|rintro e w4 rfl hr4 hx4|rintro e w4 ⟨rfl,hr4,hx4⟩
 have HR4:=ab hr4;have HJ4:Hid (RunJ R w4 r.2):=ab hr4.close;have hsz4:=hx4.size;have HG4:Hid (Gx R.Y w w4):=ab (HG3.out.to hx4 (fun b hb e=>by
  rcases e with e|e|e
  ·exact .inl e
  ·have:b=t:=e;omega
  ·exact .inr e))
 have HX4:Hid (w4.heap[w.heap.size]?=some (.cells #[.int .i64 0,.int .i64 0,.slice none 0 0] 70 (0,0))):=ab (Gx.heap hx4 HX3.out (fun e=>by
  rcases e with e|e|e
  ·have:w.heap.size=R.r:=e;omega
  ·have:w.heap.size=t:=e;omega
  ·have:=hlp _ e;omega))
 have ct:=jM hr4.tb;have ct:w4.cell? ⟨t,0,none⟩=some (.int .i64 r.2.en):=ct;have c16:=hr4.c16 HOK.out;have c16:w4.cell? ⟨R.r,16,none⟩=some (.bool r.2.out):=c16;have c13:=hr4.c13 HOK.out;have c13:w4.cell? ⟨R.r,13,none⟩=some (.slice R.oa (R.C.cs.length+1) R.oc):=c13;have c14:=hr4.c14 HOK.out;have c14:w4.cell? ⟨R.r,14,none⟩=some (.slice R.pa R.n R.pc):=c14;clear hr4 hx4 p0 p1 p2 p3 p4 p5 p6 p7 p8 p9 p10 HC HX2 HG2 HJ2 HX3 HG3;have hcase:(r.2.en=-1)∨((∃e:Nat,r.2.en=e∧k≤e∧e≤R.C.cs.length)∧r.2.out=true)∨((∃e:Nat,r.2.en=e∧k≤e∧e≤R.C.cs.length)∧r.2.out=false):=by
  rcases HINV.out.en with h|h
  ·exact .inl h
  ·cases ho:r.2.out with
   | true=>exact .inr (.inl ⟨h,rfl⟩)
   | false=>exact .inr (.inr ⟨h,rfl⟩)
 have hnone:r.2.en<0∨r.2.out=true→oneM R.C (.mk kd ch ng rs lo hi lz xs) k st=(none,r.2):=fun h=>by rw [HONE.out];exact Dr h
 have HNO:=ab hnone;clear hnone;have hres:=oi (cs:=#[.int .i64 0,.int .i64 0,.slice none 0 0]) HX4.out;have HRES:=ab hres;clear hres;rcases hcase with he|⟨⟨e,he,he1,he2⟩,ho⟩|⟨⟨e,he,he1,he2⟩,ho⟩
 ·have HE:=ab (HNO.out (.inl fR))
  rw [he] at ct;clear he HNO c16;exact bh
 ·have HE:=ab (HNO.out (.inr ho))
  rw [he] at ct;rw [ho] at c16;clear he ho HNO;exact bh
 ·have HE:Hid (oneM R.C (.mk kd ch ng rs lo hi lz xs) k st=(some (e,r.2.ps),r.2)):=ab (by
   rw [HONE.out];show (if r.2.en<0∨r.2.out=true then _ else _)=_
   rw [Du (by rw [he,ho];simp),he];simp)
  rw [he] at ct;rw [ho] at c16;obtain⟨b,o,hoa,o1⟩:=HR4.out.off HOK.out hk;obtain⟨b',o',hoa',o2⟩:=HR4.out.off HOK.out he2;have hoa:R.oa=some ⟨b,o,none⟩:=hoa;have hoa':R.oa=some ⟨b',o',none⟩:=hoa';rw [hoa] at hoa' c13;injection hoa' with hoa';injection hoa' with ha1 ha2;subst ha1;subst ha2
  obtain⟨ka,hka⟩:∃n,R.C.offs.getD k 0=n:=⟨_,rfl⟩;obtain⟨ea,hea⟩:∃n,R.C.offs.getD e 0=n:=⟨_,rfl⟩;have o1:w4.cell? ⟨b,o+k,none⟩=some (.int .i64 ((R.C.offs.getD k 0:Nat):Int)):=o1;have o2:w4.cell? ⟨b,o+e,none⟩=some (.int .i64 ((R.C.offs.getD e 0:Nat):Int)):=o2;rw [hka] at o1;rw [hea] at o2;have hpl:r.2.ps.length=R.n:=HR4.out.len;have hdr:Below w4.heap.size w4 w4.drew:=(Below.refl _ _).drew;have hsl:Sl w4.drew w4.drew.heap.size R.pa 2 R.n (jV r.2.ps):=Sl.of_own (lX HJ4.out.ps hdr);have HCL:=ab (xU R.pa R.n R.pc r.2.ps w4.drew hpl.symm hsl (by have:=HJ.out.n;omega));have hcs:=HJ.out.cs;have hk1:(k:Int)<(R.C.cs.length:Int)+1:=fR;have he1':(e:Int)<(R.C.cs.length:Int)+1:=fR;have HKA:=ab hka;have HEA:=ab hea;have HPL:=ab hpl;clear he ho HNO hoa hka hea hpl hsl;have d1:w4.drew.cell? ⟨b,o+k,none⟩=some (.int .i64 (ka:Int)):=o1;have d2:w4.drew.cell? ⟨b,o+e,none⟩=some (.int .i64 (ea:Int)):=o2;have d3:w4.drew.cell? ⟨R.r,13,none⟩=some (.slice (some ⟨b,o,none⟩) (R.C.cs.length+1) R.oc):=c13;have d4:w4.drew.cell? ⟨R.r,14,none⟩=some (.slice R.pa R.n R.pc):=c14;have d5:w4.drew.cell? ⟨t,0,none⟩=some (.int .i64 (e:Int)):=ct;go_upto_region 6 with fail
  refine rm 20 fW fW (fun A0 W0 L a w'=>OneI w4.drew (fun v w9=>∃a9 c9,v=.slice a9 R.n c9∧SlS w9 (fun b=>w4.drew.heap.size≤b) a9 2 R.n (jV r.2.ps)∧Below w4.drew.heap.size w4.drew w9) (one6 R.r b o k e ka ea (R.C.cs.length+1) R.oc R.pa R.n R.pc) A0 W0 L a w') ?_;intro A0 HA;have hsz:A0.tmps.size=50:=by rw [HA.out];rfl
  have hnd:[29,30,31,32,33,34,35,36,37,38,39,40,41,42,43,44,45,46,47,48].Nodup:=fU;have hbd:∀d∈[29,30,31,32,33,34,35,36,37,38,39,40,41,42,43,44,45,46,47,48],d<A0.tmps.size:=by rw [hsz];decide
  have e0:A0.tmps[0]?=some (.pointer (some ⟨R.r,0,none⟩)):=by rw [HA.out];rfl
  have e1:A0.tmps[1]?=some (.int .i64 (k:Int)):=by rw [HA.out];rfl
  have e6:A0.tmps[6]?=some (.pointer (some ⟨t,0,none⟩)):=by rw [HA.out];rfl
  have hP:∀(v:Value) (x:World),(∃a9 c9,v=.slice a9 R.n c9∧SlS x (fun b=>w4.drew.heap.size≤b) a9 2 R.n (jV r.2.ps)∧Below w4.drew.heap.size w4.drew x)→Below w4.drew.heap.size w4.drew x:=fun v x ⟨_,_,_,_,h⟩=>h
  refine⟨?_,?_,?_⟩
  ·obtain⟨V,hV⟩:=Bz A0 [29,30,31,32,33,34,35,36,37,38,39,40,41,42,43,44,45,46,47,48]
   exact⟨rfl,V,⟨hV⟩,OneE.start _ _ _ _ _⟩
  ·refine⟨?_,?_,?_,?_,?_,?_,?_,?_,?_,?_,?_,?_,?_,?_,?_,?_,?_,?_,?_,?_,trivial⟩
   ·intro L a w' hL hd hI
    obtain⟨hW,V,hf,hO⟩:=hI;simp [kX,Region.binds] at hd
    have e:=pg ((hf.out fU).trans e0);refine lS (j9 rfl) (tU (.inl rfl)) ?_;rw [e];exact⟨hW,_,hf.put hnd hbd 0 rfl _,hO.pure 0 fU (.inr rfl)⟩
   ·intro L a w' hL hd hI
    obtain⟨hW,V,hf,hO⟩:=hI;simp [kX,Region.binds] at hd
    refine lS (j9 rfl) (BF rfl (pg ((hf.ins hnd hbd 0 rfl).trans (DQ some ((hO.vs 0 ik).resolve_left fU))))) ?_;exact⟨hW,_,hf.put hnd hbd 1 rfl _,hO.pure 1 fU (.inr rfl)⟩
   ·intro L a w' hL hd hI
    obtain⟨hW,V,hf,hO⟩:=hI;simp [kX,Region.binds] at hd
    refine lS (j9 rfl) (ex_fld rfl ((hf.ins hnd hbd 1 rfl).trans (DQ some ((hO.vs 1 ik).resolve_left fU)))) ?_;exact⟨hW,_,hf.put hnd hbd 2 rfl _,hO.pure 2 fU (.inr rfl)⟩
   ·intro L a w' hL hd hI
    obtain⟨hW,V,hf,hO⟩:=hI;simp [kX,Region.binds] at hd
    refine lS (j9 rfl) (qA rfl ((hf.ins hnd hbd 2 rfl).trans (DQ some ((hO.vs 2 ik).resolve_left fU))) (ld_slI (nb hO hP d3))) ?_;exact⟨hW,_,hf.put hnd hbd 3 rfl _,hO.pure 3 fU (.inr rfl)⟩
   ·intro L a w' hL hd hI
    obtain⟨hW,V,hf,hO⟩:=hI;simp [kX,Region.binds] at hd
    have e:=pg ((hf.out fU).trans e1);refine lS (j9 rfl) (tU (.inl rfl)) ?_;rw [e];exact⟨hW,_,hf.put hnd hbd 4 rfl _,hO.pure 4 fU (.inr rfl)⟩
   ·intro L a w' hL hd hI
    obtain⟨hW,V,hf,hO⟩:=hI;simp [kX,Region.binds] at hd
    refine lS (j9 rfl) (CU rfl ((hf.ins hnd hbd 3 rfl).trans (DQ some ((hO.vs 3 ik).resolve_left fU))) ((hf.ins hnd hbd 4 rfl).trans (DQ some ((hO.vs 4 ik).resolve_left fU))) fR) ?_;exact⟨hW,_,hf.put hnd hbd 5 rfl _,hO.pure 5 fU (.inr rfl)⟩
   ·intro L a w' hL hd hI
    obtain⟨hW,V,hf,hO⟩:=hI;simp [kX,Region.binds] at hd
    refine lS (j9 rfl) (qA rfl ((hf.ins hnd hbd 5 rfl).trans (DQ some ((hO.vs 5 ik).resolve_left fU))) (Ct (nb hO hP d1))) ?_;exact⟨hW,_,hf.put hnd hbd 6 rfl _,hO.pure 6 fU (.inr rfl)⟩
   ·intro L a w' hL hd hI
    obtain⟨hW,V,hf,hO⟩:=hI;simp [kX,Region.binds] at hd
    have e:=pg ((hf.out fU).trans e0);refine lS (j9 rfl) (tU (.inl rfl)) ?_;rw [e];exact⟨hW,_,hf.put hnd hbd 7 rfl _,hO.pure 7 fU (.inr rfl)⟩
   ·intro L a w' hL hd hI
    obtain⟨hW,V,hf,hO⟩:=hI;simp [kX,Region.binds] at hd
    refine lS (j9 rfl) (BF rfl (pg ((hf.ins hnd hbd 7 rfl).trans (DQ some ((hO.vs 7 ik).resolve_left fU))))) ?_;exact⟨hW,_,hf.put hnd hbd 8 rfl _,hO.pure 8 fU (.inr rfl)⟩
   ·intro L a w' hL hd hI
    obtain⟨hW,V,hf,hO⟩:=hI;simp [kX,Region.binds] at hd
    refine lS (j9 rfl) (ex_fld rfl ((hf.ins hnd hbd 8 rfl).trans (DQ some ((hO.vs 8 ik).resolve_left fU)))) ?_;exact⟨hW,_,hf.put hnd hbd 9 rfl _,hO.pure 9 fU (.inr rfl)⟩
   ·intro L a w' hL hd hI
    obtain⟨hW,V,hf,hO⟩:=hI;simp [kX,Region.binds] at hd
    refine lS (j9 rfl) (qA rfl ((hf.ins hnd hbd 9 rfl).trans (DQ some ((hO.vs 9 ik).resolve_left fU))) (ld_slI (nb hO hP d3))) ?_;exact⟨hW,_,hf.put hnd hbd 10 rfl _,hO.pure 10 fU (.inr rfl)⟩
   ·intro L a w' hL hd hI
    obtain⟨hW,V,hf,hO⟩:=hI;simp [kX,Region.binds] at hd
    refine lS (j9 rfl) (qA rfl ((hf.out fU).trans e6) (Ct (nb hO hP d5))) ?_;exact⟨hW,_,hf.put hnd hbd 11 rfl _,hO.pure 11 fU (.inr rfl)⟩
   ·intro L a w' hL hd hI
    obtain⟨hW,V,hf,hO⟩:=hI;simp [kX,Region.binds] at hd
    refine lS (j9 rfl) (CU rfl ((hf.ins hnd hbd 10 rfl).trans (DQ some ((hO.vs 10 ik).resolve_left fU))) ((hf.ins hnd hbd 11 rfl).trans (DQ some ((hO.vs 11 ik).resolve_left fU))) fR) ?_;exact⟨hW,_,hf.put hnd hbd 12 rfl _,hO.pure 12 fU (.inr rfl)⟩
   ·intro L a w' hL hd hI
    obtain⟨hW,V,hf,hO⟩:=hI;simp [kX,Region.binds] at hd
    refine lS (j9 rfl) (qA rfl ((hf.ins hnd hbd 12 rfl).trans (DQ some ((hO.vs 12 ik).resolve_left fU))) (Ct (nb hO hP d2))) ?_;exact⟨hW,_,hf.put hnd hbd 13 rfl _,hO.pure 13 fU (.inr rfl)⟩
   ·intro L a w' hL hd hI
    obtain⟨hW,V,hf,hO⟩:=hI;simp [kX,Region.binds] at hd
    refine lS (j9 rfl) (ex_bld rfl ((hf.ins hnd hbd 6 rfl).trans (DQ some ((hO.vs 6 ik).resolve_left fU))) ((hf.ins hnd hbd 13 rfl).trans (DQ some ((hO.vs 13 ik).resolve_left fU)))) ?_;exact⟨hW,_,hf.put hnd hbd 14 rfl _,hO.pure 14 fU (.inr rfl)⟩
   ·intro L a w' hL hd hI
    obtain⟨hW,V,hf,hO⟩:=hI;simp [kX,Region.binds] at hd
    have e:=pg ((hf.out fU).trans e0);refine lS (j9 rfl) (tU (.inl rfl)) ?_;rw [e];exact⟨hW,_,hf.put hnd hbd 15 rfl _,hO.pure 15 fU (.inr rfl)⟩
   ·intro L a w' hL hd hI
    obtain⟨hW,V,hf,hO⟩:=hI;simp [kX,Region.binds] at hd
    refine lS (j9 rfl) (BF rfl (pg ((hf.ins hnd hbd 15 rfl).trans (DQ some ((hO.vs 15 ik).resolve_left fU))))) ?_;exact⟨hW,_,hf.put hnd hbd 16 rfl _,hO.pure 16 fU (.inr rfl)⟩
   ·intro L a w' hL hd hI
    obtain⟨hW,V,hf,hO⟩:=hI;simp [kX,Region.binds] at hd
    refine lS (j9 rfl) (ex_fld4 rfl ((hf.ins hnd hbd 16 rfl).trans (DQ some ((hO.vs 16 ik).resolve_left fU)))) ?_;exact⟨hW,_,hf.put hnd hbd 17 rfl _,hO.pure 17 fU (.inr rfl)⟩
   ·intro L a w' hL hd hI
    obtain⟨hW,V,hf,hO⟩:=hI;simp [kX,Region.binds] at hd
    refine lS (j9 rfl) (qA rfl ((hf.ins hnd hbd 17 rfl).trans (DQ some ((hO.vs 17 ik).resolve_left fU))) (ld_slS (nb hO hP d4))) ?_;exact⟨hW,_,hf.put hnd hbd 18 rfl _,hO.pure 18 fU (.inr rfl)⟩
   ·intro L a w' hL hd hI
    obtain⟨hW,V,hf,hO⟩:=hI;simp [kX,Region.binds] at hd
    obtain rfl:=hO.h0 hL;have ev:=pg ((hf.ins hnd hbd 18 rfl).trans (DQ some ((hO.vs 18 ik).resolve_left fU)));refine rs_call (j9 rfl) (ex_call (vs:=#[.slice R.pa R.n R.pc]) rfl Tryz.func131 fW (by rw [List.map_toArray];simp only [List.map_cons,List.map_nil,ev];rfl)) (HCL.out.mono ?_);rintro z w9 ⟨a9,c9,rfl,hs9,hb9⟩;exact⟨_,rfl,hW,_,hf.put hnd hbd 19 rfl _,hO.event ⟨a9,c9,rfl,hs9,hb9⟩ (.inl rfl)⟩
  ·intro L a w9 hL hI
   obtain⟨hW,V,hf,hO⟩:=hI;obtain⟨a9,c9,hv9,hs9,hb9⟩:=hO.h1 (hL 19 fU);have v14:V 14=.agg #[.int .i64 (ka:Int),.int .i64 (ea:Int)]:=(hO.vs 14 (hL 14 fU)).resolve_left fU;have e43:a.tmps[43]?=some (.agg #[.int .i64 (ka:Int),.int .i64 (ea:Int)]):=(hf.ins hnd hbd 14 rfl).trans (DQ some v14);have e48:a.tmps[48]?=some (.slice a9 R.n c9):=(hf.ins hnd hbd 19 rfl).trans (DQ some hv9);have e4:a.tmps[4]?=some (.pointer (some ⟨w.heap.size,0,none⟩)):=(hf.out fU).trans (by rw [HA.out];rfl);have hza:a.tmps.size=50:=hf.size.trans hsz;have hda:a.defers=[]:=by rw [hf.eq,nL,HA.out]
   simp only [List.drop_succ_cons,DO];have hx9:=(hb9.block _ (jA HX4.out)).trans HX4.out;have hj9:=(HJ4.out.later hdr).later hb9;have hg9:Gx R.Y w w9:=HG4.out.to (Gx.of_below (X:=R.Y) (hdr.trans hb9)) (fun _ _ h=>h);have hz9:=hb9.size;have hres:=oi (cs:=#[.int .i64 (ka:Int),.int .i64 (ea:Int),.slice a9 R.n c9]) hx9;have HX9:=ab hx9;have HJ9:=ab hj9;have HG9:=ab hg9;have HS9:=ab hs9;have HR9:=ab hres;clear hx9 hj9 hg9 hs9 hb9 hf hO e0 e1 e6 hsz hbd hP d1 d2 d3 d4 d5 o1 o2 c13 c14 c16 ct hres;obtain⟨a1,ha1⟩:∃a1,a1=a.put (some 49) (.agg #[.int .i64 (ka:Int),.int .i64 (ea:Int),.slice a9 R.n c9]):=⟨_,rfl⟩;have e49:a1.tmps[49]?=some (.agg #[.int .i64 (ka:Int),.int .i64 (ea:Int),.slice a9 R.n c9]):=by rw [ha1];exact yq _ (by rw [hza];decide)
   have e4':a1.tmps[4]?=some (.pointer (some ⟨w.heap.size,0,none⟩)):=by rw [ha1];exact(vb _ fU).trans e4
   have hz1:a1.tmps.size=50:=by rw [ha1];simp [Act.put,hza]
   have e4'':(a1.put (some 5) (.bool true)).tmps[4]?=some (.pointer (some ⟨w.heap.size,0,none⟩)):=(vb _ fU).trans e4';have e5'':(a1.put (some 5) (.bool true)).tmps[5]?=some (.bool true):=yq _ (by rw [hz1];decide);refine C1 rfl (ex_bldM rfl e43 e48) ?_;rw [←ha1];refine lM rfl 70 (.tmp 4) (.tmp 49) rfl w.heap.size #[.int .i64 (ka:Int),.int .i64 (ea:Int),.slice a9 R.n c9] (pg e4') (pg e49) 70 _ HX9.out ky rfl rfl gd (W:=w9.setRow w.heap.size #[.int .i64 (ka:Int),.int .i64 (ea:Int),.slice a9 R.n c9]) rfl ?_;refine C1 rfl (ex_asg rfl) ?_;refine wpList_nil ?_;obtain⟨a2,ha2⟩:∃a2,a2=a1.put (some 5) (.bool true):=⟨_,rfl⟩;have HD2:Hid (a2.defers=[]):=ab (by rw [ha2,ha1];exact hda);rw [←ha2] at e4'' e5'';change Exit.then _ _ Exit.normal (a1.put (some 5) (.bool true)) _
   rw [←ha2];clear ha2 ha1;go_wp2
   refine DX (uF Tryz.results107 lx ky HR9.out rfl (by rw [Array.getD_eq_getD_getElem?,e4''];rfl) (by rw [Array.getD_eq_getD_getElem?,e5''];rfl:_=Value.bool true)) HD2.out ?_;rw [HE.out];refine⟨HJ9.out.gx (qI w9 w.heap.size _) (Nat.ne_of_lt hlr) (fun k hk e=>absurd (hlp k hk) gV) (fun b hb e=>absurd (HX.out.lt b hb) gr),HG9.out.to (qI w9 w.heap.size _) (fun b hb e=>absurd hb gr),a9,c9,by rw [HKA.out,HEA.out],?_,HPL.out,he1,he2⟩;have hk9:Kept (fun b=>w4.drew.heap.size≤b) w9 (w9.setRow w.heap.size #[.int .i64 (ka:Int),.int .i64 (ea:Int),.slice a9 R.n c9]):=⟨by rw [xj];exact Dv _,fun b hb _=>q9 _ (Nat.ne_of_gt (DA (jA HX4.out) hb))⟩;exact(HS9.out.keep hk9).mono fun b hb _=>Dz (Nat.le_of_lt (jA HX4.out)) hb
end Go.Proofs.YtjggmmaojklmpaaGreatDoor
