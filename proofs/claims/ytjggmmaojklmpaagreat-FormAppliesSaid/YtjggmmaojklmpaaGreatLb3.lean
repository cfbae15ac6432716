/- walks of rxtree: Seq, Alt -/
import Derived.Test.YtjggmmaojklmpaaGreatLb2
set_option maxRecDepth 100000
set_option maxHeartbeats 4000000
namespace Go.Proofs.YtjggmmaojklmpaaGreat
open Go.RowKit
def qu (l:List Rx):Rx:=.mk 0 [] false [] 0 0 false l
def wS (l:List Rx):Rx:=.mk 1 [] false [] 0 0 false l
def seqR (xs:List Rx):Rx:=match lN 0 xs with|[x]=>x|l=>qu l
def altR (xs:List Rx):Rx:=match lN 1 xs with|[]=>qu []|[x]=>x|l=>wS l
theorem Seq_any (S:Nat→Prop) (a:Option Addr) (c:Nat) (xs:List Rx) (w:World) (hx:RxSl w S a xs.length xs) (hp:Rx.partsL xs≤1000000) (hsm:Rx.smallL xs) :
  Calls Tryz.prog 76 #[.slice a xs.length c] w fun e w'=>∃cc',e=.returned (.agg cc'.toArray)∧RxV w' (fun b=>w.heap.size≤b) cc' (seqR xs)∧Below w.heap.size w w':=by
 unfold seqR;obtain⟨w0,hw0⟩:∃w0,w0=w.alloc (.cells #[.int .i64 0,.string ⟨#[]⟩,.bool false,.slice none 0 0,.int .i64 0,.int .i64 0,.bool false,.slice none 0 0] 25):=⟨_,rfl⟩;have hb0:Below w.heap.size w w0:=by rw [hw0];exact(Below.refl _ _).alloc (Cp _) _
 have hz0:w0.heap.size=w.heap.size+1:=by rw [hw0];simp
 have hby0:w0.heap[w.heap.size]?=some (.cells #[.int .i64 0,.string ⟨#[]⟩,.bool false,.slice none 0 0,.int .i64 0,.int .i64 0,.bool false,.slice none 0 0] 25 (0,0)):=by rw [hw0];exact heap_alloc_new w _
 have HX0:=ab (hx.later hb0);rw [hw0] at HX0;have HSM:=ab hsm;have HW0:=ab hw0;have HBY0:=ab hby0;have hfl:=pW 0 xs;clear hx hsm hw0 hby0;generalize hL:lN 0 xs=L at *
 go_enter Tryz.func76,Tryz.ntmps76
 go_wp2_with (go_at_call 112;refine(x8 S 0 _ _ xs _ HX0.out hp HSM.out).mono ?_)
 rintro e w1 ⟨a1,c1,rfl,hx1,hb1⟩;rw [hL] at hx1 ⊢;rw [←HW0.out] at hb1 hx1;have hbw1:=bel2 hb0 hb1;obtain⟨f0,f1,f2,f3,f4,f5,f6,f7,f8⟩:=jR (c:=[]) ((hb1.block _ (jO HBY0.out)).trans HBY0.out);replace hx1:RxSl w1 (fun b=>w.heap.size+1≤b) a1 L.length L:=hx1.mono fun b hb _=>by have:w0.heap.size≤b:=hb;show w.heap.size+1≤b;omega
 clear hL hb1;rcases L with _|⟨y,_|⟨z,L⟩⟩
 ·have HX1:=ab hx1
  clear hx1;go_wp2
  refine CJ (v:=.agg #[.int .i64 0,.string ⟨[].toArray⟩,.bool false,.slice none ([]:List (Str × Str)).length 0,.int .i64 0,.int .i64 0,.bool false,.slice a1 ([]:List Rx).length c1]) iy rfl ?_;refine⟨rxc 0 [] false none ([]:List (Str × Str)).length 0 0 0 false a1 ([]:List Rx).length c1,rfl,RxV.mono (S:=fun b=>w.heap.size+1≤b) (fun b hb _=>by have:w.heap.size+1≤b:=hb;show w.heap.size≤b;omega) (RxV.close ?_ ?_),?_⟩
  ·exact b8
  ·exact cH
  ·exact fI
 ·obtain⟨yk,yc,yn,yr,yl,yh,yz,ys⟩:=y
  obtain⟨b,o,ya,yrc,yka,ykc,rfl,hS,hbB,hyr,hyx,hyv,c0,c1',c2,c3,c4,c5,c6,c7⟩:=hx1.cells (m:=0) rfl;simp only [Nat.zero_mul,Nat.add_zero] at c0 c1' c2 c3 c4 c5 c6 c7;have HYR:=ab hyr;have HYX:=ab hyx;clear hyr hyx hyv;go_wp2
  refine CJ (v:=.agg #[.int .i64 yk,.string ⟨yc.toArray⟩,.bool yn,.slice ya yr.length yrc,.int .i64 yl,.int .i64 yh,.bool yz,.slice yka ys.length ykc]) iy rfl ?_;exact bO
 ·have HX1:=ab hx1
  have hne:(((z::L).length:Int)+1==1)=false:=by rw [CM];simp;omega
  have hne2:((L.length:Int)+1+1==1)=false:=by rw [CM];omega
  clear hx1;go_wp2
  refine CJ (v:=.agg #[.int .i64 0,.string ⟨[].toArray⟩,.bool false,.slice none ([]:List (Str × Str)).length 0,.int .i64 0,.int .i64 0,.bool false,.slice a1 (y::z::L).length c1]) iy rfl ?_;refine⟨rxc 0 [] false none ([]:List (Str × Str)).length 0 0 0 false a1 (y::z::L).length c1,rfl,RxV.mono (S:=fun b=>w.heap.size+1≤b) (fun b hb _=>by have:w.heap.size+1≤b:=hb;show w.heap.size≤b;omega) (RxV.close ?_ ?_),?_⟩
  ·exact b8
  ·exact cH
  ·exact fI
theorem Alt_any (S:Nat→Prop) (a:Option Addr) (c:Nat) (xs:List Rx) (w:World) (hx:RxSl w S a xs.length xs) (hp:Rx.partsL xs≤1000000) (hsm:Rx.smallL xs) :
  Calls Tryz.prog 75 #[.slice a xs.length c] w fun e w'=>∃cc',e=.returned (.agg cc'.toArray)∧RxV w' (fun b=>w.heap.size≤b) cc' (altR xs)∧Below w.heap.size w w':=by
 unfold altR;obtain⟨w0,hw0⟩:∃w0,w0=w.alloc (.cells #[.int .i64 0,.string ⟨#[]⟩,.bool false,.slice none 0 0,.int .i64 0,.int .i64 0,.bool false,.slice none 0 0] 25):=⟨_,rfl⟩;have hb0:Below w.heap.size w w0:=by rw [hw0];exact(Below.refl _ _).alloc (Cp _) _
 have hz0:w0.heap.size=w.heap.size+1:=by rw [hw0];simp
 have hby0:w0.heap[w.heap.size]?=some (.cells #[.int .i64 0,.string ⟨#[]⟩,.bool false,.slice none 0 0,.int .i64 0,.int .i64 0,.bool false,.slice none 0 0] 25 (0,0)):=by rw [hw0];exact heap_alloc_new w _
 have HX0:=ab (hx.later hb0);rw [hw0] at HX0;have HSM:=ab hsm;have HW0:=ab hw0;have HBY0:=ab hby0;have hfl:=pW 1 xs;clear hx hsm hw0 hby0;generalize hL:lN 1 xs=L at *
 go_enter Tryz.func75,Tryz.ntmps75
 go_wp2_with (go_at_call 112;refine(x8 S 1 _ _ xs _ HX0.out hp HSM.out).mono ?_)
 rintro e w1 ⟨a1,c1,rfl,hx1,hb1⟩;rw [hL] at hx1 ⊢;rw [←HW0.out] at hb1 hx1;have hbw1:=bel2 hb0 hb1;obtain⟨f0,f1,f2,f3,f4,f5,f6,f7,f8⟩:=jR (c:=[]) ((hb1.block _ (jO HBY0.out)).trans HBY0.out);replace hx1:RxSl w1 (fun b=>w.heap.size+1≤b) a1 L.length L:=hx1.mono fun b hb _=>by have:w0.heap.size≤b:=hb;show w.heap.size+1≤b;omega
 clear hL hb1;rcases L with _|⟨y,_|⟨z,L⟩⟩
 ·clear hx1
  go_wp2
  refine CJ (v:=.agg #[.int .i64 0,.string ⟨[].toArray⟩,.bool false,.slice none ([]:List (Str × Str)).length 0,.int .i64 0,.int .i64 0,.bool false,.slice none ([]:List Rx).length 0]) iz rfl ?_;refine⟨rxc 0 [] false none ([]:List (Str × Str)).length 0 0 0 false none ([]:List Rx).length 0,rfl,RxV.mono (S:=fun b=>w.heap.size+1≤b) (fun b hb _=>by have:w.heap.size+1≤b:=hb;show w.heap.size≤b;omega) (RxV.close ?_ ?_),?_⟩
  ·exact b8
  ·iterate 8 (refine RxSl.keep ?_ (Kept.setLow _ (fun b hb=>by have:w.heap.size+1≤b:=hb;simp;omega)))
   exact⟨[],SlS.none_ _ _ _ _,.nil⟩
  ·exact fI
 ·obtain⟨yk,yc,yn,yr,yl,yh,yz,ys⟩:=y
  obtain⟨b,o,ya,yrc,yka,ykc,rfl,hS,hbB,hyr,hyx,hyv,c0,c1',c2,c3,c4,c5,c6,c7⟩:=hx1.cells (m:=0) rfl;simp only [Nat.zero_mul,Nat.add_zero] at c0 c1' c2 c3 c4 c5 c6 c7;have HYR:=ab hyr;have HYX:=ab hyx;clear hyr hyx hyv;go_wp2
  refine CJ (v:=.agg #[.int .i64 yk,.string ⟨yc.toArray⟩,.bool yn,.slice ya yr.length yrc,.int .i64 yl,.int .i64 yh,.bool yz,.slice yka ys.length ykc]) iz rfl ?_;exact bO
 ·have HX1:=ab hx1
  have hne0:((L.length:Int)+1+1==0)=false:=by rw [CM];omega
  have hne2:((L.length:Int)+1+1==1)=false:=by rw [CM];omega
  clear hx1;go_wp2
  refine CJ (v:=.agg #[.int .i64 1,.string ⟨[].toArray⟩,.bool false,.slice none ([]:List (Str × Str)).length 0,.int .i64 0,.int .i64 0,.bool false,.slice a1 (y::z::L).length c1]) iz rfl ?_;refine⟨rxc 1 [] false none ([]:List (Str × Str)).length 0 0 0 false a1 (y::z::L).length c1,rfl,RxV.mono (S:=fun b=>w.heap.size+1≤b) (fun b hb _=>by have:w.heap.size+1≤b:=hb;show w.heap.size≤b;omega) (RxV.close ?_ ?_),?_⟩
  ·exact b8
  ·exact cH
  ·exact fI
abbrev Row:=Str × Str
def RO (w:World) (B g cap:Nat) (rs:List Row):Prop:=w.ownsRow B 72 2 (.slice (some ⟨g,0,none⟩) rs.length cap) rs.length (jX rs)
theorem RO.at_ {w:World} {B g cap:Nat} {rs:List Row} (h:RO w B g cap rs) {i:Nat} {r:Row} (hi:rs[i]?=some r) :
  w.cell? ⟨g,i*2,none⟩=some (.string ⟨(r.1).toArray⟩)∧w.cell? ⟨g,i*2+1,none⟩=some (.string ⟨(r.2).toArray⟩):=by
 have hlt:=(Cq.1 hi).1;obtain⟨c1,c2⟩:=ru hi;exact⟨by rw [h.cellAt _ gu];exact c1,by rw [h.cellAt _ gu];exact c2⟩
theorem RO.free {w:World} {B g cap:Nat} {rs:List Row} (h:RO w B g cap rs) (j:Nat):w.frozen? ⟨g,j,none⟩=false:=h.frozenAt j
theorem td:∀(rs:List Row) (i:Nat) (y:Row),i<rs.length→jX (rs.set i y)=((jX rs).set (i*2) (.string ⟨(y.1).toArray⟩)).set (i*2+1) (.string ⟨(y.2).toArray⟩)
 | [],i,y,h=>by simp at h
 | r::rs,0,y,_=>by simp [jX]
 | r::rs,i+1,y,h=>by
  have ih:=td rs i y ik;have h1:∀l:List Row,jX (r::l)=.string ⟨(r.1).toArray⟩::.string ⟨(r.2).toArray⟩::jX l:=fun l=>by simp [jX]
  rw [List.set_cons_succ,h1,h1,ih,show (i+1)*2=i*2+2 by omega];rfl
theorem RO.set {w:World} {B g cap:Nat} {rs:List Row} (h:RO w B g cap rs) {i:Nat} (y:Row) (hi:i<rs.length) :
  RO ((w.setCell ⟨g,i*2,none⟩ (.string ⟨(y.1).toArray⟩)).setCell ⟨g,i*2+1,none⟩ (.string ⟨(y.2).toArray⟩)) B g cap (rs.set i y):=by
 have h1:=((h.stored (i*2) (.string ⟨(y.1).toArray⟩)).1.stored (i*2+1) (.string ⟨(y.2).toArray⟩)).1;unfold RO;rw [td rs i y hi,List.length_set];exact h1
theorem j9 {w w':World} {g:Nat} (h:w.grownBy w' (some g)) (o:Nat) (u:Value):w.grownBy (w'.setCell ⟨g,o,none⟩ u) (some g) :=
 ⟨h.os,h.tape,h.output,by simp [World.setCell];exact h.size,fun k hk hne=>(heap_setCell_other w' ⟨g,o,none⟩ k u (fun e=>hne (by simp [e]))).trans (h.block k hk hne)⟩
theorem mR {w w' w2:World} {row:Option Nat} (h:w.grownBy w' row) (hb:Below w'.heap.size w' w2):w.grownBy w2 row :=
 ⟨hb.os.trans h.os,hb.tape.trans h.tape,hb.output.trans h.output,Ct h.size hb.size,fun k hk hne=>(hb.block k (Cu hk h.size)).trans (h.block k hk hne)⟩
theorem jM {a b c:World} {row:Option Nat} (h1:a.grownBy b row) (h2:b.grownBy c row):a.grownBy c row :=
 ⟨h2.os.trans h1.os,h2.tape.trans h1.tape,h2.output.trans h1.output,Ct h1.size h2.size,fun k hk hne=>(h2.block k (Cu hk h1.size) hne).trans (h1.block k hk hne)⟩
theorem kD (w:World) (row:Option Nat):w.grownBy w row:=⟨rfl,rfl,rfl,Cp _,fun _ _ _=>rfl⟩
theorem oN {w w':World} {row:Option Nat} (h:w.grownBy w' row):w.grownBy w'.drew row:=⟨h.os,h.tape,h.output,h.size,h.block⟩
def mb (rs:List Row) (i j:Nat):List Row:=match rs[i]?,rs[j]? with|some x,some y=>(rs.set i y).set j x|_,_=>rs
theorem mv (rs:List Row) (i j:Nat):(mb rs i j).length=rs.length:=by
 unfold mb;split<;>simp
theorem yH {rs:List Row} {i j:Nat} {x y:Row} (hi:rs[i]?=some x) (hj:rs[j]?=some y):mb rs i j=(rs.set i y).set j x:=by
 unfold mb;rw [hi,hj]
theorem RO.swap {w:World} {B g cap:Nat} {rs:List Row} (h:RO w B g cap rs) {i j:Nat} {x y:Row} (hi:rs[i]?=some x) (hj:rs[j]?=some y) :
  RO ((((w.setCell ⟨g,i*2,none⟩ (.string ⟨(y.1).toArray⟩)).setCell ⟨g,i*2+1,none⟩ (.string ⟨(y.2).toArray⟩)).setCell ⟨g,j*2,none⟩ (.string ⟨(x.1).toArray⟩)).setCell ⟨g,j*2+1,none⟩ (.string ⟨(x.2).toArray⟩)).drew B g cap (mb rs i j):=by
 have h1:=(Cq.1 hi).1;have h2:=(Cq.1 hj).1;rw [yH hi hj];exact((h.set y h1).set x (by simpa using h2):RO _ _ _ _ _)
def SwRel (B g cap a b n:Nat) (N:Nat) (R:List Row) (w:World) (q:Value) (wr:World):Prop :=
 ∃(i:Nat) (rs:List Row),i≤n∧q=.int .i64 i∧RO wr B g cap rs∧w.grownBy wr (some g)∧rs.length=N ∧
  Hid ((List.range' i (n-i)).foldl (fun l k=>mb l (a+k) (b+k)) rs=R)
def rX (rs:List Row) (a b n:Nat):List Row:=(List.range' 0 n).foldl (fun l k=>mb l (a+k) (b+k)) rs
theorem tu (B g cap:Nat) (rs:List Row) (a b n:Nat) (f:Value) (w:World) (h:RO w B g cap rs) (ha:a+n≤rs.length) (hb:b+n≤rs.length) (hl:rs.length≤1000000) :
  Calls Tryz.prog 199 #[.slice (some ⟨g,0,none⟩) rs.length cap,.int .i64 a,.int .i64 b,.int .i64 n,f] w fun e w'=>e=.returned (.tuple #[])∧RO w' B g cap (rX rs a b n)∧w.grownBy w' (some g):=by
 obtain⟨R,hR⟩:∃R,rX rs a b n=R:=⟨_,rfl⟩;rw [hR];have HR0:Hid ((List.range' 0 (n-0)).foldl (fun l k=>mb l (a+k) (b+k)) rs=R):=ab hR;obtain⟨N,hN⟩:∃N,N=rs.length:=⟨_,rfl⟩;have HN:=ab hN;have HRO:=ab h;rw [←hN] at ha hb hl ⊢;clear hR h hN;go_enter Tryz.func199,Tryz.ntmps199
 go_wp2
 go_loopw [10] (fun q wr=>SwRel B g cap a b n N R w q wr) (fun q _=>n-(intOf q).toNat)
 case atStart=>exact⟨0,rs,by omega,rfl,HRO.out,kD _ _,HN.out.symm,HR0⟩
 case round =>
  obtain⟨i,l,hin,rfl,hro,hg,hlN,HF⟩:=hrel;clear HR0 HRO HN;by_cases h2:i<n
  ·obtain⟨x,hx⟩:∃x,l[a+i]?=some x:=⟨_,Cn gu⟩
   obtain⟨y,hy⟩:∃y,l[b+i]?=some y:=⟨_,Cn gu⟩;obtain⟨c1,c2⟩:=hro.at_ hx;obtain⟨c3,c4⟩:=hro.at_ hy;have f:=fun j=>hro.free j
   have HF2:Hid ((List.range' (i+1) (n-(i+1))).foldl (fun l k=>mb l (a+k) (b+k)) (mb l (a+i) (b+i))=R):=ab (by
    rw [←HF.out,show n-i=(n-(i+1))+1 by omega,List.range'_succ,CN])
   have hsw:=hro.swap hx hy;have HSW:=ab hsw;have hgs:=oN (j9 (j9 (j9 (j9 hg ((a+i)*2) (.string ⟨(y.1).toArray⟩)) ((a+i)*2+1) (.string ⟨(y.2).toArray⟩)) ((b+i)*2) (.string ⟨(x.1).toArray⟩)) ((b+i)*2+1) (.string ⟨(x.2).toArray⟩));have HGS:=ab hgs;have hro2:=hro.set y (i:=a+i) gu;obtain⟨z,hz⟩:∃z,(l.set (a+i) y)[b+i]?=some z:=⟨_,Cn gH⟩;obtain⟨c5,c6⟩:=hro2.at_ hz;have f2:=fun j=>hro2.free j
   obtain⟨x1,x2⟩:=x;obtain⟨y1,y2⟩:=y;clear hsw hgs HF hro hx hy hz hro2;go_wp2
   go_region
   go_wp2
   exact⟨⟨i+1,mb l (a+i) (b+i),by omega,by go_num,HSW.out,HGS.out,by rw [mv];exact hlN,HF2⟩,by simp [intOf];omega⟩
  ·have hni:i=n:=gu
   have HE:Hid (l=R):=ab (by rw [←HF.out,hni,Nat.sub_self];rfl);clear HF;go_wp2
   go_end0
   exact⟨rfl,by rw [←HE.out];exact hro,hg⟩
theorem o8 (a b:Nat):∀(ks:List Nat) (rs:List Row),(ks.foldl (fun l k=>mb l (a+k) (b+k)) rs).length=rs.length
 | [],rs=>rfl
 | k::ks,rs=>by rw [CN,o8 a b ks,mv]
theorem oi (rs:List Row) (a b n:Nat):(rX rs a b n).length=rs.length:=o8 _ _ _ _
theorem og {B g cap N:Nat} {rs:List Row} {a b n:Nat} {az bz nz:Int} (f:Value) (w:World) (h:RO w B g cap rs) (hN:rs.length=N) (h1:az=a) (h2:bz=b) (h3:nz=n) (ha:a+n≤N) (hb:b+n≤N) (hl:N≤1000000) :
  Calls Tryz.prog 199 #[.slice (some ⟨g,0,none⟩) N cap,.int .i64 az,.int .i64 bz,.int .i64 nz,f] w fun e w'=>e=.returned (.tuple #[])∧RO w' B g cap (rX rs a b n)∧w.grownBy w' (some g):=by
 subst h1 h2 h3 hN;exact tu B g cap rs a b n f w h ha hb hl
def rotL:Nat→List Row→Nat→Nat→Nat→List Row
 | 0,rs,_,_,_=>rs
 | k+1,rs,m,i,j =>
  if i=j then rX rs (m-i) m i
  else if j<i then rotL k (rX rs (m-i) m j) m (i-j) j
  else rotL k (rX rs (m-i) (m+j-i) i) m i (j-i)
def RtRel (B g cap m N:Nat) (R:List Row) (w:World) (p q:Value) (wr:World):Prop :=
 ∃(i j k:Nat) (rs:List Row),p=.int .i64 i∧q=.int .i64 j∧0<i∧0<j∧i≤m∧m+j≤N∧i+j≤k∧RO wr B g cap rs∧w.grownBy wr (some g)∧rs.length=N∧Hid (rotL k rs m i j=R)
theorem zU (B g cap N:Nat) (rs:List Row) (a m b:Nat) (f:Value) (w:World) (h:RO w B g cap rs) (hN:rs.length=N) (ha:a<m) (hb:m<b) (hbn:b≤N) (hl:N≤1000000) :
  Calls Tryz.prog 198 #[.slice (some ⟨g,0,none⟩) N cap,.int .i64 a,.int .i64 m,.int .i64 b,f] w fun e w'=>e=.returned (.tuple #[])∧RO w' B g cap (rotL (b-a) rs m (m-a) (b-m))∧w.grownBy w' (some g):=by
 obtain⟨R,hR⟩:∃R,rotL (b-a) rs m (m-a) (b-m)=R:=⟨_,rfl⟩;rw [hR];have HR:=ab hR;have HRO:=ab h;clear hR h;go_enter Tryz.func198,Tryz.ntmps198
 go_wp2
 go_loopw [10,11] (fun p q wr=>RtRel B g cap m N R w p q wr) (fun p q _=>(intOf p).toNat+(intOf q).toNat)
 case atStart=>exact⟨m-a,b-m,b-a,rs,by go_num,by go_num,by omega,by omega,by omega,by omega,by omega,HRO.out,kD _ _,hN,HR⟩
 case round =>
  obtain⟨i,j,k,l,rfl,rfl,hi,hj,him,hjn,hk,hro,hg,hlN,HF⟩:=hrel;clear HR HRO hN;obtain⟨k,rfl⟩:∃k',k=k'+1:=⟨k-1,by omega⟩;by_cases hij:i=j
  ·subst hij
   have HE:Hid (rX l (m-i) m i=R):=ab (by rw [←HF.out];simp only [rotL];rw [Cl trivial]);have HO:=ab (og (az:=(m:Int)-i) (bz:=m) (nz:=i) f wr hro hlN gu rfl rfl (a:=m-i) (b:=m) (n:=i) gu gu hl);clear HF hro;go_wp2_with (go_at_call 199;refine HO.out.mono ?_;rintro e w1 ⟨rfl,hr1,hg1⟩)
   go_end0
   exact⟨rfl,by rw [←HE.out];exact hr1,jM hg hg1⟩
  ·have e1:((i:Int)==j)=false:=by rw [CM];omega
   have e2:((i:Int) != j)=true:=by rw [bne_iff_ne];omega
   by_cases hlt:j<i
   ·have HE:Hid (rotL k (rX l (m-i) m j) m (i-j) j=R):=ab (by rw [←HF.out];simp only [rotL];rw [Co hij,Cl hlt])
    have HO:=ab (og (az:=(m:Int)-i) (bz:=m) (nz:=j) f wr hro hlN gu rfl rfl (a:=m-i) (b:=m) (n:=j) gu gu hl);clear HF hro hij;go_wp2_with (go_at_call 199;refine HO.out.mono ?_;rintro e w1 ⟨rfl,hr1,hg1⟩)
    go_roundw
    case rel=>exact⟨i-j,j,k,_,by go_num,rfl,by omega,by omega,by omega,by omega,by omega,hr1,jM hg hg1,by rw [oi];exact hlN,HE⟩
    case measure=>simp [intOf];omega
   ·have HE:Hid (rotL k (rX l (m-i) (m+j-i) i) m i (j-i)=R):=ab (by rw [←HF.out];simp only [rotL];rw [Co hij,Co hlt])
    have HO:=ab (og (az:=(m:Int)-i) (bz:=(m:Int)+j-i) (nz:=i) f wr hro hlN gu gu rfl (a:=m-i) (b:=m+j-i) (n:=i) gu gu hl);have hlt2:i<j:=gu;clear HF hro hij;go_wp2_with (go_at_call 199;refine HO.out.mono ?_;rintro e w1 ⟨rfl,hr1,hg1⟩)
    go_roundw
    case rel=>exact⟨i,j-i,k,_,rfl,by go_num,by omega,by omega,by omega,by omega,by omega,hr1,jM hg hg1,by rw [oi];exact hlN,HE⟩
    case measure=>simp [intOf];omega
def pU (a:Nat):Nat→List Row→List Row
 | 0,rs=>rs
 | j+1,rs=>match rs[j+1]?,rs[j]? with
  | some x,some y=>if a<j+1∧cmpR x y<0 then pU a j (mb rs (j+1) j) else rs
  | _,_=>rs
def my (a:Nat):Nat→Nat→List Row→List Row
 | 0,_,rs=>rs
 | k+1,i,rs=>my a k (i+1) (pU a i rs)
theorem rZ (a:Nat):∀(j:Nat) (rs:List Row),(pU a j rs).length=rs.length
 | 0,rs=>rfl
 | j+1,rs=>by
  simp only [pU];split
  ·split
   ·rw [rZ a j,mv]
   ·rfl
  ·rfl
theorem oT (a:Nat):∀(k i:Nat) (rs:List Row),(my a k i rs).length=rs.length
 | 0,_,_=>rfl
 | k+1,i,rs=>by simp only [my];rw [oT a k,rZ]
def InRel (B g cap a b N:Nat) (R:List Row) (w:World) (q:Value) (wr:World):Prop :=
 ∃(i:Nat) (rs:List Row),q=.int .i64 i∧a<i∧(i≤b∨i=a+1)∧RO wr B g cap rs∧w.grownBy wr (some g)∧rs.length=N∧Hid (my a (b-i) i rs=R)
def IjRel (B g cap a i N:Nat) (R:List Row) (w:World) (q:Value) (wr:World):Prop :=
 ∃(j:Nat) (rs:List Row),q=.int .i64 j∧a≤j∧j≤i∧RO wr B g cap rs∧w.grownBy wr (some g)∧rs.length=N∧Hid (pU a j rs=R)
theorem tH (B g cap N:Nat) (rs:List Row) (a b:Nat) (w:World) (h:RO w B g cap rs) (hN:rs.length=N) (hbn:b≤N) (hl:N≤1000000) (haN:a≤N) :
  Calls Tryz.prog 196 #[.slice (some ⟨g,0,none⟩) N cap,.int .i64 a,.int .i64 b,.func (.func 186) #[] #[]] w fun e w'=>e=.returned (.tuple #[])∧RO w' B g cap (my a (b-(a+1)) (a+1) rs)∧w.grownBy w' (some g):=by
 obtain⟨R,hR⟩:∃R,my a (b-(a+1)) (a+1) rs=R:=⟨_,rfl⟩;rw [hR];have HR:=ab hR;have HRO:=ab h;clear hR h;go_enter Tryz.func196,Tryz.ntmps196
 go_wp2
 go_loopw [8] (fun q wr=>InRel B g cap a b N R w q wr) (fun q _=>b-(intOf q).toNat)
 case atStart=>exact⟨a+1,rs,by go_num,by omega,.inr rfl,HRO.out,kD _ _,hN,HR⟩
 case round =>
  obtain⟨i,l,rfl,hai,hib,hro,hg,hlN,HF⟩:=hrel;clear HR HRO hN;by_cases hlt:i<b
  ·obtain⟨T,hT⟩:∃T,pU a i l=T:=⟨_,rfl⟩
   have HT0:=ab hT;have HTN:T.length=N:=by rw [←hT,rZ];exact hlN
   have HE:Hid (my a (b-(i+1)) (i+1) T=R):=ab (by rw [←HF.out,show b-i=(b-(i+1))+1 by omega];simp only [my];rw [hT]);have HRO:=ab hro;clear HF hT hib hro;obtain⟨wo,rfl⟩:∃wo:World,wo=wr:=⟨_,rfl⟩;go_wp2
   go_loopw [9] (fun q wk=>IjRel B g cap a i N T wo q wk) (fun q _=>(intOf q).toNat)
   case atStart=>exact⟨i,l,rfl,by omega,by omega,HRO.out,kD _ _,hlN,HT0⟩
   case round =>
    obtain⟨j,lj,rfl,haj,hji,hroj,hgj,hljN,HG⟩:=hrel;clear HT0 HRO hlN;by_cases hja:a<j
    ·obtain⟨j,rfl⟩:∃j',j=j'+1:=⟨j-1,by omega⟩
     obtain⟨x,hx⟩:∃x,lj[j+1]?=some x:=⟨_,Cn gu⟩;obtain⟨y,hy⟩:∃y,lj[j]?=some y:=⟨_,Cn gu⟩;obtain⟨c1,c2⟩:=hroj.at_ hx;obtain⟨c3,c4⟩:=hroj.at_ hy;obtain⟨x1,x2⟩:=x;obtain⟨y1,y2⟩:=y;obtain⟨cv,hcv⟩:∃cv,cmpR (x1,x2) (y1,y2)=cv:=⟨_,rfl⟩;have HG2:Hid ((if a<j+1∧cv<0 then pU a j (mb lj (j+1) j) else lj)=T):=ab (by
      rw [←HG.out,←hcv];simp only [pU];rw [hx,hy])
     have HCV:Hid (∀w:World,Calls Tryz.prog 186 #[.agg #[.string ⟨x1.toArray⟩,.string ⟨x2.toArray⟩],.agg #[.string ⟨y1.toArray⟩,.string ⟨y2.toArray⟩]] w fun e w'=>e=.returned (.int .i64 cv)∧Below w.heap.size w w'):=ab (fun w=>by
      rw [←hcv];exact qY (x1,x2) (y1,y2) w)
     have d1:∀x:ExtOf wr,x.val.cell? ⟨g,(j+1)*2,none⟩=some (.string ⟨x1.toArray⟩):=ExtOf.cell c1;have d2:∀x:ExtOf wr,x.val.cell? ⟨g,(j+1)*2+1,none⟩=some (.string ⟨x2.toArray⟩):=ExtOf.cell c2;have d3:∀x:ExtOf wr,x.val.cell? ⟨g,j*2,none⟩=some (.string ⟨y1.toArray⟩):=ExtOf.cell c3;have d4:∀x:ExtOf wr,x.val.cell? ⟨g,j*2+1,none⟩=some (.string ⟨y2.toArray⟩):=ExtOf.cell c4;have HX:=ab hx;have HY:=ab hy;have HROJ:=ab hroj;have hgt:decide (a<j+1)=true:=CO gu;have hgt2:decide ((a:Int)<(j:Int)+1)=true:=CO gu;clear hcv hx hy hroj HG c1 c2 c3 c4;go_wp2
     refine jS gE gE ?_;repeat (go_big_quiet_step ((go_at_call 186;exact ku (HCV.out _))))
     refine wpQuiet_nil ?_;rintro _ ⟨xq,rfl⟩;have hrq:RO xq.val B g cap lj:=jZ HROJ.out xq.ext;have hgq:=mR hgj xq.ext;obtain⟨w5,hw5⟩:∃w5,w5=xq.val:=⟨_,rfl⟩;rw [←hw5] at hrq hgq ⊢;clear hw5;clear xq;by_cases hc0:cv<0
     ·have hc0':decide (cv<0)=true:=CO hc0
      have HE2:Hid (pU a j (mb lj (j+1) j)=T):=ab (by rw [←HG2.out,Cl ⟨hja,hc0⟩]);obtain⟨c1,c2⟩:=hrq.at_ HX.out;obtain⟨c3,c4⟩:=hrq.at_ HY.out;have f:=fun k=>hrq.free k
      have hro2:=hrq.set (y1,y2) (i:=j+1) gu;obtain⟨z,hz⟩:∃z,(lj.set (j+1) (y1,y2))[j]?=some z:=⟨_,Cn gH⟩;obtain⟨c5,c6⟩:=hro2.at_ hz;have f2:=fun k=>hro2.free k
      dsimp only at c1 c2 c3 c4 c5 c6 f2
      clear c5 c6 f2;obtain⟨z1,z2⟩:=z;have c5:((w5.setCell ⟨g,(j+1)*2,none⟩ (.string ⟨y1.toArray⟩)).setCell ⟨g,(j+1)*2+1,none⟩ (.string ⟨y2.toArray⟩)).cell? ⟨g,j*2,none⟩=some (.string ⟨z1.toArray⟩):=(hro2.at_ hz).1;have c6:((w5.setCell ⟨g,(j+1)*2,none⟩ (.string ⟨y1.toArray⟩)).setCell ⟨g,(j+1)*2+1,none⟩ (.string ⟨y2.toArray⟩)).cell? ⟨g,j*2+1,none⟩=some (.string ⟨z2.toArray⟩):=(hro2.at_ hz).2;have hsw:=hrq.swap HX.out HY.out;dsimp only at hsw
      have HSW:=ab hsw;have HGS:=ab (oN (j9 (j9 (j9 (j9 hgq ((j+1)*2) (.string ⟨y1.toArray⟩)) ((j+1)*2+1) (.string ⟨y2.toArray⟩)) (j*2) (.string ⟨x1.toArray⟩)) (j*2+1) (.string ⟨x2.toArray⟩)));go_wp2
      clear hrq hgq hro2 hz hc0 HG2 d1 d2 d3 d4 hsw hgt hgt2 hc0';go_region
      go_wp2
      go_roundw
      case rel=>exact⟨j,mb lj (j+1) j,by go_num,by omega,by omega,HSW.out,HGS.out,by rw [mv];exact hljN,HE2⟩
      case measure=>simp [intOf]
     ·have hc0':decide (cv<0)=false:=CP hc0
      have HE2:Hid (lj=T):=ab (by rw [←HG2.out,Co (fun q=>hc0 q.2)]);have hc9:0≤cv:=gu;clear hc0 HG2 d1 d2 d3 d4;go_wp2
      exact⟨⟨i+1,T,by go_num,by omega,.inl gu,by rw [←HE2.out];exact hrq,jM hg hgq,HTN,HE⟩,by simp [intOf];omega⟩
    ·have hja':j≤a:=gu
     have HE2:Hid (lj=T):=ab (by
      rw [←HG.out];cases j with
      | zero=>rfl
      | succ j =>
       simp only [pU];split
       ·rw [Co (fun q=>hja q.1)]
       ·rfl)
     have hgt:decide (a<j)=false:=CP gu;clear hja HG;go_wp2
     refine jS gE gE ?_;repeat (go_big_quiet_step ((fail)))
     refine wpQuiet_nil ?_;rintro _ ⟨xq,rfl⟩;go_wp2
     exact⟨⟨i+1,T,by go_num,by omega,.inl gu,by rw [←HE2.out];exact jZ hroj xq.ext,jM hg (mR hgj xq.ext),HTN,HE⟩,by simp [intOf];omega⟩
  ·have HE:Hid (l=R):=ab (by rw [←HF.out,show b-i=0 by omega];rfl)
   clear HF;go_wp2
   go_end0
   exact⟨rfl,by rw [←HE.out];exact hro,hg⟩
def bs (p:Nat→Bool):Nat→Nat→Nat→Nat
 | 0,i,_=>i
 | k+1,i,j=>if i<j then(if p ((i+j) / 2)=true then bs p k ((i+j) / 2+1) j else bs p k i ((i+j) / 2)) else i
theorem ug (p:Nat→Bool):∀(k i j:Nat),i≤j→i≤bs p k i j∧bs p k i j≤j
 | 0,i,j,h=>by simp [bs];exact h
 | k+1,i,j,h=>by
  simp only [bs];split
  ·split
   ·have:=ug p k ((i+j) / 2+1) j gu;omega
   ·have:=ug p k i ((i+j) / 2) gu;omega
  ·omega
def ltAt (rs:List Row) (x y:Nat):Bool:=match rs[x]?,rs[y]? with|some r,some s=>decide (cmpR r s<0)|_,_=>false
theorem tU {rs:List Row} {x y:Nat} {r s:Row} (h1:rs[x]?=some r) (h2:rs[y]?=some s):ltAt rs x y=decide (cmpR r s<0):=by
 unfold ltAt;rw [h1,h2]
def upSw (rs:List Row) (a n:Nat):List Row:=(List.range' a n).foldl (fun l k=>mb l k (k+1)) rs
def dnSw:Nat→List Row→Nat→List Row
 | 0,rs,_=>rs
 | n+1,rs,m=>dnSw n (mb rs m (m-1)) (m-1)
theorem yj:∀(n:Nat) (rs:List Row) (m:Nat),(dnSw n rs m).length=rs.length
 | 0,_,_=>rfl
 | n+1,rs,m=>by simp only [dnSw];rw [yj n,mv]
theorem upSw_len (rs:List Row) (a n:Nat):(upSw rs a n).length=rs.length:=by
 unfold upSw;have:∀(ks:List Nat) (rs:List Row),(ks.foldl (fun l k=>mb l k (k+1)) rs).length=rs.length:=by
  intro ks;induction ks with
  | nil=>intro rs;rfl
  | cons k ks ih=>intro rs;rw [CN,ih,mv]
 exact this _ _
def sh (B g cap:Nat) (rs:List Row) (p:Nat→Bool) (lo hi T:Nat) (w:World) (q s:Value) (wr:World):Prop :=
 ∃(i j k:Nat),q=.int .i64 i∧s=.int .i64 j∧lo≤i∧i≤j∧j≤hi∧j-i≤k∧RO wr B g cap rs∧w.grownBy wr (some g)∧Hid (bs p k i j=T)
def UpRel (B g cap N i:Nat) (R:List Row) (w:World) (q:Value) (wr:World):Prop :=
 ∃(k:Nat) (rs:List Row),q=.int .i64 k∧k+1≤i∧RO wr B g cap rs∧w.grownBy wr (some g)∧rs.length=N∧Hid (upSw rs k (i-1-k)=R)
theorem uC (B g cap N:Nat) (rs:List Row) (a b:Nat) (w:World) (h:RO w B g cap rs) (hN:rs.length=N) (hab:a+1<b) (hbn:b≤N) (hl:N≤1000000) :
  Calls Tryz.prog 197 #[.slice (some ⟨g,0,none⟩) N cap,.int .i64 a,.int .i64 ((a:Int)+1),.int .i64 b,.func (.func 186) #[] #[]] w fun e w'=>e=.returned (.tuple #[])∧RO w' B g cap (upSw rs a (bs (fun h=>ltAt rs h a) b (a+1) b-1-a))∧w.grownBy w' (some g):=by
 obtain⟨T,hT⟩:∃T,bs (fun h=>ltAt rs h a) b (a+1) b=T:=⟨_,rfl⟩;have hbd:=ug (fun h=>ltAt rs h a) b (a+1) b gu;rw [hT] at hbd ⊢;have HT:=ab hT;have HRO:=ab h;have e1:((a:Int)+1-a)=1:=gu;obtain⟨R,hR⟩:∃R,upSw rs a (T-1-a)=R:=⟨_,rfl⟩;have HR:=ab hR;rw [hR];clear hT h hR;go_enter Tryz.func197,Tryz.ntmps197
 go_wp2
 go_loopw [10,11] (fun q s wr=>sh B g cap rs (fun h=>ltAt rs h a) (a+1) b T w q s wr) (fun q s _=>(intOf s).toNat-(intOf q).toNat)
 case atStart=>exact⟨a+1,b,b,by go_num,rfl,by omega,by omega,by omega,by omega,HRO.out,kD _ _,HT⟩
 case round =>
  obtain⟨i,j,k,rfl,rfl,hi,hij,hj,hk,hro,hg,HF⟩:=hrel;clear HT HRO;by_cases hlt:i<j
  ·obtain⟨k,rfl⟩:∃k',k=k'+1:=⟨k-1,by omega⟩
   obtain⟨H,hH⟩:∃H,(i+j) / 2=H:=⟨_,rfl⟩;have hH2:((i:Int)+j) / 2=(H:Int):=gu;have hHb:i≤H∧H<j:=gu;obtain⟨x,hx⟩:∃x,rs[H]?=some x:=⟨_,Cn gu⟩;obtain⟨y,hy⟩:∃y,rs[a]?=some y:=⟨_,Cn gu⟩;obtain⟨c1,c2⟩:=hro.at_ hx;obtain⟨c3,c4⟩:=hro.at_ hy;obtain⟨x1,x2⟩:=x;obtain⟨y1,y2⟩:=y;obtain⟨cv,hcv⟩:∃cv,cmpR (x1,x2) (y1,y2)=cv:=⟨_,rfl⟩;have HCV:Hid (∀w:World,Calls Tryz.prog 186 #[.agg #[.string ⟨x1.toArray⟩,.string ⟨x2.toArray⟩],.agg #[.string ⟨y1.toArray⟩,.string ⟨y2.toArray⟩]] w fun e w'=>e=.returned (.int .i64 cv)∧Below w.heap.size w w'):=ab (fun w=>by
    rw [←hcv];exact qY (x1,x2) (y1,y2) w)
   have d1:∀x:ExtOf wr,x.val.cell? ⟨g,(H)*2,none⟩=some (.string ⟨x1.toArray⟩):=ExtOf.cell c1;have d2:∀x:ExtOf wr,x.val.cell? ⟨g,(H)*2+1,none⟩=some (.string ⟨x2.toArray⟩):=ExtOf.cell c2;have d3:∀x:ExtOf wr,x.val.cell? ⟨g,(a)*2,none⟩=some (.string ⟨y1.toArray⟩):=ExtOf.cell c3;have d4:∀x:ExtOf wr,x.val.cell? ⟨g,(a)*2+1,none⟩=some (.string ⟨y2.toArray⟩):=ExtOf.cell c4;have HX:=ab hx;have HY:=ab hy;have HROJ:=ab hro;clear hx hy c1 c2 c3 c4;have HF2:Hid ((if cv<0 then bs (fun h=>ltAt rs h a) k (H+1) j else bs (fun h=>ltAt rs h a) k i H)=T):=ab (by
    have hp:ltAt rs H a=decide (cv<0):=by rw [tU HX.out HY.out,hcv]
    rw [←HF.out];simp only [bs,hlt,if_true,hH,hp,Cj])
   clear hcv hH HF hro;go_wp2
   refine jS gE gE ?_;repeat (go_big_quiet_step ((go_at_call 186;exact ku (HCV.out _))))
   refine wpQuiet_nil ?_;rintro _ ⟨xq,rfl⟩;have hrq:RO xq.val B g cap rs:=jZ HROJ.out xq.ext;have hgq:=mR hg xq.ext;clear d1 d2 d3 d4;by_cases hc0:cv<0
   ·have hc0':decide (cv<0)=true:=CO hc0
    have HE2:=ab ((Cl hc0).symm.trans HF2.out);exact fq
   ·have hc0':decide (cv<0)=false:=CP hc0
    have hc9:0≤cv:=gu;have HE2:=ab ((Co hc0).symm.trans HF2.out);clear hc0;exact fw
  ·have hij2:i=T:=by
    exact dj
   subst hij2;have HRO:=ab hro;clear HF hro hk;obtain⟨wo,rfl⟩:∃wo:World,wo=wr:=⟨_,rfl⟩;go_wp2
   go_loopw [13] (fun q wk=>UpRel B g cap N i R wo q wk) (fun q _=>i-(intOf q).toNat)
   case atStart=>exact⟨a,rs,rfl,by omega,HRO.out,kD _ _,hN,HR⟩
   case round =>
    obtain⟨m,l,rfl,hmi,hrol,hgl,hlN,HG⟩:=hrel;clear HR HRO;by_cases hm:m+1<i
    ·obtain⟨x,hx⟩:∃x,l[m]?=some x:=⟨_,Cn gu⟩
     obtain⟨y,hy⟩:∃y,l[m+1]?=some y:=⟨_,Cn gu⟩;have HG2:Hid (upSw (mb l m (m+1)) (m+1) (i-1-(m+1))=R):=ab (by
      rw [←HG.out,show i-1-m=(i-1-(m+1))+1 by omega];simp only [upSw];rw [List.range'_succ,CN])
     clear HG;obtain⟨c1,c2⟩:=(hrol).at_ hx;obtain⟨c3,c4⟩:=(hrol).at_ hy;have f:=fun k=>(hrol).free k
     have hro2:=(hrol).set y (i:=m) gu;obtain⟨z,hz⟩:∃z,(l.set m y)[(m+1)]?=some z:=⟨_,Cn gH⟩;obtain⟨c5,c6⟩:=hro2.at_ hz;have f2:=fun k=>hro2.free k
     have HSW:=ab ((hrol).swap hx hy);have HGS:=ab (oN (j9 (j9 (j9 (j9 hgl ((m)*2) (.string ⟨(y.1).toArray⟩)) ((m)*2+1) (.string ⟨(y.2).toArray⟩)) (((m+1))*2) (.string ⟨(x.1).toArray⟩)) (((m+1))*2+1) (.string ⟨(x.2).toArray⟩)));clear hx hy hz hro2 hrol hgl;obtain⟨x1,x2⟩:=x;obtain⟨y1,y2⟩:=y;go_wp2
     go_region
     go_wp2
     go_roundw
     case rel=>exact⟨m+1,mb l m (m+1),by go_num,by omega,HSW.out,HGS.out,by rw [mv];exact hlN,HG2⟩
     case measure=>simp [intOf];omega
    ·have HE:Hid (l=R):=ab (by rw [←HG.out,show i-1-m=0 by omega];rfl)
     exact dk
def DnRel (B g cap N i hi:Nat) (R:List Row) (w:World) (q:Value) (wr:World):Prop :=
 ∃(k:Nat) (rs:List Row),q=.int .i64 k∧i≤k∧k≤hi∧RO wr B g cap rs∧w.grownBy wr (some g)∧rs.length=N∧Hid (dnSw (k-i) rs k=R)
theorem tM (B g cap N:Nat) (rs:List Row) (a m:Nat) (w:World) (h:RO w B g cap rs) (hN:rs.length=N) (ham:a+1<m) (hbn:m+1≤N) (hl:N≤1000000) :
  Calls Tryz.prog 197 #[.slice (some ⟨g,0,none⟩) N cap,.int .i64 a,.int .i64 m,.int .i64 ((m:Int)+1),.func (.func 186) #[] #[]] w fun e w'=>e=.returned (.tuple #[])∧RO w' B g cap (dnSw (m-bs (fun h=>!ltAt rs m h) m a m) rs m)∧w.grownBy w' (some g):=by
 obtain⟨T,hT⟩:∃T,bs (fun h=>!ltAt rs m h) m a m=T:=⟨_,rfl⟩;have hbd:=ug (fun h=>!ltAt rs m h) m a m gu;rw [hT] at hbd ⊢;have HT:=ab hT;have HRO:=ab h;have e1:((m:Int)-a==1)=false:=by rw [CM];omega
 have e2:((m:Int)+1-m)=1:=gu;obtain⟨R,hR⟩:∃R,dnSw (m-T) rs m=R:=⟨_,rfl⟩;have HR:=ab hR;rw [hR];clear hT h hR;go_enter Tryz.func197,Tryz.ntmps197
 go_wp2
 go_loopw [14,15] (fun q s wr=>sh B g cap rs (fun h=>!ltAt rs m h) a m T w q s wr) (fun q s _=>(intOf s).toNat-(intOf q).toNat)
 case atStart=>exact⟨a,m,m,rfl,rfl,by omega,by omega,by omega,by omega,HRO.out,kD _ _,HT⟩
 case round =>
  obtain⟨i,j,k,rfl,rfl,hi,hij,hj,hk,hro,hg,HF⟩:=hrel;clear HT HRO;by_cases hlt:i<j
  ·obtain⟨k,rfl⟩:∃k',k=k'+1:=⟨k-1,by omega⟩
   obtain⟨H,hH⟩:∃H,(i+j) / 2=H:=⟨_,rfl⟩;have hH2:((i:Int)+j) / 2=(H:Int):=gu;have hHb:i≤H∧H<j:=gu;obtain⟨x,hx⟩:∃x,rs[m]?=some x:=⟨_,Cn gu⟩;obtain⟨y,hy⟩:∃y,rs[H]?=some y:=⟨_,Cn gu⟩;obtain⟨c1,c2⟩:=hro.at_ hx;obtain⟨c3,c4⟩:=hro.at_ hy;obtain⟨x1,x2⟩:=x;obtain⟨y1,y2⟩:=y;obtain⟨cv,hcv⟩:∃cv,cmpR (x1,x2) (y1,y2)=cv:=⟨_,rfl⟩;have HCV:Hid (∀w:World,Calls Tryz.prog 186 #[.agg #[.string ⟨x1.toArray⟩,.string ⟨x2.toArray⟩],.agg #[.string ⟨y1.toArray⟩,.string ⟨y2.toArray⟩]] w fun e w'=>e=.returned (.int .i64 cv)∧Below w.heap.size w w'):=ab (fun w=>by
    rw [←hcv];exact qY (x1,x2) (y1,y2) w)
   have d1:∀x:ExtOf wr,x.val.cell? ⟨g,(m)*2,none⟩=some (.string ⟨x1.toArray⟩):=ExtOf.cell c1;have d2:∀x:ExtOf wr,x.val.cell? ⟨g,(m)*2+1,none⟩=some (.string ⟨x2.toArray⟩):=ExtOf.cell c2;have d3:∀x:ExtOf wr,x.val.cell? ⟨g,(H)*2,none⟩=some (.string ⟨y1.toArray⟩):=ExtOf.cell c3;have d4:∀x:ExtOf wr,x.val.cell? ⟨g,(H)*2+1,none⟩=some (.string ⟨y2.toArray⟩):=ExtOf.cell c4;have HX:=ab hx;have HY:=ab hy;have HROJ:=ab hro;clear hx hy c1 c2 c3 c4;have HF2:Hid ((if cv<0 then bs (fun h=>!ltAt rs m h) k i H else bs (fun h=>!ltAt rs m h) k (H+1) j)=T):=ab (by
    have hp:(!ltAt rs m H)=!decide (cv<0):=by rw [tU HX.out HY.out,hcv]
    rw [←HF.out];simp only [bs,hlt,if_true,hH,hp];by_cases hc:cv<0<;>simp [hc])
   clear hcv hH HF hro;go_wp2
   refine jS gE gE ?_;repeat (go_big_quiet_step ((go_at_call 186;exact ku (HCV.out _))))
   refine wpQuiet_nil ?_;rintro _ ⟨xq,rfl⟩;have hrq:RO xq.val B g cap rs:=jZ HROJ.out xq.ext;have hgq:=mR hg xq.ext;clear d1 d2 d3 d4;by_cases hc0:cv<0
   ·have hc0':decide (cv<0)=true:=CO hc0
    exact gp
   ·have hc0':decide (cv<0)=false:=CP hc0
    exact gl
  ·have hij2:i=T:=by
    exact dj
   subst hij2;have HRO:=ab hro;clear HF hro hk;obtain⟨wo,rfl⟩:∃wo:World,wo=wr:=⟨_,rfl⟩;go_wp2
   go_loopw [17] (fun q wk=>DnRel B g cap N i m R wo q wk) (fun q _=>(intOf q).toNat)
   case atStart=>exact⟨m,rs,rfl,by omega,by omega,HRO.out,kD _ _,hN,HR⟩
   case round =>
    obtain⟨d,l,rfl,hid,hdm,hrol,hgl,hlN,HG⟩:=hrel;clear HR HRO;by_cases hm:i<d
    ·obtain⟨d,rfl⟩:∃d',d=d'+1:=⟨d-1,by omega⟩
     obtain⟨x,hx⟩:∃x,l[d+1]?=some x:=⟨_,Cn gu⟩;obtain⟨y,hy⟩:∃y,l[d]?=some y:=⟨_,Cn gu⟩;have HG2:Hid (dnSw (d-i) (mb l (d+1) d) d=R):=ab (by
      rw [←HG.out,show d+1-i=(d-i)+1 by omega];simp only [dnSw];rw [Nat.add_sub_cancel])
     clear HG;obtain⟨c1,c2⟩:=(hrol).at_ hx;obtain⟨c3,c4⟩:=(hrol).at_ hy;have f:=fun k=>(hrol).free k
     have hro2:=(hrol).set y (i:=(d+1)) gu;obtain⟨z,hz⟩:∃z,(l.set (d+1) y)[d]?=some z:=⟨_,Cn gH⟩;obtain⟨c5,c6⟩:=hro2.at_ hz;have f2:=fun k=>hro2.free k
     have HSW:=ab ((hrol).swap hx hy);have HGS:=ab (oN (j9 (j9 (j9 (j9 hgl (((d+1))*2) (.string ⟨(y.1).toArray⟩)) (((d+1))*2+1) (.string ⟨(y.2).toArray⟩)) ((d)*2) (.string ⟨(x.1).toArray⟩)) ((d)*2+1) (.string ⟨(x.2).toArray⟩)));clear hx hy hz hro2 hrol hgl;obtain⟨x1,x2⟩:=x;obtain⟨y1,y2⟩:=y;have ed:(d:Int)+1-1=d:=gu;go_wp2
     clear ed;go_region
     go_wp2
     go_roundw
     case rel=>exact⟨d,mb l (d+1) d,by go_num,by omega,by omega,HSW.out,HGS.out,by rw [mv];exact hlN,HG2⟩
     case measure=>simp [intOf]
    ·have HE:Hid (l=R):=ab (by rw [←HG.out,show d-i=0 by omega];rfl)
     exact dk
theorem rg:∀(k:Nat) (rs:List Row) (m i j:Nat),(rotL k rs m i j).length=rs.length
 | 0,_,_,_,_=>rfl
 | k+1,rs,m,i,j=>by
  simp only [rotL];split
  ·rw [oi]
  ·split
   ·rw [rg k,oi]
   ·rw [rg k,oi]
def sLo (a m b:Nat):Nat:=if (a+b) / 2<m then(a+b) / 2+m-b else a
def sHi (a m b:Nat):Nat:=if (a+b) / 2<m then(a+b) / 2 else m
def symM:Nat→List Row→Nat→Nat→Nat→List Row
 | 0,rs,_,_,_=>rs
 | f+1,rs,a,m,b =>
  if m=a+1 then upSw rs a (bs (fun h=>ltAt rs h a) b m b-1-a)
  else if b=m+1 then dnSw (m-bs (fun h=>!ltAt rs m h) m a m) rs m
  else
   let M:=(a+b) / 2
   let s:=bs (fun c=>!ltAt rs (M+m-1-c) c) b (sLo a m b) (sHi a m b)
   let e:=M+m-s
   let r1:=if s<m∧m<e then rotL (e-s) rs m (m-s) (e-m) else rs
   let r2:=if a<s∧s<M then symM f r1 a s M else r1
   if M<e∧e<b then symM f r2 M e b else r2
theorem oL:∀(f:Nat) (rs:List Row) (a m b:Nat),(symM f rs a m b).length=rs.length
 | 0,_,_,_,_=>rfl
 | f+1,rs,a,m,b=>by
  simp only [symM];have ih:=oL f
  (repeat' split)<;>simp only [ih,rg,upSw_len,yj]
def symT (f:Nat) (r1:List Row) (a s M e b:Nat):List Row :=
 if M<e∧e<b then symM f (if a<s∧s<M then symM f r1 a s M else r1) M e b else(if a<s∧s<M then symM f r1 a s M else r1)
theorem xH (f:Nat) (rs:List Row) (a b:Nat):symM (f+1) rs a (a+1) b=upSw rs a (bs (fun h=>ltAt rs h a) b (a+1) b-1-a):=by
 rw [symM];exact Cl rfl
theorem vg {f:Nat} {rs:List Row} {a m:Nat} (h:¬m=a+1):symM (f+1) rs a m (m+1)=dnSw (m-bs (fun h=>!ltAt rs m h) m a m) rs m:=by
 rw [symM];exact(Co h).trans (Cl rfl)
theorem yD {f:Nat} {rs:List Row} {a m b:Nat} (h1:¬m=a+1) (h2:¬b=m+1) :
  symM (f+1) rs a m b=symT f (if bs (fun c=>!ltAt rs ((a+b) / 2+m-1-c) c) b (sLo a m b) (sHi a m b)<m∧m<(a+b) / 2+m-bs (fun c=>!ltAt rs ((a+b) / 2+m-1-c) c) b (sLo a m b) (sHi a m b) then
   rotL ((a+b) / 2+m-bs (fun c=>!ltAt rs ((a+b) / 2+m-1-c) c) b (sLo a m b) (sHi a m b)-bs (fun c=>!ltAt rs ((a+b) / 2+m-1-c) c) b (sLo a m b) (sHi a m b)) rs m (m-bs (fun c=>!ltAt rs ((a+b) / 2+m-1-c) c) b (sLo a m b) (sHi a m b)) ((a+b) / 2+m-bs (fun c=>!ltAt rs ((a+b) / 2+m-1-c) c) b (sLo a m b) (sHi a m b)-m) else rs)
   a (bs (fun c=>!ltAt rs ((a+b) / 2+m-1-c) c) b (sLo a m b) (sHi a m b)) ((a+b) / 2) ((a+b) / 2+m-bs (fun c=>!ltAt rs ((a+b) / 2+m-1-c) c) b (sLo a m b) (sHi a m b)) b:=by
 rw [symM];exact(Co h1).trans (Co h2)
def stA:Nat→List Row→Nat→Nat→List Row
 | 0,rs,_,_=>rs
 | k+1,rs,a,n=>if a+20≤n then stA k (my a (a+20-(a+1)) (a+1) rs) (a+20) n else my a (n-(a+1)) (a+1) rs
def stB:Nat→List Row→Nat→Nat→Nat→List Row
 | 0,rs,_,_,_=>rs
 | k+1,rs,a,s,n=>if a+2*s≤n then stB k (symM (2*s) rs a (a+s) (a+2*s)) (a+2*s) s n else if a+s<n then symM (n-a) rs a (a+s) n else rs
def stC:Nat→List Row→Nat→Nat→List Row
 | 0,rs,_,_=>rs
 | k+1,rs,s,n=>if s<n then stC k (stB (n+1) rs 0 s n) (2*s) n else rs
def stL (rs:List Row):List Row:=stC (rs.length+1) (stA (rs.length+1) rs 0 rs.length) 20 rs.length
theorem wh:∀(k:Nat) (rs:List Row) (a n:Nat),(stA k rs a n).length=rs.length
 | 0,_,_,_=>rfl
 | k+1,rs,a,n=>by
  simp only [stA];split
  ·rw [wh k,oT]
  ·rw [oT]
theorem wc:∀(k:Nat) (rs:List Row) (a s n:Nat),(stB k rs a s n).length=rs.length
 | 0,_,_,_,_=>rfl
 | k+1,rs,a,s,n=>by
  simp only [stB];split
  ·rw [wc k,oL]
  ·split
   ·rw [oL]
   ·rfl
theorem BF:∀(k:Nat) (rs:List Row) (s n:Nat),(stC k rs s n).length=rs.length
 | 0,_,_,_=>rfl
 | k+1,rs,s,n=>by
  simp only [stC];split
  ·rw [BF k,wc]
  ·rfl
theorem sV (A:List Row):A=[]∨∃B y,A=B++[y]:=by
 rcases List.eq_nil_or_concat A with h|⟨B,y,h⟩
 ·exact .inl h
 ·exact .inr ⟨B,y,by simpa using h⟩
def mxS (a b:Str):Str:=if Op.bytesLess a b=true then b else a
def mrgS (out:List Row) (r:Row):List Row:=match out.getLast? with
 | none=>[r]
 | some q=>if leS r.1 q.2=true then out.dropLast++[(q.1,mxS q.2 r.2)] else out++[r]
def mrgL (ss:List Row):List Row:=ss.foldl mrgS []
def filR (rs:List Row):List Row:=rs.filter rowB
def mq (rs:List Row):List Row:=mrgL (stL (filR rs))
theorem yI (r:Row):mrgS [] r=[r]:=rfl
theorem Bi {B:List Row} {q r:Row} (h:leS r.1 q.2=true):mrgS (B++[q]) r=B++[(q.1,mxS q.2 r.2)]:=by
 unfold mrgS;rw [List.getLast?_concat];simp [h]
theorem A4 {B:List Row} {q r:Row} (h:leS r.1 q.2=false):mrgS (B++[q]) r=B++[q]++[r]:=by
 unfold mrgS;rw [List.getLast?_concat];simp [h]
theorem Ca {ss:List Row} {i:Nat} {r:Row} (h:ss[i]?=some r):mrgL (ss.take (i+1))=mrgS (mrgL (ss.take i)) r:=by
 unfold mrgL;rw [List.take_add_one,h,List.foldl_append];rfl
theorem mrgS_len (out:List Row) (r:Row):(mrgS out r).length≤out.length+1:=by
 unfold mrgS;split
 ·simp
 ·rename_i q hq
  have:out≠[]:=by rintro rfl;simp at hq
  have:=List.length_pos_iff.2 this
  split<;>simp<;>omega
theorem yC (ss:List Row):(mrgL ss).length≤ss.length:=by
 have key:∀(l out:List Row),(l.foldl mrgS out).length≤out.length+l.length:=by
  intro l;induction l with
  | nil=>intro out;simp
  | cons r l ih=>intro out;have h1:=ih (mrgS out r);have h2:=mrgS_len out r;simp only [CN,Cr];omega
 simpa [mrgL] using key ss []
theorem AE {rs:List Row} {i:Nat} {r:Row} (h:rs[i]?=some r):filR (rs.take (i+1))=filR (rs.take i)++(if rowB r=true then [r] else []):=by
 unfold filR;rw [List.take_add_one,h,List.filter_append];cases hr:rowB r<;>simp [hr]
theorem tt (rs:List Row):(filR rs).length≤rs.length:=List.length_filter_le _ _
theorem Ac (rs:List Row):(stL rs).length=rs.length:=by unfold stL;rw [BF,wh]
theorem nO (l:List Row) (r:Row):jX (l++[r])=jX l++[.string ⟨(r.1).toArray⟩,.string ⟨(r.2).toArray⟩]:=by simp [jX]
def U1Rel (rs:List Row) (w:World) (v q:Value) (wr:World):Prop :=
 ∃i:Nat,i≤rs.length∧q=.int .i64 i∧Below w.heap.size w wr∧wr.ownsRow w.heap.size 72 2 v (filR (rs.take i)).length (jX (filR (rs.take i)))
def U2Rel (ss:List Row) (a:Option Addr) (w:World) (v q:Value) (wr:World):Prop :=
 ∃i:Nat,i≤ss.length∧q=.int .i64 i∧Below w.heap.size w wr∧wr.ownsRow w.heap.size 72 2 v (mrgL (ss.take i)).length (jX (mrgL (ss.take i)))∧SlS wr (fun b=>v.ownBlock≠some b) a 2 ss.length (jX ss)
theorem Bu {P:Program} (w:World) (ts:Array TypeId) (t:TypeId) (x y:Str):(Builtin.max_ ts t #[.string ⟨x.toArray⟩,.string ⟨y.toArray⟩]).run P w=.ok (.string ⟨(mxS x y).toArray⟩) w:=by
 unfold mxS;cases h:Op.bytesLess x y<;>simp [Builtin.max_,Builtin.max2,Op.stringOp,asBool,h]
theorem Aq {w w':World} {v v':Value} {a:Option Addr} {sz n:Nat} {cs:List Value} (h:SlS w (fun b=>v.ownBlock≠some b) a sz n cs) (hg:w.grownBy w' v.ownBlock) (hm:sw w v v') :
  SlS w' (fun b=>v'.ownBlock≠some b) a sz n cs:=by
 have h1:SlS w (fun b=>v.ownBlock≠some b∧b<w.heap.size) a sz n cs:=h.mono fun b h1 h2=>⟨h1,h2⟩
 have h2:=h1.keep (w':=w') ⟨hg.size,fun b hb hlt=>hg.block b hlt (by first|exact hb.1|exact fun e=>hb.1 e.symm)⟩;refine h2.mono fun b hb _=>?_
 rcases hm with e|e
 ·rw [e];exact hb.1
 ·intro h3;have:=e b h3;omega
theorem Ad {w:World} {B g cap:Nat} {L:List Row} {q:Row} {n:Nat} (h:w.ownsRow B 72 2 (.slice (some ⟨g,0,none⟩) n cap) n (jX (L++[q]))) (t:Str) :
  (w.setCell ⟨g,L.length*2+1,none⟩ (.string ⟨t.toArray⟩)).ownsRow B 72 2 (.slice (some ⟨g,0,none⟩) n cap) n (jX (L++[(q.1,t)])):=by
 have h1:=(h.stored (L.length*2+1) (.string ⟨t.toArray⟩)).1;have e:(jX (L++[q])).set (L.length*2+1) (.string ⟨t.toArray⟩)=jX (L++[(q.1,t)]):=by
  rw [nO,nO,List.set_append_right _ _ (by rw [l7];omega),l7,show L.length*2+1-L.length*2=1 by omega];rfl
 rw [e] at h1;exact h1
theorem own_at {w:World} {B g cap:Nat} {L:List Row} {q:Row} {n:Nat} (h:w.ownsRow B 72 2 (.slice (some ⟨g,0,none⟩) n cap) n (jX (L++[q]))) :
  w.cell? ⟨g,L.length*2,none⟩=some (.string ⟨(q.1).toArray⟩)∧w.cell? ⟨g,L.length*2+1,none⟩=some (.string ⟨(q.2).toArray⟩)∧∀j,w.frozen? ⟨g,j,none⟩=false:=by
 obtain⟨c1,c2⟩:=ru (rs:=L++[q]) (k:=L.length) (r:=q) gF;have hl:L.length+1=n:=by have:=h.1;rw [l7,Cy,List.length_singleton] at this;omega
 exact⟨by rw [h.cellAt _ gu];exact c1,by rw [h.cellAt _ gu];exact c2,fun j=>h.frozenAt j⟩
theorem tn (f:Value) (w:World):Calls Tryz.prog 196 #[.slice none 0 0,.int .i64 0,.int .i64 0,f] w fun e w'=>e=.returned (.tuple #[])∧w'=w:=by
 go_enter Tryz.func196,Tryz.ntmps196
 go_wp2
 go_loopw [8] (fun q wr=>q=.int .i64 1∧wr=w) (fun _ _=>0)
 case atStart=>exact⟨rfl,rfl⟩
 case round =>
  exact dQ
theorem sx (w:World) :
  Calls Tryz.prog 185 #[.slice none 0 0,.func (.func 186) #[] #[]] w fun e w'=>e=.returned (.tuple #[])∧w'=w:=by
 have hst:Calls Tryz.prog 194 #[.slice none 0 0,.int .i64 0,.func (.func 186) #[] #[]] w fun e w'=>e=.returned (.tuple #[])∧w'=w:=by
  go_enter Tryz.func194,Tryz.ntmps194
  go_wp2
  go_loopw [7,8] (fun p q wr=>p=.int .i64 0∧q=.int .i64 20∧wr=w) (fun _ _ _=>0)
  case atStart=>exact⟨rfl,rfl,rfl⟩
  case round =>
   obtain⟨rfl,rfl,rfl⟩:=hrel;go_wp2_with (go_at_call 196;refine(tn _ _).mono ?_)
   rintro e w1 ⟨rfl,hw1⟩;subst hw1;obtain⟨wo,hwo⟩:∃wo:World,wo=w1:=⟨_,rfl⟩;rw [←hwo];go_wp2
   go_loopw [6] (fun q wr=>q=.int .i64 20∧wr=wo) (fun _ _=>0)
   case atStart=>exact⟨rfl,hwo.symm⟩
   case round =>
    exact dQ
 go_enter Tryz.func185,Tryz.ntmps185
 go_wp2_with (go_at_call 194;refine hst.mono ?_;rintro e w1 ⟨rfl,rfl⟩)
 go_end0
 exact⟨rfl,rfl⟩
def kN:Nat→Str→List Str
 | 0,_=>[]
 | _,[]=>[]
 | k+1,c::r=>(c::r.takeWhile j0)::kN k (r.dropWhile j0)
def kh (l:Str):List Str:=kN l.length l
theorem uN:(Tryz.prog.info? 9).map (fun i=>(i.zero,i.size,i.bytes))=some (some (.string ⟨#[]⟩),1,16):=by kernel_rfl
theorem rV (ps:List Str) (p:Str):kv (ps++[p])=kv ps++[.string ⟨p.toArray⟩]:=by simp [kv]
theorem uU (l:Str) (i:Nat) (c:UInt8) (r:Str) (h:l.drop i=c::r):nG l i≤l.length∧i<nG l i∧(l.take (nG l i)).drop i=c::r.takeWhile j0∧l.drop (nG l i)=r.dropWhile j0:=by
 have hl:i<l.length:=by
  exact cP
 have h2:l.drop (i+1)=r:=by rw [←List.drop_drop,h];rfl
 have hsp:nG l i=i+1+(r.takeWhile j0).length:=by unfold nG;rw [h2]
 have hr:r.takeWhile j0++r.dropWhile j0=r:=CQ;have hle:=CR List.length h2;rw [CS] at hle;have hle2:=CR List.length hr;rw [Cy] at hle2;refine⟨by omega,by omega,?_,?_⟩
 ·rw [hsp,List.drop_take,h,show i+1+(r.takeWhile j0).length-i=(r.takeWhile j0).length+1 by omega,List.take_succ_cons]
  congr 1
  conv=>lhs;rw [←hr]
  rw [List.take_append_of_le_length gF,List.take_of_length_le gF]
 ·rw [hsp,←List.drop_drop,h2]
  conv=>lhs;rw [←hr]
  rw [List.drop_append_of_le_length gF,List.drop_of_length_le gF,CT]
def SpRel (l:Str) (R:List Str) (w:World) (v q:Value) (wr:World):Prop :=
 ∃(i k:Nat) (ps:List Str),i≤l.length∧l.length-i≤k∧q=.int .i64 i∧Below w.heap.size w wr∧wr.ownsRow w.heap.size 9 1 v ps.length (kv ps)∧ps.length≤i∧Hid (ps++kN k (l.drop i)=R)
theorem uG (l:Str) (w:World) (hs:l.length≤1000000) :
  Calls Tryz.prog 43 #[.string ⟨l.toArray⟩] w fun e w'=>∃a c,e=.returned (.slice a (kh l).length c)∧SlS w' (fun b=>w.heap.size≤b) a 1 (kh l).length (kv (kh l))∧Below w.heap.size w w':=by
 obtain⟨R,hR⟩:∃R,kh l=R:=⟨_,rfl⟩;rw [hR];have HR:=ab hR;obtain⟨ir,hir⟩:=info_parts uN;clear hR;go_enter Tryz.func43,Tryz.ntmps43
 go_wp2
 go_loopw [3,4] (fun v q wr=>SpRel l R w v q wr) (fun _ q _=>l.length-(intOf q).toNat)
 case atStart=>exact⟨0,l.length,[],by omega,by omega,rfl,Below.refl _ _,World.ownsRow_nil _ _ _ _,by simp,HR⟩
 case round =>
  obtain⟨i,k,ps,hi,hk,rfl,hb,hown,hps,HF⟩:=hrel;have hB:=hb.size;clear HR;cases hd:l.drop i with
  | nil =>
   have h2:=ll hd;have HE:Hid (ps=R):=ab (by rw [←HF.out,hd];cases k<;>simp [kN]);exact cY
  | cons c r =>
   obtain⟨h1,h2,h3,h4⟩:=uU l i c r hd;obtain⟨k,rfl⟩:∃k',k=k'+1:=⟨k-1,by have:=CR List.length hd;simp at this;omega⟩;have hil:i<l.length:=by have:=CR List.length hd;simp at this;omega
   have HE:Hid ((ps++[c::r.takeWhile j0])++kN k (l.drop (nG l i))=R):=ab (by rw [←HF.out,hd,h4];simp [kN]);generalize hp:c::r.takeWhile j0=p at *
   obtain⟨e,he⟩:∃e,nG l i=e:=⟨_,rfl⟩;rw [he] at h1 h2 h3 h4 HE;rw [List.drop_take] at h3;have HEN:=ab (he▸ww l i wr gu gu:Calls Tryz.prog 73 #[.string ⟨l.toArray⟩,.int .i64 i] wr fun x w'=>x=.returned (.int .i64 (e:Int))∧wr=w');have hb1:Below wr.heap.size wr (wr.alloc (.cells #[.string ⟨p.toArray⟩] 9)):=(Below.refl _ _).alloc (Cp _) _;have HO1:=ab (jZ hown hb1);have HSL:=ab (Sl.lit (n:=1) (sz:=1) (heap_alloc_new wr (.cells #[.string ⟨p.toArray⟩] 9)) rfl);have hz1:w.heap.size≤(wr.alloc (.cells #[.string ⟨p.toArray⟩] 9)).heap.size:=by rw [CL];omega
   have hbw1:=hb.alloc hB (.cells #[.string ⟨p.toArray⟩] 9);clear hd hp h4 he HF hown;go_wp2_with (first|(go_at_call 73;refine HEN.out.mono ?_;rintro x w1 ⟨rfl,rfl⟩)|(at_builtin;refine ke w.heap.size 9 rfl _ _ 53 rfl Tryz.underlying53 hir rfl gD rfl HO1.out rfl HSL.out gG gu gu gD hz1 ?_))
   intro v1 w4 ho4 hg4 hb4 hmv;have hb4':=hbw1.trans hb4;have ho5:w4.ownsRow w.heap.size 9 1 v1 (ps++[p]).length (kv (ps++[p])):=by
    rw [rV,Cy];exact ho4
   clear ho4 hg4 hmv;go_wp2
   go_roundw
   case rel=>exact⟨e,k,ps++[p],h1,by omega,rfl,hb4',ho5,by simp;omega,HE⟩
   case measure=>simp [intOf];omega
def lG:Str→Bool
 | [b]=>decide (97≤b.toNat∧b.toNat≤122)||decide (65≤b.toNat∧b.toNat≤90)||decide (48≤b.toNat∧b.toNat≤57)||decide (b.toNat=95)
 | _=>false
theorem qR (c:Str) (w:World) (hs:c.length≤100000000):Calls Tryz.prog 182 #[.string ⟨c.toArray⟩] w fun e w'=>e=.returned (.bool (lG c))∧w=w':=by
 match c,hs with
 | [],_ =>
  go_enter Tryz.func182,Tryz.ntmps182
  exact cw
 | b::d::r,hs =>
  go_enter Tryz.func182,Tryz.ntmps182
  exact cw
 | [b],_ =>
  go_enter Tryz.func182,Tryz.ntmps182
  go_wp2
  all_goals (go_ret;refine⟨jU ?_,rfl⟩;simp only [lG];rw [Bool.eq_iff_iff];simp only [CG,Cj,Ci];first|omega|(simp;omega)|skip)
structure Rc where
 cs:List Str
 fold:Bool
 offs:List Nat
structure Rst where
 ps:List (Int × Int)
 fuel:Nat
 out:Bool
 en:Int
abbrev Rk:=Nat→Rst→Bool × Rst
def o4 (s:Str):Str:=s.map fun c=>if 65≤c.toNat∧c.toNat≤90 then c+32 else c
def sG (s:Str):Str:=s.map fun c=>if 97≤c.toNat∧c.toNat≤122 then c-32 else c
def inS' (rs:List (Str × Str)) (c:Str):Bool:=rs.any fun r=>leS r.1 c&&leS c r.2
def hasS (rs:List (Str × Str)) (ng fold:Bool) (c:Str):Bool:=(inS' rs c||fold&&(inS' rs (o4 c)||inS' rs (sG c))) != ng
def lf (C:Rc) (k:Int) (c:Str) (ng:Bool) (rs:List (Str × Str)) (d:Str):Bool :=
 if k=2 then d==c||C.fold&&o4 d==o4 c else if k=3 then d != [10] else hasS rs ng C.fold d
def ki (C:Rc) (kind:Int) (k:Nat):Bool :=
 if kind=8 then decide (k=0) else if kind=9 then decide (k=C.cs.length)
 else((decide (0<k)&&lG (C.cs.getD (k-1) [])) != (decide (k<C.cs.length)&&lG (C.cs.getD k [])))==decide (kind=10)
def mG (ps:List (Int × Int)) (i:Nat) (v:Int × Int):List (Int × Int):=ps.set i v
def kA (ps:List (Int × Int)) (lo hi:Nat):List (Int × Int):=ps.take lo++List.replicate (hi-lo) (-1,-1)++ps.drop hi
def nX (ps was:List (Int × Int)) (lo hi:Nat):List (Int × Int):=ps.take lo++(was.take hi).drop lo++ps.drop hi
def orE (a:Bool × Rst) (h:Rst→Bool × Rst):Bool × Rst:=if a.1=true then a else h a.2
def r7 (was:List (Int × Int)) (lo hi:Nat) (t:Bool × Rst):Bool × Rst:=if t.1=true then t else(false,{ t.2 with ps:=nX t.2.ps was lo hi })
def AT (was:Int × Int) (g:Nat) (t:Bool × Rst):Bool × Rst:=if t.1=true then t else(false,{ t.2 with ps:=mG t.2.ps g was })
def lu (tk:Nat→Rk→Rst→Bool × Rst) (mn:Int) (mx:Int) (lz:Bool) (lo hi:Nat) (f:Rk):Nat→Nat→Nat→Rst→Bool × Rst
 | 0,_,_,st=>(false,st)
 | N+1,k,times,st =>
  orE (if mn≤(times:Int)∧lz=true then f k st else(false,st)) fun s1 =>
  orE (if mx<0∨(times:Int)<mx then r7 s1.ps lo hi (tk k (fun e s2=>if k<e∨(times:Int)<mn then lu tk mn mx lz lo hi f N e (times+1) s2 else(false,s2)) { s1 with ps:=kA s1.ps lo hi }) else(false,s1)) fun s2 =>
  if mn≤(times:Int)∧lz=false∧s2.out=false then f k s2 else(false,s2)
def grpK (C:Rc) (g k:Nat) (f:Rk):Rk:=fun e s2=>AT (s2.ps.getD g (-1,-1)) g (f e { s2 with ps:=mG s2.ps g ((C.offs.getD k 0:Int),(C.offs.getD e 0:Int)) })
def kP (st:Rst):Rst:={ st with fuel:=st.fuel-1 }
mutual
def tryM (C:Rc):Rx→Nat→Nat→Rk→Rst→Bool × Rst
 | .mk kd c ng rs lo hi lz ks,g,k,f,st =>
  if st.out=true then(false,st)
  else if kd=0 then seqM C ks g k f st
  else if kd=1 then altM C ks g k f st
  else if kd=7 then lu (fun k f st=>kU C ks g k f st) lo hi lz g (g+Rx.groupsL ks) f (C.cs.length-k+lo.toNat+1) k 0 st
  else if st.fuel=0 then(false,{ st with out:=true })
  else if kd=5 then kU C ks (g+1) k (grpK C g k f) (kP st)
  else if kd=6 then kU C ks g k f (kP st)
  else if kd=2∨kd=3∨kd=4 then(if k<C.cs.length∧lf C kd c ng rs (C.cs.getD k [])=true then f (k+1) (kP st) else(false,kP st))
  else if ki C kd k=true then f k (kP st) else(false,kP st)
def kU (C:Rc):List Rx→Nat→Nat→Rk→Rst→Bool × Rst
 | [],_,_,_,st=>(false,st)
 | x::_,g,k,f,st=>tryM C x g k f st
def seqM (C:Rc):List Rx→Nat→Nat→Rk→Rst→Bool × Rst
 | [],_,k,f,st=>f k st
 | x::r,g,k,f,st=>tryM C x g k (fun e s2=>seqM C r (g+x.groups) e f s2) st
def altM (C:Rc):List Rx→Nat→Nat→Rk→Rst→Bool × Rst
 | [],_,_,_,st=>(false,st)
 | x::r,g,k,f,st=>orE (tryM C x g k f st) fun s=>altM C r (g+x.groups) k f s
end
def oneM (C:Rc) (x:Rx) (k:Nat) (st:Rst):Option (Nat × List (Int × Int)) × Rst :=
 let r:=tryM C x 0 k (fun e s=>(true,{ s with en:=e })) { st with ps:=List.replicate x.groups (-1,-1),en:=-1 }
 if r.2.en<0∨r.2.out=true then(none,r.2) else(some (r.2.en.toNat,r.2.ps),r.2)
def mu (C:Rc) (x:Rx):Nat→Nat→Rst→Option (Nat × Nat × List (Int × Int)) × Rst
 | 0,_,st=>(none,st)
 | N+1,k,st =>
  if k<C.offs.length∧st.out=false then
   (let r:=oneM C x k st
    match r.1 with
    | some (e,ps)=>(some (k,e,ps),r.2)
    | none=>mu C x N (k+1) r.2)
  else(none,st)
def allM (C:Rc) (x:Rx):Nat→Nat→Rst→List (Nat × Nat × List (Int × Int)) × Rst
 | 0,_,st=>([],st)
 | N+1,k,st =>
  if k<C.offs.length then
   (let r:=mu C x (C.offs.length+1) k st
    match r.1 with
    | some (a,b,ps)=>if r.2.out=true then([],r.2) else
     (let q:=allM C x N (if a=b then b+1 else b) r.2
     ((a,b,ps)::q.1,q.2))
    | none=>([],r.2))
  else([],st)
def lP:List Str→Nat→List Nat
 | [],at_=>[at_]
 | c::r,at_=>at_::lP r (at_+c.length)
def rcM (fold:Bool) (s:Str):Rc:=⟨kh s,fold,lP (kh s) 0⟩
def su (z:Int):Nat:=(min (max z 0) 20000).toNat
def mB (n:Nat) (z:Int):Rst:=⟨List.replicate n (-1,-1),su z,false,-1⟩
end Go.Proofs.YtjggmmaojklmpaaGreat
