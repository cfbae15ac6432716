/- Rows in a slice that the call owns: swaps; walk of slices.swapRangeCmpFunc -/
import Derived.Test.YtbgcjpefocdkkaaSx1
import Derived.Test.YtbgcjpefocdkkaaSx2
set_option maxRecDepth 100000
namespace Go.Proofs.Ytbgcjpefocdkkaa
open Go.RowKit
abbrev Row:=Str × Str
def RO (w:World) (B g cap:Nat) (rs:List Row):Prop:=w.ownsRow B 92 2 (.slice (some ⟨g,0,none⟩) rs.length cap) rs.length (rcells rs)
theorem RO.at_ {w:World} {B g cap:Nat} {rs:List Row} (h:RO w B g cap rs) {i:Nat} {r:Row} (hi:rs[i]?=some r) :
  w.cell? ⟨g,i*2,none⟩=some (.string ⟨(r.1).toArray⟩)∧w.cell? ⟨g,i*2+1,none⟩=some (.string ⟨(r.2).toArray⟩):=by
 have hlt:=(List.getElem?_eq_some_iff.1 hi).1;obtain⟨c1,c2⟩:=rcells_at hi;exact⟨by rw [h.cellAt _ (by omega)];exact c1,by rw [h.cellAt _ (by omega)];exact c2⟩
theorem RO.free {w:World} {B g cap:Nat} {rs:List Row} (h:RO w B g cap rs) (j:Nat):w.frozen? ⟨g,j,none⟩=false:=h.frozenAt j
theorem rcells_set:∀(rs:List Row) (i:Nat) (y:Row),i<rs.length→rcells (rs.set i y)=((rcells rs).set (i*2) (.string ⟨(y.1).toArray⟩)).set (i*2+1) (.string ⟨(y.2).toArray⟩)
 | [],i,y,h=>by simp at h
 | r::rs,0,y,_=>by simp [rcells]
 | r::rs,i+1,y,h=>by
  have ih:=rcells_set rs i y (by simpa using h);have h1:∀l:List Row,rcells (r::l)=.string ⟨(r.1).toArray⟩::.string ⟨(r.2).toArray⟩::rcells l:=fun l=>by simp [rcells]
  rw [List.set_cons_succ,h1,h1,ih,show (i+1)*2=i*2+2 by omega];rfl
theorem RO.set {w:World} {B g cap:Nat} {rs:List Row} (h:RO w B g cap rs) {i:Nat} (y:Row) (hi:i<rs.length) :
  RO ((w.setCell ⟨g,i*2,none⟩ (.string ⟨(y.1).toArray⟩)).setCell ⟨g,i*2+1,none⟩ (.string ⟨(y.2).toArray⟩)) B g cap (rs.set i y):=by
 have h1:=((h.stored (i*2) (.string ⟨(y.1).toArray⟩)).1.stored (i*2+1) (.string ⟨(y.2).toArray⟩)).1;unfold RO;rw [rcells_set rs i y hi,List.length_set];exact h1
theorem grown_set {w w':World} {g:Nat} (h:w.grownBy w' (some g)) (o:Nat) (u:Value):w.grownBy (w'.setCell ⟨g,o,none⟩ u) (some g) :=
 ⟨h.os,h.tape,h.output,by simp [World.setCell];exact h.size,fun k hk hne=>(heap_setCell_other w' ⟨g,o,none⟩ k u (fun e=>hne (by simp [e]))).trans (h.block k hk hne)⟩
theorem grown_below {w w' w2:World} {row:Option Nat} (h:w.grownBy w' row) (hb:Below w'.heap.size w' w2):w.grownBy w2 row :=
 ⟨hb.os.trans h.os,hb.tape.trans h.tape,hb.output.trans h.output,Nat.le_trans h.size hb.size,fun k hk hne=>(hb.block k (Nat.lt_of_lt_of_le hk h.size)).trans (h.block k hk hne)⟩
theorem grown_trans {a b c:World} {row:Option Nat} (h1:a.grownBy b row) (h2:b.grownBy c row):a.grownBy c row :=
 ⟨h2.os.trans h1.os,h2.tape.trans h1.tape,h2.output.trans h1.output,Nat.le_trans h1.size h2.size,fun k hk hne=>(h2.block k (Nat.lt_of_lt_of_le hk h1.size) hne).trans (h1.block k hk hne)⟩
theorem grown_refl (w:World) (row:Option Nat):w.grownBy w row:=⟨rfl,rfl,rfl,Nat.le_refl _,fun _ _ _=>rfl⟩
theorem grown_drew {w w':World} {row:Option Nat} (h:w.grownBy w' row):w.grownBy w'.drew row:=⟨h.os,h.tape,h.output,h.size,h.block⟩
def swapL (rs:List Row) (i j:Nat):List Row:=match rs[i]?,rs[j]? with|some x,some y=>(rs.set i y).set j x|_,_=>rs
theorem swapL_len (rs:List Row) (i j:Nat):(swapL rs i j).length=rs.length:=by
 unfold swapL;split<;>simp
theorem swapL_eq {rs:List Row} {i j:Nat} {x y:Row} (hi:rs[i]?=some x) (hj:rs[j]?=some y):swapL rs i j=(rs.set i y).set j x:=by
 unfold swapL;rw [hi,hj]
theorem RO.swap {w:World} {B g cap:Nat} {rs:List Row} (h:RO w B g cap rs) {i j:Nat} {x y:Row} (hi:rs[i]?=some x) (hj:rs[j]?=some y) :
  RO ((((w.setCell ⟨g,i*2,none⟩ (.string ⟨(y.1).toArray⟩)).setCell ⟨g,i*2+1,none⟩ (.string ⟨(y.2).toArray⟩)).setCell ⟨g,j*2,none⟩ (.string ⟨(x.1).toArray⟩)).setCell ⟨g,j*2+1,none⟩ (.string ⟨(x.2).toArray⟩)).drew B g cap (swapL rs i j):=by
 have h1:=(List.getElem?_eq_some_iff.1 hi).1;have h2:=(List.getElem?_eq_some_iff.1 hj).1;rw [swapL_eq hi hj];exact((h.set y h1).set x (by simpa using h2):RO _ _ _ _ _)
def SwRel (B g cap a b n:Nat) (N:Nat) (R:List Row) (w:World) (q:Value) (wr:World):Prop :=
 ∃(i:Nat) (rs:List Row),i≤n∧q=.int .i64 i∧RO wr B g cap rs∧w.grownBy wr (some g)∧rs.length=N ∧
  Hid ((List.range' i (n-i)).foldl (fun l k=>swapL l (a+k) (b+k)) rs=R)
def swapN (rs:List Row) (a b n:Nat):List Row:=(List.range' 0 n).foldl (fun l k=>swapL l (a+k) (b+k)) rs
set_option maxHeartbeats 2000000 in
theorem swapRange_any (B g cap:Nat) (rs:List Row) (a b n:Nat) (f:Value) (w:World) (h:RO w B g cap rs) (ha:a+n≤rs.length) (hb:b+n≤rs.length) (hl:rs.length≤1000000) :
  Calls Try.prog 98 #[.slice (some ⟨g,0,none⟩) rs.length cap,.int .i64 a,.int .i64 b,.int .i64 n,f] w fun e w'=>e=.returned (.tuple #[])∧RO w' B g cap (swapN rs a b n)∧w.grownBy w' (some g):=by
 obtain⟨R,hR⟩:∃R,swapN rs a b n=R:=⟨_,rfl⟩;rw [hR];have HR0:Hid ((List.range' 0 (n-0)).foldl (fun l k=>swapL l (a+k) (b+k)) rs=R):=Lib.hid hR;obtain⟨N,hN⟩:∃N,N=rs.length:=⟨_,rfl⟩;have HN:=Lib.hid hN;have HRO:=Lib.hid h;rw [←hN] at ha hb hl ⊢;clear hR h hN;go_enter Try.func98,Try.ntmps98
 go_wp2
 go_loopw [10] (fun q wr=>SwRel B g cap a b n N R w q wr) (fun q _=>n-(intOf q).toNat)
 case atStart=>exact⟨0,rs,by omega,rfl,HRO.out,grown_refl _ _,HN.out.symm,HR0⟩
 case round =>
  obtain⟨i,l,hin,rfl,hro,hg,hlN,HF⟩:=hrel;clear HR0 HRO HN;by_cases h2:i<n
  ·obtain⟨x,hx⟩:∃x,l[a+i]?=some x:=⟨_,List.getElem?_eq_getElem (by omega)⟩
   obtain⟨y,hy⟩:∃y,l[b+i]?=some y:=⟨_,List.getElem?_eq_getElem (by omega)⟩;obtain⟨c1,c2⟩:=hro.at_ hx;obtain⟨c3,c4⟩:=hro.at_ hy;have f:=fun j=>hro.free j
   have HF2:Hid ((List.range' (i+1) (n-(i+1))).foldl (fun l k=>swapL l (a+k) (b+k)) (swapL l (a+i) (b+i))=R):=Lib.hid (by
    rw [←HF.out,show n-i=(n-(i+1))+1 by omega,List.range'_succ,List.foldl_cons])
   have hsw:=hro.swap hx hy;have HSW:=Lib.hid hsw;have hgs:=grown_drew (grown_set (grown_set (grown_set (grown_set hg ((a+i)*2) (.string ⟨(y.1).toArray⟩)) ((a+i)*2+1) (.string ⟨(y.2).toArray⟩)) ((b+i)*2) (.string ⟨(x.1).toArray⟩)) ((b+i)*2+1) (.string ⟨(x.2).toArray⟩));have HGS:=Lib.hid hgs;have hro2:=hro.set y (i:=a+i) (by omega);obtain⟨z,hz⟩:∃z,(l.set (a+i) y)[b+i]?=some z:=⟨_,List.getElem?_eq_getElem (by simp;omega)⟩;obtain⟨c5,c6⟩:=hro2.at_ hz;have f2:=fun j=>hro2.free j
   obtain⟨x1,x2⟩:=x;obtain⟨y1,y2⟩:=y;clear hsw hgs HF hro hx hy hz hro2;go_wp2
   go_region
   go_wp2
   exact⟨⟨i+1,swapL l (a+i) (b+i),by omega,by go_num,HSW.out,HGS.out,by rw [swapL_len];exact hlN,HF2⟩,by simp [intOf];omega⟩
  ·have hni:i=n:=by omega
   have HE:Hid (l=R):=Lib.hid (by rw [←HF.out,hni,Nat.sub_self];rfl);clear HF;go_wp2
   go_end0
   exact⟨rfl,by rw [←HE.out];exact hro,hg⟩
end Go.Proofs.Ytbgcjpefocdkkaa
set_option maxRecDepth 100000
namespace Go.Proofs.Ytbgcjpefocdkkaa
open Go.RowKit
theorem foldl_swap_len (a b:Nat):∀(ks:List Nat) (rs:List Row),(ks.foldl (fun l k=>swapL l (a+k) (b+k)) rs).length=rs.length
 | [],rs=>rfl
 | k::ks,rs=>by rw [List.foldl_cons,foldl_swap_len a b ks,swapL_len]
theorem swapN_len (rs:List Row) (a b n:Nat):(swapN rs a b n).length=rs.length:=foldl_swap_len _ _ _ _
theorem swapRange_eq {B g cap N:Nat} {rs:List Row} {a b n:Nat} {az bz nz:Int} (f:Value) (w:World) (h:RO w B g cap rs) (hN:rs.length=N) (h1:az=a) (h2:bz=b) (h3:nz=n) (ha:a+n≤N) (hb:b+n≤N) (hl:N≤1000000) :
  Calls Try.prog 98 #[.slice (some ⟨g,0,none⟩) N cap,.int .i64 az,.int .i64 bz,.int .i64 nz,f] w fun e w'=>e=.returned (.tuple #[])∧RO w' B g cap (swapN rs a b n)∧w.grownBy w' (some g):=by
 subst h1 h2 h3 hN;exact swapRange_any B g cap rs a b n f w h ha hb hl
def rotL:Nat→List Row→Nat→Nat→Nat→List Row
 | 0,rs,_,_,_=>rs
 | k+1,rs,m,i,j =>
  if i=j then swapN rs (m-i) m i
  else if j<i then rotL k (swapN rs (m-i) m j) m (i-j) j
  else rotL k (swapN rs (m-i) (m+j-i) i) m i (j-i)
def RtRel (B g cap m N:Nat) (R:List Row) (w:World) (p q:Value) (wr:World):Prop :=
 ∃(i j k:Nat) (rs:List Row),p=.int .i64 i∧q=.int .i64 j∧0<i∧0<j∧i≤m∧m+j≤N∧i+j≤k∧RO wr B g cap rs∧w.grownBy wr (some g)∧rs.length=N∧Hid (rotL k rs m i j=R)
set_option maxHeartbeats 1000000 in
theorem rotate_any (B g cap N:Nat) (rs:List Row) (a m b:Nat) (f:Value) (w:World) (h:RO w B g cap rs) (hN:rs.length=N) (ha:a<m) (hb:m<b) (hbn:b≤N) (hl:N≤1000000) :
  Calls Try.prog 97 #[.slice (some ⟨g,0,none⟩) N cap,.int .i64 a,.int .i64 m,.int .i64 b,f] w fun e w'=>e=.returned (.tuple #[])∧RO w' B g cap (rotL (b-a) rs m (m-a) (b-m))∧w.grownBy w' (some g):=by
 obtain⟨R,hR⟩:∃R,rotL (b-a) rs m (m-a) (b-m)=R:=⟨_,rfl⟩;rw [hR];have HR:=Lib.hid hR;have HRO:=Lib.hid h;clear hR h;go_enter Try.func97,Try.ntmps97
 go_wp2
 go_loopw [10,11] (fun p q wr=>RtRel B g cap m N R w p q wr) (fun p q _=>(intOf p).toNat+(intOf q).toNat)
 case atStart=>exact⟨m-a,b-m,b-a,rs,by go_num,by go_num,by omega,by omega,by omega,by omega,by omega,HRO.out,grown_refl _ _,hN,HR⟩
 case round =>
  obtain⟨i,j,k,l,rfl,rfl,hi,hj,him,hjn,hk,hro,hg,hlN,HF⟩:=hrel;clear HR HRO hN;obtain⟨k,rfl⟩:∃k',k=k'+1:=⟨k-1,by omega⟩;by_cases hij:i=j
  ·subst hij
   have HE:Hid (swapN l (m-i) m i=R):=Lib.hid (by rw [←HF.out];simp only [rotL];rw [if_pos trivial]);have HO:=Lib.hid (swapRange_eq (az:=(m:Int)-i) (bz:=m) (nz:=i) f wr hro hlN (by omega) rfl rfl (a:=m-i) (b:=m) (n:=i) (by omega) (by omega) hl);clear HF hro;go_wp2_with (go_at_call 98;refine HO.out.mono ?_;rintro e w1 ⟨rfl,hr1,hg1⟩)
   go_end0
   exact⟨rfl,by rw [←HE.out];exact hr1,grown_trans hg hg1⟩
  ·have e1:((i:Int)==j)=false:=by rw [beq_eq_false_iff_ne];omega
   have e2:((i:Int) != j)=true:=by rw [bne_iff_ne];omega
   by_cases hlt:j<i
   ·have HE:Hid (rotL k (swapN l (m-i) m j) m (i-j) j=R):=Lib.hid (by rw [←HF.out];simp only [rotL];rw [if_neg hij,if_pos hlt])
    have HO:=Lib.hid (swapRange_eq (az:=(m:Int)-i) (bz:=m) (nz:=j) f wr hro hlN (by omega) rfl rfl (a:=m-i) (b:=m) (n:=j) (by omega) (by omega) hl);clear HF hro hij;go_wp2_with (go_at_call 98;refine HO.out.mono ?_;rintro e w1 ⟨rfl,hr1,hg1⟩)
    go_roundw
    case rel=>exact⟨i-j,j,k,_,by go_num,rfl,by omega,by omega,by omega,by omega,by omega,hr1,grown_trans hg hg1,by rw [swapN_len];exact hlN,HE⟩
    case measure=>simp [intOf];omega
   ·have HE:Hid (rotL k (swapN l (m-i) (m+j-i) i) m i (j-i)=R):=Lib.hid (by rw [←HF.out];simp only [rotL];rw [if_neg hij,if_neg hlt])
    have HO:=Lib.hid (swapRange_eq (az:=(m:Int)-i) (bz:=(m:Int)+j-i) (nz:=i) f wr hro hlN (by omega) (by omega) rfl (a:=m-i) (b:=m+j-i) (n:=i) (by omega) (by omega) hl);have hlt2:i<j:=by omega
    clear HF hro hij;go_wp2_with (go_at_call 98;refine HO.out.mono ?_;rintro e w1 ⟨rfl,hr1,hg1⟩)
    go_roundw
    case rel=>exact⟨i,j-i,k,_,rfl,by go_num,by omega,by omega,by omega,by omega,by omega,hr1,grown_trans hg hg1,by rw [swapN_len];exact hlN,HE⟩
    case measure=>simp [intOf];omega
def insIn (a:Nat):Nat→List Row→List Row
 | 0,rs=>rs
 | j+1,rs=>match rs[j+1]?,rs[j]? with
  | some x,some y=>if a<j+1∧cmpR x y<0 then insIn a j (swapL rs (j+1) j) else rs
  | _,_=>rs
def insOut (a:Nat):Nat→Nat→List Row→List Row
 | 0,_,rs=>rs
 | k+1,i,rs=>insOut a k (i+1) (insIn a i rs)
theorem insIn_len (a:Nat):∀(j:Nat) (rs:List Row),(insIn a j rs).length=rs.length
 | 0,rs=>rfl
 | j+1,rs=>by
  simp only [insIn];split
  ·split
   ·rw [insIn_len a j,swapL_len]
   ·rfl
  ·rfl
theorem insOut_len (a:Nat):∀(k i:Nat) (rs:List Row),(insOut a k i rs).length=rs.length
 | 0,_,_=>rfl
 | k+1,i,rs=>by simp only [insOut];rw [insOut_len a k,insIn_len]
def InRel (B g cap a b N:Nat) (R:List Row) (w:World) (q:Value) (wr:World):Prop :=
 ∃(i:Nat) (rs:List Row),q=.int .i64 i∧a<i∧(i≤b∨i=a+1)∧RO wr B g cap rs∧w.grownBy wr (some g)∧rs.length=N∧Hid (insOut a (b-i) i rs=R)
def IjRel (B g cap a i N:Nat) (R:List Row) (w:World) (q:Value) (wr:World):Prop :=
 ∃(j:Nat) (rs:List Row),q=.int .i64 j∧a≤j∧j≤i∧RO wr B g cap rs∧w.grownBy wr (some g)∧rs.length=N∧Hid (insIn a j rs=R)
set_option maxHeartbeats 1000000 in
theorem insertion_any (B g cap N:Nat) (rs:List Row) (a b:Nat) (w:World) (h:RO w B g cap rs) (hN:rs.length=N) (hbn:b≤N) (hl:N≤1000000) (haN:a≤N) :
  Calls Try.prog 95 #[.slice (some ⟨g,0,none⟩) N cap,.int .i64 a,.int .i64 b,.func (.func 89) #[] #[]] w fun e w'=>e=.returned (.tuple #[])∧RO w' B g cap (insOut a (b-(a+1)) (a+1) rs)∧w.grownBy w' (some g):=by
 obtain⟨R,hR⟩:∃R,insOut a (b-(a+1)) (a+1) rs=R:=⟨_,rfl⟩;rw [hR];have HR:=Lib.hid hR;have HRO:=Lib.hid h;clear hR h;go_enter Try.func95,Try.ntmps95
 go_wp2
 go_loopw [8] (fun q wr=>InRel B g cap a b N R w q wr) (fun q _=>b-(intOf q).toNat)
 case atStart=>exact⟨a+1,rs,by go_num,by omega,.inr rfl,HRO.out,grown_refl _ _,hN,HR⟩
 case round =>
  obtain⟨i,l,rfl,hai,hib,hro,hg,hlN,HF⟩:=hrel;clear HR HRO hN;by_cases hlt:i<b
  ·obtain⟨T,hT⟩:∃T,insIn a i l=T:=⟨_,rfl⟩
   have HT0:=Lib.hid hT;have HTN:T.length=N:=by rw [←hT,insIn_len];exact hlN
   have HE:Hid (insOut a (b-(i+1)) (i+1) T=R):=Lib.hid (by rw [←HF.out,show b-i=(b-(i+1))+1 by omega];simp only [insOut];rw [hT]);have HRO:=Lib.hid hro;clear HF hT hib hro;obtain⟨wo,rfl⟩:∃wo:World,wo=wr:=⟨_,rfl⟩;go_wp2
   go_loopw [9] (fun q wk=>IjRel B g cap a i N T wo q wk) (fun q _=>(intOf q).toNat)
   case atStart=>exact⟨i,l,rfl,by omega,by omega,HRO.out,grown_refl _ _,hlN,HT0⟩
   case round =>
    obtain⟨j,lj,rfl,haj,hji,hroj,hgj,hljN,HG⟩:=hrel;clear HT0 HRO hlN;by_cases hja:a<j
    ·obtain⟨j,rfl⟩:∃j',j=j'+1:=⟨j-1,by omega⟩
     obtain⟨x,hx⟩:∃x,lj[j+1]?=some x:=⟨_,List.getElem?_eq_getElem (by omega)⟩;obtain⟨y,hy⟩:∃y,lj[j]?=some y:=⟨_,List.getElem?_eq_getElem (by omega)⟩;obtain⟨c1,c2⟩:=hroj.at_ hx;obtain⟨c3,c4⟩:=hroj.at_ hy;obtain⟨x1,x2⟩:=x;obtain⟨y1,y2⟩:=y;obtain⟨cv,hcv⟩:∃cv,cmpR (x1,x2) (y1,y2)=cv:=⟨_,rfl⟩;have HG2:Hid ((if a<j+1∧cv<0 then insIn a j (swapL lj (j+1) j) else lj)=T):=Lib.hid (by
      rw [←HG.out,←hcv];simp only [insIn];rw [hx,hy])
     have HCV:Hid (∀w:World,Calls Try.prog 89 #[.agg #[.string ⟨(x1).toArray⟩,.string ⟨(x2).toArray⟩],.agg #[.string ⟨(y1).toArray⟩,.string ⟨(y2).toArray⟩]] w fun e w'=>e=.returned (.int .i64 cv)∧Below w.heap.size w w'):=Lib.hid (fun w=>by
      rw [←hcv];exact cmpU_any (x1,x2) (y1,y2) w)
     have d1:∀x:ExtOf wr,x.val.cell? ⟨g,(j+1)*2,none⟩=some (.string ⟨(x1).toArray⟩):=ExtOf.cell c1;have d2:∀x:ExtOf wr,x.val.cell? ⟨g,(j+1)*2+1,none⟩=some (.string ⟨(x2).toArray⟩):=ExtOf.cell c2;have d3:∀x:ExtOf wr,x.val.cell? ⟨g,j*2,none⟩=some (.string ⟨(y1).toArray⟩):=ExtOf.cell c3;have d4:∀x:ExtOf wr,x.val.cell? ⟨g,j*2+1,none⟩=some (.string ⟨(y2).toArray⟩):=ExtOf.cell c4;have HX:=Lib.hid hx;have HY:=Lib.hid hy;have HROJ:=Lib.hid hroj;have hgt:decide (a<j+1)=true:=decide_eq_true (by omega);have hgt2:decide ((a:Int)<(j:Int)+1)=true:=decide_eq_true (by omega);clear hcv hx hy hroj HG c1 c2 c3 c4;go_wp2
     refine wp_region_ext (by kernel_rfl) (by kernel_rfl) ?_;repeat (go_big_quiet_step ((go_at_call 89;exact ext_call (HCV.out _))))
     refine wpQuiet_nil ?_;rintro _ ⟨xq,rfl⟩;have hrq:RO xq.val B g cap lj:=own_below HROJ.out xq.ext;have hgq:=grown_below hgj xq.ext;obtain⟨w5,hw5⟩:∃w5,w5=xq.val:=⟨_,rfl⟩;rw [←hw5] at hrq hgq ⊢;clear hw5;clear xq;by_cases hc0:cv<0
     ·have hc0':decide (cv<0)=true:=decide_eq_true hc0
      have HE2:Hid (insIn a j (swapL lj (j+1) j)=T):=Lib.hid (by rw [←HG2.out,if_pos ⟨hja,hc0⟩]);obtain⟨c1,c2⟩:=hrq.at_ HX.out;obtain⟨c3,c4⟩:=hrq.at_ HY.out;have f:=fun k=>hrq.free k
      have hro2:=hrq.set (y1,y2) (i:=j+1) (by omega);obtain⟨z,hz⟩:∃z,(lj.set (j+1) (y1,y2))[j]?=some z:=⟨_,List.getElem?_eq_getElem (by simp;omega)⟩;obtain⟨c5,c6⟩:=hro2.at_ hz;have f2:=fun k=>hro2.free k
      dsimp only at c1 c2 c3 c4 c5 c6 f2
      clear c5 c6 f2;obtain⟨z1,z2⟩:=z;have c5:((w5.setCell ⟨g,(j+1)*2,none⟩ (.string ⟨(y1).toArray⟩)).setCell ⟨g,(j+1)*2+1,none⟩ (.string ⟨(y2).toArray⟩)).cell? ⟨g,j*2,none⟩=some (.string ⟨(z1).toArray⟩):=(hro2.at_ hz).1;have c6:((w5.setCell ⟨g,(j+1)*2,none⟩ (.string ⟨(y1).toArray⟩)).setCell ⟨g,(j+1)*2+1,none⟩ (.string ⟨(y2).toArray⟩)).cell? ⟨g,j*2+1,none⟩=some (.string ⟨(z2).toArray⟩):=(hro2.at_ hz).2;have hsw:=hrq.swap HX.out HY.out;dsimp only at hsw
      have HSW:=Lib.hid hsw;have HGS:=Lib.hid (grown_drew (grown_set (grown_set (grown_set (grown_set hgq ((j+1)*2) (.string ⟨(y1).toArray⟩)) ((j+1)*2+1) (.string ⟨(y2).toArray⟩)) (j*2) (.string ⟨(x1).toArray⟩)) (j*2+1) (.string ⟨(x2).toArray⟩)));go_wp2
      clear hrq hgq hro2 hz hc0 HG2 d1 d2 d3 d4 hsw hgt hgt2 hc0';go_region
      go_wp2
      go_roundw
      case rel=>exact⟨j,swapL lj (j+1) j,by go_num,by omega,by omega,HSW.out,HGS.out,by rw [swapL_len];exact hljN,HE2⟩
      case measure=>simp [intOf]
     ·have hc0':decide (cv<0)=false:=decide_eq_false hc0
      have HE2:Hid (lj=T):=Lib.hid (by rw [←HG2.out,if_neg (fun q=>hc0 q.2)]);have hc9:0≤cv:=by omega
      clear hc0 HG2 d1 d2 d3 d4;go_wp2
      exact⟨⟨i+1,T,by go_num,by omega,.inl (by omega),by rw [←HE2.out];exact hrq,grown_trans hg hgq,HTN,HE⟩,by simp [intOf];omega⟩
    ·have hja':j≤a:=by omega
     have HE2:Hid (lj=T):=Lib.hid (by
      rw [←HG.out];cases j with
      | zero=>rfl
      | succ j =>
       simp only [insIn];split
       ·rw [if_neg (fun q=>hja q.1)]
       ·rfl)
     have hgt:decide (a<j)=false:=decide_eq_false (by omega);clear hja HG;go_wp2
     refine wp_region_ext (by kernel_rfl) (by kernel_rfl) ?_;repeat (go_big_quiet_step ((fail)))
     refine wpQuiet_nil ?_;rintro _ ⟨xq,rfl⟩;go_wp2
     exact⟨⟨i+1,T,by go_num,by omega,.inl (by omega),by rw [←HE2.out];exact own_below hroj xq.ext,grown_trans hg (grown_below hgj xq.ext),HTN,HE⟩,by simp [intOf];omega⟩
  ·have HE:Hid (l=R):=Lib.hid (by rw [←HF.out,show b-i=0 by omega];rfl)
   clear HF;go_wp2
   go_end0
   exact⟨rfl,by rw [←HE.out];exact hro,hg⟩
end Go.Proofs.Ytbgcjpefocdkkaa
set_option maxRecDepth 100000
namespace Go.Proofs.Ytbgcjpefocdkkaa
open Go.RowKit
def bs (p:Nat→Bool):Nat→Nat→Nat→Nat
 | 0,i,_=>i
 | k+1,i,j=>if i<j then(if p ((i+j) / 2)=true then bs p k ((i+j) / 2+1) j else bs p k i ((i+j) / 2)) else i
theorem bs_bd (p:Nat→Bool):∀(k i j:Nat),i≤j→i≤bs p k i j∧bs p k i j≤j
 | 0,i,j,h=>by simp [bs];exact h
 | k+1,i,j,h=>by
  simp only [bs];split
  ·split
   ·have:=bs_bd p k ((i+j) / 2+1) j (by omega);omega
   ·have:=bs_bd p k i ((i+j) / 2) (by omega);omega
  ·omega
def ltAt (rs:List Row) (x y:Nat):Bool:=match rs[x]?,rs[y]? with|some r,some s=>decide (cmpR r s<0)|_,_=>false
theorem ltAt_eq {rs:List Row} {x y:Nat} {r s:Row} (h1:rs[x]?=some r) (h2:rs[y]?=some s):ltAt rs x y=decide (cmpR r s<0):=by
 unfold ltAt;rw [h1,h2]
def upSw (rs:List Row) (a n:Nat):List Row:=(List.range' a n).foldl (fun l k=>swapL l k (k+1)) rs
def dnSw:Nat→List Row→Nat→List Row
 | 0,rs,_=>rs
 | n+1,rs,m=>dnSw n (swapL rs m (m-1)) (m-1)
theorem dnSw_len:∀(n:Nat) (rs:List Row) (m:Nat),(dnSw n rs m).length=rs.length
 | 0,_,_=>rfl
 | n+1,rs,m=>by simp only [dnSw];rw [dnSw_len n,swapL_len]
theorem upSw_len (rs:List Row) (a n:Nat):(upSw rs a n).length=rs.length:=by
 unfold upSw;have:∀(ks:List Nat) (rs:List Row),(ks.foldl (fun l k=>swapL l k (k+1)) rs).length=rs.length:=by
  intro ks;induction ks with
  | nil=>intro rs;rfl
  | cons k ks ih=>intro rs;rw [List.foldl_cons,ih,swapL_len]
 exact this _ _
def BsRel (B g cap:Nat) (rs:List Row) (p:Nat→Bool) (lo hi T:Nat) (w:World) (q s:Value) (wr:World):Prop :=
 ∃(i j k:Nat),q=.int .i64 i∧s=.int .i64 j∧lo≤i∧i≤j∧j≤hi∧j-i≤k∧RO wr B g cap rs∧w.grownBy wr (some g)∧Hid (bs p k i j=T)
def UpRel (B g cap N i:Nat) (R:List Row) (w:World) (q:Value) (wr:World):Prop :=
 ∃(k:Nat) (rs:List Row),q=.int .i64 k∧k+1≤i∧RO wr B g cap rs∧w.grownBy wr (some g)∧rs.length=N∧Hid (upSw rs k (i-1-k)=R)
set_option maxHeartbeats 1000000 in
theorem symMerge_one (B g cap N:Nat) (rs:List Row) (a b:Nat) (w:World) (h:RO w B g cap rs) (hN:rs.length=N) (hab:a+1<b) (hbn:b≤N) (hl:N≤1000000) :
  Calls Try.prog 96 #[.slice (some ⟨g,0,none⟩) N cap,.int .i64 a,.int .i64 ((a:Int)+1),.int .i64 b,.func (.func 89) #[] #[]] w fun e w'=>e=.returned (.tuple #[])∧RO w' B g cap (upSw rs a (bs (fun h=>ltAt rs h a) b (a+1) b-1-a))∧w.grownBy w' (some g):=by
 obtain⟨T,hT⟩:∃T,bs (fun h=>ltAt rs h a) b (a+1) b=T:=⟨_,rfl⟩;have hbd:=bs_bd (fun h=>ltAt rs h a) b (a+1) b (by omega);rw [hT] at hbd ⊢;have HT:=Lib.hid hT;have HRO:=Lib.hid h;have e1:((a:Int)+1-a)=1:=by omega
 obtain⟨R,hR⟩:∃R,upSw rs a (T-1-a)=R:=⟨_,rfl⟩;have HR:=Lib.hid hR;rw [hR];clear hT h hR;go_enter Try.func96,Try.ntmps96
 go_wp2
 go_loopw [10,11] (fun q s wr=>BsRel B g cap rs (fun h=>ltAt rs h a) (a+1) b T w q s wr) (fun q s _=>(intOf s).toNat-(intOf q).toNat)
 case atStart=>exact⟨a+1,b,b,by go_num,rfl,by omega,by omega,by omega,by omega,HRO.out,grown_refl _ _,HT⟩
 case round =>
  obtain⟨i,j,k,rfl,rfl,hi,hij,hj,hk,hro,hg,HF⟩:=hrel;clear HT HRO;by_cases hlt:i<j
  ·obtain⟨k,rfl⟩:∃k',k=k'+1:=⟨k-1,by omega⟩
   obtain⟨H,hH⟩:∃H,(i+j) / 2=H:=⟨_,rfl⟩;have hH2:((i:Int)+j) / 2=(H:Int):=by omega
   have hHb:i≤H∧H<j:=by omega
   obtain⟨x,hx⟩:∃x,rs[H]?=some x:=⟨_,List.getElem?_eq_getElem (by omega)⟩;obtain⟨y,hy⟩:∃y,rs[a]?=some y:=⟨_,List.getElem?_eq_getElem (by omega)⟩;obtain⟨c1,c2⟩:=hro.at_ hx;obtain⟨c3,c4⟩:=hro.at_ hy;obtain⟨x1,x2⟩:=x;obtain⟨y1,y2⟩:=y;obtain⟨cv,hcv⟩:∃cv,cmpR (x1,x2) (y1,y2)=cv:=⟨_,rfl⟩;have HCV:Hid (∀w:World,Calls Try.prog 89 #[.agg #[.string ⟨(x1).toArray⟩,.string ⟨(x2).toArray⟩],.agg #[.string ⟨(y1).toArray⟩,.string ⟨(y2).toArray⟩]] w fun e w'=>e=.returned (.int .i64 cv)∧Below w.heap.size w w'):=Lib.hid (fun w=>by
    rw [←hcv];exact cmpU_any (x1,x2) (y1,y2) w)
   have d1:∀x:ExtOf wr,x.val.cell? ⟨g,(H)*2,none⟩=some (.string ⟨(x1).toArray⟩):=ExtOf.cell c1;have d2:∀x:ExtOf wr,x.val.cell? ⟨g,(H)*2+1,none⟩=some (.string ⟨(x2).toArray⟩):=ExtOf.cell c2;have d3:∀x:ExtOf wr,x.val.cell? ⟨g,(a)*2,none⟩=some (.string ⟨(y1).toArray⟩):=ExtOf.cell c3;have d4:∀x:ExtOf wr,x.val.cell? ⟨g,(a)*2+1,none⟩=some (.string ⟨(y2).toArray⟩):=ExtOf.cell c4;have HX:=Lib.hid hx;have HY:=Lib.hid hy;have HROJ:=Lib.hid hro;clear hx hy c1 c2 c3 c4;have HF2:Hid ((if cv<0 then bs (fun h=>ltAt rs h a) k (H+1) j else bs (fun h=>ltAt rs h a) k i H)=T):=Lib.hid (by
    have hp:ltAt rs H a=decide (cv<0):=by rw [ltAt_eq HX.out HY.out,hcv]
    rw [←HF.out];simp only [bs,hlt,if_true,hH,hp,decide_eq_true_eq])
   clear hcv hH HF hro;go_wp2
   refine wp_region_ext (by kernel_rfl) (by kernel_rfl) ?_;repeat (go_big_quiet_step ((go_at_call 89;exact ext_call (HCV.out _))))
   refine wpQuiet_nil ?_;rintro _ ⟨xq,rfl⟩;have hrq:RO xq.val B g cap rs:=own_below HROJ.out xq.ext;have hgq:=grown_below hg xq.ext;clear d1 d2 d3 d4;by_cases hc0:cv<0
   ·have hc0':decide (cv<0)=true:=decide_eq_true hc0
    have HE2:=Lib.hid ((if_pos hc0).symm.trans HF2.out);go_wp2
    go_roundw
    case rel=>exact⟨H+1,j,k,by go_num,rfl,by omega,by omega,by omega,by omega,hrq,hgq,HE2⟩
    case measure=>simp [intOf];omega
   ·have hc0':decide (cv<0)=false:=decide_eq_false hc0
    have hc9:0≤cv:=by omega
    have HE2:=Lib.hid ((if_neg hc0).symm.trans HF2.out);clear hc0;go_wp2
    go_roundw
    case rel=>exact⟨i,H,k,rfl,rfl,by omega,by omega,by omega,by omega,hrq,hgq,HE2⟩
    case measure=>simp [intOf];omega
  ·have hij2:i=T:=by
    have:=HF.out
    have hje:j=i:=by omega
    subst hje;cases k with
    | zero=>exact this
    | succ k=>simp only [bs] at this;rw [if_neg (by omega)] at this;exact this
   subst hij2;have HRO:=Lib.hid hro;clear HF hro hk;obtain⟨wo,rfl⟩:∃wo:World,wo=wr:=⟨_,rfl⟩;go_wp2
   go_loopw [13] (fun q wk=>UpRel B g cap N i R wo q wk) (fun q _=>i-(intOf q).toNat)
   case atStart=>exact⟨a,rs,rfl,by omega,HRO.out,grown_refl _ _,hN,HR⟩
   case round =>
    obtain⟨m,l,rfl,hmi,hrol,hgl,hlN,HG⟩:=hrel;clear HR HRO;by_cases hm:m+1<i
    ·obtain⟨x,hx⟩:∃x,l[m]?=some x:=⟨_,List.getElem?_eq_getElem (by omega)⟩
     obtain⟨y,hy⟩:∃y,l[m+1]?=some y:=⟨_,List.getElem?_eq_getElem (by omega)⟩;have HG2:Hid (upSw (swapL l m (m+1)) (m+1) (i-1-(m+1))=R):=Lib.hid (by
      rw [←HG.out,show i-1-m=(i-1-(m+1))+1 by omega];simp only [upSw];rw [List.range'_succ,List.foldl_cons])
     clear HG;obtain⟨c1,c2⟩:=(hrol).at_ hx;obtain⟨c3,c4⟩:=(hrol).at_ hy;have f:=fun k=>(hrol).free k
     have hro2:=(hrol).set y (i:=m) (by omega);obtain⟨z,hz⟩:∃z,(l.set m y)[(m+1)]?=some z:=⟨_,List.getElem?_eq_getElem (by simp;omega)⟩;obtain⟨c5,c6⟩:=hro2.at_ hz;have f2:=fun k=>hro2.free k
     have HSW:=Lib.hid ((hrol).swap hx hy);have HGS:=Lib.hid (grown_drew (grown_set (grown_set (grown_set (grown_set hgl ((m)*2) (.string ⟨(y.1).toArray⟩)) ((m)*2+1) (.string ⟨(y.2).toArray⟩)) (((m+1))*2) (.string ⟨(x.1).toArray⟩)) (((m+1))*2+1) (.string ⟨(x.2).toArray⟩)));clear hx hy hz hro2 hrol hgl;obtain⟨x1,x2⟩:=x;obtain⟨y1,y2⟩:=y;go_wp2
     go_region
     go_wp2
     go_roundw
     case rel=>exact⟨m+1,swapL l m (m+1),by go_num,by omega,HSW.out,HGS.out,by rw [swapL_len];exact hlN,HG2⟩
     case measure=>simp [intOf];omega
    ·have HE:Hid (l=R):=Lib.hid (by rw [←HG.out,show i-1-m=0 by omega];rfl)
     clear HG;go_wp2
     refine bodyPost_ret (v:=.tuple #[]) (results_none rfl _ _ _) rfl ?_;exact⟨rfl,by rw [←HE.out];exact hrol,grown_trans hg hgl⟩
end Go.Proofs.Ytbgcjpefocdkkaa
set_option maxRecDepth 100000
namespace Go.Proofs.Ytbgcjpefocdkkaa
open Go.RowKit
def DnRel (B g cap N i hi:Nat) (R:List Row) (w:World) (q:Value) (wr:World):Prop :=
 ∃(k:Nat) (rs:List Row),q=.int .i64 k∧i≤k∧k≤hi∧RO wr B g cap rs∧w.grownBy wr (some g)∧rs.length=N∧Hid (dnSw (k-i) rs k=R)
set_option maxHeartbeats 1000000 in
theorem symMerge_last (B g cap N:Nat) (rs:List Row) (a m:Nat) (w:World) (h:RO w B g cap rs) (hN:rs.length=N) (ham:a+1<m) (hbn:m+1≤N) (hl:N≤1000000) :
  Calls Try.prog 96 #[.slice (some ⟨g,0,none⟩) N cap,.int .i64 a,.int .i64 m,.int .i64 ((m:Int)+1),.func (.func 89) #[] #[]] w fun e w'=>e=.returned (.tuple #[])∧RO w' B g cap (dnSw (m-bs (fun h=>!ltAt rs m h) m a m) rs m)∧w.grownBy w' (some g):=by
 obtain⟨T,hT⟩:∃T,bs (fun h=>!ltAt rs m h) m a m=T:=⟨_,rfl⟩;have hbd:=bs_bd (fun h=>!ltAt rs m h) m a m (by omega);rw [hT] at hbd ⊢;have HT:=Lib.hid hT;have HRO:=Lib.hid h;have e1:((m:Int)-a==1)=false:=by rw [beq_eq_false_iff_ne];omega
 have e2:((m:Int)+1-m)=1:=by omega
 obtain⟨R,hR⟩:∃R,dnSw (m-T) rs m=R:=⟨_,rfl⟩;have HR:=Lib.hid hR;rw [hR];clear hT h hR;go_enter Try.func96,Try.ntmps96
 go_wp2
 go_loopw [14,15] (fun q s wr=>BsRel B g cap rs (fun h=>!ltAt rs m h) a m T w q s wr) (fun q s _=>(intOf s).toNat-(intOf q).toNat)
 case atStart=>exact⟨a,m,m,rfl,rfl,by omega,by omega,by omega,by omega,HRO.out,grown_refl _ _,HT⟩
 case round =>
  obtain⟨i,j,k,rfl,rfl,hi,hij,hj,hk,hro,hg,HF⟩:=hrel;clear HT HRO;by_cases hlt:i<j
  ·obtain⟨k,rfl⟩:∃k',k=k'+1:=⟨k-1,by omega⟩
   obtain⟨H,hH⟩:∃H,(i+j) / 2=H:=⟨_,rfl⟩;have hH2:((i:Int)+j) / 2=(H:Int):=by omega
   have hHb:i≤H∧H<j:=by omega
   obtain⟨x,hx⟩:∃x,rs[m]?=some x:=⟨_,List.getElem?_eq_getElem (by omega)⟩;obtain⟨y,hy⟩:∃y,rs[H]?=some y:=⟨_,List.getElem?_eq_getElem (by omega)⟩;obtain⟨c1,c2⟩:=hro.at_ hx;obtain⟨c3,c4⟩:=hro.at_ hy;obtain⟨x1,x2⟩:=x;obtain⟨y1,y2⟩:=y;obtain⟨cv,hcv⟩:∃cv,cmpR (x1,x2) (y1,y2)=cv:=⟨_,rfl⟩;have HCV:Hid (∀w:World,Calls Try.prog 89 #[.agg #[.string ⟨(x1).toArray⟩,.string ⟨(x2).toArray⟩],.agg #[.string ⟨(y1).toArray⟩,.string ⟨(y2).toArray⟩]] w fun e w'=>e=.returned (.int .i64 cv)∧Below w.heap.size w w'):=Lib.hid (fun w=>by
    rw [←hcv];exact cmpU_any (x1,x2) (y1,y2) w)
   have d1:∀x:ExtOf wr,x.val.cell? ⟨g,(m)*2,none⟩=some (.string ⟨(x1).toArray⟩):=ExtOf.cell c1;have d2:∀x:ExtOf wr,x.val.cell? ⟨g,(m)*2+1,none⟩=some (.string ⟨(x2).toArray⟩):=ExtOf.cell c2;have d3:∀x:ExtOf wr,x.val.cell? ⟨g,(H)*2,none⟩=some (.string ⟨(y1).toArray⟩):=ExtOf.cell c3;have d4:∀x:ExtOf wr,x.val.cell? ⟨g,(H)*2+1,none⟩=some (.string ⟨(y2).toArray⟩):=ExtOf.cell c4;have HX:=Lib.hid hx;have HY:=Lib.hid hy;have HROJ:=Lib.hid hro;clear hx hy c1 c2 c3 c4;have HF2:Hid ((if cv<0 then bs (fun h=>!ltAt rs m h) k i H else bs (fun h=>!ltAt rs m h) k (H+1) j)=T):=Lib.hid (by
    have hp:(!ltAt rs m H)=!decide (cv<0):=by rw [ltAt_eq HX.out HY.out,hcv]
    rw [←HF.out];simp only [bs,hlt,if_true,hH,hp];by_cases hc:cv<0<;>simp [hc])
   clear hcv hH HF hro;go_wp2
   refine wp_region_ext (by kernel_rfl) (by kernel_rfl) ?_;repeat (go_big_quiet_step ((go_at_call 89;exact ext_call (HCV.out _))))
   refine wpQuiet_nil ?_;rintro _ ⟨xq,rfl⟩;have hrq:RO xq.val B g cap rs:=own_below HROJ.out xq.ext;have hgq:=grown_below hg xq.ext;clear d1 d2 d3 d4;by_cases hc0:cv<0
   ·have hc0':decide (cv<0)=true:=decide_eq_true hc0
    have HE2:=Lib.hid ((if_pos hc0).symm.trans HF2.out);simp only [hc0',Bool.not_true];go_wp2
    go_roundw
    case rel=>exact⟨i,H,k,rfl,rfl,by omega,by omega,by omega,by omega,hrq,hgq,HE2⟩
    case measure=>simp [intOf];omega
   ·have hc0':decide (cv<0)=false:=decide_eq_false hc0
    have hc9:0≤cv:=by omega
    have HE2:=Lib.hid ((if_neg hc0).symm.trans HF2.out);clear hc0;simp only [hc0',Bool.not_false];go_wp2
    go_roundw
    case rel=>exact⟨H+1,j,k,by go_num,rfl,by omega,by omega,by omega,by omega,hrq,hgq,HE2⟩
    case measure=>simp [intOf];omega
  ·have hij2:i=T:=by
    have:=HF.out
    have hje:j=i:=by omega
    subst hje;cases k with
    | zero=>exact this
    | succ k=>simp only [bs] at this;rw [if_neg (by omega)] at this;exact this
   subst hij2;have HRO:=Lib.hid hro;clear HF hro hk;obtain⟨wo,rfl⟩:∃wo:World,wo=wr:=⟨_,rfl⟩;go_wp2
   go_loopw [17] (fun q wk=>DnRel B g cap N i m R wo q wk) (fun q _=>(intOf q).toNat)
   case atStart=>exact⟨m,rs,rfl,by omega,by omega,HRO.out,grown_refl _ _,hN,HR⟩
   case round =>
    obtain⟨d,l,rfl,hid,hdm,hrol,hgl,hlN,HG⟩:=hrel;clear HR HRO;by_cases hm:i<d
    ·obtain⟨d,rfl⟩:∃d',d=d'+1:=⟨d-1,by omega⟩
     obtain⟨x,hx⟩:∃x,l[d+1]?=some x:=⟨_,List.getElem?_eq_getElem (by omega)⟩;obtain⟨y,hy⟩:∃y,l[d]?=some y:=⟨_,List.getElem?_eq_getElem (by omega)⟩;have HG2:Hid (dnSw (d-i) (swapL l (d+1) d) d=R):=Lib.hid (by
      rw [←HG.out,show d+1-i=(d-i)+1 by omega];simp only [dnSw];rw [Nat.add_sub_cancel])
     clear HG;obtain⟨c1,c2⟩:=(hrol).at_ hx;obtain⟨c3,c4⟩:=(hrol).at_ hy;have f:=fun k=>(hrol).free k
     have hro2:=(hrol).set y (i:=(d+1)) (by omega);obtain⟨z,hz⟩:∃z,(l.set (d+1) y)[d]?=some z:=⟨_,List.getElem?_eq_getElem (by simp;omega)⟩;obtain⟨c5,c6⟩:=hro2.at_ hz;have f2:=fun k=>hro2.free k
     have HSW:=Lib.hid ((hrol).swap hx hy);have HGS:=Lib.hid (grown_drew (grown_set (grown_set (grown_set (grown_set hgl (((d+1))*2) (.string ⟨(y.1).toArray⟩)) (((d+1))*2+1) (.string ⟨(y.2).toArray⟩)) ((d)*2) (.string ⟨(x.1).toArray⟩)) ((d)*2+1) (.string ⟨(x.2).toArray⟩)));clear hx hy hz hro2 hrol hgl;obtain⟨x1,x2⟩:=x;obtain⟨y1,y2⟩:=y;have ed:(d:Int)+1-1=d:=by omega
     go_wp2
     clear ed;go_region
     go_wp2
     go_roundw
     case rel=>exact⟨d,swapL l (d+1) d,by go_num,by omega,by omega,HSW.out,HGS.out,by rw [swapL_len];exact hlN,HG2⟩
     case measure=>simp [intOf]
    ·have HE:Hid (l=R):=Lib.hid (by rw [←HG.out,show d-i=0 by omega];rfl)
     clear HG;go_wp2
     refine bodyPost_ret (v:=.tuple #[]) (results_none rfl _ _ _) rfl ?_;exact⟨rfl,by rw [←HE.out];exact hrol,grown_trans hg hgl⟩
end Go.Proofs.Ytbgcjpefocdkkaa
set_option maxRecDepth 100000
namespace Go.Proofs.Ytbgcjpefocdkkaa
theorem rotL_len:∀(k:Nat) (rs:List Row) (m i j:Nat),(rotL k rs m i j).length=rs.length
 | 0,_,_,_,_=>rfl
 | k+1,rs,m,i,j=>by
  simp only [rotL];split
  ·rw [swapN_len]
  ·split
   ·rw [rotL_len k,swapN_len]
   ·rw [rotL_len k,swapN_len]
def sLo (a m b:Nat):Nat:=if (a+b) / 2<m then(a+b) / 2+m-b else a
def sHi (a m b:Nat):Nat:=if (a+b) / 2<m then(a+b) / 2 else m
def symM:Nat→List Row→Nat→Nat→Nat→List Row
 | 0,rs,_,_,_=>rs
 | f+1,rs,a,m,b =>
  if m=a+1 then upSw rs a (bs (fun h=>ltAt rs h a) b m b-1-a)
  else if b=m+1 then dnSw (m-bs (fun h=>!ltAt rs m h) m a m) rs m
  else
   let M:=(a+b) / 2
   let s:=bs (fun c=>!ltAt rs (M+m-1-c) c) b (sLo a m b) (sHi a m b)
   let e:=M+m-s
   let r1:=if s<m∧m<e then rotL (e-s) rs m (m-s) (e-m) else rs
   let r2:=if a<s∧s<M then symM f r1 a s M else r1
   if M<e∧e<b then symM f r2 M e b else r2
theorem symM_len:∀(f:Nat) (rs:List Row) (a m b:Nat),(symM f rs a m b).length=rs.length
 | 0,_,_,_,_=>rfl
 | f+1,rs,a,m,b=>by
  simp only [symM];have ih:=symM_len f
  (repeat' split)<;>simp only [ih,rotL_len,upSw_len,dnSw_len]
def symT (f:Nat) (r1:List Row) (a s M e b:Nat):List Row :=
 if M<e∧e<b then symM f (if a<s∧s<M then symM f r1 a s M else r1) M e b else(if a<s∧s<M then symM f r1 a s M else r1)
theorem symM_one (f:Nat) (rs:List Row) (a b:Nat):symM (f+1) rs a (a+1) b=upSw rs a (bs (fun h=>ltAt rs h a) b (a+1) b-1-a):=by
 rw [symM];exact if_pos rfl
theorem symM_last {f:Nat} {rs:List Row} {a m:Nat} (h:¬m=a+1):symM (f+1) rs a m (m+1)=dnSw (m-bs (fun h=>!ltAt rs m h) m a m) rs m:=by
 rw [symM];exact(if_neg h).trans (if_pos rfl)
theorem symM_gen {f:Nat} {rs:List Row} {a m b:Nat} (h1:¬m=a+1) (h2:¬b=m+1) :
  symM (f+1) rs a m b=symT f (if bs (fun c=>!ltAt rs ((a+b) / 2+m-1-c) c) b (sLo a m b) (sHi a m b)<m∧m<(a+b) / 2+m-bs (fun c=>!ltAt rs ((a+b) / 2+m-1-c) c) b (sLo a m b) (sHi a m b) then
   rotL ((a+b) / 2+m-bs (fun c=>!ltAt rs ((a+b) / 2+m-1-c) c) b (sLo a m b) (sHi a m b)-bs (fun c=>!ltAt rs ((a+b) / 2+m-1-c) c) b (sLo a m b) (sHi a m b)) rs m (m-bs (fun c=>!ltAt rs ((a+b) / 2+m-1-c) c) b (sLo a m b) (sHi a m b)) ((a+b) / 2+m-bs (fun c=>!ltAt rs ((a+b) / 2+m-1-c) c) b (sLo a m b) (sHi a m b)-m) else rs)
   a (bs (fun c=>!ltAt rs ((a+b) / 2+m-1-c) c) b (sLo a m b) (sHi a m b)) ((a+b) / 2) ((a+b) / 2+m-bs (fun c=>!ltAt rs ((a+b) / 2+m-1-c) c) b (sLo a m b) (sHi a m b)) b:=by
 rw [symM];exact(if_neg h1).trans (if_neg h2)
end Go.Proofs.Ytbgcjpefocdkkaa
set_option maxRecDepth 100000
namespace Go.Proofs.Ytbgcjpefocdkkaa
def stA:Nat→List Row→Nat→Nat→List Row
 | 0,rs,_,_=>rs
 | k+1,rs,a,n=>if a+20≤n then stA k (insOut a (a+20-(a+1)) (a+1) rs) (a+20) n else insOut a (n-(a+1)) (a+1) rs
def stB:Nat→List Row→Nat→Nat→Nat→List Row
 | 0,rs,_,_,_=>rs
 | k+1,rs,a,s,n=>if a+2*s≤n then stB k (symM (2*s) rs a (a+s) (a+2*s)) (a+2*s) s n else if a+s<n then symM (n-a) rs a (a+s) n else rs
def stC:Nat→List Row→Nat→Nat→List Row
 | 0,rs,_,_=>rs
 | k+1,rs,s,n=>if s<n then stC k (stB (n+1) rs 0 s n) (2*s) n else rs
def stL (rs:List Row):List Row:=stC (rs.length+1) (stA (rs.length+1) rs 0 rs.length) 20 rs.length
theorem stA_len:∀(k:Nat) (rs:List Row) (a n:Nat),(stA k rs a n).length=rs.length
 | 0,_,_,_=>rfl
 | k+1,rs,a,n=>by
  simp only [stA];split
  ·rw [stA_len k,insOut_len]
  ·rw [insOut_len]
theorem stB_len:∀(k:Nat) (rs:List Row) (a s n:Nat),(stB k rs a s n).length=rs.length
 | 0,_,_,_,_=>rfl
 | k+1,rs,a,s,n=>by
  simp only [stB];split
  ·rw [stB_len k,symM_len]
  ·split
   ·rw [symM_len]
   ·rfl
theorem stC_len:∀(k:Nat) (rs:List Row) (s n:Nat),(stC k rs s n).length=rs.length
 | 0,_,_,_=>rfl
 | k+1,rs,s,n=>by
  simp only [stC];split
  ·rw [stC_len k,stB_len]
  ·rfl
theorem snoc_cases (A:List Row):A=[]∨∃B y,A=B++[y]:=by
 rcases List.eq_nil_or_concat A with h|⟨B,y,h⟩
 ·exact .inl h
 ·exact .inr ⟨B,y,by simpa using h⟩
end Go.Proofs.Ytbgcjpefocdkkaa
set_option maxRecDepth 100000
namespace Go.Proofs.Ytbgcjpefocdkkaa
def mxS (a b:Str):Str:=if Op.bytesLess a b=true then b else a
def mrgS (out:List Row) (r:Row):List Row:=match out.getLast? with
 | none=>[r]
 | some q=>if leS r.1 q.2=true then out.dropLast++[(q.1,mxS q.2 r.2)] else out++[r]
def mrgL (ss:List Row):List Row:=ss.foldl mrgS []
def filR (rs:List Row):List Row:=rs.filter rowB
def unionM (rs:List Row):List Row:=mrgL (stL (filR rs))
theorem mrgS_nil (r:Row):mrgS [] r=[r]:=rfl
theorem mrgS_le {B:List Row} {q r:Row} (h:leS r.1 q.2=true):mrgS (B++[q]) r=B++[(q.1,mxS q.2 r.2)]:=by
 unfold mrgS;rw [List.getLast?_concat];simp [h]
theorem mrgS_gt {B:List Row} {q r:Row} (h:leS r.1 q.2=false):mrgS (B++[q]) r=B++[q]++[r]:=by
 unfold mrgS;rw [List.getLast?_concat];simp [h]
theorem mrgL_take {ss:List Row} {i:Nat} {r:Row} (h:ss[i]?=some r):mrgL (ss.take (i+1))=mrgS (mrgL (ss.take i)) r:=by
 unfold mrgL;rw [List.take_add_one,h,List.foldl_append];rfl
theorem mrgS_len (out:List Row) (r:Row):(mrgS out r).length≤out.length+1:=by
 unfold mrgS;split
 ·simp
 ·rename_i q hq
  have:out≠[]:=by rintro rfl;simp at hq
  have:=List.length_pos_iff.2 this
  split<;>simp<;>omega
theorem mrgL_len (ss:List Row):(mrgL ss).length≤ss.length:=by
 have key:∀(l out:List Row),(l.foldl mrgS out).length≤out.length+l.length:=by
  intro l;induction l with
  | nil=>intro out;simp
  | cons r l ih=>intro out;have h1:=ih (mrgS out r);have h2:=mrgS_len out r;simp only [List.foldl_cons,List.length_cons];omega
 simpa [mrgL] using key ss []
theorem filR_take {rs:List Row} {i:Nat} {r:Row} (h:rs[i]?=some r):filR (rs.take (i+1))=filR (rs.take i)++(if rowB r=true then [r] else []):=by
 unfold filR;rw [List.take_add_one,h,List.filter_append];cases hr:rowB r<;>simp [hr]
theorem filR_len (rs:List Row):(filR rs).length≤rs.length:=List.length_filter_le _ _
theorem stL_len (rs:List Row):(stL rs).length=rs.length:=by unfold stL;rw [stC_len,stA_len]
end Go.Proofs.Ytbgcjpefocdkkaa
set_option maxRecDepth 100000
namespace Go.Proofs.Ytbgcjpefocdkkaa
open Go.RowKit
theorem rcells_snoc (l:List Row) (r:Row):rcells (l++[r])=rcells l++[.string ⟨(r.1).toArray⟩,.string ⟨(r.2).toArray⟩]:=by simp [rcells]
def U1Rel (rs:List Row) (w:World) (v q:Value) (wr:World):Prop :=
 ∃i:Nat,i≤rs.length∧q=.int .i64 i∧Below w.heap.size w wr∧wr.ownsRow w.heap.size 92 2 v (filR (rs.take i)).length (rcells (filR (rs.take i)))
def U2Rel (ss:List Row) (a:Option Addr) (w:World) (v q:Value) (wr:World):Prop :=
 ∃i:Nat,i≤ss.length∧q=.int .i64 i∧Below w.heap.size w wr∧wr.ownsRow w.heap.size 92 2 v (mrgL (ss.take i)).length (rcells (mrgL (ss.take i)))∧SlS wr (fun b=>v.ownBlock≠some b) a 2 ss.length (rcells ss)
theorem run_max_S {P:Program} (w:World) (ts:Array TypeId) (t:TypeId) (x y:Str):(Builtin.max_ ts t #[.string ⟨(x).toArray⟩,.string ⟨(y).toArray⟩]).run P w=.ok (.string ⟨(mxS x y).toArray⟩) w:=by
 unfold mxS;cases h:Op.bytesLess x y<;>simp [Builtin.max_,Builtin.max2,Op.stringOp,asBool,h]
theorem src_app {w w':World} {v v':Value} {a:Option Addr} {sz n:Nat} {cs:List Value} (h:SlS w (fun b=>v.ownBlock≠some b) a sz n cs) (hg:w.grownBy w' v.ownBlock) (hm:Moved w v v') :
  SlS w' (fun b=>v'.ownBlock≠some b) a sz n cs:=by
 have h1:SlS w (fun b=>v.ownBlock≠some b∧b<w.heap.size) a sz n cs:=h.mono fun b h1 h2=>⟨h1,h2⟩
 have h2:=h1.keep (w':=w') ⟨hg.size,fun b hb hlt=>hg.block b hlt (by first|exact hb.1|exact fun e=>hb.1 e.symm)⟩;refine h2.mono fun b hb _=>?_
 rcases hm with e|e
 ·rw [e];exact hb.1
 ·intro h3;have:=e b h3;omega
theorem own_setTo {w:World} {B g cap:Nat} {L:List Row} {q:Row} {n:Nat} (h:w.ownsRow B 92 2 (.slice (some ⟨g,0,none⟩) n cap) n (rcells (L++[q]))) (t:Str) :
  (w.setCell ⟨g,L.length*2+1,none⟩ (.string ⟨(t).toArray⟩)).ownsRow B 92 2 (.slice (some ⟨g,0,none⟩) n cap) n (rcells (L++[(q.1,t)])):=by
 have h1:=(h.stored (L.length*2+1) (.string ⟨(t).toArray⟩)).1;have e:(rcells (L++[q])).set (L.length*2+1) (.string ⟨(t).toArray⟩)=rcells (L++[(q.1,t)]):=by
  rw [rcells_snoc,rcells_snoc,List.set_append_right _ _ (by rw [rcells_length];omega),rcells_length,show L.length*2+1-L.length*2=1 by omega];rfl
 rw [e] at h1;exact h1
theorem own_at {w:World} {B g cap:Nat} {L:List Row} {q:Row} {n:Nat} (h:w.ownsRow B 92 2 (.slice (some ⟨g,0,none⟩) n cap) n (rcells (L++[q]))) :
  w.cell? ⟨g,L.length*2,none⟩=some (.string ⟨(q.1).toArray⟩)∧w.cell? ⟨g,L.length*2+1,none⟩=some (.string ⟨(q.2).toArray⟩)∧∀j,w.frozen? ⟨g,j,none⟩=false:=by
 obtain⟨c1,c2⟩:=rcells_at (rs:=L++[q]) (k:=L.length) (r:=q) (by simp);have hl:L.length+1=n:=by have:=h.1;rw [rcells_length,List.length_append,List.length_singleton] at this;omega
 exact⟨by rw [h.cellAt _ (by omega)];exact c1,by rw [h.cellAt _ (by omega)];exact c2,fun j=>h.frozenAt j⟩
end Go.Proofs.Ytbgcjpefocdkkaa
namespace Go.Proofs.Ytbgcjpefocdkkaa
open Go.RowKit
theorem insertion_nil (f:Value) (w:World):Calls Try.prog 95 #[.slice none 0 0,.int .i64 0,.int .i64 0,f] w fun e w'=>e=.returned (.tuple #[])∧w'=w:=by
 go_enter Try.func95,Try.ntmps95
 go_wp2
 go_loopw [8] (fun q wr=>q=.int .i64 1∧wr=w) (fun _ _=>0)
 case atStart=>exact⟨rfl,rfl⟩
 case round =>
  obtain⟨rfl,rfl⟩:=hrel;go_wp2
  go_end0
  exact⟨rfl,rfl⟩
theorem SortStable_nil (w:World) :
  Calls Try.prog 88 #[.slice none 0 0,.func (.func 89) #[] #[]] w fun e w'=>e=.returned (.tuple #[])∧w'=w:=by
 have hst:Calls Try.prog 93 #[.slice none 0 0,.int .i64 0,.func (.func 89) #[] #[]] w fun e w'=>e=.returned (.tuple #[])∧w'=w:=by
  go_enter Try.func93,Try.ntmps93
  go_wp2
  go_loopw [7,8] (fun p q wr=>p=.int .i64 0∧q=.int .i64 20∧wr=w) (fun _ _ _=>0)
  case atStart=>exact⟨rfl,rfl,rfl⟩
  case round =>
   obtain⟨rfl,rfl,rfl⟩:=hrel;go_wp2_with (go_at_call 95;refine(insertion_nil _ _).mono ?_)
   rintro e w1 ⟨rfl,hw1⟩;subst hw1;obtain⟨wo,hwo⟩:∃wo:World,wo=w1:=⟨_,rfl⟩;rw [←hwo];go_wp2
   go_loopw [6] (fun q wr=>q=.int .i64 20∧wr=wo) (fun _ _=>0)
   case atStart=>exact⟨rfl,hwo.symm⟩
   case round =>
    obtain⟨rfl,rfl⟩:=hrel;go_wp2
    go_end0
    exact⟨rfl,rfl⟩
 go_enter Try.func88,Try.ntmps88
 go_wp2_with (go_at_call 93;refine hst.mono ?_;rintro e w1 ⟨rfl,rfl⟩)
 go_end0
 exact⟨rfl,rfl⟩
end Go.Proofs.Ytbgcjpefocdkkaa
set_option maxRecDepth 100000
namespace Go.Proofs.Ytbgcjpefocdkkaa
open Go.RowKit
def namedL (c:UInt8):List Row:=if c=100 then [([48],[57])] else if c=119 then [([48],[57]),([65],[90]),([95],[95]),([97],[122])] else if c=115 then [([9],[13]),([32],[32])] else []
def namedB (c:UInt8):Bool:=c==100||c==119||c==115
def NamedPost (L:List Row) (b:Bool) (w:World) (e:Ending) (w':World):Prop :=
 ∃a k,e=.returned (.tuple #[.slice a L.length k,.bool b])∧SlS w' (fun x=>w.heap.size≤x) a 2 L.length (rcells L)∧Below w.heap.size w w'∧(b=true→∃x,a=some x)
theorem lit_slS {w:World} {B:Nat} {n sz:Nat} {cs:Array Value} {t:TypeId} (hB:B≤w.heap.size) (hl:cs.toList.length=n*sz) (h:Sl (w.alloc (.cells cs t)) (w.alloc (.cells cs t)).heap.size (some ⟨w.heap.size,0,none⟩) sz n cs.toList) :
  SlS (w.alloc (.cells cs t)) (fun x=>B≤x) (some ⟨w.heap.size,0,none⟩) sz n cs.toList :=
 ⟨hl,fun hn=>by
  obtain⟨b,o,h1,h2,h3⟩:=h.2 hn;injection h1 with h1
  injection h1 with h1 h4
  subst h1 h4;exact⟨_,_,rfl,hB,h2,h3⟩⟩
set_option maxHeartbeats 400000 in
theorem Named_any (c:UInt8) (w:World):Calls Try.prog 83 #[.int .u8 c.toNat] w fun e w'=>NamedPost (namedL c) (namedB c) w e w':=by
 have hb:=(Below.refl w.heap.size w).alloc (Nat.le_refl _) (.cells #[.string ⟨(([48]:Str)).toArray⟩,.string ⟨(([57]:Str)).toArray⟩] 92);by_cases h1:c=100
 ·subst h1
  show Calls Try.prog 83 #[.int .u8 (100:Nat)] w fun e w'=>NamedPost [([48],[57])] true w e w'
  go_enter Try.func83,Try.ntmps83
  go_wp2
  go_ret2
  refine⟨_,_,rfl,?_,hb.alloc (by simp) _,fun _=>⟨_,rfl⟩⟩;have hs:=lit_slS (B:=w.heap.size) (w:=w.alloc (.cells #[.string ⟨(([48]:Str)).toArray⟩,.string ⟨(([57]:Str)).toArray⟩] 92)) (t:=92) (cs:=#[.string ⟨(([48]:Str)).toArray⟩,.string ⟨(([57]:Str)).toArray⟩]) (n:=1) (sz:=2) (by simp) rfl (Sl.lit (heap_alloc_new _ _) rfl);rw [World.size_alloc] at hs;exact hs
 by_cases h2:c=119
 ·subst h2
  show Calls Try.prog 83 #[.int .u8 (119:Nat)] w fun e w'=>NamedPost [([48],[57]),([65],[90]),([95],[95]),([97],[122])] true w e w'
  go_enter Try.func83,Try.ntmps83
  go_wp2
  go_ret2
  refine⟨_,_,rfl,?_,hb.alloc (by simp) _,fun _=>⟨_,rfl⟩⟩;have hs:=lit_slS (B:=w.heap.size) (w:=w.alloc (.cells #[.string ⟨(([48]:Str)).toArray⟩,.string ⟨(([57]:Str)).toArray⟩] 92)) (t:=92) (cs:=#[.string ⟨(([48]:Str)).toArray⟩,.string ⟨(([57]:Str)).toArray⟩,.string ⟨(([65]:Str)).toArray⟩,.string ⟨(([90]:Str)).toArray⟩,.string ⟨(([95]:Str)).toArray⟩,.string ⟨(([95]:Str)).toArray⟩,.string ⟨(([97]:Str)).toArray⟩,.string ⟨(([122]:Str)).toArray⟩]) (n:=4) (sz:=2) (by simp) rfl (Sl.lit (heap_alloc_new _ _) rfl);rw [World.size_alloc] at hs;exact hs
 by_cases h3:c=115
 ·subst h3
  show Calls Try.prog 83 #[.int .u8 (115:Nat)] w fun e w'=>NamedPost [([9],[13]),([32],[32])] true w e w'
  go_enter Try.func83,Try.ntmps83
  go_wp2
  go_ret2
  refine⟨_,_,rfl,?_,hb.alloc (by simp) _,fun _=>⟨_,rfl⟩⟩;have hs:=lit_slS (B:=w.heap.size) (w:=w.alloc (.cells #[.string ⟨(([48]:Str)).toArray⟩,.string ⟨(([57]:Str)).toArray⟩] 92)) (t:=92) (cs:=#[.string ⟨(([9]:Str)).toArray⟩,.string ⟨(([13]:Str)).toArray⟩,.string ⟨(([32]:Str)).toArray⟩,.string ⟨(([32]:Str)).toArray⟩]) (n:=2) (sz:=2) (by simp) rfl (Sl.lit (heap_alloc_new _ _) rfl);rw [World.size_alloc] at hs;exact hs
 ·have hL:namedL c=[]:=by simp [namedL,h1,h2,h3]
  have hB:namedB c=false:=by simp [namedB,h1,h2,h3]
  have n1:c.toNat≠100:=fun e=>h1 (UInt8.toNat_inj.1 e)
  have n2:c.toNat≠119:=fun e=>h2 (UInt8.toNat_inj.1 e)
  have n3:c.toNat≠115:=fun e=>h3 (UInt8.toNat_inj.1 e)
  rw [hL,hB];clear hL hB h1 h2 h3;go_enter Try.func83,Try.ntmps83
  go_wp2
  go_ret2
  exact⟨none,0,rfl,SlS.none_ _ _ _ _,hb,fun h=>by cases h⟩
end Go.Proofs.Ytbgcjpefocdkkaa
set_option maxRecDepth 100000
namespace Go.Proofs.Ytbgcjpefocdkkaa
open Go.RowKit
def splitF:Nat→Str→List Str
 | 0,_=>[]
 | _,[]=>[]
 | k+1,c::r=>(c::r.takeWhile insideB)::splitF k (r.dropWhile insideB)
def splitM (l:Str):List Str:=splitF l.length l
theorem str_infoW:(Try.prog.info? 9).map (fun i=>(i.zero,i.size,i.bytes))=some (some (.string ⟨#[]⟩),1,16):=by kernel_rfl
theorem scells_snoc (ps:List Str) (p:Str):scells (ps++[p])=scells ps++[.string ⟨(p).toArray⟩]:=by simp [scells]
theorem span_take (l:Str) (i:Nat) (c:UInt8) (r:Str) (h:l.drop i=c::r):spanE l i≤l.length∧i<spanE l i∧(l.take (spanE l i)).drop i=c::r.takeWhile insideB∧l.drop (spanE l i)=r.dropWhile insideB:=by
 have hl:i<l.length:=by
  rcases Nat.lt_or_ge i l.length with h1|h1
  ·exact h1
  ·rw [List.drop_of_length_le h1] at h;cases h
 have h2:l.drop (i+1)=r:=by rw [←List.drop_drop,h];rfl
 have hsp:spanE l i=i+1+(r.takeWhile insideB).length:=by unfold spanE;rw [h2]
 have hr:r.takeWhile insideB++r.dropWhile insideB=r:=List.takeWhile_append_dropWhile;have hle:=congrArg List.length h2;rw [List.length_drop] at hle;have hle2:=congrArg List.length hr;rw [List.length_append] at hle2;refine⟨by omega,by omega,?_,?_⟩
 ·rw [hsp,List.drop_take,h,show i+1+(r.takeWhile insideB).length-i=(r.takeWhile insideB).length+1 by omega,List.take_succ_cons]
  congr 1
  conv=>lhs;rw [←hr]
  rw [List.take_append_of_le_length (by simp),List.take_of_length_le (by simp)]
 ·rw [hsp,←List.drop_drop,h2]
  conv=>lhs;rw [←hr]
  rw [List.drop_append_of_le_length (by simp),List.drop_of_length_le (by simp),List.nil_append]
def SpRel (l:Str) (R:List Str) (w:World) (v q:Value) (wr:World):Prop :=
 ∃(i k:Nat) (ps:List Str),i≤l.length∧l.length-i≤k∧q=.int .i64 i∧Below w.heap.size w wr∧wr.ownsRow w.heap.size 9 1 v ps.length (scells ps)∧ps.length≤i∧Hid (ps++splitF k (l.drop i)=R)
set_option maxHeartbeats 1000000 in
theorem Split_any (l:Str) (w:World) (hs:l.length≤1000000) :
  Calls Try.prog 54 #[.string ⟨(l).toArray⟩] w fun e w'=>∃a c,e=.returned (.slice a (splitM l).length c)∧SlS w' (fun b=>w.heap.size≤b) a 1 (splitM l).length (scells (splitM l))∧Below w.heap.size w w':=by
 obtain⟨R,hR⟩:∃R,splitM l=R:=⟨_,rfl⟩;rw [hR];have HR:=Lib.hid hR;obtain⟨ir,hir⟩:=info_parts str_infoW;clear hR;go_enter Try.func54,Try.ntmps54
 go_wp2
 go_loopw [3,4] (fun v q wr=>SpRel l R w v q wr) (fun _ q _=>l.length-(intOf q).toNat)
 case atStart=>exact⟨0,l.length,[],by omega,by omega,rfl,Below.refl _ _,World.ownsRow_nil _ _ _ _,by simp,HR⟩
 case round =>
  obtain⟨i,k,ps,hi,hk,rfl,hb,hown,hps,HF⟩:=hrel;have hB:=hb.size;clear HR;cases hd:l.drop i with
  | nil =>
   have h2:=drop_nil hd;have HE:Hid (ps=R):=Lib.hid (by rw [←HF.out,hd];cases k<;>simp [splitF]);obtain⟨va,vc,rfl⟩:=own_form hown;have HOWN:=Lib.hid hown;clear hd HF hown;go_wp2
   go_ret
   exact⟨va,vc,by rw [HE.out];rfl,by rw [←HE.out];exact own_slS HOWN.out,hb⟩
  | cons c r =>
   obtain⟨h1,h2,h3,h4⟩:=span_take l i c r hd;obtain⟨k,rfl⟩:∃k',k=k'+1:=⟨k-1,by have:=congrArg List.length hd;simp at this;omega⟩;have hil:i<l.length:=by have:=congrArg List.length hd;simp at this;omega
   have HE:Hid ((ps++[c::r.takeWhile insideB])++splitF k (l.drop (spanE l i))=R):=Lib.hid (by rw [←HF.out,hd,h4];simp [splitF]);generalize hp:c::r.takeWhile insideB=p at *
   obtain⟨e,he⟩:∃e,spanE l i=e:=⟨_,rfl⟩;rw [he] at h1 h2 h3 h4 HE;rw [List.drop_take] at h3;have HEN:=Lib.hid (he▸end_any l i wr (by omega) (by omega):Calls Try.prog 61 #[.string ⟨(l).toArray⟩,.int .i64 i] wr fun x w'=>x=.returned (.int .i64 (e:Int))∧wr=w');have hb1:Below wr.heap.size wr (wr.alloc (.cells #[.string ⟨(p).toArray⟩] 9)):=(Below.refl _ _).alloc (Nat.le_refl _) _;have HO1:=Lib.hid (own_below hown hb1);have HSL:=Lib.hid (Sl.lit (n:=1) (sz:=1) (heap_alloc_new wr (.cells #[.string ⟨(p).toArray⟩] 9)) rfl);have hz1:w.heap.size≤(wr.alloc (.cells #[.string ⟨(p).toArray⟩] 9)).heap.size:=by rw [World.size_alloc];omega
   have hbw1:=hb.alloc hB (.cells #[.string ⟨(p).toArray⟩] 9);clear hd hp h4 he HF hown;go_wp2_with (first|(go_at_call 61;refine HEN.out.mono ?_;rintro x w1 ⟨rfl,rfl⟩)|(at_builtin;refine wpList_appM w.heap.size 9 rfl _ _ 34 rfl Try.underlying34 hir rfl (by decide) rfl HO1.out rfl HSL.out (by simp [Value.oneCell']) (by omega) (by omega) (by decide) hz1 ?_))
   intro v1 w4 ho4 hg4 hb4 hmv;have hb4':=hbw1.trans hb4;have ho5:w4.ownsRow w.heap.size 9 1 v1 (ps++[p]).length (scells (ps++[p])):=by
    rw [scells_snoc,List.length_append];exact ho4
   clear ho4 hg4 hmv;go_wp2
   go_roundw
   case rel=>exact⟨e,k,ps++[p],h1,by omega,rfl,hb4',ho5,by simp;omega,HE⟩
   case measure=>simp [intOf];omega
end Go.Proofs.Ytbgcjpefocdkkaa
namespace Go.Proofs.Ytbgcjpefocdkkaa
open Go.RowKit
def wordB:Str→Bool
 | [b]=>decide (97≤b.toNat∧b.toNat≤122)||decide (65≤b.toNat∧b.toNat≤90)||decide (48≤b.toNat∧b.toNat≤57)||decide (b.toNat=95)
 | _=>false
set_option maxHeartbeats 400000 in
theorem Word_any (c:Str) (w:World) (hs:c.length≤100000000):Calls Try.prog 92 #[.string ⟨(c).toArray⟩] w fun e w'=>e=.returned (.bool (wordB c))∧w=w':=by
 match c,hs with
 | [],_ =>
  go_enter Try.func92,Try.ntmps92
  go_wp2
  go_ret
  exact⟨rfl,rfl⟩
 | b::d::r,hs =>
  go_enter Try.func92,Try.ntmps92
  go_wp2
  go_ret
  exact⟨rfl,rfl⟩
 | [b],_ =>
  go_enter Try.func92,Try.ntmps92
  go_wp2
  all_goals (go_ret;refine⟨ret_bool ?_,rfl⟩;simp only [wordB];rw [Bool.eq_iff_iff];simp only [Bool.or_eq_true,decide_eq_true_eq,beq_iff_eq];first|omega|(simp;omega)|skip)
end Go.Proofs.Ytbgcjpefocdkkaa
set_option maxRecDepth 100000
namespace Go.Proofs.Ytbgcjpefocdkkaa
abbrev Res:=Except Int (Rx × List Str)
def rx0:Rx:=.mk 0 [] false [] 0 0 false []
def rxK (k:Int):Rx:=.mk k [] false [] 0 0 false []
def chrR (c:Str):Rx:=.mk 2 c false [] 0 0 false []
def setR (rows:List Row) (ng:Bool):Rx:=.mk 4 [] ng rows 0 0 false []
def grpR (k:Int) (x:Rx):Rx:=.mk k [] false [] 0 0 false [x]
def repR (lo hi:Int) (lz:Bool) (x:Rx):Rx:=.mk 7 [] false [] lo hi lz [x]
def plainM (c:Str):Option Str :=
 if c=[] then none else if c=[110] then some [10] else if c=[114] then some [13] else if c=[116] then some [9] else if c=[102] then some [12] else if c=[118] then some [11]
 else if c=[95]∨wordB c=false then some c else none
def namedS (c:Str):Option (List Row):=match c with
 | [b]=>if namedB b=true then some (namedL b) else none
 | _=>none
def bigS (c:Str):Option (List Row):=if c=[68] then some (namedL 100) else if c=[87] then some (namedL 119) else if c=[83] then some (namedL 115) else none
def escM:List Str→Res
 | []=>.error 10
 | c::r=>match namedS c with
  | some rows=>.ok (setR rows false,r)
  | none=>match bigS c with
   | some rows=>.ok (setR rows true,r)
   | none=>match plainM c with
    | none=>.error 10
    | some t=>.ok (chrR t,r)
def itemM:List Str→Option (Str × List Row × List Str)
 | []=>none
 | c::r=>if c=[93] then none else if c=[92] then(match r with
   | []=>none
   | c2::r2=>match namedS c2 with
    | some rows=>some ([],rows,r2)
    | none=>match plainM c2 with
     | none=>none
     | some t=>some (t,[],r2)) else some (c,[],r)
def takeM (c:Str):List Str→Option (List Str)
 | []=>none
 | x::r=>if x=c then some r else none
def classL:Nat→List Row→List Str→Option (List Row × List Str)
 | 0,_,_=>none
 | n+1,rows,r=>match takeM [93] r with
  | some r1=>some (rows,r1)
  | none=>match itemM r with
   | none=>none
   | some (c,nm,r1) =>
    if nm≠[] then classL n (rows++nm) r1
    else match takeM [45] r1 with
     | none=>classL n (rows++[(c,c)]) r1
     | some r2=>if takeM [93] r2=none then(match itemM r2 with
       | none=>none
       | some (t,nm2,r3)=>if nm2≠[]∨Op.bytesLess t c=true then none else classL n (rows++[(c,t)]) r3)
      else classL n (rows++[(c,c)]) r1
def classM (r:List Str):Res :=
 let ng:=(takeM [94] r).isSome
 let r0:=(takeM [94] r).getD r
 match classL (r0.length+1) [] r0 with
 | none=>.error 10
 | some (rows,r1)=>.ok (setR (unionM rows) ng,r1)
def digS (c:Str):Option Nat:=match c with
 | [b]=>if 48≤b.toNat∧b.toNat≤57 then some (b.toNat-48) else none
 | _=>none
def numL:Nat→Nat→List Str→Option (Nat × List Str)
 | k,n,[]=>if 0<k∧n≤255 then some (n,[]) else none
 | k,n,c::r=>match digS c with
  | some d=>if k=3 then none else numL (k+1) (10*n+d) r
  | none=>if 0<k∧n≤255 then some (n,c::r) else none
def boundsM (r:List Str):Option (Int × Int × List Str):=match numL 0 0 r with
 | none=>none
 | some (lo,r1)=>match takeM [125] r1 with
  | some r2=>some (lo,lo,r2)
  | none=>match takeM [44] r1 with
   | none=>none
   | some r2=>match takeM [125] r2 with
    | some r3=>some (lo,-1,r3)
    | none=>match numL 0 0 r2 with
     | none=>none
     | some (hi,r3)=>if lo≤hi then(match takeM [125] r3 with
      | some r4=>some (lo,hi,r4)
      | none=>none) else none
def lazyM (x:Rx) (lo hi:Int) (r:List Str):Rx × List Str:=match takeM [63] r with
 | some r1=>(repR lo hi true x,r1)
 | none=>(repR lo hi false x,r)
def quantM (x:Rx):List Str→Res
 | []=>.ok (x,[])
 | c::r=>if c=[42] then .ok (lazyM x 0 (-1) r) else if c=[43] then .ok (lazyM x 1 (-1) r) else if c=[63] then .ok (lazyM x 0 1 r)
  else if c=[123] then(match boundsM r with
   | none=>.error 10
   | some (lo,hi,r1)=>.ok (lazyM x lo hi r1)) else .ok (x,c::r)
def groupK (r:List Str):Option (Int × List Str):=match takeM [63] r with
 | none=>some (5,r)
 | some r1=>match takeM [58] r1 with
  | none=>none
  | some r2=>some (6,r2)
def groupM (pat:List Str→Nat→Res) (r:List Str) (d:Nat):Res :=
 if 16≤d then .error 8 else match groupK r with
 | none=>.error 10
 | some (k,r0)=>match pat r0 (d+1) with
  | .error e=>.error e
  | .ok (x,r1)=>match takeM [41] r1 with
   | none=>.error 10
   | some r2=>.ok (grpR k x,r2)
def noAtom (c:Str):Bool:=decide (c=[42])||decide (c=[43])||decide (c=[63])||decide (c=[41])||decide (c=[123])||decide (c=[124])||decide (c=[94])||decide (c=[36])
def atomM (pat:List Str→Nat→Res):List Str→Nat→Res
 | [],_=>.error 10
 | c::r,d=>if c=[46] then .ok (rxK 3,r) else if c=[40] then groupM pat r d else if c=[91] then classM r else if c=[92] then escM r
  else if noAtom c=true then .error 10 else .ok (chrR c,r)
def edgeM (r:List Str):Option (Rx × List Str):=match r with
 | []=>none
 | c::r1=>if c=[94] then some (rxK 8,r1) else if c=[36] then some (rxK 9,r1) else if c=[92] then(match takeM [98] r1 with
  | some r2=>some (rxK 10,r2)
  | none=>match takeM [66] r1 with
   | some r2=>some (rxK 11,r2)
   | none=>none) else none
def termM (pat:List Str→Nat→Res) (r:List Str) (d:Nat):Res:=match edgeM r with
 | some y=>.ok y
 | none=>match atomM pat r d with
  | .error e=>.error e
  | .ok (x,r1)=>quantM x r1
def patL (trm:List Str→Res):Nat→List Rx→List Rx→List Str→Res
 | 0,_,_,_=>.error 1
 | n+1,alts,terms,r=>match r with
  | []=>.ok (altR (alts++[seqR terms]),[])
  | c::r1=>if c=[41] then .ok (altR (alts++[seqR terms]),c::r1) else if c=[124] then patL trm n (alts++[seqR terms]) [] r1
   else match trm (c::r1) with
    | .error e=>.error e
    | .ok (x,r2)=>patL trm n alts (terms++[x]) r2
def patF:Nat→List Str→Nat→Res
 | 0,_,_=>.error 1
 | n+1,r,d=>patL (fun r=>termM (patF n) r d) (r.length+1) [] [] r
def readC (l:List Str):Except Int Rx:=match patF (l.length+1) l 0 with
 | .error e=>.error e
 | .ok (x,[])=>.ok x
 | .ok (_,_::_)=>.error 10
def readM (s:Str):Except Int Rx :=
 if 256<s.length then .error 4 else match splitM s with
 | []=>readC []
 | c::r=>if properB c=true then readC (c::r) else .error 10
end Go.Proofs.Ytbgcjpefocdkkaa
