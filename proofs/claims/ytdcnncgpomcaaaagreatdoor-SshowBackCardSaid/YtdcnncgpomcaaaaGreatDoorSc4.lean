/- symM: what slices.symMergeCmpFunc computes, told plainly. -/
import Derived.Test.YtdcnncgpomcaaaaGreatDoorSc3
set_option maxRecDepth 100000
set_option maxHeartbeats 4000000
namespace Go.Proofs.YtdcnncgpomcaaaaGreatDoor
theorem tS:∀(k:Nat) (rs:List Row) (m i j:Nat),(rotL k rs m i j).length=rs.length
 | 0,_,_,_,_=>rfl
 | k+1,rs,m,i,j=>by
  simp only [rotL];split
  ·rw [qR]
  ·split
   ·rw [tS k,qR]
   ·rw [tS k,qR]
def sLo (a m b:Nat):Nat:=if (a+b) / 2<m then(a+b) / 2+m-b else a
def sHi (a m b:Nat):Nat:=if (a+b) / 2<m then(a+b) / 2 else m
def symM:Nat→List Row→Nat→Nat→Nat→List Row
 | 0,rs,_,_,_=>rs
 | f+1,rs,a,m,b =>
  if m=a+1 then upSw rs a (bs (fun h=>ltAt rs h a) b m b-1-a)
  else if b=m+1 then dnSw (m-bs (fun h=>!ltAt rs m h) m a m) rs m
  else
   let M:=(a+b) / 2
   let s:=bs (fun c=>!ltAt rs (M+m-1-c) c) b (sLo a m b) (sHi a m b)
   let e:=M+m-s
   let r1:=if s<m∧m<e then rotL (e-s) rs m (m-s) (e-m) else rs
   let r2:=if a<s∧s<M then symM f r1 a s M else r1
   if M<e∧e<b then symM f r2 M e b else r2
theorem rj:∀(f:Nat) (rs:List Row) (a m b:Nat),(symM f rs a m b).length=rs.length
 | 0,_,_,_,_=>rfl
 | f+1,rs,a,m,b=>by
  simp only [symM];have ih:=rj f
  (repeat' split)<;>simp only [ih,tS,upSw_len,CZ]
def symT (f:Nat) (r1:List Row) (a s M e b:Nat):List Row :=
 if M<e∧e<b then symM f (if a<s∧s<M then symM f r1 a s M else r1) M e b else(if a<s∧s<M then symM f r1 a s M else r1)
theorem Cb (f:Nat) (rs:List Row) (a b:Nat):symM (f+1) rs a (a+1) b=upSw rs a (bs (fun h=>ltAt rs h a) b (a+1) b-1-a):=by
 rw [symM];exact Hu rfl
theorem zW {f:Nat} {rs:List Row} {a m:Nat} (h:¬m=a+1):symM (f+1) rs a m (m+1)=dnSw (m-bs (fun h=>!ltAt rs m h) m a m) rs m:=by
 rw [symM];exact(Hx h).trans (Hu rfl)
theorem Cv {f:Nat} {rs:List Row} {a m b:Nat} (h1:¬m=a+1) (h2:¬b=m+1) :
  symM (f+1) rs a m b=symT f (if bs (fun c=>!ltAt rs ((a+b) / 2+m-1-c) c) b (sLo a m b) (sHi a m b)<m∧m<(a+b) / 2+m-bs (fun c=>!ltAt rs ((a+b) / 2+m-1-c) c) b (sLo a m b) (sHi a m b) then
   rotL ((a+b) / 2+m-bs (fun c=>!ltAt rs ((a+b) / 2+m-1-c) c) b (sLo a m b) (sHi a m b)-bs (fun c=>!ltAt rs ((a+b) / 2+m-1-c) c) b (sLo a m b) (sHi a m b)) rs m (m-bs (fun c=>!ltAt rs ((a+b) / 2+m-1-c) c) b (sLo a m b) (sHi a m b)) ((a+b) / 2+m-bs (fun c=>!ltAt rs ((a+b) / 2+m-1-c) c) b (sLo a m b) (sHi a m b)-m) else rs)
   a (bs (fun c=>!ltAt rs ((a+b) / 2+m-1-c) c) b (sLo a m b) (sHi a m b)) ((a+b) / 2) ((a+b) / 2+m-bs (fun c=>!ltAt rs ((a+b) / 2+m-1-c) c) b (sLo a m b) (sHi a m b)) b:=by
 rw [symM];exact(Hx h1).trans (Hx h2)
def stA:Nat→List Row→Nat→Nat→List Row
 | 0,rs,_,_=>rs
 | k+1,rs,a,n=>if a+20≤n then stA k (om a (a+20-(a+1)) (a+1) rs) (a+20) n else om a (n-(a+1)) (a+1) rs
def stB:Nat→List Row→Nat→Nat→Nat→List Row
 | 0,rs,_,_,_=>rs
 | k+1,rs,a,s,n=>if a+2*s≤n then stB k (symM (2*s) rs a (a+s) (a+2*s)) (a+2*s) s n else if a+s<n then symM (n-a) rs a (a+s) n else rs
def stC:Nat→List Row→Nat→Nat→List Row
 | 0,rs,_,_=>rs
 | k+1,rs,s,n=>if s<n then stC k (stB (n+1) rs 0 s n) (2*s) n else rs
def stL (rs:List Row):List Row:=stC (rs.length+1) (stA (rs.length+1) rs 0 rs.length) 20 rs.length
theorem Bx:∀(k:Nat) (rs:List Row) (a n:Nat),(stA k rs a n).length=rs.length
 | 0,_,_,_=>rfl
 | k+1,rs,a,n=>by
  simp only [stA];split
  ·rw [Bx k,qY]
  ·rw [qY]
theorem A7:∀(k:Nat) (rs:List Row) (a s n:Nat),(stB k rs a s n).length=rs.length
 | 0,_,_,_,_=>rfl
 | k+1,rs,a,s,n=>by
  simp only [stB];split
  ·rw [A7 k,rj]
  ·split
   ·rw [rj]
   ·rfl
theorem EY:∀(k:Nat) (rs:List Row) (s n:Nat),(stC k rs s n).length=rs.length
 | 0,_,_,_=>rfl
 | k+1,rs,s,n=>by
  simp only [stC];split
  ·rw [EY k,A7]
  ·rfl
theorem xf (A:List Row):A=[]∨∃B y,A=B++[y]:=by
 rcases List.eq_nil_or_concat A with h|⟨B,y,h⟩
 ·exact .inl h
 ·exact .inr ⟨B,y,by simpa using h⟩
def mxS (a b:Str):Str:=if Op.bytesLess a b=true then b else a
def mrgS (out:List Row) (r:Row):List Row:=match out.getLast? with
 | none=>[r]
 | some q=>if leS r.1 q.2=true then out.dropLast++[(q.1,mxS q.2 r.2)] else out++[r]
def mrgL (ss:List Row):List Row:=ss.foldl mrgS []
def filR (rs:List Row):List Row:=rs.filter rowB
def mJ (rs:List Row):List Row:=mrgL (stL (filR rs))
theorem tQ (r:Row):mrgS [] r=[r]:=rfl
theorem yp {B:List Row} {q r:Row} (h:leS r.1 q.2=true):mrgS (B++[q]) r=B++[(q.1,mxS q.2 r.2)]:=by
 unfold mrgS;rw [List.getLast?_concat];simp [h]
theorem uq {B:List Row} {q r:Row} (h:leS r.1 q.2=false):mrgS (B++[q]) r=B++[q]++[r]:=by
 unfold mrgS;rw [List.getLast?_concat];simp [h]
theorem F1 {ss:List Row} {i:Nat} {r:Row} (h:ss[i]?=some r):mrgL (ss.take (i+1))=mrgS (mrgL (ss.take i)) r:=by
 unfold mrgL;rw [List.take_add_one,h,List.foldl_append];rfl
theorem mrgS_len (out:List Row) (r:Row):(mrgS out r).length≤out.length+1:=by
 unfold mrgS;split
 ·simp
 ·rename_i q hq
  have:out≠[]:=by rintro rfl;simp at hq
  have:=List.length_pos_iff.2 this
  split<;>simp<;>omega
theorem De (ss:List Row):(mrgL ss).length≤ss.length:=by
 have key:∀(l out:List Row),(l.foldl mrgS out).length≤out.length+l.length:=by
  intro l;induction l with
  | nil=>intro out;simp
  | cons r l ih=>intro out;have h1:=ih (mrgS out r);have h2:=mrgS_len out r;simp only [Iv,H7];omega
 simpa [mrgL] using key ss []
theorem Ge {rs:List Row} {i:Nat} {r:Row} (h:rs[i]?=some r):filR (rs.take (i+1))=filR (rs.take i)++(if rowB r=true then [r] else []):=by
 unfold filR;rw [List.take_add_one,h,List.filter_append];cases hr:rowB r<;>simp [hr]
theorem yd (rs:List Row):(filR rs).length≤rs.length:=List.length_filter_le _ _
theorem ET (rs:List Row):(stL rs).length=rs.length:=by unfold stL;rw [EY,Bx]
open Go.RowKit
theorem pN (l:List Row) (r:Row):kR (l++[r])=kR l++[.string ⟨(r.1).toArray⟩,.string ⟨(r.2).toArray⟩]:=by simp [kR]
def U1Rel (rs:List Row) (w:World) (v q:Value) (wr:World):Prop :=
 ∃i:Nat,i≤rs.length∧q=.int .i64 i∧Below w.heap.size w wr∧wr.ownsRow w.heap.size 93 2 v (filR (rs.take i)).length (kR (filR (rs.take i)))
def U2Rel (ss:List Row) (a:Option Addr) (w:World) (v q:Value) (wr:World):Prop :=
 ∃i:Nat,i≤ss.length∧q=.int .i64 i∧Below w.heap.size w wr∧wr.ownsRow w.heap.size 93 2 v (mrgL (ss.take i)).length (kR (mrgL (ss.take i)))∧SlS wr (fun b=>v.ownBlock≠some b) a 2 ss.length (kR ss)
theorem F5 {P:Program} (w:World) (ts:Array TypeId) (t:TypeId) (x y:Str):(Builtin.max_ ts t #[.string ⟨x.toArray⟩,.string ⟨y.toArray⟩]).run P w=.ok (.string ⟨(mxS x y).toArray⟩) w:=by
 unfold mxS;cases h:Op.bytesLess x y<;>simp [Builtin.max_,Builtin.max2,Op.stringOp,asBool,h]
theorem Fk {w w':World} {v v':Value} {a:Option Addr} {sz n:Nat} {cs:List Value} (h:SlS w (fun b=>v.ownBlock≠some b) a sz n cs) (hg:w.grownBy w' v.ownBlock) (hm:vW w v v') :
  SlS w' (fun b=>v'.ownBlock≠some b) a sz n cs:=by
 have h1:SlS w (fun b=>v.ownBlock≠some b∧b<w.heap.size) a sz n cs:=h.mono fun b h1 h2=>⟨h1,h2⟩
 have h2:=h1.keep (w':=w') ⟨hg.size,fun b hb hlt=>hg.block b hlt (by first|exact hb.1|exact fun e=>hb.1 e.symm)⟩;refine h2.mono fun b hb _=>?_
 rcases hm with e|e
 ·rw [e];exact hb.1
 ·intro h3;have:=e b h3;omega
theorem Gs {w:World} {B g cap:Nat} {L:List Row} {q:Row} {n:Nat} (h:w.ownsRow B 93 2 (.slice (some ⟨g,0,none⟩) n cap) n (kR (L++[q]))) (t:Str) :
  (w.setCell ⟨g,L.length*2+1,none⟩ (.string ⟨t.toArray⟩)).ownsRow B 93 2 (.slice (some ⟨g,0,none⟩) n cap) n (kR (L++[(q.1,t)])):=by
 have h1:=(h.stored (L.length*2+1) (.string ⟨t.toArray⟩)).1;have e:(kR (L++[q])).set (L.length*2+1) (.string ⟨t.toArray⟩)=kR (L++[(q.1,t)]):=by
  rw [pN,pN,List.set_append_right _ _ (by rw [nD];omega),nD,show L.length*2+1-L.length*2=1 by omega];rfl
 rw [e] at h1;exact h1
theorem own_at {w:World} {B g cap:Nat} {L:List Row} {q:Row} {n:Nat} (h:w.ownsRow B 93 2 (.slice (some ⟨g,0,none⟩) n cap) n (kR (L++[q]))) :
  w.cell? ⟨g,L.length*2,none⟩=some (.string ⟨(q.1).toArray⟩)∧w.cell? ⟨g,L.length*2+1,none⟩=some (.string ⟨(q.2).toArray⟩)∧∀j,w.frozen? ⟨g,j,none⟩=false:=by
 obtain⟨c1,c2⟩:=u9 (rs:=L++[q]) (k:=L.length) (r:=q) gz;have hl:L.length+1=n:=by have:=h.1;rw [nD,Ig,List.length_singleton] at this;omega
 exact⟨by rw [h.cellAt _ gj];exact c1,by rw [h.cellAt _ gj];exact c2,fun j=>h.frozenAt j⟩
open Go.RowKit
theorem yB (f:Value) (w:World):Calls Tryz.prog 150 #[.slice none 0 0,.int .i64 0,.int .i64 0,f] w fun e w'=>e=.returned (.tuple #[])∧w'=w:=by
 go_enter Tryz.func150,Tryz.ntmps150
 go_wp2
 go_loopw [8] (fun q wr=>q=.int .i64 1∧wr=w) (fun _ _=>0)
 case atStart=>exact⟨rfl,rfl⟩
 case round =>
  obtain⟨rfl,rfl⟩:=hrel;go_wp2
  go_end0
  exact⟨rfl,rfl⟩
theorem vU (w:World) :
  Calls Tryz.prog 143 #[.slice none 0 0,.func (.func 144) #[] #[]] w fun e w'=>e=.returned (.tuple #[])∧w'=w:=by
 have hst:Calls Tryz.prog 148 #[.slice none 0 0,.int .i64 0,.func (.func 144) #[] #[]] w fun e w'=>e=.returned (.tuple #[])∧w'=w:=by
  go_enter Tryz.func148,Tryz.ntmps148
  go_wp2
  go_loopw [7,8] (fun p q wr=>p=.int .i64 0∧q=.int .i64 20∧wr=w) (fun _ _ _=>0)
  case atStart=>exact⟨rfl,rfl,rfl⟩
  case round =>
   obtain⟨rfl,rfl,rfl⟩:=hrel;go_wp2_with (go_at_call 150;refine(yB _ _).mono ?_)
   rintro e w1 ⟨rfl,hw1⟩;subst hw1;obtain⟨wo,hwo⟩:∃wo:World,wo=w1:=⟨_,rfl⟩;rw [←hwo];go_wp2
   go_loopw [6] (fun q wr=>q=.int .i64 20∧wr=wo) (fun _ _=>0)
   case atStart=>exact⟨rfl,hwo.symm⟩
   case round =>
    obtain⟨rfl,rfl⟩:=hrel;go_wp2
    go_end0
    exact⟨rfl,rfl⟩
 go_enter Tryz.func143,Tryz.ntmps143
 go_wp2_with (go_at_call 148;refine hst.mono ?_;rintro e w1 ⟨rfl,rfl⟩)
 go_end0
 exact⟨rfl,rfl⟩
open Go.RowKit
def lQ (c:UInt8):List Row:=if c=100 then [([48],[57])] else if c=119 then [([48],[57]),([65],[90]),([95],[95]),([97],[122])] else if c=115 then [([9],[13]),([32],[32])] else []
def nI (c:UInt8):Bool:=c==100||c==119||c==115
def sy (L:List Row) (b:Bool) (w:World) (e:Ending) (w':World):Prop :=
 ∃a k,e=.returned (.tuple #[.slice a L.length k,.bool b])∧SlS w' (fun x=>w.heap.size≤x) a 2 L.length (kR L)∧Below w.heap.size w w'∧(b=true→∃x,a=some x)
theorem BG {w:World} {B:Nat} {n sz:Nat} {cs:Array Value} {t:TypeId} (hB:B≤w.heap.size) (hl:cs.toList.length=n*sz) (h:Sl (w.alloc (.cells cs t)) (w.alloc (.cells cs t)).heap.size (some ⟨w.heap.size,0,none⟩) sz n cs.toList) :
  SlS (w.alloc (.cells cs t)) (fun x=>B≤x) (some ⟨w.heap.size,0,none⟩) sz n cs.toList :=
 ⟨hl,fun hn=>by
  obtain⟨b,o,h1,h2,h3⟩:=h.2 hn;injection h1 with h1
  injection h1 with h1 h4
  subst h1 h4;exact⟨_,_,rfl,hB,h2,h3⟩⟩
theorem AI (c:UInt8) (w:World):Calls Tryz.prog 140 #[.int .u8 c.toNat] w fun e w'=>sy (lQ c) (nI c) w e w':=by
 have hb:=(Below.refl w.heap.size w).alloc (Ia _) (.cells #[.string ⟨(([48]:Str)).toArray⟩,.string ⟨(([57]:Str)).toArray⟩] 93);by_cases h1:c=100
 ·subst h1
  show Calls Tryz.prog 140 #[.int .u8 (100:Nat)] w fun e w'=>sy [([48],[57])] true w e w'
  go_enter Tryz.func140,Tryz.ntmps140
  go_wp2
  go_ret2
  refine⟨_,_,rfl,?_,hb.alloc gz _,fun _=>⟨_,rfl⟩⟩;have hs:=BG (B:=w.heap.size) (w:=w.alloc (.cells #[.string ⟨(([48]:Str)).toArray⟩,.string ⟨(([57]:Str)).toArray⟩] 93)) (t:=93) (cs:=#[.string ⟨(([48]:Str)).toArray⟩,.string ⟨(([57]:Str)).toArray⟩]) (n:=1) (sz:=2) gz rfl (Sl.lit (heap_alloc_new _ _) rfl);rw [It] at hs;exact hs
 by_cases h2:c=119
 ·subst h2
  show Calls Tryz.prog 140 #[.int .u8 (119:Nat)] w fun e w'=>sy [([48],[57]),([65],[90]),([95],[95]),([97],[122])] true w e w'
  go_enter Tryz.func140,Tryz.ntmps140
  go_wp2
  go_ret2
  refine⟨_,_,rfl,?_,hb.alloc gz _,fun _=>⟨_,rfl⟩⟩;have hs:=BG (B:=w.heap.size) (w:=w.alloc (.cells #[.string ⟨(([48]:Str)).toArray⟩,.string ⟨(([57]:Str)).toArray⟩] 93)) (t:=93) (cs:=#[.string ⟨(([48]:Str)).toArray⟩,.string ⟨(([57]:Str)).toArray⟩,.string ⟨(([65]:Str)).toArray⟩,.string ⟨(([90]:Str)).toArray⟩,.string ⟨(([95]:Str)).toArray⟩,.string ⟨(([95]:Str)).toArray⟩,.string ⟨(([97]:Str)).toArray⟩,.string ⟨(([122]:Str)).toArray⟩]) (n:=4) (sz:=2) gz rfl (Sl.lit (heap_alloc_new _ _) rfl);rw [It] at hs;exact hs
 by_cases h3:c=115
 ·subst h3
  show Calls Tryz.prog 140 #[.int .u8 (115:Nat)] w fun e w'=>sy [([9],[13]),([32],[32])] true w e w'
  go_enter Tryz.func140,Tryz.ntmps140
  go_wp2
  go_ret2
  refine⟨_,_,rfl,?_,hb.alloc gz _,fun _=>⟨_,rfl⟩⟩;have hs:=BG (B:=w.heap.size) (w:=w.alloc (.cells #[.string ⟨(([48]:Str)).toArray⟩,.string ⟨(([57]:Str)).toArray⟩] 93)) (t:=93) (cs:=#[.string ⟨(([9]:Str)).toArray⟩,.string ⟨(([13]:Str)).toArray⟩,.string ⟨(([32]:Str)).toArray⟩,.string ⟨(([32]:Str)).toArray⟩]) (n:=2) (sz:=2) gz rfl (Sl.lit (heap_alloc_new _ _) rfl);rw [It] at hs;exact hs
 ·have hL:lQ c=[]:=by simp [lQ,h1,h2,h3]
  have hB:nI c=false:=by simp [nI,h1,h2,h3]
  have n1:c.toNat≠100:=fun e=>h1 (Ht.1 e)
  have n2:c.toNat≠119:=fun e=>h2 (Ht.1 e)
  have n3:c.toNat≠115:=fun e=>h3 (Ht.1 e)
  rw [hL,hB];clear hL hB h1 h2 h3;go_enter Tryz.func140,Tryz.ntmps140
  go_wp2
  go_ret2
  exact⟨none,0,rfl,SlS.none_ _ _ _ _,hb,fun h=>by cases h⟩
open Go.RowKit
def ns:Nat→Str→List Str
 | 0,_=>[]
 | _,[]=>[]
 | k+1,c::r=>(c::r.takeWhile kI)::ns k (r.dropWhile kI)
def kX (l:Str):List Str:=ns l.length l
theorem Gc:(Tryz.prog.info? 9).map (fun i=>(i.zero,i.size,i.bytes))=some (some (.string ⟨#[]⟩),1,16):=by kernel_rfl
theorem rX (ps:List Str) (p:Str):l8 (ps++[p])=l8 ps++[.string ⟨p.toArray⟩]:=by simp [l8]
theorem Fd (l:Str) (i:Nat) (c:UInt8) (r:Str) (h:l.drop i=c::r):s9 l i≤l.length∧i<s9 l i∧(l.take (s9 l i)).drop i=c::r.takeWhile kI∧l.drop (s9 l i)=r.dropWhile kI:=by
 have hl:i<l.length:=by
  exact cL
 have h2:l.drop (i+1)=r:=by rw [←List.drop_drop,h];rfl
 have hsp:s9 l i=i+1+(r.takeWhile kI).length:=by unfold s9;rw [h2]
 have hr:r.takeWhile kI++r.dropWhile kI=r:=Hz;have hle:=Hy List.length h2;rw [Iy] at hle;have hle2:=Hy List.length hr;rw [Ig] at hle2;refine⟨by omega,by omega,?_,?_⟩
 ·rw [hsp,List.drop_take,h,show i+1+(r.takeWhile kI).length-i=(r.takeWhile kI).length+1 by omega,List.take_succ_cons]
  congr 1
  conv=>lhs;rw [←hr]
  rw [List.take_append_of_le_length gz,List.take_of_length_le gz]
 ·rw [hsp,←List.drop_drop,h2]
  conv=>lhs;rw [←hr]
  rw [List.drop_append_of_le_length gz,List.drop_of_length_le gz,Iz]
def SpRel (l:Str) (R:List Str) (w:World) (v q:Value) (wr:World):Prop :=
 ∃(i k:Nat) (ps:List Str),i≤l.length∧l.length-i≤k∧q=.int .i64 i∧Below w.heap.size w wr∧wr.ownsRow w.heap.size 9 1 v ps.length (l8 ps)∧ps.length≤i∧Hid (ps++ns k (l.drop i)=R)
theorem EI (l:Str) (w:World) (hs:l.length≤1000000) :
  Calls Tryz.prog 115 #[.string ⟨l.toArray⟩] w fun e w'=>∃a c,e=.returned (.slice a (kX l).length c)∧SlS w' (fun b=>w.heap.size≤b) a 1 (kX l).length (l8 (kX l))∧Below w.heap.size w w':=by
 obtain⟨R,hR⟩:∃R,kX l=R:=⟨_,rfl⟩;rw [hR];have HR:=ab hR;obtain⟨ir,hir⟩:=info_parts Gc;clear hR;go_enter Tryz.func115,Tryz.ntmps115
 go_wp2
 go_loopw [3,4] (fun v q wr=>SpRel l R w v q wr) (fun _ q _=>l.length-(intOf q).toNat)
 case atStart=>exact⟨0,l.length,[],by omega,by omega,rfl,Below.refl _ _,World.ownsRow_nil _ _ _ _,by simp,HR⟩
 case round =>
  obtain⟨i,k,ps,hi,hk,rfl,hb,hown,hps,HF⟩:=hrel;have hB:=hb.size;clear HR;cases hd:l.drop i with
  | nil =>
   have h2:=lX hd;have HE:Hid (ps=R):=ab (by rw [←HF.out,hd];cases k<;>simp [ns]);obtain⟨va,vc,rfl⟩:=kW hown;have HOWN:=ab hown;clear hd HF hown;go_wp2
   go_ret
   exact⟨va,vc,by rw [HE.out];rfl,by rw [←HE.out];exact yG HOWN.out,hb⟩
  | cons c r =>
   obtain⟨h1,h2,h3,h4⟩:=Fd l i c r hd;obtain⟨k,rfl⟩:∃k',k=k'+1:=⟨k-1,by have:=Hy List.length hd;simp at this;omega⟩;have hil:i<l.length:=by have:=Hy List.length hd;simp at this;omega
   have HE:Hid ((ps++[c::r.takeWhile kI])++ns k (l.drop (s9 l i))=R):=ab (by rw [←HF.out,hd,h4];simp [ns]);generalize hp:c::r.takeWhile kI=p at *
   obtain⟨e,he⟩:∃e,s9 l i=e:=⟨_,rfl⟩;rw [he] at h1 h2 h3 h4 HE;rw [List.drop_take] at h3;have HEN:=ab (he▸GC l i wr gj gj:Calls Tryz.prog 103 #[.string ⟨l.toArray⟩,.int .i64 i] wr fun x w'=>x=.returned (.int .i64 (e:Int))∧wr=w');have hb1:Below wr.heap.size wr (wr.alloc (.cells #[.string ⟨p.toArray⟩] 9)):=(Below.refl _ _).alloc (Ia _) _;have HO1:=ab (kJ hown hb1);have HSL:=ab (Sl.lit (n:=1) (sz:=1) (heap_alloc_new wr (.cells #[.string ⟨p.toArray⟩] 9)) rfl);have hz1:w.heap.size≤(wr.alloc (.cells #[.string ⟨p.toArray⟩] 9)).heap.size:=by rw [It];omega
   have hbw1:=hb.alloc hB (.cells #[.string ⟨p.toArray⟩] 9);clear hd hp h4 he HF hown;go_wp2_with (first|(go_at_call 103;refine HEN.out.mono ?_;rintro x w1 ⟨rfl,rfl⟩)|(at_builtin;refine lg w.heap.size 9 rfl _ _ 42 rfl Tryz.underlying42 hir rfl gv rfl HO1.out rfl HSL.out gP gj gj gv hz1 ?_))
   intro v1 w4 ho4 hg4 hb4 hmv;have hb4':=hbw1.trans hb4;have ho5:w4.ownsRow w.heap.size 9 1 v1 (ps++[p]).length (l8 (ps++[p])):=by
    rw [rX,Ig];exact ho4
   clear ho4 hg4 hmv;go_wp2
   go_roundw
   case rel=>exact⟨e,k,ps++[p],h1,by omega,rfl,hb4',ho5,by simp;omega,HE⟩
   case measure=>simp [intOf];omega
open Go.RowKit
def wb:Str→Bool
 | [b]=>decide (97≤b.toNat∧b.toNat≤122)||decide (65≤b.toNat∧b.toNat≤90)||decide (48≤b.toNat∧b.toNat≤57)||decide (b.toNat=95)
 | _=>false
theorem Word_any (c:Str) (w:World) (hs:c.length≤100000000):Calls Tryz.prog 147 #[.string ⟨c.toArray⟩] w fun e w'=>e=.returned (.bool (wb c))∧w=w':=by
 match c,hs with
 | [],_ =>
  go_enter Tryz.func147,Tryz.ntmps147
  exact dj
 | b::d::r,hs =>
  go_enter Tryz.func147,Tryz.ntmps147
  exact dj
 | [b],_ =>
  go_enter Tryz.func147,Tryz.ntmps147
  go_wp2
  all_goals (go_ret;refine⟨ll ?_,rfl⟩;simp only [wb];rw [Bool.eq_iff_iff];simp only [H8,Hs,Hp];first|omega|(simp;omega)|skip)
abbrev Res:=Except Int (Rx × List Str)
def rx0:Rx:=.mk 0 [] false [] 0 0 false []
def rxK (k:Int):Rx:=.mk k [] false [] 0 0 false []
def chrR (c:Str):Rx:=.mk 2 c false [] 0 0 false []
def setR (rows:List Row) (ng:Bool):Rx:=.mk 4 [] ng rows 0 0 false []
def grpR (k:Int) (x:Rx):Rx:=.mk k [] false [] 0 0 false [x]
def repR (lo hi:Int) (lz:Bool) (x:Rx):Rx:=.mk 7 [] false [] lo hi lz [x]
def mj (c:Str):Option Str :=
 if c=[] then none else if c=[110] then some [10] else if c=[114] then some [13] else if c=[116] then some [9] else if c=[102] then some [12] else if c=[118] then some [11]
 else if c=[95]∨wb c=false then some c else none
def mS (c:Str):Option (List Row):=match c with
 | [b]=>if nI b=true then some (lQ b) else none
 | _=>none
def bigS (c:Str):Option (List Row):=if c=[68] then some (lQ 100) else if c=[87] then some (lQ 119) else if c=[83] then some (lQ 115) else none
def escM:List Str→Res
 | []=>.error 10
 | c::r=>match mS c with
  | some rows=>.ok (setR rows false,r)
  | none=>match bigS c with
   | some rows=>.ok (setR rows true,r)
   | none=>match mj c with
    | none=>.error 10
    | some t=>.ok (chrR t,r)
def nv:List Str→Option (Str × List Row × List Str)
 | []=>none
 | c::r=>if c=[93] then none else if c=[92] then(match r with
   | []=>none
   | c2::r2=>match mS c2 with
    | some rows=>some ([],rows,r2)
    | none=>match mj c2 with
     | none=>none
     | some t=>some (t,[],r2)) else some (c,[],r)
def kN (c:Str):List Str→Option (List Str)
 | []=>none
 | x::r=>if x=c then some r else none
def ly:Nat→List Row→List Str→Option (List Row × List Str)
 | 0,_,_=>none
 | n+1,rows,r=>match kN [93] r with
  | some r1=>some (rows,r1)
  | none=>match nv r with
   | none=>none
   | some (c,nm,r1) =>
    if nm≠[] then ly n (rows++nm) r1
    else match kN [45] r1 with
     | none=>ly n (rows++[(c,c)]) r1
     | some r2=>if kN [93] r2=none then(match nv r2 with
       | none=>none
       | some (t,nm2,r3)=>if nm2≠[]∨Op.bytesLess t c=true then none else ly n (rows++[(c,t)]) r3)
      else ly n (rows++[(c,c)]) r1
def mx (r:List Str):Res :=
 let ng:=(kN [94] r).isSome
 let r0:=(kN [94] r).getD r
 match ly (r0.length+1) [] r0 with
 | none=>.error 10
 | some (rows,r1)=>.ok (setR (mJ rows) ng,r1)
def digS (c:Str):Option Nat:=match c with
 | [b]=>if 48≤b.toNat∧b.toNat≤57 then some (b.toNat-48) else none
 | _=>none
def numL:Nat→Nat→List Str→Option (Nat × List Str)
 | k,n,[]=>if 0<k∧n≤255 then some (n,[]) else none
 | k,n,c::r=>match digS c with
  | some d=>if k=3 then none else numL (k+1) (10*n+d) r
  | none=>if 0<k∧n≤255 then some (n,c::r) else none
def me (r:List Str):Option (Int × Int × List Str):=match numL 0 0 r with
 | none=>none
 | some (lo,r1)=>match kN [125] r1 with
  | some r2=>some (lo,lo,r2)
  | none=>match kN [44] r1 with
   | none=>none
   | some r2=>match kN [125] r2 with
    | some r3=>some (lo,-1,r3)
    | none=>match numL 0 0 r2 with
     | none=>none
     | some (hi,r3)=>if lo≤hi then(match kN [125] r3 with
      | some r4=>some (lo,hi,r4)
      | none=>none) else none
def qo (x:Rx) (lo hi:Int) (r:List Str):Rx × List Str:=match kN [63] r with
 | some r1=>(repR lo hi true x,r1)
 | none=>(repR lo hi false x,r)
def lJ (x:Rx):List Str→Res
 | []=>.ok (x,[])
 | c::r=>if c=[42] then .ok (qo x 0 (-1) r) else if c=[43] then .ok (qo x 1 (-1) r) else if c=[63] then .ok (qo x 0 1 r)
  else if c=[123] then(match me r with
   | none=>.error 10
   | some (lo,hi,r1)=>.ok (qo x lo hi r1)) else .ok (x,c::r)
def nc (r:List Str):Option (Int × List Str):=match kN [63] r with
 | none=>some (5,r)
 | some r1=>match kN [58] r1 with
  | none=>none
  | some r2=>some (6,r2)
def mw (pat:List Str→Nat→Res) (r:List Str) (d:Nat):Res :=
 if 16≤d then .error 8 else match nc r with
 | none=>.error 10
 | some (k,r0)=>match pat r0 (d+1) with
  | .error e=>.error e
  | .ok (x,r1)=>match kN [41] r1 with
   | none=>.error 10
   | some r2=>.ok (grpR k x,r2)
def ql (c:Str):Bool:=decide (c=[42])||decide (c=[43])||decide (c=[63])||decide (c=[41])||decide (c=[123])||decide (c=[124])||decide (c=[94])||decide (c=[36])
def lS (pat:List Str→Nat→Res):List Str→Nat→Res
 | [],_=>.error 10
 | c::r,d=>if c=[46] then .ok (rxK 3,r) else if c=[40] then mw pat r d else if c=[91] then mx r else if c=[92] then escM r
  else if ql c=true then .error 10 else .ok (chrR c,r)
def mF (r:List Str):Option (Rx × List Str):=match r with
 | []=>none
 | c::r1=>if c=[94] then some (rxK 8,r1) else if c=[36] then some (rxK 9,r1) else if c=[92] then(match kN [98] r1 with
  | some r2=>some (rxK 10,r2)
  | none=>match kN [66] r1 with
   | some r2=>some (rxK 11,r2)
   | none=>none) else none
def lD (pat:List Str→Nat→Res) (r:List Str) (d:Nat):Res:=match mF r with
 | some y=>.ok y
 | none=>match lS pat r d with
  | .error e=>.error e
  | .ok (x,r1)=>lJ x r1
def patL (trm:List Str→Res):Nat→List Rx→List Rx→List Str→Res
 | 0,_,_,_=>.error 1
 | n+1,alts,terms,r=>match r with
  | []=>.ok (altR (alts++[seqR terms]),[])
  | c::r1=>if c=[41] then .ok (altR (alts++[seqR terms]),c::r1) else if c=[124] then patL trm n (alts++[seqR terms]) [] r1
   else match trm (c::r1) with
    | .error e=>.error e
    | .ok (x,r2)=>patL trm n alts (terms++[x]) r2
def patF:Nat→List Str→Nat→Res
 | 0,_,_=>.error 1
 | n+1,r,d=>patL (fun r=>lD (patF n) r d) (r.length+1) [] [] r
def ye (l:List Str):Except Int Rx:=match patF (l.length+1) l 0 with
 | .error e=>.error e
 | .ok (x,[])=>.ok x
 | .ok (_,_::_)=>.error 10
def qy (s:Str):Except Int Rx :=
 if 256<s.length then .error 4 else match kX s with
 | []=>ye []
 | c::r=>if lG c=true then ye (c::r) else .error 10
structure Tf where
 rx:Rx
 fs:List Fm
 fold:Bool
 all:Bool
def tf0:Tf:=⟨rx0,[],false,false⟩
inductive Sn where
 | mk (kind:Int) (text:Str) (n:Int) (has turned:Bool) (form:Tf) (opts:List Str) (kids:List Sn)
namespace Sn
def kind:Sn→Int|mk k _ _ _ _ _ _ _=>k
def text:Sn→Str|mk _ t _ _ _ _ _ _=>t
def n:Sn→Int|mk _ _ n _ _ _ _ _=>n
def has:Sn→Bool|mk _ _ _ h _ _ _ _=>h
def turned:Sn→Bool|mk _ _ _ _ t _ _ _=>t
def form:Sn→Tf|mk _ _ _ _ _ f _ _=>f
def opts:Sn→List Str|mk _ _ _ _ _ _ o _=>o
def kids:Sn→List Sn|mk _ _ _ _ _ _ _ k=>k
mutual
def parts:Sn→Nat
 | mk _ _ _ _ _ _ _ ks=>1+partsL ks
def partsL:List Sn→Nat
 | []=>0
 | x::r=>parts x+partsL r
end
mutual
def deep:Sn→Nat
 | mk _ _ _ h _ _ _ ks=>deepL ks+(if h then 1 else 0)
def deepL:List Sn→Nat
 | []=>0
 | x::r=>max (deep x) (deepL r)
end
theorem parts_pos:∀x:Sn,1≤parts x
 | mk _ _ _ _ _ _ _ ks=>by simp only [parts];omega
theorem parts_mem:∀{ks:List Sn} {x:Sn},x∈ks→parts x≤partsL ks
 | [],_,h=>by simp at h
 | y::r,x,h=>by
  exact ey
theorem len_parts:∀ks:List Sn,ks.length≤partsL ks
 | []=>by simp
 | x::r=>by have:=parts_pos x;have:=len_parts r;simp only [partsL,H7];omega
theorem partsL_app:∀a b:List Sn,partsL (a++b)=partsL a+partsL b
 | [],b=>by simp [partsL]
 | x::a,b=>by simp only [IA,partsL,partsL_app a b];omega
theorem deepL_app:∀a b:List Sn,deepL (a++b)=max (deepL a) (deepL b)
 | [],b=>by simp [deepL]
 | x::a,b=>by simp only [IA,deepL,deepL_app a b];omega
end Sn
def o7 (t:Str):Sn:=.mk 0 t 0 false false tf0 [] []
def mT (n:Nat):Sn:=.mk 1 [] n false false tf0 [] []
def varS (t:Str):Sn:=.mk 3 t 0 false false tf0 [] []
def Sn.give:Sn→List Sn→Sn|.mk k t n _ u f o _,ks=>.mk k t n true u f o ks
def Sn.turn:Sn→Tf→Sn|.mk k t n h _ _ o ks,f=>.mk k t n h true f o ks
def Sn.choose:Sn→List Str→Sn|.mk _ t n h u f _ ks,o=>.mk 2 t n h u f o ks
def mW (c:UInt8):Bool:=decide (97≤c.toNat∧c.toNat≤122)||decide (65≤c.toNat∧c.toNat≤90)||decide (48≤c.toNat∧c.toNat≤57)||decide (c.toNat=95)
def od:Str→Bool
 | []=>false
 | c::r=>decide ((c::r).length≤64)&&(c::r).all mW&&decide (57<c.toNat)
def three:Str:=[36,125,92]
def fiveS:Str:=[36,125,92,44,124]
def nxtM (these:Str):Str→UInt8 × Str
 | []=>(0,[])
 | [c]=>(c,[])
 | c::d::r=>if c.toNat=92∧these.contains d=true then(d,r) else(c,d::r)
theorem nV (these:Str) (c:UInt8) (r:Str):(nxtM these (c::r)).2.length≤r.length:=by
 cases r with
 | nil=>simp [nxtM]
 | cons d r=>simp only [nxtM];split<;>simp
def rxSp:Str→Str→Str × Str
 | [],a=>(a,[])
 | [c],a=>if c.toNat=47 then(a,[c]) else(a++[c],[])
 | c::d::r,a=>if c.toNat=47 then(a,c::d::r) else if c.toNat=92 then rxSp r (if d.toNat=47 then a++[d] else a++[92,d]) else rxSp (d::r) (a++[c])
def tL (fl:Str):Option (Bool × Bool) :=
 if fl=[] then some (false,false) else if fl=[103] then some (true,false) else if fl=[105] then some (false,true) else if fl=[103,105]∨fl=[105,103] then some (true,true) else none
def sZ (x:Rx) (fs:List Fm) (r:Str):Option (Tf × Str):=match r.dropWhile mo with
 | []=>none
 | _::r2=>match tL (r.takeWhile mo) with
  | none=>none
  | some (a,f)=>some (⟨x,fs,f,a⟩,r2)
def nO:Str→Option (Tf × Str)
 | []=>none
 | c::r=>if c.toNat=47 then(match (rxSp r []).2 with
  | []=>none
  | _::r3=>match qy (rxSp r []).1 with
   | .error _=>none
   | .ok x=>match nP r3 [] [] with
    | none=>none
    | some (_,[])=>none
    | some (fs,_::r5)=>sZ x fs r5) else none
def sQ (r:Str):Option (Sn × Str):=if od (r.takeWhile mW)=true then some (varS (r.takeWhile mW),r.dropWhile mW) else none
def ni (r:Str):Option (Sn × Str):=match nG r with
 | some (n,r2)=>some (mT n,r2)
 | none=>sQ r
def optL:Str→List Str→Str→List Str × Str
 | [],o,t=>(o++[t],[])
 | [c],o,t=>if c.toNat=124 then(o++[t],[c]) else if c.toNat=44 then(o++[t]++[[]],[]) else(o++[t++[c]],[])
 | c::d::r,o,t=>if c.toNat=124 then(o++[t],c::d::r) else if c.toNat=44 then optL (d::r) (o++[t]) []
  else if c.toNat=92∧fiveS.contains d=true then optL r o (t++[d]) else optL (d::r) o (t++[c])
def qM (x:Sn) (r:Str):Option (Sn × Str):=match (optL r [] []).2 with
 | c::d::r2=>if c.toNat=124∧d.toNat=125 then some (x.choose (optL r [] []).1,r2) else none
 | _=>none
def lc (ps:Str→List Sn × Str) (x:Sn) (r:Str):Option (Sn × Str):=match r with
 | []=>none
 | c::r1=>if c.toNat=125 then some (x,r1)
  else if c.toNat=58 then(match (ps r1).2 with|[]=>none|_::r2=>some (x.give (ps r1).1,r2))
  else if c.toNat=124∧x.kind=1 then qM x r1
  else match nO (c::r1) with|none=>none|some (f,r2)=>some (x.turn f,r2)
def oq (ps:Str→List Sn × Str) (r:Str):Option (Sn × Str):=match r with
 | []=>none
 | c::r1=>if c.toNat=123 then(match ni r1 with|none=>none|some (x,r2)=>lc ps x r2) else ni (c::r1)
def lw (l:List Sn) (t:Str):List Sn:=if t=[] then l else l++[o7 t]
def dolM (pt:Str→Option (Sn × Str)) (c:UInt8) (r:Str):Option (Sn × Str):=if c.toNat=36 then pt r else none
def qI (pt:Str→Option (Sn × Str)) (inside:Bool):Nat→List Sn→Str→Str→List Sn × Str
 | 0,out,text,r=>(lw out text,r)
 | _+1,out,text,[]=>(lw out text,[])
 | k+1,out,text,c::r=>if inside=true∧c.toNat=125 then(lw out text,c::r)
  else match dolM pt c r with
  | some (x,r2)=>qI pt inside k (lw out text++[x]) [] r2
  | none=>qI pt inside k out (text++[(nxtM three (c::r)).1]) (nxtM three (c::r)).2
def yY:Nat→Str→Option (Sn × Str)
 | 0,_=>none
 | n+1,r=>oq (fun r=>qI (yY n) true (r.length+1) [] [] r) r
def mG (r:Str):List Sn:=(qI (yY (r.length+1)) false (r.length+1) [] [] r).1
def qp (s:Str):Except Int (List Sn):=if 8192<s.length then .error 4 else if 32<Sn.deepL (mG s) then .error 8 else .ok (mG s)
theorem GY {r:Str} {x:Sn} {s:Str} (h:sQ r=some (x,s)):s.length<r.length:=by
 unfold sQ at h;split at h
 ·rename_i hb
  injection h with h;injection h with _ h;subst h
  have h1:=Hy List.length (Hz (p:=mW) (l:=r));rw [Ig] at h1;cases hn:r.takeWhile mW with
  | nil=>rw [hn] at hb;cases hb
  | cons a b=>rw [hn] at h1;simp at h1;omega
 ·cases h
theorem mI {r:Str} {x:Sn} {s:Str} (h:ni r=some (x,s)):s.length<r.length:=by
 unfold ni at h;split at h
 ·rename_i heq
  injection h with h;injection h with _ h;subst h;exact ub heq
 ·exact GY h
theorem tZ:∀(r a:Str),(rxSp r a).2.length≤r.length
 | [],a=>by simp [rxSp]
 | [c],a=>by simp only [rxSp];split<;>simp
 | c::d::r,a=>by
  simp only [rxSp];split
  ·simp
  ·split
   ·have:=tZ r (if d.toNat=47 then a++[d] else a++[92,d]);simp;omega
   ·have:=tZ (d::r) (a++[c]);simp at this ⊢;omega
theorem oS:∀(k:Nat) (r tx:Str) (fs:List Fm) {gs:List Fm} {s:Str},oO k r tx fs=some (gs,s)→s.length≤r.length∧∃c s',s=c::s'∧c.toNat=47
 | 0,_,_,_,_,_,h=>by cases h
 | _+1,[],_,_,_,_,h=>by cases h
 | k+1,c::r,tx,fs,gs,s,h=>by
  simp only [oO] at h;split at h
  ·rename_i hc
   injection h with h;injection h with _ h;subst h;exact⟨Ia _,_,_,rfl,hc⟩
  ·split at h
   ·split at h
    ·rename_i p hp
     obtain⟨f,s'⟩:=p;have h1:=qz hp;obtain⟨h2,h3⟩:=oS k _ _ _ h;exact⟨by simp at *;omega,h3⟩
    ·obtain⟨h2,h3⟩:=oS k _ _ _ h
     exact⟨by simp;omega,h3⟩
   ·split at h
    ·obtain⟨h2,h3⟩:=oS k _ _ _ h
     exact⟨by simp at h2 ⊢;omega,h3⟩
    ·obtain⟨h2,h3⟩:=oS k _ _ _ h
     exact⟨by simp;omega,h3⟩
theorem zk {x:Rx} {fs:List Fm} {r:Str} {f:Tf} {s:Str} (h:sZ x fs r=some (f,s)):s.length<r.length:=by
 unfold sZ at h;have h1:=Hy List.length (Hz (p:=mo) (l:=r));rw [Ig] at h1;split at h
 ·cases h
 ·rename_i heq
  rw [heq] at h1;simp at h1;split at h
  ·cases h
  ·injection h with h;injection h with _ h;subst h;omega
theorem vf {r:Str} {f:Tf} {s:Str} (h:nO r=some (f,s)):s.length<r.length:=by
 cases r with
 | nil=>cases h
 | cons c r =>
  simp only [nO] at h;have h1:=tZ r [];split at h
  ·split at h
   ·cases h
   ·rename_i heq
    rw [heq] at h1;split at h
    ·cases h
    ·split at h
     ·cases h
     ·cases h
     ·rename_i heq2
      have h2:=(oS _ _ _ _ heq2).1;have h3:=zk h;simp at *;omega
  ·cases h
theorem un:∀(r:Str) (o:List Str) (t:Str),(optL r o t).2.length≤r.length
 | [],o,t=>by simp [optL]
 | [c],o,t=>by simp only [optL];split<;>(try split)<;>simp
 | c::d::r,o,t=>by
  simp only [optL];split
  ·simp
  ·split
   ·have:=un (d::r) (o++[t]) [];simp at this ⊢;omega
   ·split
    ·have:=un r o (t++[d]);simp;omega
    ·have:=un (d::r) o (t++[c]);simp at this ⊢;omega
theorem ut {x:Sn} {r:Str} {y:Sn} {s:Str} (h:qM x r=some (y,s)):s.length<r.length:=by
 have h1:=un r [] [];unfold qM at h;split at h
 ·rename_i heq
  rw [heq] at h1;split at h
  ·injection h with h;injection h with _ h;subst h;simp at h1;omega
  ·cases h
 ·cases h
theorem Br {ps:Str→List Sn × Str} {x y:Sn} {r s:Str} (hps:∀t,t.length<r.length→(ps t).2.length≤t.length) (h:lc ps x r=some (y,s)):s.length<r.length:=by
 cases r with
 | nil=>cases h
 | cons c r =>
  simp only [lc] at h;split at h
  ·injection h with h;injection h with _ h;subst h;simp
  ·split at h
   ·have h1:=hps r gz
    split at h
    ·cases h
    ·rename_i heq
     rw [heq] at h1;exact cj
   ·split at h
    ·have:=ut h;simp;omega
    ·split at h
     ·cases h
     ·rename_i heq
      have:=vf heq
      injection h with h;injection h with _ h;subst h;exact this
theorem Ex {ps:Str→List Sn × Str} {y:Sn} {r s:Str} (hps:∀t,t.length<r.length→(ps t).2.length≤t.length) (h:oq ps r=some (y,s)):s.length<r.length:=by
 cases r with
 | nil=>cases h
 | cons c r =>
  simp only [oq] at h;split at h
  ·split at h
   ·cases h
   ·rename_i heq
    have h1:=mI heq;have h2:=Br (fun t ht=>hps t gD) h;simp;omega
  ·exact mI h
theorem sU {pt:Str→Option (Sn × Str)} {ins:Bool}:∀(k:Nat) (out:List Sn) (text r:Str),(∀t x s,t.length<r.length→pt t=some (x,s)→s.length<t.length)→(qI pt ins k out text r).2.length≤r.length
 | 0,out,text,r,_=>Ia _
 | _+1,out,text,[],_=>Ia _
 | k+1,out,text,c::r,hpt=>by
  simp only [qI];split
  ·simp
  ·split
   ·rename_i x r2 heq
    have hl:r2.length<r.length:=by
     unfold dolM at heq;split at heq
     ·exact hpt r x r2 gz heq
     ·cases heq
    have:=sU (ins:=ins) k (lw out text++[x]) [] r2 (fun t x s ht=>hpt t x s gD)
    simp;omega
   ·have hl:=nV three c r
    have:=sU (ins:=ins) k out (text++[(nxtM three (c::r)).1]) (nxtM three (c::r)).2 (fun t x s ht=>hpt t x s gD)
    simp;omega
theorem qw:∀(n:Nat) (r:Str) {x:Sn} {s:Str},yY n r=some (x,s)→s.length<r.length
 | 0,r,x,s,h=>by cases h
 | n+1,r,x,s,h=>Ex (fun t _=>sU _ _ _ _ fun t x s _ ht=>qw n t ht) h
theorem xQ {ps qs:Str→List Sn × Str} (x:Sn) {r:Str} (h:∀t,t.length<r.length→ps t=qs t):lc ps x r=lc qs x r:=by
 cases r with
 | nil=>rfl
 | cons c r=>simp only [lc,h r gz]
theorem tC {ps qs:Str→List Sn × Str} {r:Str} (h:∀t,t.length<r.length→ps t=qs t):oq ps r=oq qs r:=by
 cases r with
 | nil=>rfl
 | cons c r =>
  simp only [oq];split
  ·split
   ·rfl
   ·rename_i heq
    have:=mI heq
    exact xQ _ fun t ht=>h t gD
  ·rfl
theorem og {pt qt:Str→Option (Sn × Str)} {ins:Bool}:∀(k k':Nat) (out:List Sn) (text r:Str),r.length<k→r.length<k'→(∀t,t.length<r.length→pt t=qt t)→(∀t x s,t.length<r.length→pt t=some (x,s)→s.length<t.length) →
  qI pt ins k out text r=qI qt ins k' out text r
 | 0,_,_,_,_,h,_,_,_=>by omega
 | _+1,0,_,_,_,_,h,_,_=>by omega
 | _+1,_+1,out,text,[],_,_,_,_=>rfl
 | k+1,k'+1,out,text,c::r,h,h',heq,hl=>by
  simp only [H7] at h h' heq hl;have e:dolM pt c r=dolM qt c r:=by unfold dolM;rw [heq r gj]
  simp only [qI];rw [←e];split
  ·rfl
  ·split
   ·rename_i x r2 he
    have hr:r2.length<r.length:=by
     unfold dolM at he;split at he
     ·exact hl r x r2 gz he
     ·cases he
    exact dJ
   ·have hr:=nV three c r
    exact dJ
theorem tw:∀(N:Nat) (n n':Nat) (r:Str),r.length≤N→r.length<n→r.length<n'→yY n r=yY n' r
 | N,0,_,_,_,h,_=>by omega
 | N,_+1,0,_,_,_,h=>by omega
 | 0,n+1,n'+1,r,hN,h,h'=>by
  have:r=[]:=Hv gj
  subst this;rfl
 | N+1,n+1,n'+1,r,hN,h,h'=>by
  simp only [yY];refine tC fun t ht=>?_
  exact og _ _ _ _ _ gj gj (fun t2 ht2=>tw N n n' t2 gj gj gj) (fun t2 x s _ h2=>qw n t2 h2)
def lI (r:Str):Option (Sn × Str):=yY (r.length+1) r
def kP (ins:Bool) (out:List Sn) (text r:Str):List Sn × Str:=qI lI ins (r.length+1) out text r
theorem nA {r:Str} {x:Sn} {s:Str} (h:lI r=some (x,s)):s.length<r.length:=qw _ r h
theorem oD (r:Str):lI r=oq (kP true [] []) r:=by
 unfold lI;simp only [yY];refine tC fun t ht=>?_
 exact og _ _ _ _ _ gj gj (fun t2 ht2=>tw r.length _ _ t2 gj gj gj) (fun t2 x s _ h2=>qw _ t2 h2)
theorem lW (ins:Bool) (out:List Sn) (text:Str):kP ins out text []=(lw out text,[]):=rfl
theorem lF (ins:Bool) (out:List Sn) (text:Str) (c:UInt8) (r:Str):kP ins out text (c::r) =
  if ins=true∧c.toNat=125 then(lw out text,c::r)
  else match dolM lI c r with
  | some (x,r2)=>kP ins (lw out text++[x]) [] r2
  | none=>kP ins out (text++[(nxtM three (c::r)).1]) (nxtM three (c::r)).2:=by
 unfold kP;have e:(c::r).length=r.length+1:=rfl;rw [e];simp only [qI];by_cases hc:ins=true∧c.toNat=125
 ·rw [Hu hc,Hu hc]
 ·rw [Hx hc,Hx hc]
  cases he:dolM lI c r with
  | some y =>
   obtain⟨x,r2⟩:=y;simp only
   have hr:r2.length<r.length:=by
    unfold dolM at he;split at he
    ·exact nA he
    ·cases he
   exact en
  | none =>
   simp only
   have hr:=nV three c r;exact en
theorem nW (r:Str):mG r=(kP false [] [] r).1:=by
 unfold mG kP;exact Hy Prod.fst (og _ _ _ _ _ gj gj (fun t ht=>tw r.length _ _ t gj gj gj) (fun t x s _ h=>qw _ t h))
open Go.RowKit
def RdT (T:TypeId) (x:List Value) (w:World) (g:Nat) (r:List Str):Prop :=
 ∃(a:Option Addr) (c:Nat) (l:List Str) (i:Nat),w.heap[g]?=some (.cells (.slice a l.length c::.int .i64 i::x).toArray T (0,0))∧SlS w (fun b=>b<g) a 1 l.length (l8 l)∧l.length≤200000∧i≤l.length ∧
  (∀p∈l,p≠[]∧p.length≤1000000)∧l.drop i=r
def hdS:List Str→Str|[]=>[]|c::_=>c
theorem RdT.cells {T:TypeId} {x:List Value} {w:World} {g:Nat} {r:List Str} (h:RdT T x w g r):∃a c l i,w.cell? ⟨g,0,none⟩=some (.slice a (l:List Str).length c)∧w.cell? ⟨g,1,none⟩=some (.int .i64 (i:Nat)) ∧
  (∀j,j<2+x.length→w.frozen? ⟨g,j,none⟩=false)∧SlS w (fun b=>b<g) a 1 l.length (l8 l)∧l.length≤200000∧i≤l.length∧(∀p∈l,p≠[]∧p.length≤1000000)∧l.drop i=r∧g<w.heap.size:=by
 obtain⟨a,c,l,i,h1,h2,h3,h4,h5,h6⟩:=h;refine⟨a,c,l,i,?_,?_,?_,h2,h3,h4,h5,h6,ky h1⟩
 ·rw [Ic h1];rfl
 ·rw [Ic h1];rfl
 ·intro j hj;unfold World.frozen?;rw [h1];rfl
theorem RdT.cell2 {T:TypeId} {u:Value} {w:World} {g:Nat} {r:List Str} (h:RdT T [u] w g r):w.cell? ⟨g,2,none⟩=some u:=by
 obtain⟨a,c,l,i,h1,_⟩:=h;rw [Ic h1];rfl
theorem RdT.lt {T:TypeId} {x:List Value} {w:World} {g:Nat} {r:List Str} (h:RdT T x w g r):g<w.heap.size:=by
 obtain⟨a,c,l,i,h1,_⟩:=h;exact ky h1
def Still (w w':World):Prop:=w'.heap=w.heap∧w'.os=w.os∧w'.tape=w.tape∧w'.output=w.output
theorem Still.drewN (w:World) (n:Nat):Still w (w.drewN n):=⟨rfl,rfl,rfl,rfl⟩
theorem Still.trans {a b c:World} (h1:Still a b) (h2:Still b c):Still a c:=⟨h2.1.trans h1.1,h2.2.1.trans h1.2.1,h2.2.2.1.trans h1.2.2.1,h2.2.2.2.trans h1.2.2.2⟩
theorem Still.below {w w':World} (h:Still w w') (B:Nat):Below B w w':=⟨h.2.1,h.2.2.1,h.2.2.2,by rw [h.1];exact Ia _,fun _ _=>by rw [h.1]⟩
theorem Still.size {w w':World} (h:Still w w'):w'.heap.size=w.heap.size:=by rw [h.1]
theorem Still.grown {w w':World} (h:Still w w') (g:Option Nat):w.grownBy w' g:=⟨h.2.1,h.2.2.1,h.2.2.2,by rw [h.1];exact Ia _,fun _ _ _=>by rw [h.1]⟩
theorem RdT.later {T:TypeId} {x:List Value} {w w':World} {g:Nat} {r:List Str} (hr:RdT T x w g r) (h:Below w.heap.size w w'):RdT T x w' g r:=by
 obtain⟨a,c,l,i,h1,h2,h3⟩:=hr;exact⟨a,c,l,i,(h.block g (ky h1)).trans h1,h2.keep ⟨h.size,fun b _ hlt=>h.block b hlt⟩,h3⟩
theorem Still.rd {T:TypeId} {x:List Value} {w w':World} (h:Still w w') {g:Nat} {r:List Str} (hr:RdT T x w g r):RdT T x w' g r:=hr.later (h.below _)
abbrev Rd (w:World) (g:Nat) (r:List Str) (d:Nat):Prop:=RdT 164 [.int .i64 d] w g r
theorem wW {α:Type} {l:List α} {i:Nat} (h:l.drop i=[]):l.length≤i:=by simpa using h
theorem RdT.pos {T:TypeId} {x:List Value} {w:World} {g:Nat} {c:Str} {r:List Str} (h:RdT T x w g (c::r)):c≠[]∧c.length≤1000000:=by
 obtain⟨a,k,l,i,_,_,_,_,h5,h6⟩:=h;have:=(kV h6).2.1
 exact h5 c (In this)
theorem lE {T:TypeId} {x:List Value} {g:Nat} {r:List Str} (w:World) (h:RdT T x w g r) :
  Calls Tryz.prog 117 #[.pointer (some ⟨g,0,none⟩)] w fun e w'=>e=.returned (.string ⟨(hdS r).toArray⟩)∧Still w w':=by
 obtain⟨a,c,l,i,c0,c1,hf,hs,hl,hi,hp,hd,hg⟩:=h.cells;clear h hf;cases r with
 | nil =>
  have h2:l.length≤i:=wW hd;show Calls Tryz.prog 117 #[.pointer (some ⟨g,0,none⟩)] w fun e w'=>e=.returned (.string ⟨(([]:Str)).toArray⟩)∧Still w w'
  clear hd hs;go_enter Tryz.func117,Tryz.ntmps117
  go_wp2
  go_quiet (fail)
  go_wp2
  go_ret
  exact⟨rfl,Still.drewN _ _⟩
 | cons p r =>
  obtain⟨h2,hx,_⟩:=kV hd;obtain⟨b,o,rfl,hb,k0⟩:=hs.sl.str hx;show Calls Tryz.prog 117 #[.pointer (some ⟨g,0,none⟩)] w fun e w'=>e=.returned (.string ⟨p.toArray⟩)∧Still w w'
  clear hx hs hd;go_enter Tryz.func117,Tryz.ntmps117
  go_wp2
  go_quiet (fail)
  go_wp2
  obtain⟨w1,hw1⟩:∃w1,w1=w.drewN nq:=⟨_,rfl⟩;have hbq:Below w.heap.size w w1:=by rw [hw1];exact below_drewN (Below.refl _ _) _
  rw [←hw1];have e0:=lp hbq _ _ c0;have e1:=lp hbq _ _ c1;have e2:=lp hbq _ _ k0;have HW:=ab hw1;clear c0 c1 k0 hw1;go_quiet (fail)
  go_wp2
  go_ret
  refine⟨rfl,?_⟩;rw [HW.out];exact(Still.drewN _ _).trans (Still.drewN _ _)
open Go.RowKit
theorem Bj {w:World} {g:Nat} {y z u:Value} {x:List Value} {t:TypeId} (h:w.heap[g]?=some (.cells (y::z::x).toArray t (0,0))):(w.setCell ⟨g,1,none⟩ u).heap[g]?=some (.cells (y::u::x).toArray t (0,0)):=by
 simp [World.setCell,Array.getElem?_modify,h]
theorem RdT.setAt {T:TypeId} {x:List Value} {w:World} {g:Nat} {r r':List Str} {a:Option Addr} {c:Nat} {l:List Str} (h:RdT T x w g r)
  (h0:w.cell? ⟨g,0,none⟩=some (.slice a l.length c)) (h2:SlS w (fun b=>b<g) a 1 l.length (l8 l)) (h3:l.length≤200000) (h5:∀p∈l,p≠[]∧p.length≤1000000) (j:Nat) (hj:j≤l.length) (hd:l.drop j=r') :
  RdT T x (w.setCell ⟨g,1,none⟩ (.int .i64 j)) g r':=by
 obtain⟨a',c',l',i',h1,_⟩:=h;rw [Ic h1] at h0;have e:(Value.slice a' l'.length c')=.slice a l.length c:=by simpa using h0
 rw [e] at h1;exact⟨a,c,l,j,Bj h1,h2.keep (Kept.setLow _ fun b hb=>Nat.ne_of_lt hb),h3,hj,h5,hd⟩
theorem se {l r:List Str} {i:Nat} {c:Str} (h:l.drop i=c::r):i+1≤l.length∧l.drop (i+1)=r:=⟨(kV h).1,(kV h).2.2⟩
theorem RdT.step {T:TypeId} {x:List Value} {w:World} {g:Nat} {c:Str} {r:List Str} (h:RdT T x w g (c::r)):∃i:Nat,i<1000000∧w.cell? ⟨g,1,none⟩=some (.int .i64 i)∧w.frozen? ⟨g,1,none⟩=false∧RdT T x (w.setCell ⟨g,1,none⟩ (.int .i64 ((i:Int)+1))) g r:=by
 obtain⟨a,k,l,i,c0,c1,hf,hs,hl,hi,hp,hd,hg⟩:=h.cells;obtain⟨h1,h2⟩:=se hd;exact⟨i,by omega,c1,hf 1 gj,h.setAt (l:=l) c0 hs hl hp (i+1) h1 h2⟩
theorem RdT.step2 {T:TypeId} {x:List Value} {w:World} {g:Nat} {c c2:Str} {r:List Str} (h:RdT T x w g (c::c2::r)):∃i:Nat,i<1000000∧w.cell? ⟨g,1,none⟩=some (.int .i64 i)∧w.frozen? ⟨g,1,none⟩=false∧RdT T x (w.setCell ⟨g,1,none⟩ (.int .i64 ((i:Int)+2))) g r:=by
 obtain⟨a,k,l,i,c0,c1,hf,hs,hl,hi,hp,hd,hg⟩:=h.cells;obtain⟨h1,h2⟩:=se hd;obtain⟨h3,h4⟩:=se h2;exact⟨i,by omega,c1,hf 1 gj,h.setAt (l:=l) c0 hs hl hp (i+2) h3 h4⟩
theorem BI {w w1 w2:World} {g:Option Nat} (h1:Still w w1) (h2:w1.grownBy w2 g):w.grownBy w2 g:=kw (h1.grown g) h2
theorem take_yes {T:TypeId} {x:List Value} {g:Nat} {r:List Str} (c:Str) (w:World) (h:RdT T x w g (c::r)) :
  Calls Tryz.prog 137 #[.pointer (some ⟨g,0,none⟩),.string ⟨c.toArray⟩] w fun e w'=>e=.returned (.bool true)∧RdT T x w' g r∧w.grownBy w' (some g):=by
 have HS:=ab (lE w h);have HR:=ab h;clear h;go_enter Tryz.func137,Tryz.ntmps137
 exact ct
theorem take_no {T:TypeId} {x:List Value} {g:Nat} {r:List Str} (c:Str) (w:World) (h:RdT T x w g r) (hc:kN c r=none) (hc0:c≠[]) :
  Calls Tryz.prog 137 #[.pointer (some ⟨g,0,none⟩),.string ⟨c.toArray⟩] w fun e w'=>e=.returned (.bool false)∧Still w w':=by
 have HS:=ab (lE w h);obtain⟨u,hu⟩:∃u,hdS r=u:=⟨_,rfl⟩;have hne:u≠c:=by
  rw [←hu];cases r with
  | nil=>exact fun e=>hc0 e.symm
  | cons p r=>intro e;simp only [hdS] at e;rw [kN,Hu e] at hc;cases hc
 have h1:(u==c)=false:=Iu.2 hne;have h2:(u != c)=true:=by simp [bne,h1]
 rw [hu] at HS;clear h hc hc0 hu;go_enter Tryz.func137,Tryz.ntmps137
 go_wp2_with (go_at_call 117;refine HS.out.mono ?_)
 rintro e w1 ⟨rfl,hst⟩;go_wp2
 go_ret
 exact⟨rfl,hst⟩
theorem next_nil {T:TypeId} {x:List Value} {g:Nat} (w:World) (h:RdT T x w g []) :
  Calls Tryz.prog 132 #[.pointer (some ⟨g,0,none⟩)] w fun e w'=>e=.returned (.string ⟨(([]:Str)).toArray⟩)∧Still w w':=by
 have HS:=ab (lE w h);clear h;go_enter Tryz.func132,Tryz.ntmps132
 go_wp2_with (go_at_call 117;refine HS.out.mono ?_)
 rintro e w1 ⟨rfl,hst⟩;unfold hdS;go_wp2
 go_ret
 exact⟨rfl,hst⟩
theorem lu {T:TypeId} {x:List Value} {g:Nat} {c:Str} {r:List Str} (w:World) (h:RdT T x w g (c::r)) :
  Calls Tryz.prog 132 #[.pointer (some ⟨g,0,none⟩)] w fun e w'=>e=.returned (.string ⟨c.toArray⟩)∧RdT T x w' g r∧w.grownBy w' (some g):=by
 have HS:=ab (lE w h);have hc:=h.pos.1;have HR:=ab h;cases c with
 | nil=>exact absurd rfl hc
 | cons b c =>
  clear h hc;go_enter Tryz.func132,Tryz.ntmps132
  exact ct
end Go.Proofs.YtdcnncgpomcaaaaGreatDoor
