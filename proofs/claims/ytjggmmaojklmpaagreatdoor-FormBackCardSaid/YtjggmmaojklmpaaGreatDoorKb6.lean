/- symM: what slices.symMergeCmpFunc computes, told plainly. -/
import Derived.Test.YtjggmmaojklmpaaGreatDoorKb5
set_option maxRecDepth 100000
set_option maxHeartbeats 4000000
namespace Go.Proofs.YtjggmmaojklmpaaGreatDoor
theorem qR:∀(k:Nat) (rs:List Row) (m i j:Nat),(rotL k rs m i j).length=rs.length
 | 0,_,_,_,_=>rfl
 | k+1,rs,m,i,j=>by
  simp only [rotL];split
  ·rw [og]
  ·split
   ·rw [qR k,og]
   ·rw [qR k,og]
def sLo (a m b:Nat):Nat:=if (a+b) / 2<m then(a+b) / 2+m-b else a
def sHi (a m b:Nat):Nat:=if (a+b) / 2<m then(a+b) / 2 else m
def symM:Nat→List Row→Nat→Nat→Nat→List Row
 | 0,rs,_,_,_=>rs
 | f+1,rs,a,m,b =>
  if m=a+1 then upSw rs a (bs (fun h=>ltAt rs h a) b m b-1-a)
  else if b=m+1 then dnSw (m-bs (fun h=>!ltAt rs m h) m a m) rs m
  else
   let M:=(a+b) / 2
   let s:=bs (fun c=>!ltAt rs (M+m-1-c) c) b (sLo a m b) (sHi a m b)
   let e:=M+m-s
   let r1:=if s<m∧m<e then rotL (e-s) rs m (m-s) (e-m) else rs
   let r2:=if a<s∧s<M then symM f r1 a s M else r1
   if M<e∧e<b then symM f r2 M e b else r2
theorem oO:∀(f:Nat) (rs:List Row) (a m b:Nat),(symM f rs a m b).length=rs.length
 | 0,_,_,_,_=>rfl
 | f+1,rs,a,m,b=>by
  simp only [symM];have ih:=oO f
  (repeat' split)<;>simp only [ih,qR,upSw_len,yD]
def symT (f:Nat) (r1:List Row) (a s M e b:Nat):List Row :=
 if M<e∧e<b then symM f (if a<s∧s<M then symM f r1 a s M else r1) M e b else(if a<s∧s<M then symM f r1 a s M else r1)
theorem zp (f:Nat) (rs:List Row) (a b:Nat):symM (f+1) rs a (a+1) b=upSw rs a (bs (fun h=>ltAt rs h a) b (a+1) b-1-a):=by
 rw [symM];exact Dr rfl
theorem vX {f:Nat} {rs:List Row} {a m:Nat} (h:¬m=a+1):symM (f+1) rs a m (m+1)=dnSw (m-bs (fun h=>!ltAt rs m h) m a m) rs m:=by
 rw [symM];exact(Du h).trans (Dr rfl)
theorem zH {f:Nat} {rs:List Row} {a m b:Nat} (h1:¬m=a+1) (h2:¬b=m+1) :
  symM (f+1) rs a m b=symT f (if bs (fun c=>!ltAt rs ((a+b) / 2+m-1-c) c) b (sLo a m b) (sHi a m b)<m∧m<(a+b) / 2+m-bs (fun c=>!ltAt rs ((a+b) / 2+m-1-c) c) b (sLo a m b) (sHi a m b) then
   rotL ((a+b) / 2+m-bs (fun c=>!ltAt rs ((a+b) / 2+m-1-c) c) b (sLo a m b) (sHi a m b)-bs (fun c=>!ltAt rs ((a+b) / 2+m-1-c) c) b (sLo a m b) (sHi a m b)) rs m (m-bs (fun c=>!ltAt rs ((a+b) / 2+m-1-c) c) b (sLo a m b) (sHi a m b)) ((a+b) / 2+m-bs (fun c=>!ltAt rs ((a+b) / 2+m-1-c) c) b (sLo a m b) (sHi a m b)-m) else rs)
   a (bs (fun c=>!ltAt rs ((a+b) / 2+m-1-c) c) b (sLo a m b) (sHi a m b)) ((a+b) / 2) ((a+b) / 2+m-bs (fun c=>!ltAt rs ((a+b) / 2+m-1-c) c) b (sLo a m b) (sHi a m b)) b:=by
 rw [symM];exact(Du h1).trans (Du h2)
def stA:Nat→List Row→Nat→Nat→List Row
 | 0,rs,_,_=>rs
 | k+1,rs,a,n=>if a+20≤n then stA k (my a (a+20-(a+1)) (a+1) rs) (a+20) n else my a (n-(a+1)) (a+1) rs
def stB:Nat→List Row→Nat→Nat→Nat→List Row
 | 0,rs,_,_,_=>rs
 | k+1,rs,a,s,n=>if a+2*s≤n then stB k (symM (2*s) rs a (a+s) (a+2*s)) (a+2*s) s n else if a+s<n then symM (n-a) rs a (a+s) n else rs
def stC:Nat→List Row→Nat→Nat→List Row
 | 0,rs,_,_=>rs
 | k+1,rs,s,n=>if s<n then stC k (stB (n+1) rs 0 s n) (2*s) n else rs
def stL (rs:List Row):List Row:=stC (rs.length+1) (stA (rs.length+1) rs 0 rs.length) 20 rs.length
theorem xD:∀(k:Nat) (rs:List Row) (a n:Nat),(stA k rs a n).length=rs.length
 | 0,_,_,_=>rfl
 | k+1,rs,a,n=>by
  simp only [stA];split
  ·rw [xD k,oP]
  ·rw [oP]
theorem xg:∀(k:Nat) (rs:List Row) (a s n:Nat),(stB k rs a s n).length=rs.length
 | 0,_,_,_,_=>rfl
 | k+1,rs,a,s,n=>by
  simp only [stB];split
  ·rw [xg k,oO]
  ·split
   ·rw [oO]
   ·rfl
theorem BU:∀(k:Nat) (rs:List Row) (s n:Nat),(stC k rs s n).length=rs.length
 | 0,_,_,_=>rfl
 | k+1,rs,s,n=>by
  simp only [stC];split
  ·rw [BU k,xg]
  ·rfl
theorem tH (A:List Row):A=[]∨∃B y,A=B++[y]:=by
 rcases List.eq_nil_or_concat A with h|⟨B,y,h⟩
 ·exact .inl h
 ·exact .inr ⟨B,y,by simpa using h⟩
def mxS (a b:Str):Str:=if Op.bytesLess a b=true then b else a
def mrgS (out:List Row) (r:Row):List Row:=match out.getLast? with
 | none=>[r]
 | some q=>if leS r.1 q.2=true then out.dropLast++[(q.1,mxS q.2 r.2)] else out++[r]
def mrgL (ss:List Row):List Row:=ss.foldl mrgS []
def filR (rs:List Row):List Row:=rs.filter rowB
def lG (rs:List Row):List Row:=mrgL (stL (filR rs))
theorem zj (r:Row):mrgS [] r=[r]:=rfl
theorem CV {B:List Row} {q r:Row} (h:leS r.1 q.2=true):mrgS (B++[q]) r=B++[(q.1,mxS q.2 r.2)]:=by
 unfold mrgS;rw [List.getLast?_concat];simp [h]
theorem xM {B:List Row} {q r:Row} (h:leS r.1 q.2=false):mrgS (B++[q]) r=B++[q]++[r]:=by
 unfold mrgS;rw [List.getLast?_concat];simp [h]
theorem Bc {ss:List Row} {i:Nat} {r:Row} (h:ss[i]?=some r):mrgL (ss.take (i+1))=mrgS (mrgL (ss.take i)) r:=by
 unfold mrgL;rw [List.take_add_one,h,List.foldl_append];rfl
theorem mrgS_len (out:List Row) (r:Row):(mrgS out r).length≤out.length+1:=by
 unfold mrgS;split
 ·simp
 ·rename_i q hq
  have:out≠[]:=by rintro rfl;simp at hq
  have:=List.length_pos_iff.2 this
  split<;>simp<;>omega
theorem zO (ss:List Row):(mrgL ss).length≤ss.length:=by
 have key:∀(l out:List Row),(l.foldl mrgS out).length≤out.length+l.length:=by
  intro l;induction l with
  | nil=>intro out;simp
  | cons r l ih=>intro out;have h1:=ih (mrgS out r);have h2:=mrgS_len out r;simp only [D1,Dx];omega
 simpa [mrgL] using key ss []
theorem Cf {rs:List Row} {i:Nat} {r:Row} (h:rs[i]?=some r):filR (rs.take (i+1))=filR (rs.take i)++(if rowB r=true then [r] else []):=by
 unfold filR;rw [List.take_add_one,h,List.filter_append];cases hr:rowB r<;>simp [hr]
theorem uy (rs:List Row):(filR rs).length≤rs.length:=List.length_filter_le _ _
theorem Bn (rs:List Row):(stL rs).length=rs.length:=by unfold stL;rw [BU,xD]
open Go.RowKit
theorem nR (l:List Row) (r:Row):jN (l++[r])=jN l++[.string ⟨(r.1).toArray⟩,.string ⟨(r.2).toArray⟩]:=by simp [jN]
def U1Rel (rs:List Row) (w:World) (v q:Value) (wr:World):Prop :=
 ∃i:Nat,i≤rs.length∧q=.int .i64 i∧Below w.heap.size w wr∧wr.ownsRow w.heap.size 62 2 v (filR (rs.take i)).length (jN (filR (rs.take i)))
def U2Rel (ss:List Row) (a:Option Addr) (w:World) (v q:Value) (wr:World):Prop :=
 ∃i:Nat,i≤ss.length∧q=.int .i64 i∧Below w.heap.size w wr∧wr.ownsRow w.heap.size 62 2 v (mrgL (ss.take i)).length (jN (mrgL (ss.take i)))∧SlS wr (fun b=>v.ownBlock≠some b) a 2 ss.length (jN ss)
theorem Bu {P:Program} (w:World) (ts:Array TypeId) (t:TypeId) (x y:Str):(Builtin.max_ ts t #[.string ⟨x.toArray⟩,.string ⟨y.toArray⟩]).run P w=.ok (.string ⟨(mxS x y).toArray⟩) w:=by
 unfold mxS;cases h:Op.bytesLess x y<;>simp [Builtin.max_,Builtin.max2,Op.stringOp,asBool,h]
theorem B7 {w w':World} {v v':Value} {a:Option Addr} {sz n:Nat} {cs:List Value} (h:SlS w (fun b=>v.ownBlock≠some b) a sz n cs) (hg:w.grownBy w' v.ownBlock) (hm:uO w v v') :
  SlS w' (fun b=>v'.ownBlock≠some b) a sz n cs:=by
 have h1:SlS w (fun b=>v.ownBlock≠some b∧b<w.heap.size) a sz n cs:=h.mono fun b h1 h2=>⟨h1,h2⟩
 have h2:=h1.keep (w':=w') ⟨hg.size,fun b hb hlt=>hg.block b hlt (by first|exact hb.1|exact fun e=>hb.1 e.symm)⟩;refine h2.mono fun b hb _=>?_
 rcases hm with e|e
 ·rw [e];exact hb.1
 ·intro h3;have:=e b h3;omega
theorem Be {w:World} {B g cap:Nat} {L:List Row} {q:Row} {n:Nat} (h:w.ownsRow B 62 2 (.slice (some ⟨g,0,none⟩) n cap) n (jN (L++[q]))) (t:Str) :
  (w.setCell ⟨g,L.length*2+1,none⟩ (.string ⟨t.toArray⟩)).ownsRow B 62 2 (.slice (some ⟨g,0,none⟩) n cap) n (jN (L++[(q.1,t)])):=by
 have h1:=(h.stored (L.length*2+1) (.string ⟨t.toArray⟩)).1;have e:(jN (L++[q])).set (L.length*2+1) (.string ⟨t.toArray⟩)=jN (L++[(q.1,t)]):=by
  rw [nR,nR,List.set_append_right _ _ (by rw [lZ];omega),lZ,show L.length*2+1-L.length*2=1 by omega];rfl
 rw [e] at h1;exact h1
theorem own_at {w:World} {B g cap:Nat} {L:List Row} {q:Row} {n:Nat} (h:w.ownsRow B 62 2 (.slice (some ⟨g,0,none⟩) n cap) n (jN (L++[q]))) :
  w.cell? ⟨g,L.length*2,none⟩=some (.string ⟨(q.1).toArray⟩)∧w.cell? ⟨g,L.length*2+1,none⟩=some (.string ⟨(q.2).toArray⟩)∧∀j,w.frozen? ⟨g,j,none⟩=false:=by
 obtain⟨c1,c2⟩:=sP (rs:=L++[q]) (k:=L.length) (r:=q) fX;have hl:L.length+1=n:=by have:=h.1;rw [lZ,DE,List.length_singleton] at this;omega
 exact⟨by rw [h.cellAt _ fR];exact c1,by rw [h.cellAt _ fR];exact c2,fun j=>h.frozenAt j⟩
open Go.RowKit
theorem ue (f:Value) (w:World):Calls Tryz.prog 172 #[.slice none 0 0,.int .i64 0,.int .i64 0,f] w fun e w'=>e=.returned (.tuple #[])∧w'=w:=by
 go_enter Tryz.func172,Tryz.ntmps172
 go_wp2
 go_loopw [8] (fun q wr=>q=.int .i64 1∧wr=w) (fun _ _=>0)
 case atStart=>exact⟨rfl,rfl⟩
 case round =>
  exact dU
theorem sS (w:World) :
  Calls Tryz.prog 158 #[.slice none 0 0,.func (.func 159) #[] #[]] w fun e w'=>e=.returned (.tuple #[])∧w'=w:=by
 have hst:Calls Tryz.prog 168 #[.slice none 0 0,.int .i64 0,.func (.func 159) #[] #[]] w fun e w'=>e=.returned (.tuple #[])∧w'=w:=by
  go_enter Tryz.func168,Tryz.ntmps168
  go_wp2
  go_loopw [7,8] (fun p q wr=>p=.int .i64 0∧q=.int .i64 20∧wr=w) (fun _ _ _=>0)
  case atStart=>exact⟨rfl,rfl,rfl⟩
  case round =>
   obtain⟨rfl,rfl,rfl⟩:=hrel;go_wp2_with (go_at_call 172;refine(ue _ _).mono ?_)
   rintro e w1 ⟨rfl,hw1⟩;subst hw1;obtain⟨wo,hwo⟩:∃wo:World,wo=w1:=⟨_,rfl⟩;rw [←hwo];go_wp2
   go_loopw [6] (fun q wr=>q=.int .i64 20∧wr=wo) (fun _ _=>0)
   case atStart=>exact⟨rfl,hwo.symm⟩
   case round =>
    exact dU
 go_enter Tryz.func158,Tryz.ntmps158
 go_wp2_with (go_at_call 168;refine hst.mono ?_;rintro e w1 ⟨rfl,rfl⟩)
 go_end0
 exact⟨rfl,rfl⟩
open Go.RowKit
def kA (c:UInt8):List Row:=if c=100 then [([48],[57])] else if c=119 then [([48],[57]),([65],[90]),([95],[95]),([97],[122])] else if c=115 then [([9],[13]),([32],[32])] else []
def mw (c:UInt8):Bool:=c==100||c==119||c==115
def pJ (L:List Row) (b:Bool) (w:World) (e:Ending) (w':World):Prop :=
 ∃a k,e=.returned (.tuple #[.slice a L.length k,.bool b])∧SlS w' (fun x=>w.heap.size≤x) a 2 L.length (jN L)∧Below w.heap.size w w'∧(b=true→∃x,a=some x)
theorem xV {w:World} {B:Nat} {n sz:Nat} {cs:Array Value} {t:TypeId} (hB:B≤w.heap.size) (hl:cs.toList.length=n*sz) (h:Sl (w.alloc (.cells cs t)) (w.alloc (.cells cs t)).heap.size (some ⟨w.heap.size,0,none⟩) sz n cs.toList) :
  SlS (w.alloc (.cells cs t)) (fun x=>B≤x) (some ⟨w.heap.size,0,none⟩) sz n cs.toList :=
 ⟨hl,fun hn=>by
  obtain⟨b,o,h1,h2,h3⟩:=h.2 hn;injection h1 with h1
  injection h1 with h1 h4
  subst h1 h4;exact⟨_,_,rfl,hB,h2,h3⟩⟩
theorem vH (c:UInt8) (w:World):Calls Tryz.prog 144 #[.int .u8 c.toNat] w fun e w'=>pJ (kA c) (mw c) w e w':=by
 have hb:=(Below.refl w.heap.size w).alloc (Dv _) (.cells #[.string ⟨(([48]:Str)).toArray⟩,.string ⟨(([57]:Str)).toArray⟩] 62);by_cases h1:c=100
 ·subst h1
  show Calls Tryz.prog 144 #[.int .u8 (100:Nat)] w fun e w'=>pJ [([48],[57])] true w e w'
  go_enter Tryz.func144,Tryz.ntmps144
  go_wp2
  go_ret2
  refine⟨_,_,rfl,?_,hb.alloc fX _,fun _=>⟨_,rfl⟩⟩;have hs:=xV (B:=w.heap.size) (w:=w.alloc (.cells #[.string ⟨(([48]:Str)).toArray⟩,.string ⟨(([57]:Str)).toArray⟩] 62)) (t:=62) (cs:=#[.string ⟨(([48]:Str)).toArray⟩,.string ⟨(([57]:Str)).toArray⟩]) (n:=1) (sz:=2) fX rfl (Sl.lit (heap_alloc_new _ _) rfl);rw [D0] at hs;exact hs
 by_cases h2:c=119
 ·subst h2
  show Calls Tryz.prog 144 #[.int .u8 (119:Nat)] w fun e w'=>pJ [([48],[57]),([65],[90]),([95],[95]),([97],[122])] true w e w'
  go_enter Tryz.func144,Tryz.ntmps144
  go_wp2
  go_ret2
  refine⟨_,_,rfl,?_,hb.alloc fX _,fun _=>⟨_,rfl⟩⟩;have hs:=xV (B:=w.heap.size) (w:=w.alloc (.cells #[.string ⟨(([48]:Str)).toArray⟩,.string ⟨(([57]:Str)).toArray⟩] 62)) (t:=62) (cs:=#[.string ⟨(([48]:Str)).toArray⟩,.string ⟨(([57]:Str)).toArray⟩,.string ⟨(([65]:Str)).toArray⟩,.string ⟨(([90]:Str)).toArray⟩,.string ⟨(([95]:Str)).toArray⟩,.string ⟨(([95]:Str)).toArray⟩,.string ⟨(([97]:Str)).toArray⟩,.string ⟨(([122]:Str)).toArray⟩]) (n:=4) (sz:=2) fX rfl (Sl.lit (heap_alloc_new _ _) rfl);rw [D0] at hs;exact hs
 by_cases h3:c=115
 ·subst h3
  show Calls Tryz.prog 144 #[.int .u8 (115:Nat)] w fun e w'=>pJ [([9],[13]),([32],[32])] true w e w'
  go_enter Tryz.func144,Tryz.ntmps144
  go_wp2
  go_ret2
  refine⟨_,_,rfl,?_,hb.alloc fX _,fun _=>⟨_,rfl⟩⟩;have hs:=xV (B:=w.heap.size) (w:=w.alloc (.cells #[.string ⟨(([48]:Str)).toArray⟩,.string ⟨(([57]:Str)).toArray⟩] 62)) (t:=62) (cs:=#[.string ⟨(([9]:Str)).toArray⟩,.string ⟨(([13]:Str)).toArray⟩,.string ⟨(([32]:Str)).toArray⟩,.string ⟨(([32]:Str)).toArray⟩]) (n:=2) (sz:=2) fX rfl (Sl.lit (heap_alloc_new _ _) rfl);rw [D0] at hs;exact hs
 ·have hL:kA c=[]:=by simp [kA,h1,h2,h3]
  have hB:mw c=false:=by simp [mw,h1,h2,h3]
  have n1:c.toNat≠100:=fun e=>h1 (Dq.1 e)
  have n2:c.toNat≠119:=fun e=>h2 (Dq.1 e)
  have n3:c.toNat≠115:=fun e=>h3 (Dq.1 e)
  rw [hL,hB];clear hL hB h1 h2 h3;go_enter Tryz.func144,Tryz.ntmps144
  go_wp2
  go_ret2
  exact⟨none,0,rfl,SlS.none_ _ _ _ _,hb,fun h=>by cases h⟩
open Go.RowKit
def kO:Nat→Str→List Str
 | 0,_=>[]
 | _,[]=>[]
 | k+1,c::r=>(c::r.takeWhile jE)::kO k (r.dropWhile jE)
def jL (l:Str):List Str:=kO l.length l
theorem wl:(Tryz.prog.info? 9).map (fun i=>(i.zero,i.size,i.bytes))=some (some (.string ⟨#[]⟩),1,16):=by kernel_rfl
theorem sM (ps:List Str) (p:Str):kS (ps++[p])=kS ps++[.string ⟨p.toArray⟩]:=by simp [kS]
theorem vT (l:Str) (i:Nat) (c:UInt8) (r:Str) (h:l.drop i=c::r):nF l i≤l.length∧i<nF l i∧(l.take (nF l i)).drop i=c::r.takeWhile jE∧l.drop (nF l i)=r.dropWhile jE:=by
 have hl:i<l.length:=by
  exact cS
 have h2:l.drop (i+1)=r:=by rw [←List.drop_drop,h];rfl
 have hsp:nF l i=i+1+(r.takeWhile jE).length:=by unfold nF;rw [h2]
 have hr:r.takeWhile jE++r.dropWhile jE=r:=DR;have hle:=DQ List.length h2;rw [D3] at hle;have hle2:=DQ List.length hr;rw [DE] at hle2;refine⟨by omega,by omega,?_,?_⟩
 ·rw [hsp,List.drop_take,h,show i+1+(r.takeWhile jE).length-i=(r.takeWhile jE).length+1 by omega,List.take_succ_cons]
  congr 1
  conv=>lhs;rw [←hr]
  rw [List.take_append_of_le_length fX,List.take_of_length_le fX]
 ·rw [hsp,←List.drop_drop,h2]
  conv=>lhs;rw [←hr]
  rw [List.drop_append_of_le_length fX,List.drop_of_length_le fX,D4]
def SpRel (l:Str) (R:List Str) (w:World) (v q:Value) (wr:World):Prop :=
 ∃(i k:Nat) (ps:List Str),i≤l.length∧l.length-i≤k∧q=.int .i64 i∧Below w.heap.size w wr∧wr.ownsRow w.heap.size 9 1 v ps.length (kS ps)∧ps.length≤i∧Hid (ps++kO k (l.drop i)=R)
theorem wv (l:Str) (w:World) (hs:l.length≤1000000) :
  Calls Tryz.prog 50 #[.string ⟨l.toArray⟩] w fun e w'=>∃a c,e=.returned (.slice a (jL l).length c)∧SlS w' (fun b=>w.heap.size≤b) a 1 (jL l).length (kS (jL l))∧Below w.heap.size w w':=by
 obtain⟨R,hR⟩:∃R,jL l=R:=⟨_,rfl⟩;rw [hR];have HR:=ab hR;obtain⟨ir,hir⟩:=info_parts wl;clear hR;go_enter Tryz.func50,Tryz.ntmps50
 go_wp2
 go_loopw [3,4] (fun v q wr=>SpRel l R w v q wr) (fun _ q _=>l.length-(intOf q).toNat)
 case atStart=>exact⟨0,l.length,[],by omega,by omega,rfl,Below.refl _ _,World.ownsRow_nil _ _ _ _,by simp,HR⟩
 case round =>
  obtain⟨i,k,ps,hi,hk,rfl,hb,hown,hps,HF⟩:=hrel;have hB:=hb.size;clear HR;cases hd:l.drop i with
  | nil =>
   have h2:=kN hd;have HE:Hid (ps=R):=ab (by rw [←HF.out,hd];cases k<;>simp [kO]);exact dg
  | cons c r =>
   obtain⟨h1,h2,h3,h4⟩:=vT l i c r hd;obtain⟨k,rfl⟩:∃k',k=k'+1:=⟨k-1,by have:=DQ List.length hd;simp at this;omega⟩;have hil:i<l.length:=by have:=DQ List.length hd;simp at this;omega
   have HE:Hid ((ps++[c::r.takeWhile jE])++kO k (l.drop (nF l i))=R):=ab (by rw [←HF.out,hd,h4];simp [kO]);generalize hp:c::r.takeWhile jE=p at *
   obtain⟨e,he⟩:∃e,nF l i=e:=⟨_,rfl⟩;rw [he] at h1 h2 h3 h4 HE;rw [List.drop_take] at h3;have HEN:=ab (he▸xT l i wr fR fR:Calls Tryz.prog 74 #[.string ⟨l.toArray⟩,.int .i64 i] wr fun x w'=>x=.returned (.int .i64 (e:Int))∧wr=w');have hb1:Below wr.heap.size wr (wr.alloc (.cells #[.string ⟨p.toArray⟩] 9)):=(Below.refl _ _).alloc (Dv _) _;have HO1:=ab (jP hown hb1);have HSL:=ab (Sl.lit (n:=1) (sz:=1) (heap_alloc_new wr (.cells #[.string ⟨p.toArray⟩] 9)) rfl);have hz1:w.heap.size≤(wr.alloc (.cells #[.string ⟨p.toArray⟩] 9)).heap.size:=by rw [D0];omega
   have hbw1:=hb.alloc hB (.cells #[.string ⟨p.toArray⟩] 9);clear hd hp h4 he HF hown;go_wp2_with (first|(go_at_call 74;refine HEN.out.mono ?_;rintro x w1 ⟨rfl,rfl⟩)|(at_builtin;refine kf w.heap.size 9 rfl _ _ 72 rfl Tryz.underlying72 hir rfl fU rfl HO1.out rfl HSL.out gd fR fR fU hz1 ?_))
   intro v1 w4 ho4 hg4 hb4 hmv;have hb4':=hbw1.trans hb4;have ho5:w4.ownsRow w.heap.size 9 1 v1 (ps++[p]).length (kS (ps++[p])):=by
    rw [sM,DE];exact ho4
   clear ho4 hg4 hmv;go_wp2
   go_roundw
   case rel=>exact⟨e,k,ps++[p],h1,by omega,rfl,hb4',ho5,by simp;omega,HE⟩
   case measure=>simp [intOf];omega
open Go.RowKit
def nj:Str→Bool
 | [b]=>decide (97≤b.toNat∧b.toNat≤122)||decide (65≤b.toNat∧b.toNat≤90)||decide (48≤b.toNat∧b.toNat≤57)||decide (b.toNat=95)
 | _=>false
theorem rg (c:Str) (w:World) (hs:c.length≤100000000):Calls Tryz.prog 162 #[.string ⟨c.toArray⟩] w fun e w'=>e=.returned (.bool (nj c))∧w=w':=by
 match c,hs with
 | [],_ =>
  go_enter Tryz.func162,Tryz.ntmps162
  exact cM
 | b::d::r,hs =>
  go_enter Tryz.func162,Tryz.ntmps162
  exact cM
 | [b],_ =>
  go_enter Tryz.func162,Tryz.ntmps162
  go_wp2
  all_goals (go_ret;refine⟨jG ?_,rfl⟩;simp only [nj];rw [Bool.eq_iff_iff];simp only [DC,Dp,Do];first|omega|(simp;omega)|skip)
abbrev Res:=Except Int (Rx × List Str)
def rx0:Rx:=.mk 0 [] false [] 0 0 false []
def rxK (k:Int):Rx:=.mk k [] false [] 0 0 false []
def chrR (c:Str):Rx:=.mk 2 c false [] 0 0 false []
def setR (rows:List Row) (ng:Bool):Rx:=.mk 4 [] ng rows 0 0 false []
def grpR (k:Int) (x:Rx):Rx:=.mk k [] false [] 0 0 false [x]
def repR (lo hi:Int) (lz:Bool) (x:Rx):Rx:=.mk 7 [] false [] lo hi lz [x]
def lr (c:Str):Option Str :=
 if c=[] then none else if c=[110] then some [10] else if c=[114] then some [13] else if c=[116] then some [9] else if c=[102] then some [12] else if c=[118] then some [11]
 else if c=[95]∨nj c=false then some c else none
def l8 (c:Str):Option (List Row):=match c with
 | [b]=>if mw b=true then some (kA b) else none
 | _=>none
def bigS (c:Str):Option (List Row):=if c=[68] then some (kA 100) else if c=[87] then some (kA 119) else if c=[83] then some (kA 115) else none
def escM:List Str→Res
 | []=>.error 10
 | c::r=>match l8 c with
  | some rows=>.ok (setR rows false,r)
  | none=>match bigS c with
   | some rows=>.ok (setR rows true,r)
   | none=>match lr c with
    | none=>.error 10
    | some t=>.ok (chrR t,r)
def mh:List Str→Option (Str × List Row × List Str)
 | []=>none
 | c::r=>if c=[93] then none else if c=[92] then(match r with
   | []=>none
   | c2::r2=>match l8 c2 with
    | some rows=>some ([],rows,r2)
    | none=>match lr c2 with
     | none=>none
     | some t=>some (t,[],r2)) else some (c,[],r)
def jQ (c:Str):List Str→Option (List Str)
 | []=>none
 | x::r=>if x=c then some r else none
def kp:Nat→List Row→List Str→Option (List Row × List Str)
 | 0,_,_=>none
 | n+1,rows,r=>match jQ [93] r with
  | some r1=>some (rows,r1)
  | none=>match mh r with
   | none=>none
   | some (c,nm,r1) =>
    if nm≠[] then kp n (rows++nm) r1
    else match jQ [45] r1 with
     | none=>kp n (rows++[(c,c)]) r1
     | some r2=>if jQ [93] r2=none then(match mh r2 with
       | none=>none
       | some (t,nm2,r3)=>if nm2≠[]∨Op.bytesLess t c=true then none else kp n (rows++[(c,t)]) r3)
      else kp n (rows++[(c,c)]) r1
def lq (r:List Str):Res :=
 let ng:=(jQ [94] r).isSome
 let r0:=(jQ [94] r).getD r
 match kp (r0.length+1) [] r0 with
 | none=>.error 10
 | some (rows,r1)=>.ok (setR (lG rows) ng,r1)
def digS (c:Str):Option Nat:=match c with
 | [b]=>if 48≤b.toNat∧b.toNat≤57 then some (b.toNat-48) else none
 | _=>none
def numL:Nat→Nat→List Str→Option (Nat × List Str)
 | k,n,[]=>if 0<k∧n≤255 then some (n,[]) else none
 | k,n,c::r=>match digS c with
  | some d=>if k=3 then none else numL (k+1) (10*n+d) r
  | none=>if 0<k∧n≤255 then some (n,c::r) else none
def ld (r:List Str):Option (Int × Int × List Str):=match numL 0 0 r with
 | none=>none
 | some (lo,r1)=>match jQ [125] r1 with
  | some r2=>some (lo,lo,r2)
  | none=>match jQ [44] r1 with
   | none=>none
   | some r2=>match jQ [125] r2 with
    | some r3=>some (lo,-1,r3)
    | none=>match numL 0 0 r2 with
     | none=>none
     | some (hi,r3)=>if lo≤hi then(match jQ [125] r3 with
      | some r4=>some (lo,hi,r4)
      | none=>none) else none
def oB (x:Rx) (lo hi:Int) (r:List Str):Rx × List Str:=match jQ [63] r with
 | some r1=>(repR lo hi true x,r1)
 | none=>(repR lo hi false x,r)
def kz (x:Rx):List Str→Res
 | []=>.ok (x,[])
 | c::r=>if c=[42] then .ok (oB x 0 (-1) r) else if c=[43] then .ok (oB x 1 (-1) r) else if c=[63] then .ok (oB x 0 1 r)
  else if c=[123] then(match ld r with
   | none=>.error 10
   | some (lo,hi,r1)=>.ok (oB x lo hi r1)) else .ok (x,c::r)
def lW (r:List Str):Option (Int × List Str):=match jQ [63] r with
 | none=>some (5,r)
 | some r1=>match jQ [58] r1 with
  | none=>none
  | some r2=>some (6,r2)
def lu (pat:List Str→Nat→Res) (r:List Str) (d:Nat):Res :=
 if 16≤d then .error 8 else match lW r with
 | none=>.error 10
 | some (k,r0)=>match pat r0 (d+1) with
  | .error e=>.error e
  | .ok (x,r1)=>match jQ [41] r1 with
   | none=>.error 10
   | some r2=>.ok (grpR k x,r2)
def o6 (c:Str):Bool:=decide (c=[42])||decide (c=[43])||decide (c=[63])||decide (c=[41])||decide (c=[123])||decide (c=[124])||decide (c=[94])||decide (c=[36])
def kI (pat:List Str→Nat→Res):List Str→Nat→Res
 | [],_=>.error 10
 | c::r,d=>if c=[46] then .ok (rxK 3,r) else if c=[40] then lu pat r d else if c=[91] then lq r else if c=[92] then escM r
  else if o6 c=true then .error 10 else .ok (chrR c,r)
def lD (r:List Str):Option (Rx × List Str):=match r with
 | []=>none
 | c::r1=>if c=[94] then some (rxK 8,r1) else if c=[36] then some (rxK 9,r1) else if c=[92] then(match jQ [98] r1 with
  | some r2=>some (rxK 10,r2)
  | none=>match jQ [66] r1 with
   | some r2=>some (rxK 11,r2)
   | none=>none) else none
def ku (pat:List Str→Nat→Res) (r:List Str) (d:Nat):Res:=match lD r with
 | some y=>.ok y
 | none=>match kI pat r d with
  | .error e=>.error e
  | .ok (x,r1)=>kz x r1
def patL (trm:List Str→Res):Nat→List Rx→List Rx→List Str→Res
 | 0,_,_,_=>.error 1
 | n+1,alts,terms,r=>match r with
  | []=>.ok (altR (alts++[seqR terms]),[])
  | c::r1=>if c=[41] then .ok (altR (alts++[seqR terms]),c::r1) else if c=[124] then patL trm n (alts++[seqR terms]) [] r1
   else match trm (c::r1) with
    | .error e=>.error e
    | .ok (x,r2)=>patL trm n alts (terms++[x]) r2
def patF:Nat→List Str→Nat→Res
 | 0,_,_=>.error 1
 | n+1,r,d=>patL (fun r=>ku (patF n) r d) (r.length+1) [] [] r
def uw (l:List Str):Except Int Rx:=match patF (l.length+1) l 0 with
 | .error e=>.error e
 | .ok (x,[])=>.ok x
 | .ok (_,_::_)=>.error 10
def ql (s:Str):Except Int Rx :=
 if 256<s.length then .error 4 else match jL s with
 | []=>uw []
 | c::r=>if kj c=true then uw (c::r) else .error 10
structure Tf where
 rx:Rx
 fs:List Fm
 fold:Bool
 all:Bool
def tf0:Tf:=⟨rx0,[],false,false⟩
inductive Sn where
 | mk (kind:Int) (text:Str) (n:Int) (has turned:Bool) (form:Tf) (opts:List Str) (kids:List Sn)
namespace Sn
def kind:Sn→Int|mk k _ _ _ _ _ _ _=>k
def text:Sn→Str|mk _ t _ _ _ _ _ _=>t
def n:Sn→Int|mk _ _ n _ _ _ _ _=>n
def has:Sn→Bool|mk _ _ _ h _ _ _ _=>h
def turned:Sn→Bool|mk _ _ _ _ t _ _ _=>t
def form:Sn→Tf|mk _ _ _ _ _ f _ _=>f
def opts:Sn→List Str|mk _ _ _ _ _ _ o _=>o
def kids:Sn→List Sn|mk _ _ _ _ _ _ _ k=>k
mutual
def parts:Sn→Nat
 | mk _ _ _ _ _ _ _ ks=>1+partsL ks
def partsL:List Sn→Nat
 | []=>0
 | x::r=>parts x+partsL r
end
mutual
def deep:Sn→Nat
 | mk _ _ _ h _ _ _ ks=>deepL ks+(if h then 1 else 0)
def deepL:List Sn→Nat
 | []=>0
 | x::r=>max (deep x) (deepL r)
end
theorem parts_pos:∀x:Sn,1≤parts x
 | mk _ _ _ _ _ _ _ ks=>by simp only [parts];omega
theorem parts_mem:∀{ks:List Sn} {x:Sn},x∈ks→parts x≤partsL ks
 | [],_,h=>by simp at h
 | y::r,x,h=>by
  exact eB
theorem len_parts:∀ks:List Sn,ks.length≤partsL ks
 | []=>by simp
 | x::r=>by have:=parts_pos x;have:=len_parts r;simp only [partsL,Dx];omega
theorem lA:∀a b:List Sn,partsL (a++b)=partsL a+partsL b
 | [],b=>by simp [partsL]
 | x::a,b=>by simp only [D5,partsL,lA a b];omega
end Sn
def Sn.turn:Sn→Tf→Sn|.mk k t n h _ _ o ks,f=>.mk k t n h true f o ks
def nameC (c:UInt8):Bool:=decide (97≤c.toNat∧c.toNat≤122)||decide (65≤c.toNat∧c.toNat≤90)||decide (48≤c.toNat∧c.toNat≤57)||decide (c.toNat=95)
def nameB:Str→Bool
 | []=>false
 | c::r=>decide ((c::r).length≤64)&&(c::r).all nameC&&decide (57<c.toNat)
def three:Str:=[36,125,92]
def fiveS:Str:=[36,125,92,44,124]
def rxSp:Str→Str→Str × Str
 | [],a=>(a,[])
 | [c],a=>if c.toNat=47 then(a,[c]) else(a++[c],[])
 | c::d::r,a=>if c.toNat=47 then(a,c::d::r) else if c.toNat=92 then rxSp r (if d.toNat=47 then a++[d] else a++[92,d]) else rxSp (d::r) (a++[c])
def qG (fl:Str):Option (Bool × Bool) :=
 if fl=[] then some (false,false) else if fl=[103] then some (true,false) else if fl=[105] then some (false,true) else if fl=[103,105]∨fl=[105,103] then some (true,true) else none
def xo (x:Rx) (fs:List Fm) (r:Str):Option (Tf × Str):=match r.dropWhile lg with
 | []=>none
 | _::r2=>match qG (r.takeWhile lg) with
  | none=>none
  | some (a,f)=>some (⟨x,fs,f,a⟩,r2)
def pS:Str→Option (Tf × Str)
 | []=>none
 | c::r=>if c.toNat=47 then(match (rxSp r []).2 with
  | []=>none
  | _::r3=>match ql (rxSp r []).1 with
   | .error _=>none
   | .ok x=>match mu r3 [] [] with
    | none=>none
    | some (_,[])=>none
    | some (fs,_::r5)=>xo x fs r5) else none
theorem oy:∀(k:Nat) (r tx:Str) (fs:List Fm) {gs:List Fm} {s:Str},rH k r tx fs=some (gs,s)→s.length≤r.length∧∃c s',s=c::s'∧c.toNat=47
 | 0,_,_,_,_,_,h=>by cases h
 | _+1,[],_,_,_,_,h=>by cases h
 | k+1,c::r,tx,fs,gs,s,h=>by
  simp only [rH] at h;split at h
  ·rename_i hc
   injection h with h;injection h with _ h;subst h;exact⟨Dv _,_,_,rfl,hc⟩
  ·split at h
   ·split at h
    ·rename_i p hp
     obtain⟨f,s'⟩:=p;have h1:=sG hp;obtain⟨h2,h3⟩:=oy k _ _ _ h;exact⟨by simp at *;omega,h3⟩
    ·obtain⟨h2,h3⟩:=oy k _ _ _ h
     exact⟨by simp;omega,h3⟩
   ·split at h
    ·obtain⟨h2,h3⟩:=oy k _ _ _ h
     exact⟨by simp at h2 ⊢;omega,h3⟩
    ·obtain⟨h2,h3⟩:=oy k _ _ _ h
     exact⟨by simp;omega,h3⟩
open Go.RowKit
def RdT (T:TypeId) (x:List Value) (w:World) (g:Nat) (r:List Str):Prop :=
 ∃(a:Option Addr) (c:Nat) (l:List Str) (i:Nat),w.heap[g]?=some (.cells (.slice a l.length c::.int .i64 i::x).toArray T (0,0))∧SlS w (fun b=>b<g) a 1 l.length (kS l)∧l.length≤200000∧i≤l.length ∧
  (∀p∈l,p≠[]∧p.length≤1000000)∧l.drop i=r
def hdS:List Str→Str|[]=>[]|c::_=>c
theorem RdT.cells {T:TypeId} {x:List Value} {w:World} {g:Nat} {r:List Str} (h:RdT T x w g r):∃a c l i,w.cell? ⟨g,0,none⟩=some (.slice a (l:List Str).length c)∧w.cell? ⟨g,1,none⟩=some (.int .i64 (i:Nat)) ∧
  (∀j,j<2+x.length→w.frozen? ⟨g,j,none⟩=false)∧SlS w (fun b=>b<g) a 1 l.length (kS l)∧l.length≤200000∧i≤l.length∧(∀p∈l,p≠[]∧p.length≤1000000)∧l.drop i=r∧g<w.heap.size:=by
 obtain⟨a,c,l,i,h1,h2,h3,h4,h5,h6⟩:=h;refine⟨a,c,l,i,?_,?_,?_,h2,h3,h4,h5,h6,jA h1⟩
 ·rw [DB h1];rfl
 ·rw [DB h1];rfl
 ·intro j hj;unfold World.frozen?;rw [h1];rfl
theorem RdT.cell2 {T:TypeId} {u:Value} {w:World} {g:Nat} {r:List Str} (h:RdT T [u] w g r):w.cell? ⟨g,2,none⟩=some u:=by
 obtain⟨a,c,l,i,h1,_⟩:=h;rw [DB h1];rfl
theorem RdT.lt {T:TypeId} {x:List Value} {w:World} {g:Nat} {r:List Str} (h:RdT T x w g r):g<w.heap.size:=by
 obtain⟨a,c,l,i,h1,_⟩:=h;exact jA h1
def Still (w w':World):Prop:=w'.heap=w.heap∧w'.os=w.os∧w'.tape=w.tape∧w'.output=w.output
theorem Still.drewN (w:World) (n:Nat):Still w (w.drewN n):=⟨rfl,rfl,rfl,rfl⟩
theorem Still.trans {a b c:World} (h1:Still a b) (h2:Still b c):Still a c:=⟨h2.1.trans h1.1,h2.2.1.trans h1.2.1,h2.2.2.1.trans h1.2.2.1,h2.2.2.2.trans h1.2.2.2⟩
theorem Still.below {w w':World} (h:Still w w') (B:Nat):Below B w w':=⟨h.2.1,h.2.2.1,h.2.2.2,by rw [h.1];exact Dv _,fun _ _=>by rw [h.1]⟩
theorem Still.size {w w':World} (h:Still w w'):w'.heap.size=w.heap.size:=by rw [h.1]
theorem Still.grown {w w':World} (h:Still w w') (g:Option Nat):w.grownBy w' g:=⟨h.2.1,h.2.2.1,h.2.2.2,by rw [h.1];exact Dv _,fun _ _ _=>by rw [h.1]⟩
theorem RdT.later {T:TypeId} {x:List Value} {w w':World} {g:Nat} {r:List Str} (hr:RdT T x w g r) (h:Below w.heap.size w w'):RdT T x w' g r:=by
 obtain⟨a,c,l,i,h1,h2,h3⟩:=hr;exact⟨a,c,l,i,(h.block g (jA h1)).trans h1,h2.keep ⟨h.size,fun b _ hlt=>h.block b hlt⟩,h3⟩
theorem Still.rd {T:TypeId} {x:List Value} {w w':World} (h:Still w w') {g:Nat} {r:List Str} (hr:RdT T x w g r):RdT T x w' g r:=hr.later (h.below _)
abbrev Rd (w:World) (g:Nat) (r:List Str) (d:Nat):Prop:=RdT 93 [.int .i64 d] w g r
theorem tE {α:Type} {l:List α} {i:Nat} (h:l.drop i=[]):l.length≤i:=by simpa using h
theorem RdT.pos {T:TypeId} {x:List Value} {w:World} {g:Nat} {c:Str} {r:List Str} (h:RdT T x w g (c::r)):c≠[]∧c.length≤1000000:=by
 obtain⟨a,k,l,i,_,_,_,_,h5,h6⟩:=h;have:=(jO h6).2.1
 exact h5 c (DL this)
theorem kq {T:TypeId} {x:List Value} {g:Nat} {r:List Str} (w:World) (h:RdT T x w g r) :
  Calls Tryz.prog 53 #[.pointer (some ⟨g,0,none⟩)] w fun e w'=>e=.returned (.string ⟨(hdS r).toArray⟩)∧Still w w':=by
 obtain⟨a,c,l,i,c0,c1,hf,hs,hl,hi,hp,hd,hg⟩:=h.cells;clear h hf;cases r with
 | nil =>
  have h2:l.length≤i:=tE hd;show Calls Tryz.prog 53 #[.pointer (some ⟨g,0,none⟩)] w fun e w'=>e=.returned (.string ⟨(([]:Str)).toArray⟩)∧Still w w'
  clear hd hs;go_enter Tryz.func53,Tryz.ntmps53
  go_wp2
  go_quiet (fail)
  go_wp2
  go_ret
  exact⟨rfl,Still.drewN _ _⟩
 | cons p r =>
  obtain⟨h2,hx,_⟩:=jO hd;obtain⟨b,o,rfl,hb,k0⟩:=hs.sl.str hx;show Calls Tryz.prog 53 #[.pointer (some ⟨g,0,none⟩)] w fun e w'=>e=.returned (.string ⟨p.toArray⟩)∧Still w w'
  clear hx hs hd;go_enter Tryz.func53,Tryz.ntmps53
  go_wp2
  go_quiet (fail)
  go_wp2
  obtain⟨w1,hw1⟩:∃w1,w1=w.drewN nq:=⟨_,rfl⟩;have hbq:Below w.heap.size w w1:=by rw [hw1];exact below_drewN (Below.refl _ _) _
  rw [←hw1];have e0:=jH hbq _ _ c0;have e1:=jH hbq _ _ c1;have e2:=jH hbq _ _ k0;have HW:=ab hw1;clear c0 c1 k0 hw1;go_quiet (fail)
  go_wp2
  go_ret
  refine⟨rfl,?_⟩;rw [HW.out];exact(Still.drewN _ _).trans (Still.drewN _ _)
open Go.RowKit
theorem wP {w:World} {g:Nat} {y z u:Value} {x:List Value} {t:TypeId} (h:w.heap[g]?=some (.cells (y::z::x).toArray t (0,0))):(w.setCell ⟨g,1,none⟩ u).heap[g]?=some (.cells (y::u::x).toArray t (0,0)):=by
 simp [World.setCell,Array.getElem?_modify,h]
theorem RdT.setAt {T:TypeId} {x:List Value} {w:World} {g:Nat} {r r':List Str} {a:Option Addr} {c:Nat} {l:List Str} (h:RdT T x w g r)
  (h0:w.cell? ⟨g,0,none⟩=some (.slice a l.length c)) (h2:SlS w (fun b=>b<g) a 1 l.length (kS l)) (h3:l.length≤200000) (h5:∀p∈l,p≠[]∧p.length≤1000000) (j:Nat) (hj:j≤l.length) (hd:l.drop j=r') :
  RdT T x (w.setCell ⟨g,1,none⟩ (.int .i64 j)) g r':=by
 obtain⟨a',c',l',i',h1,_⟩:=h;rw [DB h1] at h0;have e:(Value.slice a' l'.length c')=.slice a l.length c:=by simpa using h0
 rw [e] at h1;exact⟨a,c,l,j,wP h1,h2.keep (Kept.setLow _ fun b hb=>Nat.ne_of_lt hb),h3,hj,h5,hd⟩
theorem pI {l r:List Str} {i:Nat} {c:Str} (h:l.drop i=c::r):i+1≤l.length∧l.drop (i+1)=r:=⟨(jO h).1,(jO h).2.2⟩
theorem RdT.step {T:TypeId} {x:List Value} {w:World} {g:Nat} {c:Str} {r:List Str} (h:RdT T x w g (c::r)):∃i:Nat,i<1000000∧w.cell? ⟨g,1,none⟩=some (.int .i64 i)∧w.frozen? ⟨g,1,none⟩=false∧RdT T x (w.setCell ⟨g,1,none⟩ (.int .i64 ((i:Int)+1))) g r:=by
 obtain⟨a,k,l,i,c0,c1,hf,hs,hl,hi,hp,hd,hg⟩:=h.cells;obtain⟨h1,h2⟩:=pI hd;exact⟨i,by omega,c1,hf 1 fR,h.setAt (l:=l) c0 hs hl hp (i+1) h1 h2⟩
theorem RdT.step2 {T:TypeId} {x:List Value} {w:World} {g:Nat} {c c2:Str} {r:List Str} (h:RdT T x w g (c::c2::r)):∃i:Nat,i<1000000∧w.cell? ⟨g,1,none⟩=some (.int .i64 i)∧w.frozen? ⟨g,1,none⟩=false∧RdT T x (w.setCell ⟨g,1,none⟩ (.int .i64 ((i:Int)+2))) g r:=by
 obtain⟨a,k,l,i,c0,c1,hf,hs,hl,hi,hp,hd,hg⟩:=h.cells;obtain⟨h1,h2⟩:=pI hd;obtain⟨h3,h4⟩:=pI h2;exact⟨i,by omega,c1,hf 1 fR,h.setAt (l:=l) c0 hs hl hp (i+2) h3 h4⟩
theorem xp {w w1 w2:World} {g:Option Nat} (h1:Still w w1) (h2:w1.grownBy w2 g):w.grownBy w2 g:=jy (h1.grown g) h2
theorem take_yes {T:TypeId} {x:List Value} {g:Nat} {r:List Str} (c:Str) (w:World) (h:RdT T x w g (c::r)) :
  Calls Tryz.prog 125 #[.pointer (some ⟨g,0,none⟩),.string ⟨c.toArray⟩] w fun e w'=>e=.returned (.bool true)∧RdT T x w' g r∧w.grownBy w' (some g):=by
 have HS:=ab (kq w h);have HR:=ab h;clear h;go_enter Tryz.func125,Tryz.ntmps125
 exact cE
theorem take_no {T:TypeId} {x:List Value} {g:Nat} {r:List Str} (c:Str) (w:World) (h:RdT T x w g r) (hc:jQ c r=none) (hc0:c≠[]) :
  Calls Tryz.prog 125 #[.pointer (some ⟨g,0,none⟩),.string ⟨c.toArray⟩] w fun e w'=>e=.returned (.bool false)∧Still w w':=by
 have HS:=ab (kq w h);obtain⟨u,hu⟩:∃u,hdS r=u:=⟨_,rfl⟩;have hne:u≠c:=by
  rw [←hu];cases r with
  | nil=>exact fun e=>hc0 e.symm
  | cons p r=>intro e;simp only [hdS] at e;rw [jQ,Dr e] at hc;cases hc
 have h1:(u==c)=false:=DV.2 hne;have h2:(u != c)=true:=by simp [bne,h1]
 rw [hu] at HS;clear h hc hc0 hu;go_enter Tryz.func125,Tryz.ntmps125
 go_wp2_with (go_at_call 53;refine HS.out.mono ?_)
 rintro e w1 ⟨rfl,hst⟩;go_wp2
 go_ret
 exact⟨rfl,hst⟩
theorem next_nil {T:TypeId} {x:List Value} {g:Nat} (w:World) (h:RdT T x w g []) :
  Calls Tryz.prog 120 #[.pointer (some ⟨g,0,none⟩)] w fun e w'=>e=.returned (.string ⟨(([]:Str)).toArray⟩)∧Still w w':=by
 have HS:=ab (kq w h);clear h;go_enter Tryz.func120,Tryz.ntmps120
 go_wp2_with (go_at_call 53;refine HS.out.mono ?_)
 rintro e w1 ⟨rfl,hst⟩;unfold hdS;go_wp2
 go_ret
 exact⟨rfl,hst⟩
theorem j8 {T:TypeId} {x:List Value} {g:Nat} {c:Str} {r:List Str} (w:World) (h:RdT T x w g (c::r)) :
  Calls Tryz.prog 120 #[.pointer (some ⟨g,0,none⟩)] w fun e w'=>e=.returned (.string ⟨c.toArray⟩)∧RdT T x w' g r∧w.grownBy w' (some g):=by
 have HS:=ab (kq w h);have hc:=h.pos.1;have HR:=ab h;cases c with
 | nil=>exact absurd rfl hc
 | cons b c =>
  clear h hc;go_enter Tryz.func120,Tryz.ntmps120
  exact cE
open Go.RowKit
def CB (c:Str) (w:World) (e:Ending) (w':World):Prop:=w=w'∧match lr c with
 | some t=>e=.returned (.tuple #[.string ⟨t.toArray⟩,.bool true])
 | none=>∃t:Str,e=.returned (.tuple #[.string ⟨t.toArray⟩,.bool false])
theorem vO (c:Str) (w:World) (hs:c.length≤100000000) :
  Calls Tryz.prog 145 #[.string ⟨c.toArray⟩] w fun e w'=>CB c w e w':=by
 by_cases h0:c=[]
 ·subst h0
  go_enter Tryz.func145,Tryz.ntmps145
  go_wp2
  go_ret2
  exact⟨rfl,[],rfl⟩
 have g0:List.isEmpty c=false:=by cases c<;>simp at h0 ⊢
 by_cases h110:c=[110]
 ·subst h110
  exact cw
 have g110:(c==[110])=false:=DV.2 h110;by_cases h114:c=[114]
 ·subst h114
  exact cw
 have g114:(c==[114])=false:=DV.2 h114;by_cases h116:c=[116]
 ·subst h116
  exact cw
 have g116:(c==[116])=false:=DV.2 h116;by_cases h102:c=[102]
 ·subst h102
  exact cw
 have g102:(c==[102])=false:=DV.2 h102;by_cases h118:c=[118]
 ·subst h118
  exact cw
 have g118:(c==[118])=false:=DV.2 h118;have hM:lr c=if c=[95]∨nj c=false then some c else none:=by
  unfold lr;rw [Du h0,Du h110,Du h114,Du h116,Du h102,Du h118]
 have HW:=ab (rg c w hs);by_cases h95:c=[95]
 ·subst h95
  clear HW hM;exact cw
 have g95:(c==[95])=false:=DV.2 h95;cases hw:nj c with
 | true =>
  rw [Du (by rw [hw];simp [h95])] at hM;rw [hw] at HW;have HM:=ab hM;clear hM hw h0 h110 h114 h116 h102 h118 h95;go_enter Tryz.func145,Tryz.ntmps145
  go_wp2_with (go_at_call 162;refine HW.out.mono ?_;rintro e w1 ⟨rfl,rfl⟩)
  go_ret2
  exact⟨rfl,by rw [HM.out];exact⟨c,rfl⟩⟩
 | false =>
  rw [Dr (.inr hw)] at hM;rw [hw] at HW;have HM:=ab hM;clear hM hw h0 h110 h114 h116 h102 h118 h95;go_enter Tryz.func145,Tryz.ntmps145
  go_wp2_with (go_at_call 162;refine HW.out.mono ?_;rintro e w1 ⟨rfl,rfl⟩)
  go_ret2
  exact⟨rfl,by rw [HM.out];rfl⟩
def NumPost (g d:Nat) (w:World) (R:Option (Nat × List Str)) (e:Ending) (w':World):Prop:=w.grownBy w' (some g)∧match R with
 | some (n,r)=>e=.returned (.tuple #[.int .i64 n,.bool true])∧n≤255∧Rd w' g r d
 | none=>(∃v:Int,e=.returned (.tuple #[.int .i64 v,.bool false]))∧∃r,Rd w' g r d
def NumRel (g d:Nat) (w:World) (R:Option (Nat × List Str)) (vn vk vc:Value) (wr:World):Prop :=
 ∃(n k:Nat) (r:List Str),vn=.int .i64 n∧vk=.int .i64 k∧vc=.string ⟨(hdS r).toArray⟩∧Rd wr g r d∧w.grownBy wr (some g)∧k≤3∧n≤999∧Hid (k=0∧n=0∨k=1∧n≤9∨k=2∧n≤99∨k=3)∧Hid (numL k n r=R)
theorem kC (c:Str) (r:List Str):hdS (c::r)=c:=rfl
theorem tf {g d:Nat} {r:List Str} (w:World) (h:Rd w g r d) :
  Calls Tryz.prog 146 #[.pointer (some ⟨g,0,none⟩)] w fun e w'=>NumPost g d w (numL 0 0 r) e w':=by
 obtain⟨R,hR⟩:∃R,numL 0 0 r=R:=⟨_,rfl⟩;rw [hR];have HR:=ab hR;have HRD:=ab h;clear hR h;go_enter Tryz.func146,Tryz.ntmps146
 go_wp2_with (go_at_call 53;refine(kq _ HRD.out).mono ?_)
 rintro e w1 ⟨rfl,hst⟩;have HRD1:=ab (hst.rd HRD.out);have hg1:=hst.grown (some g);clear hst HRD;go_wp2
 go_loopw [4,5,6] (fun vn vk vc wr=>NumRel g d w R vn vk vc wr) (fun _ vk _ _=>4-(intOf vk).toNat)
 case atStart=>exact⟨0,0,r,rfl,rfl,rfl,HRD1.out,hg1,by omega,by omega,ab (.inl ⟨rfl,rfl⟩),HR⟩
 case round =>
  clear HR HRD1 hg1;obtain⟨n,k,r,rfl,rfl,rfl,hrd,hg,hk,hn,HB,HF⟩:=hrel;have HRD:=ab hrd;cases r with
  | nil =>
   have HF2:Hid ((if 0<k∧n≤255 then some (n,[]) else none)=R):=HF;clear HF hrd;generalize hr:([]:List Str)=r at *
   have hh:hdS r=[]:=by rw [←hr];rfl
   rw [hh];clear hr hh;exact aI
  | cons c r' =>
   have hp:=hrd.pos;obtain⟨i,hi,c1,hf,hr1⟩:=hrd.step;have HR1:=ab hr1;clear hrd hr1;rw [kC];match c,hp with
   | [b],_ =>
    by_cases hb1:48≤b.toNat
    ·by_cases hb2:b.toNat≤57
     ·have hdg:digS [b]=some (b.toNat-48):=by simp only [digS,Dr (And.intro hb1 hb2)]
      by_cases hk3:k=3
      ·have HF2:Hid (none=R):=ab (by rw [←HF.out,numL,hdg];simp [hk3])
       clear HF hdg;go_wp2
       go_ret2
       exact⟨hg,by rw [←HF2.out];exact⟨⟨_,rfl⟩,_,HRD.out⟩⟩
      ·have HF2:Hid (numL (k+1) (10*n+(b.toNat-48)) r'=R):=ab (by rw [←HF.out,numL,hdg];simp [hk3])
       have hn99:n≤99:=by have:=HB.out;omega
       have HB2:Hid (k+1=0∧10*n+(b.toNat-48)=0∨k+1=1∧10*n+(b.toNat-48)≤9∨k+1=2∧10*n+(b.toNat-48)≤99∨k+1=3):=ab (by have:=HB.out;omega);clear HF hdg;have hg2:w.grownBy (wr.setCell ⟨g,1,none⟩ (.int .i64 ((i:Int)+1))) (some g):=jR hg _ _;go_wp2_with (go_at_call 53;refine(kq _ HR1.out).mono ?_)
       rintro e w3 ⟨rfl,hst⟩;have hrd3:=hst.rd HR1.out;have hg3:=jy hg2 (hst.grown _);clear hst;go_wp2
       go_roundw
       case rel=>exact⟨10*n+(b.toNat-48),k+1,r',DQ (Value.int .i64) fR,by go_num,rfl,hrd3,hg3,by omega,by omega,HB2,HF2⟩
       case measure=>simp [intOf];omega
     ·have HF2:Hid ((if 0<k∧n≤255 then some (n,[b]::r') else none)=R):=ab (by
       rw [←HF.out];simp only [numL,digS,Du (show ¬(48≤b.toNat∧b.toNat≤57) from fun q=>hb2 q.2)])
      clear HF;generalize hr:[b]::r'=r at *
      exact aI
    ·have HF2:Hid ((if 0<k∧n≤255 then some (n,[b]::r') else none)=R):=ab (by
      rw [←HF.out];simp only [numL,digS,Du (show ¬(48≤b.toNat∧b.toNat≤57) from fun q=>hb1 q.1)])
     clear HF;generalize hr:[b]::r'=r at *
     exact aI
   | [],hp=>exact absurd rfl hp.1
   | b::b2::t,hp =>
    have hlt:=hp.2;have HF2:Hid ((if 0<k∧n≤255 then some (n,(b::b2::t)::r') else none)=R):=ab (by
     rw [←HF.out];simp only [numL,digS])
    have hne:((t.length:Int)+1+1==1)=false:=by rw [DV];omega
    clear HF;generalize hr:(b::b2::t)::r'=r at *
    exact aI
open Go.RowKit
theorem ll {c:Str} {r r1:List Str} (h:jQ c r=some r1):r=c::r1:=by
 cases r with
 | nil=>cases h
 | cons x r =>
  simp only [jQ] at h;by_cases hx:x=c
  ·rw [Dr hx] at h;injection h with h;rw [hx,h]
  ·rw [Du hx] at h;cases h
theorem kt {T:TypeId} {x:List Value} {g:Nat} {r r1:List Str} {c:Str} (w:World) (h:RdT T x w g r) (hc:jQ c r=some r1) :
  Calls Tryz.prog 125 #[.pointer (some ⟨g,0,none⟩),.string ⟨c.toArray⟩] w fun e w'=>e=.returned (.bool true)∧RdT T x w' g r1∧w.grownBy w' (some g):=by
 have e:=ll hc;subst e;exact take_yes c w h
theorem j6 {T:TypeId} {x:List Value} {g:Nat} {r:List Str} {c:Str} (w:World) (h:RdT T x w g r) (hc:jQ c r=none) (hc0:c≠[]) :
  Calls Tryz.prog 125 #[.pointer (some ⟨g,0,none⟩),.string ⟨c.toArray⟩] w fun e w'=>e=.returned (.bool false)∧RdT T x w' g r∧w.grownBy w' (some g) :=
 (take_no c w h hc hc0).mono fun _ _ ⟨h1,h2⟩=>⟨h1,h2.rd h,h2.grown _⟩
theorem nN {g d:Nat} {r r1:List Str} {n:Nat} (w:World) (h:Rd w g r d) (hn:numL 0 0 r=some (n,r1)) :
  Calls Tryz.prog 146 #[.pointer (some ⟨g,0,none⟩)] w fun e w'=>e=.returned (.tuple #[.int .i64 n,.bool true])∧Rd w' g r1 d∧w.grownBy w' (some g):=by
 refine(tf w h).mono ?_
 rintro e w' ⟨h1,h2⟩;rw [hn] at h2;exact⟨h2.1,h2.2.2,h1⟩
def NumNo (w:World) (g d:Nat) (e:Ending) (w':World):Prop:=∃v:Int,e=.returned (.tuple #[.int .i64 v,.bool false])∧w.grownBy w' (some g)∧∃r,Rd w' g r d
theorem rD {g d:Nat} {r:List Str} (w:World) (h:Rd w g r d) (hn:numL 0 0 r=none) :
  Calls Tryz.prog 146 #[.pointer (some ⟨g,0,none⟩)] w fun e w'=>NumNo w g d e w':=by
 refine(tf w h).mono ?_
 rintro e w' ⟨h1,h2⟩;rw [hn] at h2;obtain⟨⟨v,h2⟩,h3⟩:=h2;exact⟨v,h2,h1,h3⟩
theorem xF:∀(r:List Str) (k n:Nat) {m:Nat} {r1:List Str},numL k n r=some (m,r1)→m≤255
 | [],k,n,m,r1,h=>by
  unfold numL at h;split at h
  ·rename_i q;injection h with h;injection h with h _;omega
  ·cases h
 | c::r,k,n,m,r1,h=>by
  unfold numL at h;split at h
  ·split at h
   ·cases h
   ·exact xF r _ _ h
  ·split at h
   ·rename_i q;injection h with h;injection h with h _;omega
   ·cases h
def BdPost (g d:Nat) (w:World) (R:Option (Int × Int × List Str)) (e:Ending) (w':World):Prop:=w.grownBy w' (some g)∧match R with
 | some (lo,hi,r)=>e=.returned (.tuple #[.int .i64 lo,.int .i64 hi,.bool true])∧Rd w' g r d
 | none=>(∃a b:Int,e=.returned (.tuple #[.int .i64 a,.int .i64 b,.bool false]))∧∃r,Rd w' g r d
theorem tq {g d:Nat} {r:List Str} (w:World) (h:Rd w g r d) :
  Calls Tryz.prog 124 #[.pointer (some ⟨g,0,none⟩)] w fun e w'=>BdPost g d w (ld r) e w':=by
 obtain⟨R,hR⟩:∃R,ld r=R:=⟨_,rfl⟩;rw [hR];have HRD:=ab h;unfold ld at hR;clear h;cases h1:numL 0 0 r with
 | none =>
  rw [h1] at hR;have HR:=ab hR;have HC:=ab (rD _ HRD.out h1);clear hR h1;go_enter Tryz.func124,Tryz.ntmps124
  go_wp2_with (go_at_call 146;refine HC.out.mono ?_)
  rintro e w1 hq1;obtain⟨v,rfl,hg1,r9,hrd9⟩:=hq1;have HRD9:=ab hrd9;clear hrd9;go_wp2
  go_ret3
  exact⟨hg1,by rw [←HR.out];exact⟨⟨_,_,rfl⟩,_,HRD9.out⟩⟩
 | some y =>
  obtain⟨lo,r1⟩:=y;have hlo:=xF _ _ _ h1;simp only [h1] at hR;have HC:=ab (nN _ HRD.out h1);clear h1;cases h2:jQ [125] r1 with
  | some r2 =>
   simp only [h2] at hR;have HR:=ab hR;have H2:=ab h2;clear hR h2;go_enter Tryz.func124,Tryz.ntmps124
   go_wp2_with (go_at_call 146;refine(HC.out).mono ?_)
   rintro e w1 ⟨rfl,hrd1,hg1⟩;have HRD1:=ab hrd1;clear hrd1;go_wp2_with (go_at_call 125;refine(kt _ HRD1.out H2.out).mono ?_)
   rintro e w2 ⟨rfl,hrd2,hq2⟩;have HRD2:=ab hrd2;have hg2:=jy hg1 hq2;clear hrd2 hq2;go_wp2
   go_ret3
   exact⟨hg2,by rw [←HR.out];exact⟨rfl,HRD2.out⟩⟩
  | none =>
   simp only [h2] at hR;have H2:=ab h2;clear h2;cases h3:jQ [44] r1 with
   | none =>
    simp only [h3] at hR;have HR:=ab hR;have H3:=ab h3;clear hR h3;go_enter Tryz.func124,Tryz.ntmps124
    go_wp2_with (go_at_call 146;refine(HC.out).mono ?_)
    rintro e w1 ⟨rfl,hrd1,hg1⟩;have HRD1:=ab hrd1;clear hrd1;go_wp2_with (go_at_call 125;refine(j6 _ HRD1.out H2.out fX).mono ?_)
    rintro e w2 ⟨rfl,hrd2,hq2⟩;have HRD2:=ab hrd2;have hg2:=jy hg1 hq2;clear hrd2 hq2;go_wp2_with (go_at_call 125;refine(j6 _ HRD2.out H3.out fX).mono ?_)
    rintro e w3 ⟨rfl,hrd3,hq3⟩;have HRD3:=ab hrd3;have hg3:=jy hg2 hq3;clear hrd3 hq3;go_wp2
    go_ret3
    exact⟨hg3,by rw [←HR.out];exact⟨⟨_,_,rfl⟩,_,HRD3.out⟩⟩
   | some r2 =>
    simp only [h3] at hR;have H3:=ab h3;clear h3;cases h4:jQ [125] r2 with
    | some r3 =>
     simp only [h4] at hR;have HR:=ab hR;have H4:=ab h4;clear hR h4;go_enter Tryz.func124,Tryz.ntmps124
     go_wp2_with (go_at_call 146;refine(HC.out).mono ?_)
     rintro e w1 ⟨rfl,hrd1,hg1⟩;have HRD1:=ab hrd1;clear hrd1;go_wp2_with (go_at_call 125;refine(j6 _ HRD1.out H2.out fX).mono ?_)
     rintro e w2 ⟨rfl,hrd2,hq2⟩;have HRD2:=ab hrd2;have hg2:=jy hg1 hq2;clear hrd2 hq2;go_wp2_with (go_at_call 125;refine(kt _ HRD2.out H3.out).mono ?_)
     rintro e w3 ⟨rfl,hrd3,hq3⟩;have HRD3:=ab hrd3;have hg3:=jy hg2 hq3;clear hrd3 hq3;go_wp2_with (go_at_call 125;refine(kt _ HRD3.out H4.out).mono ?_)
     rintro e w4 ⟨rfl,hrd4,hq4⟩;have HRD4:=ab hrd4;have hg4:=jy hg3 hq4;clear hrd4 hq4;go_wp2
     go_ret3
     exact⟨hg4,by rw [←HR.out];exact⟨rfl,HRD4.out⟩⟩
    | none =>
     simp only [h4] at hR;have H4:=ab h4;clear h4;cases h5:numL 0 0 r2 with
     | none =>
      simp only [h5] at hR;have HR:=ab hR;have H5:=ab h5;clear hR h5;go_enter Tryz.func124,Tryz.ntmps124
      go_wp2_with (go_at_call 146;refine(HC.out).mono ?_)
      rintro e w1 ⟨rfl,hrd1,hg1⟩;have HRD1:=ab hrd1;clear hrd1;go_wp2_with (go_at_call 125;refine(j6 _ HRD1.out H2.out fX).mono ?_)
      rintro e w2 ⟨rfl,hrd2,hq2⟩;have HRD2:=ab hrd2;have hg2:=jy hg1 hq2;clear hrd2 hq2;go_wp2_with (go_at_call 125;refine(kt _ HRD2.out H3.out).mono ?_)
      rintro e w3 ⟨rfl,hrd3,hq3⟩;have HRD3:=ab hrd3;have hg3:=jy hg2 hq3;clear hrd3 hq3;go_wp2_with (go_at_call 125;refine(j6 _ HRD3.out H4.out fX).mono ?_)
      rintro e w4 ⟨rfl,hrd4,hq4⟩;have HRD4:=ab hrd4;have hg4:=jy hg3 hq4;clear hrd4 hq4;go_wp2_with (go_at_call 146;refine(rD _ HRD4.out H5.out).mono ?_)
      rintro e w5 hn5;obtain⟨v,rfl,hq5,r9,hrd9⟩:=hn5;have HRD9:=ab hrd9;clear hrd9;have hg5:=jy hg4 hq5;go_wp2
      go_ret3
      exact⟨hg5,by rw [←HR.out];exact⟨⟨_,_,rfl⟩,_,HRD9.out⟩⟩
     | some y =>
      obtain⟨hi,r3⟩:=y;have hhi:=xF _ _ _ h5;simp only [h5] at hR;have H5:=ab h5;clear h5;by_cases hle:lo≤hi
      ·rw [Dr fR] at hR
       have hle':decide ((lo:Int)≤(hi:Int))=true:=by simp;omega
       cases h6:jQ [125] r3 with
       | none =>
        simp only [h6] at hR;have HR:=ab hR;have H6:=ab h6;clear hR h6;go_enter Tryz.func124,Tryz.ntmps124
        go_wp2_with (go_at_call 146;refine(HC.out).mono ?_)
        rintro e w1 ⟨rfl,hrd1,hg1⟩;have HRD1:=ab hrd1;clear hrd1;go_wp2_with (go_at_call 125;refine(j6 _ HRD1.out H2.out fX).mono ?_)
        rintro e w2 ⟨rfl,hrd2,hq2⟩;have HRD2:=ab hrd2;have hg2:=jy hg1 hq2;clear hrd2 hq2;go_wp2_with (go_at_call 125;refine(kt _ HRD2.out H3.out).mono ?_)
        rintro e w3 ⟨rfl,hrd3,hq3⟩;have HRD3:=ab hrd3;have hg3:=jy hg2 hq3;clear hrd3 hq3;go_wp2_with (go_at_call 125;refine(j6 _ HRD3.out H4.out fX).mono ?_)
        rintro e w4 ⟨rfl,hrd4,hq4⟩;have HRD4:=ab hrd4;have hg4:=jy hg3 hq4;clear hrd4 hq4;go_wp2_with (go_at_call 146;refine(nN _ HRD4.out H5.out).mono ?_)
        rintro e w5 ⟨rfl,hrd5,hq5⟩;have HRD5:=ab hrd5;have hg5:=jy hg4 hq5;clear hrd5 hq5;go_wp2_with (go_at_call 125;refine(j6 _ HRD5.out H6.out fX).mono ?_)
        rintro e w6 ⟨rfl,hrd6,hq6⟩;have HRD6:=ab hrd6;have hg6:=jy hg5 hq6;clear hrd6 hq6;go_wp2
        go_ret3
        exact⟨hg6,by rw [←HR.out];exact⟨⟨_,_,rfl⟩,_,HRD6.out⟩⟩
       | some r4 =>
        simp only [h6] at hR;have HR:=ab hR;have H6:=ab h6;clear hR h6;go_enter Tryz.func124,Tryz.ntmps124
        go_wp2_with (go_at_call 146;refine(HC.out).mono ?_)
        rintro e w1 ⟨rfl,hrd1,hg1⟩;have HRD1:=ab hrd1;clear hrd1;go_wp2_with (go_at_call 125;refine(j6 _ HRD1.out H2.out fX).mono ?_)
        rintro e w2 ⟨rfl,hrd2,hq2⟩;have HRD2:=ab hrd2;have hg2:=jy hg1 hq2;clear hrd2 hq2;go_wp2_with (go_at_call 125;refine(kt _ HRD2.out H3.out).mono ?_)
        rintro e w3 ⟨rfl,hrd3,hq3⟩;have HRD3:=ab hrd3;have hg3:=jy hg2 hq3;clear hrd3 hq3;go_wp2_with (go_at_call 125;refine(j6 _ HRD3.out H4.out fX).mono ?_)
        rintro e w4 ⟨rfl,hrd4,hq4⟩;have HRD4:=ab hrd4;have hg4:=jy hg3 hq4;clear hrd4 hq4;go_wp2_with (go_at_call 146;refine(nN _ HRD4.out H5.out).mono ?_)
        rintro e w5 ⟨rfl,hrd5,hq5⟩;have HRD5:=ab hrd5;have hg5:=jy hg4 hq5;clear hrd5 hq5;go_wp2_with (go_at_call 125;refine(kt _ HRD5.out H6.out).mono ?_)
        rintro e w6 ⟨rfl,hrd6,hq6⟩;have HRD6:=ab hrd6;have hg6:=jy hg5 hq6;clear hrd6 hq6;go_wp2
        go_ret3
        exact⟨hg6,by rw [←HR.out];exact⟨rfl,HRD6.out⟩⟩
      ·rw [Du fR] at hR
       have hle':decide ((lo:Int)≤(hi:Int))=false:=by simp;omega
       have HR:=ab hR;clear hR;go_enter Tryz.func124,Tryz.ntmps124
       go_wp2_with (go_at_call 146;refine(HC.out).mono ?_)
       rintro e w1 ⟨rfl,hrd1,hg1⟩;have HRD1:=ab hrd1;clear hrd1;go_wp2_with (go_at_call 125;refine(j6 _ HRD1.out H2.out fX).mono ?_)
       rintro e w2 ⟨rfl,hrd2,hq2⟩;have HRD2:=ab hrd2;have hg2:=jy hg1 hq2;clear hrd2 hq2;go_wp2_with (go_at_call 125;refine(kt _ HRD2.out H3.out).mono ?_)
       rintro e w3 ⟨rfl,hrd3,hq3⟩;have HRD3:=ab hrd3;have hg3:=jy hg2 hq3;clear hrd3 hq3;go_wp2_with (go_at_call 125;refine(j6 _ HRD3.out H4.out fX).mono ?_)
       rintro e w4 ⟨rfl,hrd4,hq4⟩;have HRD4:=ab hrd4;have hg4:=jy hg3 hq4;clear hrd4 hq4;go_wp2_with (go_at_call 146;refine(nN _ HRD4.out H5.out).mono ?_)
       rintro e w5 ⟨rfl,hrd5,hq5⟩;have HRD5:=ab hrd5;have hg5:=jy hg4 hq5;clear hrd5 hq5;go_wp2
       go_ret3
       exact⟨hg5,by rw [←HR.out];exact⟨⟨_,_,rfl⟩,_,HRD5.out⟩⟩
end Go.Proofs.YtjggmmaojklmpaaGreatDoor
