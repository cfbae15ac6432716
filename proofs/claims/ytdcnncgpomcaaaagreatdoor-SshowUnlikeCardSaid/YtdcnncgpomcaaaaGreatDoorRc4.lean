/- symM: what slices.symMergeCmpFunc computes, told plainly. -/
import Derived.Test.YtdcnncgpomcaaaaGreatDoorRc3
set_option maxRecDepth 100000
set_option maxHeartbeats 4000000
namespace Go.Proofs.YtdcnncgpomcaaaaGreatDoor
theorem uW:∀(k:Nat) (rs:List Row) (m i j:Nat),(rotL k rs m i j).length=rs.length
 | 0,_,_,_,_=>rfl
 | k+1,rs,m,i,j=>by
  simp only [rotL];split
  ·rw [rL]
  ·split
   ·rw [uW k,rL]
   ·rw [uW k,rL]
def sLo (a m b:Nat):Nat:=if (a+b) / 2<m then(a+b) / 2+m-b else a
def sHi (a m b:Nat):Nat:=if (a+b) / 2<m then(a+b) / 2 else m
def symM:Nat→List Row→Nat→Nat→Nat→List Row
 | 0,rs,_,_,_=>rs
 | f+1,rs,a,m,b =>
  if m=a+1 then upSw rs a (bs (fun h=>ltAt rs h a) b m b-1-a)
  else if b=m+1 then dnSw (m-bs (fun h=>!ltAt rs m h) m a m) rs m
  else
   let M:=(a+b) / 2
   let s:=bs (fun c=>!ltAt rs (M+m-1-c) c) b (sLo a m b) (sHi a m b)
   let e:=M+m-s
   let r1:=if s<m∧m<e then rotL (e-s) rs m (m-s) (e-m) else rs
   let r2:=if a<s∧s<M then symM f r1 a s M else r1
   if M<e∧e<b then symM f r2 M e b else r2
theorem sj:∀(f:Nat) (rs:List Row) (a m b:Nat),(symM f rs a m b).length=rs.length
 | 0,_,_,_,_=>rfl
 | f+1,rs,a,m,b=>by
  simp only [symM];have ih:=sj f
  (repeat' split)<;>simp only [ih,uW,upSw_len,Dk]
def symT (f:Nat) (r1:List Row) (a s M e b:Nat):List Row :=
 if M<e∧e<b then symM f (if a<s∧s<M then symM f r1 a s M else r1) M e b else(if a<s∧s<M then symM f r1 a s M else r1)
theorem D2 (f:Nat) (rs:List Row) (a b:Nat):symM (f+1) rs a (a+1) b=upSw rs a (bs (fun h=>ltAt rs h a) b (a+1) b-1-a):=by
 rw [symM];exact Jl rfl
theorem BT {f:Nat} {rs:List Row} {a m:Nat} (h:¬m=a+1):symM (f+1) rs a m (m+1)=dnSw (m-bs (fun h=>!ltAt rs m h) m a m) rs m:=by
 rw [symM];exact(Jo h).trans (Jl rfl)
theorem Dq {f:Nat} {rs:List Row} {a m b:Nat} (h1:¬m=a+1) (h2:¬b=m+1) :
  symM (f+1) rs a m b=symT f (if bs (fun c=>!ltAt rs ((a+b) / 2+m-1-c) c) b (sLo a m b) (sHi a m b)<m∧m<(a+b) / 2+m-bs (fun c=>!ltAt rs ((a+b) / 2+m-1-c) c) b (sLo a m b) (sHi a m b) then
   rotL ((a+b) / 2+m-bs (fun c=>!ltAt rs ((a+b) / 2+m-1-c) c) b (sLo a m b) (sHi a m b)-bs (fun c=>!ltAt rs ((a+b) / 2+m-1-c) c) b (sLo a m b) (sHi a m b)) rs m (m-bs (fun c=>!ltAt rs ((a+b) / 2+m-1-c) c) b (sLo a m b) (sHi a m b)) ((a+b) / 2+m-bs (fun c=>!ltAt rs ((a+b) / 2+m-1-c) c) b (sLo a m b) (sHi a m b)-m) else rs)
   a (bs (fun c=>!ltAt rs ((a+b) / 2+m-1-c) c) b (sLo a m b) (sHi a m b)) ((a+b) / 2) ((a+b) / 2+m-bs (fun c=>!ltAt rs ((a+b) / 2+m-1-c) c) b (sLo a m b) (sHi a m b)) b:=by
 rw [symM];exact(Jo h1).trans (Jo h2)
def stA:Nat→List Row→Nat→Nat→List Row
 | 0,rs,_,_=>rs
 | k+1,rs,a,n=>if a+20≤n then stA k (oW a (a+20-(a+1)) (a+1) rs) (a+20) n else oW a (n-(a+1)) (a+1) rs
def stB:Nat→List Row→Nat→Nat→Nat→List Row
 | 0,rs,_,_,_=>rs
 | k+1,rs,a,s,n=>if a+2*s≤n then stB k (symM (2*s) rs a (a+s) (a+2*s)) (a+2*s) s n else if a+s<n then symM (n-a) rs a (a+s) n else rs
def stC:Nat→List Row→Nat→Nat→List Row
 | 0,rs,_,_=>rs
 | k+1,rs,s,n=>if s<n then stC k (stB (n+1) rs 0 s n) (2*s) n else rs
def stL (rs:List Row):List Row:=stC (rs.length+1) (stA (rs.length+1) rs 0 rs.length) 20 rs.length
theorem BZ:∀(k:Nat) (rs:List Row) (a n:Nat),(stA k rs a n).length=rs.length
 | 0,_,_,_=>rfl
 | k+1,rs,a,n=>by
  simp only [stA];split
  ·rw [BZ k,sk]
  ·rw [sk]
theorem CX:∀(k:Nat) (rs:List Row) (a s n:Nat),(stB k rs a s n).length=rs.length
 | 0,_,_,_,_=>rfl
 | k+1,rs,a,s,n=>by
  simp only [stB];split
  ·rw [CX k,sj]
  ·split
   ·rw [sj]
   ·rfl
theorem Gk:∀(k:Nat) (rs:List Row) (s n:Nat),(stC k rs s n).length=rs.length
 | 0,_,_,_=>rfl
 | k+1,rs,s,n=>by
  simp only [stC];split
  ·rw [Gk k,CX]
  ·rfl
theorem xR (A:List Row):A=[]∨∃B y,A=B++[y]:=by
 rcases List.eq_nil_or_concat A with h|⟨B,y,h⟩
 ·exact .inl h
 ·exact .inr ⟨B,y,by simpa using h⟩
def mxS (a b:Str):Str:=if Op.bytesLess a b=true then b else a
def mrgS (out:List Row) (r:Row):List Row:=match out.getLast? with
 | none=>[r]
 | some q=>if leS r.1 q.2=true then out.dropLast++[(q.1,mxS q.2 r.2)] else out++[r]
def mrgL (ss:List Row):List Row:=ss.foldl mrgS []
def filR (rs:List Row):List Row:=rs.filter rowB
def nk (rs:List Row):List Row:=mrgL (stL (filR rs))
theorem uZ (r:Row):mrgS [] r=[r]:=rfl
theorem zC {B:List Row} {q r:Row} (h:leS r.1 q.2=true):mrgS (B++[q]) r=B++[(q.1,mxS q.2 r.2)]:=by
 unfold mrgS;rw [List.getLast?_concat];simp [h]
theorem vE {B:List Row} {q r:Row} (h:leS r.1 q.2=false):mrgS (B++[q]) r=B++[q]++[r]:=by
 unfold mrgS;rw [List.getLast?_concat];simp [h]
theorem F7 {ss:List Row} {i:Nat} {r:Row} (h:ss[i]?=some r):mrgL (ss.take (i+1))=mrgS (mrgL (ss.take i)) r:=by
 unfold mrgL;rw [List.take_add_one,h,List.foldl_append];rfl
theorem mrgS_len (out:List Row) (r:Row):(mrgS out r).length≤out.length+1:=by
 unfold mrgS;split
 ·simp
 ·rename_i q hq
  have:out≠[]:=by rintro rfl;simp at hq
  have:=List.length_pos_iff.2 this
  split<;>simp<;>omega
theorem DQ (ss:List Row):(mrgL ss).length≤ss.length:=by
 have key:∀(l out:List Row),(l.foldl mrgS out).length≤out.length+l.length:=by
  intro l;induction l with
  | nil=>intro out;simp
  | cons r l ih=>intro out;have h1:=ih (mrgS out r);have h2:=mrgS_len out r;simp only [JQ,Jr];omega
 simpa [mrgL] using key ss []
theorem Gg {rs:List Row} {i:Nat} {r:Row} (h:rs[i]?=some r):filR (rs.take (i+1))=filR (rs.take i)++(if rowB r=true then [r] else []):=by
 unfold filR;rw [List.take_add_one,h,List.filter_append];cases hr:rowB r<;>simp [hr]
theorem yL (rs:List Row):(filR rs).length≤rs.length:=List.length_filter_le _ _
theorem Ig (rs:List Row):(stL rs).length=rs.length:=by unfold stL;rw [Gk,BZ]
open Go.RowKit
theorem qD (l:List Row) (r:Row):lw (l++[r])=lw l++[.string ⟨(r.1).toArray⟩,.string ⟨(r.2).toArray⟩]:=by simp [lw]
def U1Rel (rs:List Row) (w:World) (v q:Value) (wr:World):Prop :=
 ∃i:Nat,i≤rs.length∧q=.int .i64 i∧Below w.heap.size w wr∧wr.ownsRow w.heap.size 93 2 v (filR (rs.take i)).length (lw (filR (rs.take i)))
def U2Rel (ss:List Row) (a:Option Addr) (w:World) (v q:Value) (wr:World):Prop :=
 ∃i:Nat,i≤ss.length∧q=.int .i64 i∧Below w.heap.size w wr∧wr.ownsRow w.heap.size 93 2 v (mrgL (ss.take i)).length (lw (mrgL (ss.take i)))∧SlS wr (fun b=>v.ownBlock≠some b) a 2 ss.length (lw ss)
theorem Iz {P:Program} (w:World) (ts:Array TypeId) (t:TypeId) (x y:Str):(Builtin.max_ ts t #[.string ⟨x.toArray⟩,.string ⟨y.toArray⟩]).run P w=.ok (.string ⟨(mxS x y).toArray⟩) w:=by
 unfold mxS;cases h:Op.bytesLess x y<;>simp [Builtin.max_,Builtin.max2,Op.stringOp,asBool,h]
theorem Ie {w w':World} {v v':Value} {a:Option Addr} {sz n:Nat} {cs:List Value} (h:SlS w (fun b=>v.ownBlock≠some b) a sz n cs) (hg:w.grownBy w' v.ownBlock) (hm:xj w v v') :
  SlS w' (fun b=>v'.ownBlock≠some b) a sz n cs:=by
 have h1:SlS w (fun b=>v.ownBlock≠some b∧b<w.heap.size) a sz n cs:=h.mono fun b h1 h2=>⟨h1,h2⟩
 have h2:=h1.keep (w':=w') ⟨hg.size,fun b hb hlt=>hg.block b hlt (by first|exact hb.1|exact fun e=>hb.1 e.symm)⟩;refine h2.mono fun b hb _=>?_
 rcases hm with e|e
 ·rw [e];exact hb.1
 ·intro h3;have:=e b h3;omega
theorem Gl {w:World} {B g cap:Nat} {L:List Row} {q:Row} {n:Nat} (h:w.ownsRow B 93 2 (.slice (some ⟨g,0,none⟩) n cap) n (lw (L++[q]))) (t:Str) :
  (w.setCell ⟨g,L.length*2+1,none⟩ (.string ⟨t.toArray⟩)).ownsRow B 93 2 (.slice (some ⟨g,0,none⟩) n cap) n (lw (L++[(q.1,t)])):=by
 have h1:=(h.stored (L.length*2+1) (.string ⟨t.toArray⟩)).1;have e:(lw (L++[q])).set (L.length*2+1) (.string ⟨t.toArray⟩)=lw (L++[(q.1,t)]):=by
  rw [qD,qD,List.set_append_right _ _ (by rw [ox];omega),ox,show L.length*2+1-L.length*2=1 by omega];rfl
 rw [e] at h1;exact h1
theorem own_at {w:World} {B g cap:Nat} {L:List Row} {q:Row} {n:Nat} (h:w.ownsRow B 93 2 (.slice (some ⟨g,0,none⟩) n cap) n (lw (L++[q]))) :
  w.cell? ⟨g,L.length*2,none⟩=some (.string ⟨(q.1).toArray⟩)∧w.cell? ⟨g,L.length*2+1,none⟩=some (.string ⟨(q.2).toArray⟩)∧∀j,w.frozen? ⟨g,j,none⟩=false:=by
 obtain⟨c1,c2⟩:=xf (rs:=L++[q]) (k:=L.length) (r:=q) gU;have hl:L.length+1=n:=by have:=h.1;rw [ox,JA,List.length_singleton] at this;omega
 exact⟨by rw [h.cellAt _ gN];exact c1,by rw [h.cellAt _ gN];exact c2,fun j=>h.frozenAt j⟩
open Go.RowKit
theorem zx (f:Value) (w:World):Calls Tryz.prog 150 #[.slice none 0 0,.int .i64 0,.int .i64 0,f] w fun e w'=>e=.returned (.tuple #[])∧w'=w:=by
 go_enter Tryz.func150,Tryz.ntmps150
 go_wp2
 go_loopw [8] (fun q wr=>q=.int .i64 1∧wr=w) (fun _ _=>0)
 case atStart=>exact⟨rfl,rfl⟩
 case round =>
  obtain⟨rfl,rfl⟩:=hrel;go_wp2
  go_end0
  exact⟨rfl,rfl⟩
theorem xw (w:World) :
  Calls Tryz.prog 143 #[.slice none 0 0,.func (.func 144) #[] #[]] w fun e w'=>e=.returned (.tuple #[])∧w'=w:=by
 have hst:Calls Tryz.prog 148 #[.slice none 0 0,.int .i64 0,.func (.func 144) #[] #[]] w fun e w'=>e=.returned (.tuple #[])∧w'=w:=by
  go_enter Tryz.func148,Tryz.ntmps148
  go_wp2
  go_loopw [7,8] (fun p q wr=>p=.int .i64 0∧q=.int .i64 20∧wr=w) (fun _ _ _=>0)
  case atStart=>exact⟨rfl,rfl,rfl⟩
  case round =>
   obtain⟨rfl,rfl,rfl⟩:=hrel;go_wp2_with (go_at_call 150;refine(zx _ _).mono ?_)
   rintro e w1 ⟨rfl,hw1⟩;subst hw1;obtain⟨wo,hwo⟩:∃wo:World,wo=w1:=⟨_,rfl⟩;rw [←hwo];go_wp2
   go_loopw [6] (fun q wr=>q=.int .i64 20∧wr=wo) (fun _ _=>0)
   case atStart=>exact⟨rfl,hwo.symm⟩
   case round =>
    obtain⟨rfl,rfl⟩:=hrel;go_wp2
    go_end0
    exact⟨rfl,rfl⟩
 go_enter Tryz.func143,Tryz.ntmps143
 go_wp2_with (go_at_call 148;refine hst.mono ?_;rintro e w1 ⟨rfl,rfl⟩)
 go_end0
 exact⟨rfl,rfl⟩
open Go.RowKit
def mh (c:UInt8):List Row:=if c=100 then [([48],[57])] else if c=119 then [([48],[57]),([65],[90]),([95],[95]),([97],[122])] else if c=115 then [([9],[13]),([32],[32])] else []
def oD (c:UInt8):Bool:=c==100||c==119||c==115
def tB (L:List Row) (b:Bool) (w:World) (e:Ending) (w':World):Prop :=
 ∃a k,e=.returned (.tuple #[.slice a L.length k,.bool b])∧SlS w' (fun x=>w.heap.size≤x) a 2 L.length (lw L)∧Below w.heap.size w w'∧(b=true→∃x,a=some x)
theorem Cr {w:World} {B:Nat} {n sz:Nat} {cs:Array Value} {t:TypeId} (hB:B≤w.heap.size) (hl:cs.toList.length=n*sz) (h:Sl (w.alloc (.cells cs t)) (w.alloc (.cells cs t)).heap.size (some ⟨w.heap.size,0,none⟩) sz n cs.toList) :
  SlS (w.alloc (.cells cs t)) (fun x=>B≤x) (some ⟨w.heap.size,0,none⟩) sz n cs.toList :=
 ⟨hl,fun hn=>by
  obtain⟨b,o,h1,h2,h3⟩:=h.2 hn;injection h1 with h1
  injection h1 with h1 h4
  subst h1 h4;exact⟨_,_,rfl,hB,h2,h3⟩⟩
theorem AH (c:UInt8) (w:World):Calls Tryz.prog 140 #[.int .u8 c.toNat] w fun e w'=>tB (mh c) (oD c) w e w':=by
 have hb:=(Below.refl w.heap.size w).alloc (Ju _) (.cells #[.string ⟨(([48]:Str)).toArray⟩,.string ⟨(([57]:Str)).toArray⟩] 93);by_cases h1:c=100
 ·subst h1
  show Calls Tryz.prog 140 #[.int .u8 (100:Nat)] w fun e w'=>tB [([48],[57])] true w e w'
  go_enter Tryz.func140,Tryz.ntmps140
  go_wp2
  go_ret2
  refine⟨_,_,rfl,?_,hb.alloc gU _,fun _=>⟨_,rfl⟩⟩;have hs:=Cr (B:=w.heap.size) (w:=w.alloc (.cells #[.string ⟨(([48]:Str)).toArray⟩,.string ⟨(([57]:Str)).toArray⟩] 93)) (t:=93) (cs:=#[.string ⟨(([48]:Str)).toArray⟩,.string ⟨(([57]:Str)).toArray⟩]) (n:=1) (sz:=2) gU rfl (Sl.lit (heap_alloc_new _ _) rfl);rw [JO] at hs;exact hs
 by_cases h2:c=119
 ·subst h2
  show Calls Tryz.prog 140 #[.int .u8 (119:Nat)] w fun e w'=>tB [([48],[57]),([65],[90]),([95],[95]),([97],[122])] true w e w'
  go_enter Tryz.func140,Tryz.ntmps140
  go_wp2
  go_ret2
  refine⟨_,_,rfl,?_,hb.alloc gU _,fun _=>⟨_,rfl⟩⟩;have hs:=Cr (B:=w.heap.size) (w:=w.alloc (.cells #[.string ⟨(([48]:Str)).toArray⟩,.string ⟨(([57]:Str)).toArray⟩] 93)) (t:=93) (cs:=#[.string ⟨(([48]:Str)).toArray⟩,.string ⟨(([57]:Str)).toArray⟩,.string ⟨(([65]:Str)).toArray⟩,.string ⟨(([90]:Str)).toArray⟩,.string ⟨(([95]:Str)).toArray⟩,.string ⟨(([95]:Str)).toArray⟩,.string ⟨(([97]:Str)).toArray⟩,.string ⟨(([122]:Str)).toArray⟩]) (n:=4) (sz:=2) gU rfl (Sl.lit (heap_alloc_new _ _) rfl);rw [JO] at hs;exact hs
 by_cases h3:c=115
 ·subst h3
  show Calls Tryz.prog 140 #[.int .u8 (115:Nat)] w fun e w'=>tB [([9],[13]),([32],[32])] true w e w'
  go_enter Tryz.func140,Tryz.ntmps140
  go_wp2
  go_ret2
  refine⟨_,_,rfl,?_,hb.alloc gU _,fun _=>⟨_,rfl⟩⟩;have hs:=Cr (B:=w.heap.size) (w:=w.alloc (.cells #[.string ⟨(([48]:Str)).toArray⟩,.string ⟨(([57]:Str)).toArray⟩] 93)) (t:=93) (cs:=#[.string ⟨(([9]:Str)).toArray⟩,.string ⟨(([13]:Str)).toArray⟩,.string ⟨(([32]:Str)).toArray⟩,.string ⟨(([32]:Str)).toArray⟩]) (n:=2) (sz:=2) gU rfl (Sl.lit (heap_alloc_new _ _) rfl);rw [JO] at hs;exact hs
 ·have hL:mh c=[]:=by simp [mh,h1,h2,h3]
  have hB:oD c=false:=by simp [oD,h1,h2,h3]
  have n1:c.toNat≠100:=fun e=>h1 (Jk.1 e)
  have n2:c.toNat≠119:=fun e=>h2 (Jk.1 e)
  have n3:c.toNat≠115:=fun e=>h3 (Jk.1 e)
  rw [hL,hB];clear hL hB h1 h2 h3;go_enter Tryz.func140,Tryz.ntmps140
  go_wp2
  go_ret2
  exact⟨none,0,rfl,SlS.none_ _ _ _ _,hb,fun h=>by cases h⟩
open Go.RowKit
def n8:Nat→Str→List Str
 | 0,_=>[]
 | _,[]=>[]
 | k+1,c::r=>(c::r.takeWhile lf)::n8 k (r.dropWhile lf)
def lA (l:Str):List Str:=n8 l.length l
theorem I5:(Tryz.prog.info? 9).map (fun i=>(i.zero,i.size,i.bytes))=some (some (.string ⟨#[]⟩),1,16):=by kernel_rfl
theorem sS (ps:List Str) (p:Str):mE (ps++[p])=mE ps++[.string ⟨p.toArray⟩]:=by simp [mE]
theorem Ib (l:Str) (i:Nat) (c:UInt8) (r:Str) (h:l.drop i=c::r):tW l i≤l.length∧i<tW l i∧(l.take (tW l i)).drop i=c::r.takeWhile lf∧l.drop (tW l i)=r.dropWhile lf:=by
 have hl:i<l.length:=by
  exact cR
 have h2:l.drop (i+1)=r:=by rw [←List.drop_drop,h];rfl
 have hsp:tW l i=i+1+(r.takeWhile lf).length:=by unfold tW;rw [h2]
 have hr:r.takeWhile lf++r.dropWhile lf=r:=Jq;have hle:=Jp List.length h2;rw [JU] at hle;have hle2:=Jp List.length hr;rw [JA] at hle2;refine⟨by omega,by omega,?_,?_⟩
 ·rw [hsp,List.drop_take,h,show i+1+(r.takeWhile lf).length-i=(r.takeWhile lf).length+1 by omega,List.take_succ_cons]
  congr 1
  conv=>lhs;rw [←hr]
  rw [List.take_append_of_le_length gU,List.take_of_length_le gU]
 ·rw [hsp,←List.drop_drop,h2]
  conv=>lhs;rw [←hr]
  rw [List.drop_append_of_le_length gU,List.drop_of_length_le gU,JV]
def SpRel (l:Str) (R:List Str) (w:World) (v q:Value) (wr:World):Prop :=
 ∃(i k:Nat) (ps:List Str),i≤l.length∧l.length-i≤k∧q=.int .i64 i∧Below w.heap.size w wr∧wr.ownsRow w.heap.size 9 1 v ps.length (mE ps)∧ps.length≤i∧Hid (ps++n8 k (l.drop i)=R)
theorem Ia (l:Str) (w:World) (hs:l.length≤1000000) :
  Calls Tryz.prog 115 #[.string ⟨l.toArray⟩] w fun e w'=>∃a c,e=.returned (.slice a (lA l).length c)∧SlS w' (fun b=>w.heap.size≤b) a 1 (lA l).length (mE (lA l))∧Below w.heap.size w w':=by
 obtain⟨R,hR⟩:∃R,lA l=R:=⟨_,rfl⟩;rw [hR];have HR:=ab hR;obtain⟨ir,hir⟩:=info_parts I5;clear hR;go_enter Tryz.func115,Tryz.ntmps115
 go_wp2
 go_loopw [3,4] (fun v q wr=>SpRel l R w v q wr) (fun _ q _=>l.length-(intOf q).toNat)
 case atStart=>exact⟨0,l.length,[],by omega,by omega,rfl,Below.refl _ _,World.ownsRow_nil _ _ _ _,by simp,HR⟩
 case round =>
  obtain⟨i,k,ps,hi,hk,rfl,hb,hown,hps,HF⟩:=hrel;have hB:=hb.size;clear HR;cases hd:l.drop i with
  | nil =>
   have h2:=ms hd;have HE:Hid (ps=R):=ab (by rw [←HF.out,hd];cases k<;>simp [n8]);obtain⟨va,vc,rfl⟩:=lD hown;have HOWN:=ab hown;clear hd HF hown;go_wp2
   go_ret
   exact⟨va,vc,by rw [HE.out];rfl,by rw [←HE.out];exact zo HOWN.out,hb⟩
  | cons c r =>
   obtain⟨h1,h2,h3,h4⟩:=Ib l i c r hd;obtain⟨k,rfl⟩:∃k',k=k'+1:=⟨k-1,by have:=Jp List.length hd;simp at this;omega⟩;have hil:i<l.length:=by have:=Jp List.length hd;simp at this;omega
   have HE:Hid ((ps++[c::r.takeWhile lf])++n8 k (l.drop (tW l i))=R):=ab (by rw [←HF.out,hd,h4];simp [n8]);generalize hp:c::r.takeWhile lf=p at *
   obtain⟨e,he⟩:∃e,tW l i=e:=⟨_,rfl⟩;rw [he] at h1 h2 h3 h4 HE;rw [List.drop_take] at h3;have HEN:=ab (he▸GJ l i wr gN gN:Calls Tryz.prog 103 #[.string ⟨l.toArray⟩,.int .i64 i] wr fun x w'=>x=.returned (.int .i64 (e:Int))∧wr=w');have hb1:Below wr.heap.size wr (wr.alloc (.cells #[.string ⟨p.toArray⟩] 9)):=(Below.refl _ _).alloc (Ju _) _;have HO1:=ab (lh hown hb1);have HSL:=ab (Sl.lit (n:=1) (sz:=1) (heap_alloc_new wr (.cells #[.string ⟨p.toArray⟩] 9)) rfl);have hz1:w.heap.size≤(wr.alloc (.cells #[.string ⟨p.toArray⟩] 9)).heap.size:=by rw [JO];omega
   have hbw1:=hb.alloc hB (.cells #[.string ⟨p.toArray⟩] 9);clear hd hp h4 he HF hown;go_wp2_with (first|(go_at_call 103;refine HEN.out.mono ?_;rintro x w1 ⟨rfl,rfl⟩)|(at_builtin;refine lJ w.heap.size 9 rfl _ _ 42 rfl Tryz.underlying42 hir rfl gR rfl HO1.out rfl HSL.out ii gN gN gR hz1 ?_))
   intro v1 w4 ho4 hg4 hb4 hmv;have hb4':=hbw1.trans hb4;have ho5:w4.ownsRow w.heap.size 9 1 v1 (ps++[p]).length (mE (ps++[p])):=by
    rw [sS,JA];exact ho4
   clear ho4 hg4 hmv;go_wp2
   go_roundw
   case rel=>exact⟨e,k,ps++[p],h1,by omega,rfl,hb4',ho5,by simp;omega,HE⟩
   case measure=>simp [intOf];omega
open Go.RowKit
def xo:Str→Bool
 | [b]=>decide (97≤b.toNat∧b.toNat≤122)||decide (65≤b.toNat∧b.toNat≤90)||decide (48≤b.toNat∧b.toNat≤57)||decide (b.toNat=95)
 | _=>false
theorem Word_any (c:Str) (w:World) (hs:c.length≤100000000):Calls Tryz.prog 147 #[.string ⟨c.toArray⟩] w fun e w'=>e=.returned (.bool (xo c))∧w=w':=by
 match c,hs with
 | [],_ =>
  go_enter Tryz.func147,Tryz.ntmps147
  exact dq
 | b::d::r,hs =>
  go_enter Tryz.func147,Tryz.ntmps147
  exact dq
 | [b],_ =>
  go_enter Tryz.func147,Tryz.ntmps147
  go_wp2
  all_goals (go_ret;refine⟨lM ?_,rfl⟩;simp only [xo];rw [Bool.eq_iff_iff];simp only [Js,Jj,Ji];first|omega|(simp;omega)|skip)
abbrev Res:=Except Int (Rx × List Str)
def rx0:Rx:=.mk 0 [] false [] 0 0 false []
def rxK (k:Int):Rx:=.mk k [] false [] 0 0 false []
def chrR (c:Str):Rx:=.mk 2 c false [] 0 0 false []
def setR (rows:List Row) (ng:Bool):Rx:=.mk 4 [] ng rows 0 0 false []
def grpR (k:Int) (x:Rx):Rx:=.mk k [] false [] 0 0 false [x]
def repR (lo hi:Int) (lz:Bool) (x:Rx):Rx:=.mk 7 [] false [] lo hi lz [x]
def mR (c:Str):Option Str :=
 if c=[] then none else if c=[110] then some [10] else if c=[114] then some [13] else if c=[116] then some [9] else if c=[102] then some [12] else if c=[118] then some [11]
 else if c=[95]∨xo c=false then some c else none
def nF (c:Str):Option (List Row):=match c with
 | [b]=>if oD b=true then some (mh b) else none
 | _=>none
def bigS (c:Str):Option (List Row):=if c=[68] then some (mh 100) else if c=[87] then some (mh 119) else if c=[83] then some (mh 115) else none
def escM:List Str→Res
 | []=>.error 10
 | c::r=>match nF c with
  | some rows=>.ok (setR rows false,r)
  | none=>match bigS c with
   | some rows=>.ok (setR rows true,r)
   | none=>match mR c with
    | none=>.error 10
    | some t=>.ok (chrR t,r)
def og:List Str→Option (Str × List Row × List Str)
 | []=>none
 | c::r=>if c=[93] then none else if c=[92] then(match r with
   | []=>none
   | c2::r2=>match nF c2 with
    | some rows=>some ([],rows,r2)
    | none=>match mR c2 with
     | none=>none
     | some t=>some (t,[],r2)) else some (c,[],r)
def lq (c:Str):List Str→Option (List Str)
 | []=>none
 | x::r=>if x=c then some r else none
def lV:Nat→List Row→List Str→Option (List Row × List Str)
 | 0,_,_=>none
 | n+1,rows,r=>match lq [93] r with
  | some r1=>some (rows,r1)
  | none=>match og r with
   | none=>none
   | some (c,nm,r1) =>
    if nm≠[] then lV n (rows++nm) r1
    else match lq [45] r1 with
     | none=>lV n (rows++[(c,c)]) r1
     | some r2=>if lq [93] r2=none then(match og r2 with
       | none=>none
       | some (t,nm2,r3)=>if nm2≠[]∨Op.bytesLess t c=true then none else lV n (rows++[(c,t)]) r3)
      else lV n (rows++[(c,c)]) r1
def mY (r:List Str):Res :=
 let ng:=(lq [94] r).isSome
 let r0:=(lq [94] r).getD r
 match lV (r0.length+1) [] r0 with
 | none=>.error 10
 | some (rows,r1)=>.ok (setR (nk rows) ng,r1)
def digS (c:Str):Option Nat:=match c with
 | [b]=>if 48≤b.toNat∧b.toNat≤57 then some (b.toNat-48) else none
 | _=>none
def numL:Nat→Nat→List Str→Option (Nat × List Str)
 | k,n,[]=>if 0<k∧n≤255 then some (n,[]) else none
 | k,n,c::r=>match digS c with
  | some d=>if k=3 then none else numL (k+1) (10*n+d) r
  | none=>if 0<k∧n≤255 then some (n,c::r) else none
def mM (r:List Str):Option (Int × Int × List Str):=match numL 0 0 r with
 | none=>none
 | some (lo,r1)=>match lq [125] r1 with
  | some r2=>some (lo,lo,r2)
  | none=>match lq [44] r1 with
   | none=>none
   | some r2=>match lq [125] r2 with
    | some r3=>some (lo,-1,r3)
    | none=>match numL 0 0 r2 with
     | none=>none
     | some (hi,r3)=>if lo≤hi then(match lq [125] r3 with
      | some r4=>some (lo,hi,r4)
      | none=>none) else none
def rg (x:Rx) (lo hi:Int) (r:List Str):Rx × List Str:=match lq [63] r with
 | some r1=>(repR lo hi true x,r1)
 | none=>(repR lo hi false x,r)
def ma (x:Rx):List Str→Res
 | []=>.ok (x,[])
 | c::r=>if c=[42] then .ok (rg x 0 (-1) r) else if c=[43] then .ok (rg x 1 (-1) r) else if c=[63] then .ok (rg x 0 1 r)
  else if c=[123] then(match mM r with
   | none=>.error 10
   | some (lo,hi,r1)=>.ok (rg x lo hi r1)) else .ok (x,c::r)
def nP (r:List Str):Option (Int × List Str):=match lq [63] r with
 | none=>some (5,r)
 | some r1=>match lq [58] r1 with
  | none=>none
  | some r2=>some (6,r2)
def mZ (pat:List Str→Nat→Res) (r:List Str) (d:Nat):Res :=
 if 16≤d then .error 8 else match nP r with
 | none=>.error 10
 | some (k,r0)=>match pat r0 (d+1) with
  | .error e=>.error e
  | .ok (x,r1)=>match lq [41] r1 with
   | none=>.error 10
   | some r2=>.ok (grpR k x,r2)
def qZ (c:Str):Bool:=decide (c=[42])||decide (c=[43])||decide (c=[63])||decide (c=[41])||decide (c=[123])||decide (c=[124])||decide (c=[94])||decide (c=[36])
def mj (pat:List Str→Nat→Res):List Str→Nat→Res
 | [],_=>.error 10
 | c::r,d=>if c=[46] then .ok (rxK 3,r) else if c=[40] then mZ pat r d else if c=[91] then mY r else if c=[92] then escM r
  else if qZ c=true then .error 10 else .ok (chrR c,r)
def ni (r:List Str):Option (Rx × List Str):=match r with
 | []=>none
 | c::r1=>if c=[94] then some (rxK 8,r1) else if c=[36] then some (rxK 9,r1) else if c=[92] then(match lq [98] r1 with
  | some r2=>some (rxK 10,r2)
  | none=>match lq [66] r1 with
   | some r2=>some (rxK 11,r2)
   | none=>none) else none
def lZ (pat:List Str→Nat→Res) (r:List Str) (d:Nat):Res:=match ni r with
 | some y=>.ok y
 | none=>match mj pat r d with
  | .error e=>.error e
  | .ok (x,r1)=>ma x r1
def patL (trm:List Str→Res):Nat→List Rx→List Rx→List Str→Res
 | 0,_,_,_=>.error 1
 | n+1,alts,terms,r=>match r with
  | []=>.ok (altR (alts++[seqR terms]),[])
  | c::r1=>if c=[41] then .ok (altR (alts++[seqR terms]),c::r1) else if c=[124] then patL trm n (alts++[seqR terms]) [] r1
   else match trm (c::r1) with
    | .error e=>.error e
    | .ok (x,r2)=>patL trm n alts (terms++[x]) r2
def patF:Nat→List Str→Nat→Res
 | 0,_,_=>.error 1
 | n+1,r,d=>patL (fun r=>lZ (patF n) r d) (r.length+1) [] [] r
def uq (l:List Str):Except Int Rx:=match patF (l.length+1) l 0 with
 | .error e=>.error e
 | .ok (x,[])=>.ok x
 | .ok (_,_::_)=>.error 10
def qU (s:Str):Except Int Rx :=
 if 256<s.length then .error 4 else match lA s with
 | []=>uq []
 | c::r=>if l5 c=true then uq (c::r) else .error 10
structure Tf where
 rx:Rx
 fs:List Fm
 fold:Bool
 all:Bool
def tf0:Tf:=⟨rx0,[],false,false⟩
inductive Sn where
 | mk (kind:Int) (text:Str) (n:Int) (has turned:Bool) (form:Tf) (opts:List Str) (kids:List Sn)
namespace Sn
def kind:Sn→Int|mk k _ _ _ _ _ _ _=>k
def text:Sn→Str|mk _ t _ _ _ _ _ _=>t
def n:Sn→Int|mk _ _ n _ _ _ _ _=>n
def has:Sn→Bool|mk _ _ _ h _ _ _ _=>h
def turned:Sn→Bool|mk _ _ _ _ t _ _ _=>t
def form:Sn→Tf|mk _ _ _ _ _ f _ _=>f
def opts:Sn→List Str|mk _ _ _ _ _ _ o _=>o
def kids:Sn→List Sn|mk _ _ _ _ _ _ _ k=>k
mutual
def parts:Sn→Nat
 | mk _ _ _ _ _ _ _ ks=>1+partsL ks
def partsL:List Sn→Nat
 | []=>0
 | x::r=>parts x+partsL r
end
mutual
def deep:Sn→Nat
 | mk _ _ _ h _ _ _ ks=>deepL ks+(if h then 1 else 0)
def deepL:List Sn→Nat
 | []=>0
 | x::r=>max (deep x) (deepL r)
end
theorem parts_pos:∀x:Sn,1≤parts x
 | mk _ _ _ _ _ _ _ ks=>by simp only [parts];omega
theorem parts_mem:∀{ks:List Sn} {x:Sn},x∈ks→parts x≤partsL ks
 | [],_,h=>by simp at h
 | y::r,x,h=>by
  exact eL
theorem len_parts:∀ks:List Sn,ks.length≤partsL ks
 | []=>by simp
 | x::r=>by have:=parts_pos x;have:=len_parts r;simp only [partsL,Jr];omega
theorem partsL_app:∀a b:List Sn,partsL (a++b)=partsL a+partsL b
 | [],b=>by simp [partsL]
 | x::a,b=>by simp only [JW,partsL,partsL_app a b];omega
theorem deepL_app:∀a b:List Sn,deepL (a++b)=max (deepL a) (deepL b)
 | [],b=>by simp [deepL]
 | x::a,b=>by simp only [JW,deepL,deepL_app a b];omega
end Sn
def pM (t:Str):Sn:=.mk 0 t 0 false false tf0 [] []
def no (n:Nat):Sn:=.mk 1 [] n false false tf0 [] []
def varS (t:Str):Sn:=.mk 3 t 0 false false tf0 [] []
def Sn.give:Sn→List Sn→Sn|.mk k t n _ u f o _,ks=>.mk k t n true u f o ks
def Sn.turn:Sn→Tf→Sn|.mk k t n h _ _ o ks,f=>.mk k t n h true f o ks
def Sn.choose:Sn→List Str→Sn|.mk _ t n h u f _ ks,o=>.mk 2 t n h u f o ks
def ny (c:UInt8):Bool:=decide (97≤c.toNat∧c.toNat≤122)||decide (65≤c.toNat∧c.toNat≤90)||decide (48≤c.toNat∧c.toNat≤57)||decide (c.toNat=95)
def oR:Str→Bool
 | []=>false
 | c::r=>decide ((c::r).length≤64)&&(c::r).all ny&&decide (57<c.toNat)
def three:Str:=[36,125,92]
def fiveS:Str:=[36,125,92,44,124]
def nxtM (these:Str):Str→UInt8 × Str
 | []=>(0,[])
 | [c]=>(c,[])
 | c::d::r=>if c.toNat=92∧these.contains d=true then(d,r) else(c,d::r)
theorem nU (these:Str) (c:UInt8) (r:Str):(nxtM these (c::r)).2.length≤r.length:=by
 cases r with
 | nil=>simp [nxtM]
 | cons d r=>simp only [nxtM];split<;>simp
def rxSp:Str→Str→Str × Str
 | [],a=>(a,[])
 | [c],a=>if c.toNat=47 then(a,[c]) else(a++[c],[])
 | c::d::r,a=>if c.toNat=47 then(a,c::d::r) else if c.toNat=92 then rxSp r (if d.toNat=47 then a++[d] else a++[92,d]) else rxSp (d::r) (a++[c])
def uB (fl:Str):Option (Bool × Bool) :=
 if fl=[] then some (false,false) else if fl=[103] then some (true,false) else if fl=[105] then some (false,true) else if fl=[103,105]∨fl=[105,103] then some (true,true) else none
def tC (x:Rx) (fs:List Fm) (r:Str):Option (Tf × Str):=match r.dropWhile mV with
 | []=>none
 | _::r2=>match uB (r.takeWhile mV) with
  | none=>none
  | some (a,f)=>some (⟨x,fs,f,a⟩,r2)
def oq:Str→Option (Tf × Str)
 | []=>none
 | c::r=>if c.toNat=47 then(match (rxSp r []).2 with
  | []=>none
  | _::r3=>match qU (rxSp r []).1 with
   | .error _=>none
   | .ok x=>match oB r3 [] [] with
    | none=>none
    | some (_,[])=>none
    | some (fs,_::r5)=>tC x fs r5) else none
def tS (r:Str):Option (Sn × Str):=if oR (r.takeWhile ny)=true then some (varS (r.takeWhile ny),r.dropWhile ny) else none
def nD (r:Str):Option (Sn × Str):=match oC r with
 | some (n,r2)=>some (no n,r2)
 | none=>tS r
def optL:Str→List Str→Str→List Str × Str
 | [],o,t=>(o++[t],[])
 | [c],o,t=>if c.toNat=124 then(o++[t],[c]) else if c.toNat=44 then(o++[t]++[[]],[]) else(o++[t++[c]],[])
 | c::d::r,o,t=>if c.toNat=124 then(o++[t],c::d::r) else if c.toNat=44 then optL (d::r) (o++[t]) []
  else if c.toNat=92∧fiveS.contains d=true then optL r o (t++[d]) else optL (d::r) o (t++[c])
def re (x:Sn) (r:Str):Option (Sn × Str):=match (optL r [] []).2 with
 | c::d::r2=>if c.toNat=124∧d.toNat=125 then some (x.choose (optL r [] []).1,r2) else none
 | _=>none
def lE (ps:Str→List Sn × Str) (x:Sn) (r:Str):Option (Sn × Str):=match r with
 | []=>none
 | c::r1=>if c.toNat=125 then some (x,r1)
  else if c.toNat=58 then(match (ps r1).2 with|[]=>none|_::r2=>some (x.give (ps r1).1,r2))
  else if c.toNat=124∧x.kind=1 then re x r1
  else match oq (c::r1) with|none=>none|some (f,r2)=>some (x.turn f,r2)
def oO (ps:Str→List Sn × Str) (r:Str):Option (Sn × Str):=match r with
 | []=>none
 | c::r1=>if c.toNat=123 then(match nD r1 with|none=>none|some (x,r2)=>lE ps x r2) else nD (c::r1)
def lO (l:List Sn) (t:Str):List Sn:=if t=[] then l else l++[pM t]
def dolM (pt:Str→Option (Sn × Str)) (c:UInt8) (r:Str):Option (Sn × Str):=if c.toNat=36 then pt r else none
def pI (pt:Str→Option (Sn × Str)) (inside:Bool):Nat→List Sn→Str→Str→List Sn × Str
 | 0,out,text,r=>(lO out text,r)
 | _+1,out,text,[]=>(lO out text,[])
 | k+1,out,text,c::r=>if inside=true∧c.toNat=125 then(lO out text,c::r)
  else match dolM pt c r with
  | some (x,r2)=>pI pt inside k (lO out text++[x]) [] r2
  | none=>pI pt inside k out (text++[(nxtM three (c::r)).1]) (nxtM three (c::r)).2
def Ae:Nat→Str→Option (Sn × Str)
 | 0,_=>none
 | n+1,r=>oO (fun r=>pI (Ae n) true (r.length+1) [] [] r) r
def nn (r:Str):List Sn:=(pI (Ae (r.length+1)) false (r.length+1) [] [] r).1
def pz (s:Str):Except Int (List Sn):=if 8192<s.length then .error 4 else if 32<Sn.deepL (nn s) then .error 8 else .ok (nn s)
theorem GV {r:Str} {x:Sn} {s:Str} (h:tS r=some (x,s)):s.length<r.length:=by
 unfold tS at h;split at h
 ·rename_i hb
  injection h with h;injection h with _ h;subst h
  have h1:=Jp List.length (Jq (p:=ny) (l:=r));rw [JA] at h1;cases hn:r.takeWhile ny with
  | nil=>rw [hn] at hb;cases hb
  | cons a b=>rw [hn] at h1;simp at h1;omega
 ·cases h
theorem mD {r:Str} {x:Sn} {s:Str} (h:nD r=some (x,s)):s.length<r.length:=by
 unfold nD at h;split at h
 ·rename_i heq
  injection h with h;injection h with _ h;subst h;exact vl heq
 ·exact GV h
theorem yK:∀(r a:Str),(rxSp r a).2.length≤r.length
 | [],a=>by simp [rxSp]
 | [c],a=>by simp only [rxSp];split<;>simp
 | c::d::r,a=>by
  simp only [rxSp];split
  ·simp
  ·split
   ·have:=yK r (if d.toNat=47 then a++[d] else a++[92,d]);simp;omega
   ·have:=yK (d::r) (a++[c]);simp at this ⊢;omega
theorem pD:∀(k:Nat) (r tx:Str) (fs:List Fm) {gs:List Fm} {s:Str},pE k r tx fs=some (gs,s)→s.length≤r.length∧∃c s',s=c::s'∧c.toNat=47
 | 0,_,_,_,_,_,h=>by cases h
 | _+1,[],_,_,_,_,h=>by cases h
 | k+1,c::r,tx,fs,gs,s,h=>by
  simp only [pE] at h;split at h
  ·rename_i hc
   injection h with h;injection h with _ h;subst h;exact⟨Ju _,_,_,rfl,hc⟩
  ·split at h
   ·split at h
    ·rename_i p hp
     obtain⟨f,s'⟩:=p;have h1:=rD hp;obtain⟨h2,h3⟩:=pD k _ _ _ h;exact⟨by simp at *;omega,h3⟩
    ·obtain⟨h2,h3⟩:=pD k _ _ _ h
     exact⟨by simp;omega,h3⟩
   ·split at h
    ·obtain⟨h2,h3⟩:=pD k _ _ _ h
     exact⟨by simp at h2 ⊢;omega,h3⟩
    ·obtain⟨h2,h3⟩:=pD k _ _ _ h
     exact⟨by simp;omega,h3⟩
theorem Bp {x:Rx} {fs:List Fm} {r:Str} {f:Tf} {s:Str} (h:tC x fs r=some (f,s)):s.length<r.length:=by
 unfold tC at h;have h1:=Jp List.length (Jq (p:=mV) (l:=r));rw [JA] at h1;split at h
 ·cases h
 ·rename_i heq
  rw [heq] at h1;simp at h1;split at h
  ·cases h
  ·injection h with h;injection h with _ h;subst h;omega
theorem vK {r:Str} {f:Tf} {s:Str} (h:oq r=some (f,s)):s.length<r.length:=by
 cases r with
 | nil=>cases h
 | cons c r =>
  simp only [oq] at h;exact cq
theorem vd:∀(r:Str) (o:List Str) (t:Str),(optL r o t).2.length≤r.length
 | [],o,t=>by simp [optL]
 | [c],o,t=>by simp only [optL];split<;>(try split)<;>simp
 | c::d::r,o,t=>by
  simp only [optL];split
  ·simp
  ·split
   ·have:=vd (d::r) (o++[t]) [];simp at this ⊢;omega
   ·split
    ·have:=vd r o (t++[d]);simp;omega
    ·have:=vd (d::r) o (t++[c]);simp at this ⊢;omega
theorem tD {x:Sn} {r:Str} {y:Sn} {s:Str} (h:re x r=some (y,s)):s.length<r.length:=by
 have h1:=vd r [] [];unfold re at h;split at h
 ·rename_i heq
  rw [heq] at h1;split at h
  ·injection h with h;injection h with _ h;subst h;simp at h1;omega
  ·cases h
 ·cases h
theorem Cw {ps:Str→List Sn × Str} {x y:Sn} {r s:Str} (hps:∀t,t.length<r.length→(ps t).2.length≤t.length) (h:lE ps x r=some (y,s)):s.length<r.length:=by
 cases r with
 | nil=>cases h
 | cons c r =>
  simp only [lE] at h;split at h
  ·injection h with h;injection h with _ h;subst h;simp
  ·split at h
   ·exact gH
   ·split at h
    ·have:=tD h;simp;omega
    ·split at h
     ·cases h
     ·rename_i heq
      have:=vK heq
      exact d9
theorem Fv {ps:Str→List Sn × Str} {y:Sn} {r s:Str} (hps:∀t,t.length<r.length→(ps t).2.length≤t.length) (h:oO ps r=some (y,s)):s.length<r.length:=by
 cases r with
 | nil=>cases h
 | cons c r =>
  simp only [oO] at h;split at h
  ·split at h
   ·cases h
   ·rename_i heq
    have h1:=mD heq;have h2:=Cw (fun t ht=>hps t gV) h;simp;omega
  ·exact mD h
theorem su {pt:Str→Option (Sn × Str)} {ins:Bool}:∀(k:Nat) (out:List Sn) (text r:Str),(∀t x s,t.length<r.length→pt t=some (x,s)→s.length<t.length)→(pI pt ins k out text r).2.length≤r.length
 | 0,out,text,r,_=>Ju _
 | _+1,out,text,[],_=>Ju _
 | k+1,out,text,c::r,hpt=>by
  simp only [pI];split
  ·simp
  ·split
   ·rename_i x r2 heq
    have hl:r2.length<r.length:=by
     unfold dolM at heq;split at heq
     ·exact hpt r x r2 gU heq
     ·cases heq
    have:=su (ins:=ins) k (lO out text++[x]) [] r2 (fun t x s ht=>hpt t x s gV)
    simp;omega
   ·have hl:=nU three c r
    have:=su (ins:=ins) k out (text++[(nxtM three (c::r)).1]) (nxtM three (c::r)).2 (fun t x s ht=>hpt t x s gV)
    simp;omega
theorem rz:∀(n:Nat) (r:Str) {x:Sn} {s:Str},Ae n r=some (x,s)→s.length<r.length
 | 0,r,x,s,h=>by cases h
 | n+1,r,x,s,h=>Fv (fun t _=>su _ _ _ _ fun t x s _ ht=>rz n t ht) h
theorem Ab {ps qs:Str→List Sn × Str} (x:Sn) {r:Str} (h:∀t,t.length<r.length→ps t=qs t):lE ps x r=lE qs x r:=by
 cases r with
 | nil=>rfl
 | cons c r=>simp only [lE,h r gU]
theorem uF {ps qs:Str→List Sn × Str} {r:Str} (h:∀t,t.length<r.length→ps t=qs t):oO ps r=oO qs r:=by
 cases r with
 | nil=>rfl
 | cons c r =>
  simp only [oO];split
  ·split
   ·rfl
   ·rename_i heq
    have:=mD heq
    exact Ab _ fun t ht=>h t gV
  ·rfl
theorem mS {pt qt:Str→Option (Sn × Str)} {ins:Bool}:∀(k k':Nat) (out:List Sn) (text r:Str),r.length<k→r.length<k'→(∀t,t.length<r.length→pt t=qt t)→(∀t x s,t.length<r.length→pt t=some (x,s)→s.length<t.length) →
  pI pt ins k out text r=pI qt ins k' out text r
 | 0,_,_,_,_,h,_,_,_=>by omega
 | _+1,0,_,_,_,_,h,_,_=>by omega
 | _+1,_+1,out,text,[],_,_,_,_=>rfl
 | k+1,k'+1,out,text,c::r,h,h',heq,hl=>by
  simp only [Jr] at h h' heq hl;have e:dolM pt c r=dolM qt c r:=by unfold dolM;rw [heq r gN]
  simp only [pI];rw [←e];split
  ·rfl
  ·split
   ·rename_i x r2 he
    have hr:r2.length<r.length:=by
     unfold dolM at he;split at he
     ·exact hl r x r2 gU he
     ·cases he
    exact dR
   ·have hr:=nU three c r
    exact dR
theorem ud:∀(N:Nat) (n n':Nat) (r:Str),r.length≤N→r.length<n→r.length<n'→Ae n r=Ae n' r
 | N,0,_,_,_,h,_=>by omega
 | N,_+1,0,_,_,_,h=>by omega
 | 0,n+1,n'+1,r,hN,h,h'=>by
  have:r=[]:=Jm gN
  subst this;rfl
 | N+1,n+1,n'+1,r,hN,h,h'=>by
  simp only [Ae];refine uF fun t ht=>?_
  exact mS _ _ _ _ _ gN gN (fun t2 ht2=>ud N n n' t2 gN gN gN) (fun t2 x s _ h2=>rz n t2 h2)
def l7 (r:Str):Option (Sn × Str):=Ae (r.length+1) r
def lu (ins:Bool) (out:List Sn) (text r:Str):List Sn × Str:=pI l7 ins (r.length+1) out text r
theorem nR {r:Str} {x:Sn} {s:Str} (h:l7 r=some (x,s)):s.length<r.length:=rz _ r h
theorem oL (r:Str):l7 r=oO (lu true [] []) r:=by
 unfold l7;simp only [Ae];refine uF fun t ht=>?_
 exact mS _ _ _ _ _ gN gN (fun t2 ht2=>ud r.length _ _ t2 gN gN gN) (fun t2 x s _ h2=>rz _ t2 h2)
theorem me (ins:Bool) (out:List Sn) (text:Str):lu ins out text []=(lO out text,[]):=rfl
theorem l6 (ins:Bool) (out:List Sn) (text:Str) (c:UInt8) (r:Str):lu ins out text (c::r) =
  if ins=true∧c.toNat=125 then(lO out text,c::r)
  else match dolM l7 c r with
  | some (x,r2)=>lu ins (lO out text++[x]) [] r2
  | none=>lu ins out (text++[(nxtM three (c::r)).1]) (nxtM three (c::r)).2:=by
 unfold lu;have e:(c::r).length=r.length+1:=rfl;rw [e];simp only [pI];by_cases hc:ins=true∧c.toNat=125
 ·rw [Jl hc,Jl hc]
 ·rw [Jo hc,Jo hc]
  cases he:dolM l7 c r with
  | some y =>
   obtain⟨x,r2⟩:=y;simp only
   have hr:r2.length<r.length:=by
    unfold dolM at he;split at he
    ·exact nR he
    ·cases he
   exact eC
  | none =>
   simp only
   have hr:=nU three c r;exact eC
theorem oz (r:Str):nn r=(lu false [] [] r).1:=by
 unfold nn lu;exact Jp Prod.fst (mS _ _ _ _ _ gN gN (fun t ht=>ud r.length _ _ t gN gN gN) (fun t x s _ h=>rz _ t h))
open Go.RowKit
def RdT (T:TypeId) (x:List Value) (w:World) (g:Nat) (r:List Str):Prop :=
 ∃(a:Option Addr) (c:Nat) (l:List Str) (i:Nat),w.heap[g]?=some (.cells (.slice a l.length c::.int .i64 i::x).toArray T (0,0))∧SlS w (fun b=>b<g) a 1 l.length (mE l)∧l.length≤200000∧i≤l.length ∧
  (∀p∈l,p≠[]∧p.length≤1000000)∧l.drop i=r
def hdS:List Str→Str|[]=>[]|c::_=>c
theorem RdT.cells {T:TypeId} {x:List Value} {w:World} {g:Nat} {r:List Str} (h:RdT T x w g r):∃a c l i,w.cell? ⟨g,0,none⟩=some (.slice a (l:List Str).length c)∧w.cell? ⟨g,1,none⟩=some (.int .i64 (i:Nat)) ∧
  (∀j,j<2+x.length→w.frozen? ⟨g,j,none⟩=false)∧SlS w (fun b=>b<g) a 1 l.length (mE l)∧l.length≤200000∧i≤l.length∧(∀p∈l,p≠[]∧p.length≤1000000)∧l.drop i=r∧g<w.heap.size:=by
 obtain⟨a,c,l,i,h1,h2,h3,h4,h5,h6⟩:=h;refine⟨a,c,l,i,?_,?_,?_,h2,h3,h4,h5,h6,kT h1⟩
 ·rw [Jw h1];rfl
 ·rw [Jw h1];rfl
 ·intro j hj;unfold World.frozen?;rw [h1];rfl
theorem RdT.cell2 {T:TypeId} {u:Value} {w:World} {g:Nat} {r:List Str} (h:RdT T [u] w g r):w.cell? ⟨g,2,none⟩=some u:=by
 obtain⟨a,c,l,i,h1,_⟩:=h;rw [Jw h1];rfl
theorem RdT.lt {T:TypeId} {x:List Value} {w:World} {g:Nat} {r:List Str} (h:RdT T x w g r):g<w.heap.size:=by
 obtain⟨a,c,l,i,h1,_⟩:=h;exact kT h1
def Still (w w':World):Prop:=w'.heap=w.heap∧w'.os=w.os∧w'.tape=w.tape∧w'.output=w.output
theorem Still.drewN (w:World) (n:Nat):Still w (w.drewN n):=⟨rfl,rfl,rfl,rfl⟩
theorem Still.trans {a b c:World} (h1:Still a b) (h2:Still b c):Still a c:=⟨h2.1.trans h1.1,h2.2.1.trans h1.2.1,h2.2.2.1.trans h1.2.2.1,h2.2.2.2.trans h1.2.2.2⟩
theorem Still.below {w w':World} (h:Still w w') (B:Nat):Below B w w':=⟨h.2.1,h.2.2.1,h.2.2.2,by rw [h.1];exact Ju _,fun _ _=>by rw [h.1]⟩
theorem Still.size {w w':World} (h:Still w w'):w'.heap.size=w.heap.size:=by rw [h.1]
theorem Still.grown {w w':World} (h:Still w w') (g:Option Nat):w.grownBy w' g:=⟨h.2.1,h.2.2.1,h.2.2.2,by rw [h.1];exact Ju _,fun _ _ _=>by rw [h.1]⟩
theorem RdT.later {T:TypeId} {x:List Value} {w w':World} {g:Nat} {r:List Str} (hr:RdT T x w g r) (h:Below w.heap.size w w'):RdT T x w' g r:=by
 obtain⟨a,c,l,i,h1,h2,h3⟩:=hr;exact⟨a,c,l,i,(h.block g (kT h1)).trans h1,h2.keep ⟨h.size,fun b _ hlt=>h.block b hlt⟩,h3⟩
theorem Still.rd {T:TypeId} {x:List Value} {w w':World} (h:Still w w') {g:Nat} {r:List Str} (hr:RdT T x w g r):RdT T x w' g r:=hr.later (h.below _)
abbrev Rd (w:World) (g:Nat) (r:List Str) (d:Nat):Prop:=RdT 164 [.int .i64 d] w g r
theorem xW {α:Type} {l:List α} {i:Nat} (h:l.drop i=[]):l.length≤i:=by simpa using h
theorem RdT.pos {T:TypeId} {x:List Value} {w:World} {g:Nat} {c:Str} {r:List Str} (h:RdT T x w g (c::r)):c≠[]∧c.length≤1000000:=by
 obtain⟨a,k,l,i,_,_,_,_,h5,h6⟩:=h;have:=(lC h6).2.1
 exact h5 c (JH this)
theorem l8 {T:TypeId} {x:List Value} {g:Nat} {r:List Str} (w:World) (h:RdT T x w g r) :
  Calls Tryz.prog 117 #[.pointer (some ⟨g,0,none⟩)] w fun e w'=>e=.returned (.string ⟨(hdS r).toArray⟩)∧Still w w':=by
 obtain⟨a,c,l,i,c0,c1,hf,hs,hl,hi,hp,hd,hg⟩:=h.cells;clear h hf;cases r with
 | nil =>
  have h2:l.length≤i:=xW hd;show Calls Tryz.prog 117 #[.pointer (some ⟨g,0,none⟩)] w fun e w'=>e=.returned (.string ⟨(([]:Str)).toArray⟩)∧Still w w'
  clear hd hs;go_enter Tryz.func117,Tryz.ntmps117
  go_wp2
  go_quiet (fail)
  go_wp2
  go_ret
  exact⟨rfl,Still.drewN _ _⟩
 | cons p r =>
  obtain⟨h2,hx,_⟩:=lC hd;obtain⟨b,o,rfl,hb,k0⟩:=hs.sl.str hx;show Calls Tryz.prog 117 #[.pointer (some ⟨g,0,none⟩)] w fun e w'=>e=.returned (.string ⟨p.toArray⟩)∧Still w w'
  clear hx hs hd;go_enter Tryz.func117,Tryz.ntmps117
  go_wp2
  go_quiet (fail)
  go_wp2
  obtain⟨w1,hw1⟩:∃w1,w1=w.drewN nq:=⟨_,rfl⟩;have hbq:Below w.heap.size w w1:=by rw [hw1];exact below_drewN (Below.refl _ _) _
  rw [←hw1];have e0:=lP hbq _ _ c0;have e1:=lP hbq _ _ c1;have e2:=lP hbq _ _ k0;have HW:=ab hw1;clear c0 c1 k0 hw1;go_quiet (fail)
  go_wp2
  go_ret
  refine⟨rfl,?_⟩;rw [HW.out];exact(Still.drewN _ _).trans (Still.drewN _ _)
open Go.RowKit
theorem Ca {w:World} {g:Nat} {y z u:Value} {x:List Value} {t:TypeId} (h:w.heap[g]?=some (.cells (y::z::x).toArray t (0,0))):(w.setCell ⟨g,1,none⟩ u).heap[g]?=some (.cells (y::u::x).toArray t (0,0)):=by
 simp [World.setCell,Array.getElem?_modify,h]
theorem RdT.setAt {T:TypeId} {x:List Value} {w:World} {g:Nat} {r r':List Str} {a:Option Addr} {c:Nat} {l:List Str} (h:RdT T x w g r)
  (h0:w.cell? ⟨g,0,none⟩=some (.slice a l.length c)) (h2:SlS w (fun b=>b<g) a 1 l.length (mE l)) (h3:l.length≤200000) (h5:∀p∈l,p≠[]∧p.length≤1000000) (j:Nat) (hj:j≤l.length) (hd:l.drop j=r') :
  RdT T x (w.setCell ⟨g,1,none⟩ (.int .i64 j)) g r':=by
 obtain⟨a',c',l',i',h1,_⟩:=h;rw [Jw h1] at h0;have e:(Value.slice a' l'.length c')=.slice a l.length c:=by simpa using h0
 rw [e] at h1;exact⟨a,c,l,j,Ca h1,h2.keep (Kept.setLow _ fun b hb=>Nat.ne_of_lt hb),h3,hj,h5,hd⟩
theorem s6 {l r:List Str} {i:Nat} {c:Str} (h:l.drop i=c::r):i+1≤l.length∧l.drop (i+1)=r:=⟨(lC h).1,(lC h).2.2⟩
theorem RdT.step {T:TypeId} {x:List Value} {w:World} {g:Nat} {c:Str} {r:List Str} (h:RdT T x w g (c::r)):∃i:Nat,i<1000000∧w.cell? ⟨g,1,none⟩=some (.int .i64 i)∧w.frozen? ⟨g,1,none⟩=false∧RdT T x (w.setCell ⟨g,1,none⟩ (.int .i64 ((i:Int)+1))) g r:=by
 obtain⟨a,k,l,i,c0,c1,hf,hs,hl,hi,hp,hd,hg⟩:=h.cells;obtain⟨h1,h2⟩:=s6 hd;exact⟨i,by omega,c1,hf 1 gN,h.setAt (l:=l) c0 hs hl hp (i+1) h1 h2⟩
theorem RdT.step2 {T:TypeId} {x:List Value} {w:World} {g:Nat} {c c2:Str} {r:List Str} (h:RdT T x w g (c::c2::r)):∃i:Nat,i<1000000∧w.cell? ⟨g,1,none⟩=some (.int .i64 i)∧w.frozen? ⟨g,1,none⟩=false∧RdT T x (w.setCell ⟨g,1,none⟩ (.int .i64 ((i:Int)+2))) g r:=by
 obtain⟨a,k,l,i,c0,c1,hf,hs,hl,hi,hp,hd,hg⟩:=h.cells;obtain⟨h1,h2⟩:=s6 hd;obtain⟨h3,h4⟩:=s6 h2;exact⟨i,by omega,c1,hf 1 gN,h.setAt (l:=l) c0 hs hl hp (i+2) h3 h4⟩
theorem CY {w w1 w2:World} {g:Option Nat} (h1:Still w w1) (h2:w1.grownBy w2 g):w.grownBy w2 g:=kR (h1.grown g) h2
theorem take_yes {T:TypeId} {x:List Value} {g:Nat} {r:List Str} (c:Str) (w:World) (h:RdT T x w g (c::r)) :
  Calls Tryz.prog 137 #[.pointer (some ⟨g,0,none⟩),.string ⟨c.toArray⟩] w fun e w'=>e=.returned (.bool true)∧RdT T x w' g r∧w.grownBy w' (some g):=by
 have HS:=ab (l8 w h);have HR:=ab h;clear h;go_enter Tryz.func137,Tryz.ntmps137
 exact cy
theorem take_no {T:TypeId} {x:List Value} {g:Nat} {r:List Str} (c:Str) (w:World) (h:RdT T x w g r) (hc:lq c r=none) (hc0:c≠[]) :
  Calls Tryz.prog 137 #[.pointer (some ⟨g,0,none⟩),.string ⟨c.toArray⟩] w fun e w'=>e=.returned (.bool false)∧Still w w':=by
 have HS:=ab (l8 w h);obtain⟨u,hu⟩:∃u,hdS r=u:=⟨_,rfl⟩;have hne:u≠c:=by
  rw [←hu];cases r with
  | nil=>exact fun e=>hc0 e.symm
  | cons p r=>intro e;simp only [hdS] at e;rw [lq,Jl e] at hc;cases hc
 have h1:(u==c)=false:=JP.2 hne;have h2:(u != c)=true:=by simp [bne,h1]
 rw [hu] at HS;clear h hc hc0 hu;go_enter Tryz.func137,Tryz.ntmps137
 go_wp2_with (go_at_call 117;refine HS.out.mono ?_)
 rintro e w1 ⟨rfl,hst⟩;go_wp2
 go_ret
 exact⟨rfl,hst⟩
theorem next_nil {T:TypeId} {x:List Value} {g:Nat} (w:World) (h:RdT T x w g []) :
  Calls Tryz.prog 132 #[.pointer (some ⟨g,0,none⟩)] w fun e w'=>e=.returned (.string ⟨(([]:Str)).toArray⟩)∧Still w w':=by
 have HS:=ab (l8 w h);clear h;go_enter Tryz.func132,Tryz.ntmps132
 go_wp2_with (go_at_call 117;refine HS.out.mono ?_)
 rintro e w1 ⟨rfl,hst⟩;unfold hdS;go_wp2
 go_ret
 exact⟨rfl,hst⟩
theorem lS {T:TypeId} {x:List Value} {g:Nat} {c:Str} {r:List Str} (w:World) (h:RdT T x w g (c::r)) :
  Calls Tryz.prog 132 #[.pointer (some ⟨g,0,none⟩)] w fun e w'=>e=.returned (.string ⟨c.toArray⟩)∧RdT T x w' g r∧w.grownBy w' (some g):=by
 have HS:=ab (l8 w h);have hc:=h.pos.1;have HR:=ab h;cases c with
 | nil=>exact absurd rfl hc
 | cons b c =>
  clear h hc;go_enter Tryz.func132,Tryz.ntmps132
  exact cy
end Go.Proofs.YtdcnncgpomcaaaaGreatDoor
