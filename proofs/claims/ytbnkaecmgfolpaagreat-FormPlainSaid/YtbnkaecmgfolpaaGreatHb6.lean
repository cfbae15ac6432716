/- walk of char.Split · walk of char.Word -/
import Derived.Test.YtbnkaecmgfolpaaGreatHb5
set_option maxRecDepth 100000
set_option maxHeartbeats 4000000
namespace Go.Proofs.YtbnkaecmgfolpaaGreat
open Go.RowKit
def jH:Nat→Str→List Str
 | 0,_=>[]
 | _,[]=>[]
 | k+1,c::r=>(c::r.takeWhile iU)::jH k (r.dropWhile iU)
def iP (l:Str):List Str:=jH l.length l
theorem tu:(Tryz.prog.info? 9).map (fun i=>(i.zero,i.size,i.bytes))=some (some (.string ⟨#[]⟩),1,16):=by kernel_rfl
theorem qx (ps:List Str) (p:Str):j7 (ps++[p])=j7 ps++[.string ⟨p.toArray⟩]:=by simp [j7]
theorem sW (l:Str) (i:Nat) (c:UInt8) (r:Str) (h:l.drop i=c::r):mj l i≤l.length∧i<mj l i∧(l.take (mj l i)).drop i=c::r.takeWhile iU∧l.drop (mj l i)=r.dropWhile iU:=by
 have hl:i<l.length:=by
  exact cC
 have h2:l.drop (i+1)=r:=by rw [←List.drop_drop,h];rfl
 have hsp:mj l i=i+1+(r.takeWhile iU).length:=by unfold mj;rw [h2]
 have hr:r.takeWhile iU++r.dropWhile iU=r:=Ae;have hle:=Ad List.length h2;rw [Aw] at hle;have hle2:=Ad List.length hr;rw [zX] at hle2;refine⟨by omega,by omega,?_,?_⟩
 ·rw [hsp,List.drop_take,h,show i+1+(r.takeWhile iU).length-i=(r.takeWhile iU).length+1 by omega,List.take_succ_cons]
  congr 1
  conv=>lhs;rw [←hr]
  rw [List.take_append_of_le_length fq,List.take_of_length_le fq]
 ·rw [hsp,←List.drop_drop,h2]
  conv=>lhs;rw [←hr]
  rw [List.drop_append_of_le_length fq,List.drop_of_length_le fq,Ax]
def SpRel (l:Str) (R:List Str) (w:World) (v q:Value) (wr:World):Prop :=
 ∃(i k:Nat) (ps:List Str),i≤l.length∧l.length-i≤k∧q=.int .i64 i∧Below w.heap.size w wr∧wr.ownsRow w.heap.size 9 1 v ps.length (j7 ps)∧ps.length≤i∧Hid (ps++jH k (l.drop i)=R)
theorem lT (l:Str) (w:World) (hs:l.length≤1000000) :
  Calls Tryz.prog 19 #[.string ⟨l.toArray⟩] w fun e w'=>∃a c,e=.returned (.slice a (iP l).length c)∧SlS w' (fun b=>w.heap.size≤b) a 1 (iP l).length (j7 (iP l))∧Below w.heap.size w w':=by
 obtain⟨R,hR⟩:∃R,iP l=R:=⟨_,rfl⟩;rw [hR];have HR:=ab hR;obtain⟨ir,hir⟩:=info_parts tu;clear hR;go_enter Tryz.func19,Tryz.ntmps19
 go_wp2
 go_loopw [3,4] (fun v q wr=>SpRel l R w v q wr) (fun _ q _=>l.length-(intOf q).toNat)
 case atStart=>exact⟨0,l.length,[],by omega,by omega,rfl,Below.refl _ _,World.ownsRow_nil _ _ _ _,by simp,HR⟩
 case round =>
  obtain⟨i,k,ps,hi,hk,rfl,hb,hown,hps,HF⟩:=hrel;have hB:=hb.size;clear HR;cases hd:l.drop i with
  | nil =>
   have h2:=ki hd;have HE:Hid (ps=R):=ab (by rw [←HF.out,hd];cases k<;>simp [jH]);exact cL
  | cons c r =>
   obtain⟨h1,h2,h3,h4⟩:=sW l i c r hd;obtain⟨k,rfl⟩:∃k',k=k'+1:=⟨k-1,by have:=Ad List.length hd;simp at this;omega⟩;have hil:i<l.length:=by have:=Ad List.length hd;simp at this;omega
   have HE:Hid ((ps++[c::r.takeWhile iU])++jH k (l.drop (mj l i))=R):=ab (by rw [←HF.out,hd,h4];simp [jH]);generalize hp:c::r.takeWhile iU=p at *
   obtain⟨e,he⟩:∃e,mj l i=e:=⟨_,rfl⟩;rw [he] at h1 h2 h3 h4 HE;rw [List.drop_take] at h3;have HEN:=ab (he▸ug l i wr fg fg:Calls Tryz.prog 41 #[.string ⟨l.toArray⟩,.int .i64 i] wr fun x w'=>x=.returned (.int .i64 (e:Int))∧wr=w');have hb1:Below wr.heap.size wr (wr.alloc (.cells #[.string ⟨p.toArray⟩] 9)):=(Below.refl _ _).alloc (zP _) _;have HO1:=ab (iX hown hb1);have HSL:=ab (Sl.lit (n:=1) (sz:=1) (heap_alloc_new wr (.cells #[.string ⟨p.toArray⟩] 9)) rfl);have hz1:w.heap.size≤(wr.alloc (.cells #[.string ⟨p.toArray⟩] 9)).heap.size:=by rw [At];omega
   have hbw1:=hb.alloc hB (.cells #[.string ⟨p.toArray⟩] 9);clear hd hp h4 he HF hown;go_wp2_with (first|(go_at_call 41;refine HEN.out.mono ?_;rintro x w1 ⟨rfl,rfl⟩)|(at_builtin;refine je w.heap.size 9 rfl _ _ 44 rfl Tryz.underlying44 hir rfl fo rfl HO1.out rfl HSL.out fz fg fg fo hz1 ?_))
   intro v1 w4 ho4 hg4 hb4 hmv;have hb4':=hbw1.trans hb4;have ho5:w4.ownsRow w.heap.size 9 1 v1 (ps++[p]).length (j7 (ps++[p])):=by
    rw [qx,zX];exact ho4
   clear ho4 hg4 hmv;go_wp2
   go_roundw
   case rel=>exact⟨e,k,ps++[p],h1,by omega,rfl,hb4',ho5,by simp;omega,HE⟩
   case measure=>simp [intOf];omega
open Go.RowKit
def nF:Str→Bool
 | [b]=>decide (97≤b.toNat∧b.toNat≤122)||decide (65≤b.toNat∧b.toNat≤90)||decide (48≤b.toNat∧b.toNat≤57)||decide (b.toNat=95)
 | _=>false
theorem ph (c:Str) (w:World) (hs:c.length≤100000000):Calls Tryz.prog 195 #[.string ⟨c.toArray⟩] w fun e w'=>e=.returned (.bool (nF c))∧w=w':=by
 match c,hs with
 | [],_ =>
  go_enter Tryz.func195,Tryz.ntmps195
  exact cM
 | b::d::r,hs =>
  go_enter Tryz.func195,Tryz.ntmps195
  exact cM
 | [b],_ =>
  go_enter Tryz.func195,Tryz.ntmps195
  go_wp2
  all_goals (go_ret;refine⟨i9 ?_,rfl⟩;simp only [nF];rw [Bool.eq_iff_iff];simp only [Ai,zJ,zI];first|omega|(simp;omega)|skip)
abbrev Res:=Except Int (Rx × List Str)
def rx0:Rx:=.mk 0 [] false [] 0 0 false []
def rxK (k:Int):Rx:=.mk k [] false [] 0 0 false []
def chrR (c:Str):Rx:=.mk 2 c false [] 0 0 false []
def setR (rows:List Row) (ng:Bool):Rx:=.mk 4 [] ng rows 0 0 false []
def grpR (k:Int) (x:Rx):Rx:=.mk k [] false [] 0 0 false [x]
def repR (lo hi:Int) (lz:Bool) (x:Rx):Rx:=.mk 7 [] false [] lo hi lz [x]
def kg (c:Str):Option Str :=
 if c=[] then none else if c=[110] then some [10] else if c=[114] then some [13] else if c=[116] then some [9] else if c=[102] then some [12] else if c=[118] then some [11]
 else if c=[95]∨nF c=false then some c else none
def kU (c:Str):Option (List Row):=match c with
 | [b]=>if lf b=true then some (jz b) else none
 | _=>none
def bigS (c:Str):Option (List Row):=if c=[68] then some (jz 100) else if c=[87] then some (jz 119) else if c=[83] then some (jz 115) else none
def escM:List Str→Res
 | []=>.error 10
 | c::r=>match kU c with
  | some rows=>.ok (setR rows false,r)
  | none=>match bigS c with
   | some rows=>.ok (setR rows true,r)
   | none=>match kg c with
    | none=>.error 10
    | some t=>.ok (chrR t,r)
def oh:List Str→Option (Str × List Row × List Str)
 | []=>none
 | c::r=>if c=[93] then none else if c=[92] then(match r with
   | []=>none
   | c2::r2=>match kU c2 with
    | some rows=>some ([],rows,r2)
    | none=>match kg c2 with
     | none=>none
     | some t=>some (t,[],r2)) else some (c,[],r)
def jk (c:Str):List Str→Option (List Str)
 | []=>none
 | x::r=>if x=c then some r else none
def jO:Nat→List Row→List Str→Option (List Row × List Str)
 | 0,_,_=>none
 | n+1,rows,r=>match jk [93] r with
  | some r1=>some (rows,r1)
  | none=>match oh r with
   | none=>none
   | some (c,nm,r1) =>
    if nm≠[] then jO n (rows++nm) r1
    else match jk [45] r1 with
     | none=>jO n (rows++[(c,c)]) r1
     | some r2=>if jk [93] r2=none then(match oh r2 with
       | none=>none
       | some (t,nm2,r3)=>if nm2≠[]∨Op.bytesLess t c=true then none else jO n (rows++[(c,t)]) r3)
      else jO n (rows++[(c,c)]) r1
def kP (r:List Str):Res :=
 let ng:=(jk [94] r).isSome
 let r0:=(jk [94] r).getD r
 match jO (r0.length+1) [] r0 with
 | none=>.error 10
 | some (rows,r1)=>.ok (setR (kG rows) ng,r1)
def digS (c:Str):Option Nat:=match c with
 | [b]=>if 48≤b.toNat∧b.toNat≤57 then some (b.toNat-48) else none
 | _=>none
def numL:Nat→Nat→List Str→Option (Nat × List Str)
 | k,n,[]=>if 0<k∧n≤255 then some (n,[]) else none
 | k,n,c::r=>match digS c with
  | some d=>if k=3 then none else numL (k+1) (10*n+d) r
  | none=>if 0<k∧n≤255 then some (n,c::r) else none
def kY (r:List Str):Option (Int × Int × List Str):=match numL 0 0 r with
 | none=>none
 | some (lo,r1)=>match jk [125] r1 with
  | some r2=>some (lo,lo,r2)
  | none=>match jk [44] r1 with
   | none=>none
   | some r2=>match jk [125] r2 with
    | some r3=>some (lo,-1,r3)
    | none=>match numL 0 0 r2 with
     | none=>none
     | some (hi,r3)=>if lo≤hi then(match jk [125] r3 with
      | some r4=>some (lo,hi,r4)
      | none=>none) else none
def oU (x:Rx) (lo hi:Int) (r:List Str):Rx × List Str:=match jk [63] r with
 | some r1=>(repR lo hi true x,r1)
 | none=>(repR lo hi false x,r)
def kj (x:Rx):List Str→Res
 | []=>.ok (x,[])
 | c::r=>if c=[42] then .ok (oU x 0 (-1) r) else if c=[43] then .ok (oU x 1 (-1) r) else if c=[63] then .ok (oU x 0 1 r)
  else if c=[123] then(match kY r with
   | none=>.error 10
   | some (lo,hi,r1)=>.ok (oU x lo hi r1)) else .ok (x,c::r)
def nH (r:List Str):Option (Int × List Str):=match jk [63] r with
 | none=>some (5,r)
 | some r1=>match jk [58] r1 with
  | none=>none
  | some r2=>some (6,r2)
def lO (pat:List Str→Nat→Res) (r:List Str) (d:Nat):Res :=
 if 16≤d then .error 8 else match nH r with
 | none=>.error 10
 | some (k,r0)=>match pat r0 (d+1) with
  | .error e=>.error e
  | .ok (x,r1)=>match jk [41] r1 with
   | none=>.error 10
   | some r2=>.ok (grpR k x,r2)
def rG (c:Str):Bool:=decide (c=[42])||decide (c=[43])||decide (c=[63])||decide (c=[41])||decide (c=[123])||decide (c=[124])||decide (c=[94])||decide (c=[36])
def lh (pat:List Str→Nat→Res):List Str→Nat→Res
 | [],_=>.error 10
 | c::r,d=>if c=[46] then .ok (rxK 3,r) else if c=[40] then lO pat r d else if c=[91] then kP r else if c=[92] then escM r
  else if rG c=true then .error 10 else .ok (chrR c,r)
def oi (r:List Str):Option (Rx × List Str):=match r with
 | []=>none
 | c::r1=>if c=[94] then some (rxK 8,r1) else if c=[36] then some (rxK 9,r1) else if c=[92] then(match jk [98] r1 with
  | some r2=>some (rxK 10,r2)
  | none=>match jk [66] r1 with
   | some r2=>some (rxK 11,r2)
   | none=>none) else none
def lB (pat:List Str→Nat→Res) (r:List Str) (d:Nat):Res:=match oi r with
 | some y=>.ok y
 | none=>match lh pat r d with
  | .error e=>.error e
  | .ok (x,r1)=>kj x r1
def patL (trm:List Str→Res):Nat→List Rx→List Rx→List Str→Res
 | 0,_,_,_=>.error 1
 | n+1,alts,terms,r=>match r with
  | []=>.ok (altR (alts++[seqR terms]),[])
  | c::r1=>if c=[41] then .ok (altR (alts++[seqR terms]),c::r1) else if c=[124] then patL trm n (alts++[seqR terms]) [] r1
   else match trm (c::r1) with
    | .error e=>.error e
    | .ok (x,r2)=>patL trm n alts (terms++[x]) r2
def patF:Nat→List Str→Nat→Res
 | 0,_,_=>.error 1
 | n+1,r,d=>patL (fun r=>lB (patF n) r d) (r.length+1) [] [] r
def rX (l:List Str):Except Int Rx:=match patF (l.length+1) l 0 with
 | .error e=>.error e
 | .ok (x,[])=>.ok x
 | .ok (_,_::_)=>.error 10
def lK (s:Str):Except Int Rx :=
 if 256<s.length then .error 4 else match iP s with
 | []=>rX []
 | c::r=>if jS c=true then rX (c::r) else .error 10
structure Tf where
 rx:Rx
 fs:List Fm
 fold:Bool
 all:Bool
def tf0:Tf:=⟨rx0,[],false,false⟩
inductive Sn where
 | mk (kind:Int) (text:Str) (n:Int) (has turned:Bool) (form:Tf) (opts:List Str) (kids:List Sn)
namespace Sn
def kind:Sn→Int|mk k _ _ _ _ _ _ _=>k
def text:Sn→Str|mk _ t _ _ _ _ _ _=>t
def n:Sn→Int|mk _ _ n _ _ _ _ _=>n
def has:Sn→Bool|mk _ _ _ h _ _ _ _=>h
def turned:Sn→Bool|mk _ _ _ _ t _ _ _=>t
def form:Sn→Tf|mk _ _ _ _ _ f _ _=>f
def opts:Sn→List Str|mk _ _ _ _ _ _ o _=>o
def kids:Sn→List Sn|mk _ _ _ _ _ _ _ k=>k
mutual
def parts:Sn→Nat
 | mk _ _ _ _ _ _ _ ks=>1+partsL ks
def partsL:List Sn→Nat
 | []=>0
 | x::r=>parts x+partsL r
end
mutual
def deep:Sn→Nat
 | mk _ _ _ h _ _ _ ks=>deepL ks+(if h then 1 else 0)
def deepL:List Sn→Nat
 | []=>0
 | x::r=>max (deep x) (deepL r)
end
theorem parts_pos:∀x:Sn,1≤parts x
 | mk _ _ _ _ _ _ _ ks=>by simp only [parts];omega
theorem parts_mem:∀{ks:List Sn} {x:Sn},x∈ks→parts x≤partsL ks
 | [],_,h=>by simp at h
 | y::r,x,h=>by
  exact dP
theorem len_parts:∀ks:List Sn,ks.length≤partsL ks
 | []=>by simp
 | x::r=>by have:=parts_pos x;have:=len_parts r;simp only [partsL,zW];omega
theorem jR:∀a b:List Sn,partsL (a++b)=partsL a+partsL b
 | [],b=>by simp [partsL]
 | x::a,b=>by simp only [Ay,partsL,jR a b];omega
end Sn
def Sn.turn:Sn→Tf→Sn|.mk k t n h _ _ o ks,f=>.mk k t n h true f o ks
def nameC (c:UInt8):Bool:=decide (97≤c.toNat∧c.toNat≤122)||decide (65≤c.toNat∧c.toNat≤90)||decide (48≤c.toNat∧c.toNat≤57)||decide (c.toNat=95)
def nameB:Str→Bool
 | []=>false
 | c::r=>decide ((c::r).length≤64)&&(c::r).all nameC&&decide (57<c.toNat)
def three:Str:=[36,125,92]
def rxSp:Str→Str→Str × Str
 | [],a=>(a,[])
 | [c],a=>if c.toNat=47 then(a,[c]) else(a++[c],[])
 | c::d::r,a=>if c.toNat=47 then(a,c::d::r) else if c.toNat=92 then rxSp r (if d.toNat=47 then a++[d] else a++[92,d]) else rxSp (d::r) (a++[c])
def pd (fl:Str):Option (Bool × Bool) :=
 if fl=[] then some (false,false) else if fl=[103] then some (true,false) else if fl=[105] then some (false,true) else if fl=[103,105]∨fl=[105,103] then some (true,true) else none
def si (x:Rx) (fs:List Fm) (r:Str):Option (Tf × Str):=match r.dropWhile kq with
 | []=>none
 | _::r2=>match pd (r.takeWhile kq) with
  | none=>none
  | some (a,f)=>some (⟨x,fs,f,a⟩,r2)
def mK:Str→Option (Tf × Str)
 | []=>none
 | c::r=>if c.toNat=47 then(match (rxSp r []).2 with
  | []=>none
  | _::r3=>match lK (rxSp r []).1 with
   | .error _=>none
   | .ok x=>match lE r3 [] [] with
    | none=>none
    | some (_,[])=>none
    | some (fs,_::r5)=>si x fs r5) else none
open Go.RowKit
def TfV (w:World) (S:Nat→Prop) (cc:List Value) (f:Tf):Prop :=
 ∃(rc:List Value) (fa:Option Addr) (fc:Nat),RxV w S rc f.rx∧SlS w S fa 5 f.fs.length (kk f.fs)∧cc=rc++[.slice fa f.fs.length fc,.bool f.fold,.bool f.all]
theorem TfV.keep {w w':World} {S:Nat→Prop} (hk:Kept S w w') {c:List Value} {f:Tf} (h:TfV w S c f):TfV w' S c f:=by
 obtain⟨rc,fa,fc,h1,h2,h3⟩:=h;exact⟨rc,fa,fc,h1.keep hk,h2.keep hk,h3⟩
theorem TfV.mono {w:World} {S S':Nat→Prop} (hS:∀b,S b→b<w.heap.size→S' b) {c:List Value} {f:Tf} (h:TfV w S c f):TfV w S' c f:=by
 obtain⟨rc,fa,fc,h1,h2,h3⟩:=h;exact⟨rc,fa,fc,h1.mono hS,h2.mono hS,h3⟩
structure TfCells (fc:List Value) (f:Tf) (w:World) (S:Nat→Prop) (rk:Int) (rch:Str) (rng:Bool) (rrs:List Row) (rlo rhi:Int) (rlz:Bool) (rks:List Rx) (ra:Option Addr) (rcp:Nat) (rka:Option Addr) (rkc:Nat) (fa:Option Addr) (fcp:Nat):Prop where
 eq:fc=[.int .i64 rk,.string ⟨rch.toArray⟩,.bool rng,.slice ra rrs.length rcp,.int .i64 rlo,.int .i64 rhi,.bool rlz,.slice rka rks.length rkc,.slice fa f.fs.length fcp,.bool f.fold,.bool f.all]
 rx:f.rx=.mk rk rch rng rrs rlo rhi rlz rks
 rv:RxV w S (rxc rk rch rng ra rrs.length rcp rlo rhi rlz rka rks.length rkc) (.mk rk rch rng rrs rlo rhi rlz rks)
 fv:SlS w S fa 5 f.fs.length (kk f.fs)
theorem TfV.open_ {w:World} {S:Nat→Prop} {fc:List Value} {f:Tf} (h:TfV w S fc f):∃rk rch rng rrs rlo rhi rlz rks ra rcp rka rkc fa fcp,TfCells fc f w S rk rch rng rrs rlo rhi rlz rks ra rcp rka rkc fa fcp:=by
 obtain⟨rc,fa,fcp,h1,h2,rfl⟩:=h;obtain⟨rx,fs,fd,al⟩:=f;obtain⟨rk,rch,rng,rrs,rlo,rhi,rlz,rks⟩:=rx;have h0:=h1;obtain⟨ra,rcp,rka,rkc,rfl,_,_⟩:=h1.open_;exact⟨rk,rch,rng,rrs,rlo,rhi,rlz,rks,ra,rcp,rka,rkc,fa,fcp,rfl,rfl,h0,h2⟩
open Go.RowKit
def RdT (T:TypeId) (x:List Value) (w:World) (g:Nat) (r:List Str):Prop :=
 ∃(a:Option Addr) (c:Nat) (l:List Str) (i:Nat),w.heap[g]?=some (.cells (.slice a l.length c::.int .i64 i::x).toArray T (0,0))∧SlS w (fun b=>b<g) a 1 l.length (j7 l)∧l.length≤200000∧i≤l.length ∧
  (∀p∈l,p≠[]∧p.length≤1000000)∧l.drop i=r
def hdS:List Str→Str|[]=>[]|c::_=>c
theorem RdT.cells {T:TypeId} {x:List Value} {w:World} {g:Nat} {r:List Str} (h:RdT T x w g r):∃a c l i,w.cell? ⟨g,0,none⟩=some (.slice a (l:List Str).length c)∧w.cell? ⟨g,1,none⟩=some (.int .i64 (i:Nat)) ∧
  (∀j,j<2+x.length→w.frozen? ⟨g,j,none⟩=false)∧SlS w (fun b=>b<g) a 1 l.length (j7 l)∧l.length≤200000∧i≤l.length∧(∀p∈l,p≠[]∧p.length≤1000000)∧l.drop i=r∧g<w.heap.size:=by
 obtain⟨a,c,l,i,h1,h2,h3,h4,h5,h6⟩:=h;refine⟨a,c,l,i,?_,?_,?_,h2,h3,h4,h5,h6,iN h1⟩
 ·rw [zT h1];rfl
 ·rw [zT h1];rfl
 ·intro j hj;unfold World.frozen?;rw [h1];rfl
theorem RdT.cell2 {T:TypeId} {u:Value} {w:World} {g:Nat} {r:List Str} (h:RdT T [u] w g r):w.cell? ⟨g,2,none⟩=some u:=by
 obtain⟨a,c,l,i,h1,_⟩:=h;rw [zT h1];rfl
theorem RdT.lt {T:TypeId} {x:List Value} {w:World} {g:Nat} {r:List Str} (h:RdT T x w g r):g<w.heap.size:=by
 obtain⟨a,c,l,i,h1,_⟩:=h;exact iN h1
def Still (w w':World):Prop:=w'.heap=w.heap∧w'.os=w.os∧w'.tape=w.tape∧w'.output=w.output
theorem Still.drewN (w:World) (n:Nat):Still w (w.drewN n):=⟨rfl,rfl,rfl,rfl⟩
theorem Still.trans {a b c:World} (h1:Still a b) (h2:Still b c):Still a c:=⟨h2.1.trans h1.1,h2.2.1.trans h1.2.1,h2.2.2.1.trans h1.2.2.1,h2.2.2.2.trans h1.2.2.2⟩
theorem Still.below {w w':World} (h:Still w w') (B:Nat):Below B w w':=⟨h.2.1,h.2.2.1,h.2.2.2,by rw [h.1];exact zP _,fun _ _=>by rw [h.1]⟩
theorem Still.size {w w':World} (h:Still w w'):w'.heap.size=w.heap.size:=by rw [h.1]
theorem Still.grown {w w':World} (h:Still w w') (g:Option Nat):w.grownBy w' g:=⟨h.2.1,h.2.2.1,h.2.2.2,by rw [h.1];exact zP _,fun _ _ _=>by rw [h.1]⟩
theorem RdT.later {T:TypeId} {x:List Value} {w w':World} {g:Nat} {r:List Str} (hr:RdT T x w g r) (h:Below w.heap.size w w'):RdT T x w' g r:=by
 obtain⟨a,c,l,i,h1,h2,h3⟩:=hr;exact⟨a,c,l,i,(h.block g (iN h1)).trans h1,h2.keep ⟨h.size,fun b _ hlt=>h.block b hlt⟩,h3⟩
theorem Still.rd {T:TypeId} {x:List Value} {w w':World} (h:Still w w') {g:Nat} {r:List Str} (hr:RdT T x w g r):RdT T x w' g r:=hr.later (h.below _)
abbrev Rd (w:World) (g:Nat) (r:List Str) (d:Nat):Prop:=RdT 93 [.int .i64 d] w g r
theorem rA {α:Type} {l:List α} {i:Nat} (h:l.drop i=[]):l.length≤i:=by simpa using h
theorem RdT.pos {T:TypeId} {x:List Value} {w:World} {g:Nat} {c:Str} {r:List Str} (h:RdT T x w g (c::r)):c≠[]∧c.length≤1000000:=by
 obtain⟨a,k,l,i,_,_,_,_,h5,h6⟩:=h;have:=(js h6).2.1
 exact h5 c (Ar this)
theorem ju {T:TypeId} {x:List Value} {g:Nat} {r:List Str} (w:World) (h:RdT T x w g r) :
  Calls Tryz.prog 43 #[.pointer (some ⟨g,0,none⟩)] w fun e w'=>e=.returned (.string ⟨(hdS r).toArray⟩)∧Still w w':=by
 obtain⟨a,c,l,i,c0,c1,hf,hs,hl,hi,hp,hd,hg⟩:=h.cells;clear h hf;cases r with
 | nil =>
  have h2:l.length≤i:=rA hd;show Calls Tryz.prog 43 #[.pointer (some ⟨g,0,none⟩)] w fun e w'=>e=.returned (.string ⟨(([]:Str)).toArray⟩)∧Still w w'
  clear hd hs;go_enter Tryz.func43,Tryz.ntmps43
  go_wp2
  go_quiet (fail)
  go_wp2
  go_ret
  exact⟨rfl,Still.drewN _ _⟩
 | cons p r =>
  obtain⟨h2,hx,_⟩:=js hd;obtain⟨b,o,rfl,hb,k0⟩:=hs.sl.str hx;show Calls Tryz.prog 43 #[.pointer (some ⟨g,0,none⟩)] w fun e w'=>e=.returned (.string ⟨p.toArray⟩)∧Still w w'
  clear hx hs hd;go_enter Tryz.func43,Tryz.ntmps43
  go_wp2
  go_quiet (fail)
  go_wp2
  obtain⟨w1,hw1⟩:∃w1,w1=w.drewN nq:=⟨_,rfl⟩;have hbq:Below w.heap.size w w1:=by rw [hw1];exact below_drewN (Below.refl _ _) _
  rw [←hw1];have e0:=i6 hbq _ _ c0;have e1:=i6 hbq _ _ c1;have e2:=i6 hbq _ _ k0;have HW:=ab hw1;clear c0 c1 k0 hw1;go_quiet (fail)
  go_wp2
  go_ret
  refine⟨rfl,?_⟩;rw [HW.out];exact(Still.drewN _ _).trans (Still.drewN _ _)
open Go.RowKit
theorem uh {w:World} {g:Nat} {y z u:Value} {x:List Value} {t:TypeId} (h:w.heap[g]?=some (.cells (y::z::x).toArray t (0,0))):(w.setCell ⟨g,1,none⟩ u).heap[g]?=some (.cells (y::u::x).toArray t (0,0)):=by
 simp [World.setCell,Array.getElem?_modify,h]
theorem RdT.setAt {T:TypeId} {x:List Value} {w:World} {g:Nat} {r r':List Str} {a:Option Addr} {c:Nat} {l:List Str} (h:RdT T x w g r)
  (h0:w.cell? ⟨g,0,none⟩=some (.slice a l.length c)) (h2:SlS w (fun b=>b<g) a 1 l.length (j7 l)) (h3:l.length≤200000) (h5:∀p∈l,p≠[]∧p.length≤1000000) (j:Nat) (hj:j≤l.length) (hd:l.drop j=r') :
  RdT T x (w.setCell ⟨g,1,none⟩ (.int .i64 j)) g r':=by
 obtain⟨a',c',l',i',h1,_⟩:=h;rw [zT h1] at h0;have e:(Value.slice a' l'.length c')=.slice a l.length c:=by simpa using h0
 rw [e] at h1;exact⟨a,c,l,j,uh h1,h2.keep (Kept.setLow _ fun b hb=>Nat.ne_of_lt hb),h3,hj,h5,hd⟩
theorem n8 {l r:List Str} {i:Nat} {c:Str} (h:l.drop i=c::r):i+1≤l.length∧l.drop (i+1)=r:=⟨(js h).1,(js h).2.2⟩
theorem RdT.step {T:TypeId} {x:List Value} {w:World} {g:Nat} {c:Str} {r:List Str} (h:RdT T x w g (c::r)):∃i:Nat,i<1000000∧w.cell? ⟨g,1,none⟩=some (.int .i64 i)∧w.frozen? ⟨g,1,none⟩=false∧RdT T x (w.setCell ⟨g,1,none⟩ (.int .i64 ((i:Int)+1))) g r:=by
 obtain⟨a,k,l,i,c0,c1,hf,hs,hl,hi,hp,hd,hg⟩:=h.cells;obtain⟨h1,h2⟩:=n8 hd;exact⟨i,by omega,c1,hf 1 fg,h.setAt (l:=l) c0 hs hl hp (i+1) h1 h2⟩
theorem RdT.step2 {T:TypeId} {x:List Value} {w:World} {g:Nat} {c c2:Str} {r:List Str} (h:RdT T x w g (c::c2::r)):∃i:Nat,i<1000000∧w.cell? ⟨g,1,none⟩=some (.int .i64 i)∧w.frozen? ⟨g,1,none⟩=false∧RdT T x (w.setCell ⟨g,1,none⟩ (.int .i64 ((i:Int)+2))) g r:=by
 obtain⟨a,k,l,i,c0,c1,hf,hs,hl,hi,hp,hd,hg⟩:=h.cells;obtain⟨h1,h2⟩:=n8 hd;obtain⟨h3,h4⟩:=n8 h2;exact⟨i,by omega,c1,hf 1 fg,h.setAt (l:=l) c0 hs hl hp (i+2) h3 h4⟩
theorem uu {w w1 w2:World} {g:Option Nat} (h1:Still w w1) (h2:w1.grownBy w2 g):w.grownBy w2 g:=iK (h1.grown g) h2
theorem take_yes {T:TypeId} {x:List Value} {g:Nat} {r:List Str} (c:Str) (w:World) (h:RdT T x w g (c::r)) :
  Calls Tryz.prog 149 #[.pointer (some ⟨g,0,none⟩),.string ⟨c.toArray⟩] w fun e w'=>e=.returned (.bool true)∧RdT T x w' g r∧w.grownBy w' (some g):=by
 have HS:=ab (ju w h);have HR:=ab h;clear h;go_enter Tryz.func149,Tryz.ntmps149
 exact cf
theorem take_no {T:TypeId} {x:List Value} {g:Nat} {r:List Str} (c:Str) (w:World) (h:RdT T x w g r) (hc:jk c r=none) (hc0:c≠[]) :
  Calls Tryz.prog 149 #[.pointer (some ⟨g,0,none⟩),.string ⟨c.toArray⟩] w fun e w'=>e=.returned (.bool false)∧Still w w':=by
 have HS:=ab (ju w h);obtain⟨u,hu⟩:∃u,hdS r=u:=⟨_,rfl⟩;have hne:u≠c:=by
  rw [←hu];cases r with
  | nil=>exact fun e=>hc0 e.symm
  | cons p r=>intro e;simp only [hdS] at e;rw [jk,zL e] at hc;cases hc
 have h1:(u==c)=false:=Aj.2 hne;have h2:(u != c)=true:=by simp [bne,h1]
 rw [hu] at HS;clear h hc hc0 hu;go_enter Tryz.func149,Tryz.ntmps149
 go_wp2_with (go_at_call 43;refine HS.out.mono ?_)
 rintro e w1 ⟨rfl,hst⟩;go_wp2
 go_ret
 exact⟨rfl,hst⟩
theorem next_nil {T:TypeId} {x:List Value} {g:Nat} (w:World) (h:RdT T x w g []) :
  Calls Tryz.prog 144 #[.pointer (some ⟨g,0,none⟩)] w fun e w'=>e=.returned (.string ⟨(([]:Str)).toArray⟩)∧Still w w':=by
 have HS:=ab (ju w h);clear h;go_enter Tryz.func144,Tryz.ntmps144
 go_wp2_with (go_at_call 43;refine HS.out.mono ?_)
 rintro e w1 ⟨rfl,hst⟩;unfold hdS;go_wp2
 go_ret
 exact⟨rfl,hst⟩
theorem jh {T:TypeId} {x:List Value} {g:Nat} {c:Str} {r:List Str} (w:World) (h:RdT T x w g (c::r)) :
  Calls Tryz.prog 144 #[.pointer (some ⟨g,0,none⟩)] w fun e w'=>e=.returned (.string ⟨c.toArray⟩)∧RdT T x w' g r∧w.grownBy w' (some g):=by
 have HS:=ab (ju w h);have hc:=h.pos.1;have HR:=ab h;cases c with
 | nil=>exact absurd rfl hc
 | cons b c =>
  clear h hc;go_enter Tryz.func144,Tryz.ntmps144
  exact cf
open Go.RowKit
def xo (c:Str) (w:World) (e:Ending) (w':World):Prop:=w=w'∧match kg c with
 | some t=>e=.returned (.tuple #[.string ⟨t.toArray⟩,.bool true])
 | none=>∃t:Str,e=.returned (.tuple #[.string ⟨t.toArray⟩,.bool false])
theorem tR (c:Str) (w:World) (hs:c.length≤100000000) :
  Calls Tryz.prog 172 #[.string ⟨c.toArray⟩] w fun e w'=>xo c w e w':=by
 by_cases h0:c=[]
 ·subst h0
  go_enter Tryz.func172,Tryz.ntmps172
  go_wp2
  go_ret2
  exact⟨rfl,[],rfl⟩
 have g0:List.isEmpty c=false:=by cases c<;>simp at h0 ⊢
 by_cases h110:c=[110]
 ·subst h110
  exact bY
 have g110:(c==[110])=false:=Aj.2 h110;by_cases h114:c=[114]
 ·subst h114
  exact bY
 have g114:(c==[114])=false:=Aj.2 h114;by_cases h116:c=[116]
 ·subst h116
  exact bY
 have g116:(c==[116])=false:=Aj.2 h116;by_cases h102:c=[102]
 ·subst h102
  exact bY
 have g102:(c==[102])=false:=Aj.2 h102;by_cases h118:c=[118]
 ·subst h118
  exact bY
 have g118:(c==[118])=false:=Aj.2 h118;have hM:kg c=if c=[95]∨nF c=false then some c else none:=by
  unfold kg;rw [zO h0,zO h110,zO h114,zO h116,zO h102,zO h118]
 have HW:=ab (ph c w hs);by_cases h95:c=[95]
 ·subst h95
  clear HW hM;exact bY
 have g95:(c==[95])=false:=Aj.2 h95;cases hw:nF c with
 | true =>
  rw [zO (by rw [hw];simp [h95])] at hM;rw [hw] at HW;have HM:=ab hM;clear hM hw h0 h110 h114 h116 h102 h118 h95;go_enter Tryz.func172,Tryz.ntmps172
  go_wp2_with (go_at_call 195;refine HW.out.mono ?_;rintro e w1 ⟨rfl,rfl⟩)
  go_ret2
  exact⟨rfl,by rw [HM.out];exact⟨c,rfl⟩⟩
 | false =>
  rw [zL (.inr hw)] at hM;rw [hw] at HW;have HM:=ab hM;clear hM hw h0 h110 h114 h116 h102 h118 h95;go_enter Tryz.func172,Tryz.ntmps172
  go_wp2_with (go_at_call 195;refine HW.out.mono ?_;rintro e w1 ⟨rfl,rfl⟩)
  go_ret2
  exact⟨rfl,by rw [HM.out];rfl⟩
def NumPost (g d:Nat) (w:World) (R:Option (Nat × List Str)) (e:Ending) (w':World):Prop:=w.grownBy w' (some g)∧match R with
 | some (n,r)=>e=.returned (.tuple #[.int .i64 n,.bool true])∧n≤255∧Rd w' g r d
 | none=>(∃v:Int,e=.returned (.tuple #[.int .i64 v,.bool false]))∧∃r,Rd w' g r d
def NumRel (g d:Nat) (w:World) (R:Option (Nat × List Str)) (vn vk vc:Value) (wr:World):Prop :=
 ∃(n k:Nat) (r:List Str),vn=.int .i64 n∧vk=.int .i64 k∧vc=.string ⟨(hdS r).toArray⟩∧Rd wr g r d∧w.grownBy wr (some g)∧k≤3∧n≤999∧Hid (k=0∧n=0∨k=1∧n≤9∨k=2∧n≤99∨k=3)∧Hid (numL k n r=R)
theorem jA (c:Str) (r:List Str):hdS (c::r)=c:=rfl
theorem qZ {g d:Nat} {r:List Str} (w:World) (h:Rd w g r d) :
  Calls Tryz.prog 173 #[.pointer (some ⟨g,0,none⟩)] w fun e w'=>NumPost g d w (numL 0 0 r) e w':=by
 obtain⟨R,hR⟩:∃R,numL 0 0 r=R:=⟨_,rfl⟩;rw [hR];have HR:=ab hR;have HRD:=ab h;clear hR h;go_enter Tryz.func173,Tryz.ntmps173
 go_wp2_with (go_at_call 43;refine(ju _ HRD.out).mono ?_)
 rintro e w1 ⟨rfl,hst⟩;have HRD1:=ab (hst.rd HRD.out);have hg1:=hst.grown (some g);clear hst HRD;go_wp2
 go_loopw [4,5,6] (fun vn vk vc wr=>NumRel g d w R vn vk vc wr) (fun _ vk _ _=>4-(intOf vk).toNat)
 case atStart=>exact⟨0,0,r,rfl,rfl,rfl,HRD1.out,hg1,by omega,by omega,ab (.inl ⟨rfl,rfl⟩),HR⟩
 case round =>
  clear HR HRD1 hg1;obtain⟨n,k,r,rfl,rfl,rfl,hrd,hg,hk,hn,HB,HF⟩:=hrel;have HRD:=ab hrd;cases r with
  | nil =>
   have HF2:Hid ((if 0<k∧n≤255 then some (n,[]) else none)=R):=HF;clear HF hrd;generalize hr:([]:List Str)=r at *
   have hh:hdS r=[]:=by rw [←hr];rfl
   rw [hh];clear hr hh;exact aJ
  | cons c r' =>
   have hp:=hrd.pos;obtain⟨i,hi,c1,hf,hr1⟩:=hrd.step;have HR1:=ab hr1;clear hrd hr1;rw [jA];match c,hp with
   | [b],_ =>
    by_cases hb1:48≤b.toNat
    ·by_cases hb2:b.toNat≤57
     ·have hdg:digS [b]=some (b.toNat-48):=by simp only [digS,zL (And.intro hb1 hb2)]
      by_cases hk3:k=3
      ·have HF2:Hid (none=R):=ab (by rw [←HF.out,numL,hdg];simp [hk3])
       clear HF hdg;go_wp2
       go_ret2
       exact⟨hg,by rw [←HF2.out];exact⟨⟨_,rfl⟩,_,HRD.out⟩⟩
      ·have HF2:Hid (numL (k+1) (10*n+(b.toNat-48)) r'=R):=ab (by rw [←HF.out,numL,hdg];simp [hk3])
       have hn99:n≤99:=by have:=HB.out;omega
       have HB2:Hid (k+1=0∧10*n+(b.toNat-48)=0∨k+1=1∧10*n+(b.toNat-48)≤9∨k+1=2∧10*n+(b.toNat-48)≤99∨k+1=3):=ab (by have:=HB.out;omega);clear HF hdg;have hg2:w.grownBy (wr.setCell ⟨g,1,none⟩ (.int .i64 ((i:Int)+1))) (some g):=iZ hg _ _;go_wp2_with (go_at_call 43;refine(ju _ HR1.out).mono ?_)
       rintro e w3 ⟨rfl,hst⟩;have hrd3:=hst.rd HR1.out;have hg3:=iK hg2 (hst.grown _);clear hst;go_wp2
       go_roundw
       case rel=>exact⟨10*n+(b.toNat-48),k+1,r',Ad (Value.int .i64) fg,by go_num,rfl,hrd3,hg3,by omega,by omega,HB2,HF2⟩
       case measure=>simp [intOf];omega
     ·have HF2:Hid ((if 0<k∧n≤255 then some (n,[b]::r') else none)=R):=ab (by
       rw [←HF.out];simp only [numL,digS,zO (show ¬(48≤b.toNat∧b.toNat≤57) from fun q=>hb2 q.2)])
      clear HF;generalize hr:[b]::r'=r at *
      exact aJ
    ·have HF2:Hid ((if 0<k∧n≤255 then some (n,[b]::r') else none)=R):=ab (by
      rw [←HF.out];simp only [numL,digS,zO (show ¬(48≤b.toNat∧b.toNat≤57) from fun q=>hb1 q.1)])
     clear HF;generalize hr:[b]::r'=r at *
     exact aJ
   | [],hp=>exact absurd rfl hp.1
   | b::b2::t,hp =>
    have hlt:=hp.2;have HF2:Hid ((if 0<k∧n≤255 then some (n,(b::b2::t)::r') else none)=R):=ab (by
     rw [←HF.out];simp only [numL,digS])
    have hne:((t.length:Int)+1+1==1)=false:=by rw [Aj];omega
    clear HF;generalize hr:(b::b2::t)::r'=r at *
    exact aJ
open Go.RowKit
theorem j8 {c:Str} {r r1:List Str} (h:jk c r=some r1):r=c::r1:=by
 cases r with
 | nil=>cases h
 | cons x r =>
  simp only [jk] at h;by_cases hx:x=c
  ·rw [zL hx] at h;injection h with h;rw [hx,h]
  ·rw [zO hx] at h;cases h
theorem jw {T:TypeId} {x:List Value} {g:Nat} {r r1:List Str} {c:Str} (w:World) (h:RdT T x w g r) (hc:jk c r=some r1) :
  Calls Tryz.prog 149 #[.pointer (some ⟨g,0,none⟩),.string ⟨c.toArray⟩] w fun e w'=>e=.returned (.bool true)∧RdT T x w' g r1∧w.grownBy w' (some g):=by
 have e:=j8 hc;subst e;exact take_yes c w h
theorem jd {T:TypeId} {x:List Value} {g:Nat} {r:List Str} {c:Str} (w:World) (h:RdT T x w g r) (hc:jk c r=none) (hc0:c≠[]) :
  Calls Tryz.prog 149 #[.pointer (some ⟨g,0,none⟩),.string ⟨c.toArray⟩] w fun e w'=>e=.returned (.bool false)∧RdT T x w' g r∧w.grownBy w' (some g) :=
 (take_no c w h hc hc0).mono fun _ _ ⟨h1,h2⟩=>⟨h1,h2.rd h,h2.grown _⟩
theorem mu {g d:Nat} {r r1:List Str} {n:Nat} (w:World) (h:Rd w g r d) (hn:numL 0 0 r=some (n,r1)) :
  Calls Tryz.prog 173 #[.pointer (some ⟨g,0,none⟩)] w fun e w'=>e=.returned (.tuple #[.int .i64 n,.bool true])∧Rd w' g r1 d∧w.grownBy w' (some g):=by
 refine(qZ w h).mono ?_
 rintro e w' ⟨h1,h2⟩;rw [hn] at h2;exact⟨h2.1,h2.2.2,h1⟩
def NumNo (w:World) (g d:Nat) (e:Ending) (w':World):Prop:=∃v:Int,e=.returned (.tuple #[.int .i64 v,.bool false])∧w.grownBy w' (some g)∧∃r,Rd w' g r d
theorem qg {g d:Nat} {r:List Str} (w:World) (h:Rd w g r d) (hn:numL 0 0 r=none) :
  Calls Tryz.prog 173 #[.pointer (some ⟨g,0,none⟩)] w fun e w'=>NumNo w g d e w':=by
 refine(qZ w h).mono ?_
 rintro e w' ⟨h1,h2⟩;rw [hn] at h2;obtain⟨⟨v,h2⟩,h3⟩:=h2;exact⟨v,h2,h1,h3⟩
theorem pQ:∀(r:List Str) (k n:Nat) {m:Nat} {r1:List Str},numL k n r=some (m,r1)→m≤255
 | [],k,n,m,r1,h=>by
  unfold numL at h;split at h
  ·rename_i q;injection h with h;injection h with h _;omega
  ·cases h
 | c::r,k,n,m,r1,h=>by
  unfold numL at h;split at h
  ·split at h
   ·cases h
   ·exact pQ r _ _ h
  ·split at h
   ·rename_i q;injection h with h;injection h with h _;omega
   ·cases h
def BdPost (g d:Nat) (w:World) (R:Option (Int × Int × List Str)) (e:Ending) (w':World):Prop:=w.grownBy w' (some g)∧match R with
 | some (lo,hi,r)=>e=.returned (.tuple #[.int .i64 lo,.int .i64 hi,.bool true])∧Rd w' g r d
 | none=>(∃a b:Int,e=.returned (.tuple #[.int .i64 a,.int .i64 b,.bool false]))∧∃r,Rd w' g r d
theorem ro {g d:Nat} {r:List Str} (w:World) (h:Rd w g r d) :
  Calls Tryz.prog 148 #[.pointer (some ⟨g,0,none⟩)] w fun e w'=>BdPost g d w (kY r) e w':=by
 obtain⟨R,hR⟩:∃R,kY r=R:=⟨_,rfl⟩;rw [hR];have HRD:=ab h;unfold kY at hR;clear h;cases h1:numL 0 0 r with
 | none =>
  rw [h1] at hR;have HR:=ab hR;have HC:=ab (qg _ HRD.out h1);clear hR h1;go_enter Tryz.func148,Tryz.ntmps148
  go_wp2_with (go_at_call 173;refine HC.out.mono ?_)
  rintro e w1 hq1;obtain⟨v,rfl,hg1,r9,hrd9⟩:=hq1;have HRD9:=ab hrd9;clear hrd9;go_wp2
  go_ret3
  exact⟨hg1,by rw [←HR.out];exact⟨⟨_,_,rfl⟩,_,HRD9.out⟩⟩
 | some y =>
  obtain⟨lo,r1⟩:=y;have hlo:=pQ _ _ _ h1;simp only [h1] at hR;have HC:=ab (mu _ HRD.out h1);clear h1;cases h2:jk [125] r1 with
  | some r2 =>
   simp only [h2] at hR;have HR:=ab hR;have H2:=ab h2;clear hR h2;go_enter Tryz.func148,Tryz.ntmps148
   go_wp2_with (go_at_call 173;refine(HC.out).mono ?_)
   rintro e w1 ⟨rfl,hrd1,hg1⟩;have HRD1:=ab hrd1;clear hrd1;go_wp2_with (go_at_call 149;refine(jw _ HRD1.out H2.out).mono ?_)
   rintro e w2 ⟨rfl,hrd2,hq2⟩;have HRD2:=ab hrd2;have hg2:=iK hg1 hq2;clear hrd2 hq2;go_wp2
   go_ret3
   exact⟨hg2,by rw [←HR.out];exact⟨rfl,HRD2.out⟩⟩
  | none =>
   simp only [h2] at hR;have H2:=ab h2;clear h2;cases h3:jk [44] r1 with
   | none =>
    simp only [h3] at hR;have HR:=ab hR;have H3:=ab h3;clear hR h3;go_enter Tryz.func148,Tryz.ntmps148
    go_wp2_with (go_at_call 173;refine(HC.out).mono ?_)
    rintro e w1 ⟨rfl,hrd1,hg1⟩;have HRD1:=ab hrd1;clear hrd1;go_wp2_with (go_at_call 149;refine(jd _ HRD1.out H2.out fq).mono ?_)
    rintro e w2 ⟨rfl,hrd2,hq2⟩;have HRD2:=ab hrd2;have hg2:=iK hg1 hq2;clear hrd2 hq2;go_wp2_with (go_at_call 149;refine(jd _ HRD2.out H3.out fq).mono ?_)
    rintro e w3 ⟨rfl,hrd3,hq3⟩;have HRD3:=ab hrd3;have hg3:=iK hg2 hq3;clear hrd3 hq3;go_wp2
    go_ret3
    exact⟨hg3,by rw [←HR.out];exact⟨⟨_,_,rfl⟩,_,HRD3.out⟩⟩
   | some r2 =>
    simp only [h3] at hR;have H3:=ab h3;clear h3;cases h4:jk [125] r2 with
    | some r3 =>
     simp only [h4] at hR;have HR:=ab hR;have H4:=ab h4;clear hR h4;go_enter Tryz.func148,Tryz.ntmps148
     go_wp2_with (go_at_call 173;refine(HC.out).mono ?_)
     rintro e w1 ⟨rfl,hrd1,hg1⟩;have HRD1:=ab hrd1;clear hrd1;go_wp2_with (go_at_call 149;refine(jd _ HRD1.out H2.out fq).mono ?_)
     rintro e w2 ⟨rfl,hrd2,hq2⟩;have HRD2:=ab hrd2;have hg2:=iK hg1 hq2;clear hrd2 hq2;go_wp2_with (go_at_call 149;refine(jw _ HRD2.out H3.out).mono ?_)
     rintro e w3 ⟨rfl,hrd3,hq3⟩;have HRD3:=ab hrd3;have hg3:=iK hg2 hq3;clear hrd3 hq3;go_wp2_with (go_at_call 149;refine(jw _ HRD3.out H4.out).mono ?_)
     rintro e w4 ⟨rfl,hrd4,hq4⟩;have HRD4:=ab hrd4;have hg4:=iK hg3 hq4;clear hrd4 hq4;go_wp2
     go_ret3
     exact⟨hg4,by rw [←HR.out];exact⟨rfl,HRD4.out⟩⟩
    | none =>
     simp only [h4] at hR;have H4:=ab h4;clear h4;cases h5:numL 0 0 r2 with
     | none =>
      simp only [h5] at hR;have HR:=ab hR;have H5:=ab h5;clear hR h5;go_enter Tryz.func148,Tryz.ntmps148
      go_wp2_with (go_at_call 173;refine(HC.out).mono ?_)
      rintro e w1 ⟨rfl,hrd1,hg1⟩;have HRD1:=ab hrd1;clear hrd1;go_wp2_with (go_at_call 149;refine(jd _ HRD1.out H2.out fq).mono ?_)
      rintro e w2 ⟨rfl,hrd2,hq2⟩;have HRD2:=ab hrd2;have hg2:=iK hg1 hq2;clear hrd2 hq2;go_wp2_with (go_at_call 149;refine(jw _ HRD2.out H3.out).mono ?_)
      rintro e w3 ⟨rfl,hrd3,hq3⟩;have HRD3:=ab hrd3;have hg3:=iK hg2 hq3;clear hrd3 hq3;go_wp2_with (go_at_call 149;refine(jd _ HRD3.out H4.out fq).mono ?_)
      rintro e w4 ⟨rfl,hrd4,hq4⟩;have HRD4:=ab hrd4;have hg4:=iK hg3 hq4;clear hrd4 hq4;go_wp2_with (go_at_call 173;refine(qg _ HRD4.out H5.out).mono ?_)
      rintro e w5 hn5;obtain⟨v,rfl,hq5,r9,hrd9⟩:=hn5;have HRD9:=ab hrd9;clear hrd9;have hg5:=iK hg4 hq5;go_wp2
      go_ret3
      exact⟨hg5,by rw [←HR.out];exact⟨⟨_,_,rfl⟩,_,HRD9.out⟩⟩
     | some y =>
      obtain⟨hi,r3⟩:=y;have hhi:=pQ _ _ _ h5;simp only [h5] at hR;have H5:=ab h5;clear h5;by_cases hle:lo≤hi
      ·rw [zL fg] at hR
       have hle':decide ((lo:Int)≤(hi:Int))=true:=by simp;omega
       cases h6:jk [125] r3 with
       | none =>
        simp only [h6] at hR;have HR:=ab hR;have H6:=ab h6;clear hR h6;go_enter Tryz.func148,Tryz.ntmps148
        go_wp2_with (go_at_call 173;refine(HC.out).mono ?_)
        rintro e w1 ⟨rfl,hrd1,hg1⟩;have HRD1:=ab hrd1;clear hrd1;go_wp2_with (go_at_call 149;refine(jd _ HRD1.out H2.out fq).mono ?_)
        rintro e w2 ⟨rfl,hrd2,hq2⟩;have HRD2:=ab hrd2;have hg2:=iK hg1 hq2;clear hrd2 hq2;go_wp2_with (go_at_call 149;refine(jw _ HRD2.out H3.out).mono ?_)
        rintro e w3 ⟨rfl,hrd3,hq3⟩;have HRD3:=ab hrd3;have hg3:=iK hg2 hq3;clear hrd3 hq3;go_wp2_with (go_at_call 149;refine(jd _ HRD3.out H4.out fq).mono ?_)
        rintro e w4 ⟨rfl,hrd4,hq4⟩;have HRD4:=ab hrd4;have hg4:=iK hg3 hq4;clear hrd4 hq4;go_wp2_with (go_at_call 173;refine(mu _ HRD4.out H5.out).mono ?_)
        rintro e w5 ⟨rfl,hrd5,hq5⟩;have HRD5:=ab hrd5;have hg5:=iK hg4 hq5;clear hrd5 hq5;go_wp2_with (go_at_call 149;refine(jd _ HRD5.out H6.out fq).mono ?_)
        rintro e w6 ⟨rfl,hrd6,hq6⟩;have HRD6:=ab hrd6;have hg6:=iK hg5 hq6;clear hrd6 hq6;go_wp2
        go_ret3
        exact⟨hg6,by rw [←HR.out];exact⟨⟨_,_,rfl⟩,_,HRD6.out⟩⟩
       | some r4 =>
        simp only [h6] at hR;have HR:=ab hR;have H6:=ab h6;clear hR h6;go_enter Tryz.func148,Tryz.ntmps148
        go_wp2_with (go_at_call 173;refine(HC.out).mono ?_)
        rintro e w1 ⟨rfl,hrd1,hg1⟩;have HRD1:=ab hrd1;clear hrd1;go_wp2_with (go_at_call 149;refine(jd _ HRD1.out H2.out fq).mono ?_)
        rintro e w2 ⟨rfl,hrd2,hq2⟩;have HRD2:=ab hrd2;have hg2:=iK hg1 hq2;clear hrd2 hq2;go_wp2_with (go_at_call 149;refine(jw _ HRD2.out H3.out).mono ?_)
        rintro e w3 ⟨rfl,hrd3,hq3⟩;have HRD3:=ab hrd3;have hg3:=iK hg2 hq3;clear hrd3 hq3;go_wp2_with (go_at_call 149;refine(jd _ HRD3.out H4.out fq).mono ?_)
        rintro e w4 ⟨rfl,hrd4,hq4⟩;have HRD4:=ab hrd4;have hg4:=iK hg3 hq4;clear hrd4 hq4;go_wp2_with (go_at_call 173;refine(mu _ HRD4.out H5.out).mono ?_)
        rintro e w5 ⟨rfl,hrd5,hq5⟩;have HRD5:=ab hrd5;have hg5:=iK hg4 hq5;clear hrd5 hq5;go_wp2_with (go_at_call 149;refine(jw _ HRD5.out H6.out).mono ?_)
        rintro e w6 ⟨rfl,hrd6,hq6⟩;have HRD6:=ab hrd6;have hg6:=iK hg5 hq6;clear hrd6 hq6;go_wp2
        go_ret3
        exact⟨hg6,by rw [←HR.out];exact⟨rfl,HRD6.out⟩⟩
      ·rw [zO fg] at hR
       have hle':decide ((lo:Int)≤(hi:Int))=false:=by simp;omega
       have HR:=ab hR;clear hR;go_enter Tryz.func148,Tryz.ntmps148
       go_wp2_with (go_at_call 173;refine(HC.out).mono ?_)
       rintro e w1 ⟨rfl,hrd1,hg1⟩;have HRD1:=ab hrd1;clear hrd1;go_wp2_with (go_at_call 149;refine(jd _ HRD1.out H2.out fq).mono ?_)
       rintro e w2 ⟨rfl,hrd2,hq2⟩;have HRD2:=ab hrd2;have hg2:=iK hg1 hq2;clear hrd2 hq2;go_wp2_with (go_at_call 149;refine(jw _ HRD2.out H3.out).mono ?_)
       rintro e w3 ⟨rfl,hrd3,hq3⟩;have HRD3:=ab hrd3;have hg3:=iK hg2 hq3;clear hrd3 hq3;go_wp2_with (go_at_call 149;refine(jd _ HRD3.out H4.out fq).mono ?_)
       rintro e w4 ⟨rfl,hrd4,hq4⟩;have HRD4:=ab hrd4;have hg4:=iK hg3 hq4;clear hrd4 hq4;go_wp2_with (go_at_call 173;refine(mu _ HRD4.out H5.out).mono ?_)
       rintro e w5 ⟨rfl,hrd5,hq5⟩;have HRD5:=ab hrd5;have hg5:=iK hg4 hq5;clear hrd5 hq5;go_wp2
       go_ret3
       exact⟨hg5,by rw [←HR.out];exact⟨⟨_,_,rfl⟩,_,HRD5.out⟩⟩
end Go.Proofs.YtbnkaecmgfolpaaGreat
