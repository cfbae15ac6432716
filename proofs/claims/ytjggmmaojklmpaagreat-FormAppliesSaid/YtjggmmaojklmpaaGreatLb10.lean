/- walks of the references: ref2.Lead, ref11.Split, Proper -/
import Derived.Test.YtjggmmaojklmpaaGreatLb3
set_option maxRecDepth 100000
set_option maxHeartbeats 4000000
namespace Go.Proofs.YtjggmmaojklmpaaGreat
open Go.RowKit
theorem qX (c:UInt8) {b:Bool} (w:World) (h:j0 c=b):Calls Tryz.prog 82 #[.int .u8 c.toNat] w fun e w'=>e=.returned (.bool (!b))∧w=w':=by
 exact de
def lV:Str→Str→List Str
 | cur,[]=>[cur]
 | cur,c::r=>if j0 c=true then lV (cur++[c]) r else cur::lV [c] r
def mX:Str→List Str
 | []=>[]
 | c::r=>lV [c] r
theorem sE:∀(r cur:Str),1≤(lV cur r).length
 | [],cur=>by simp [lV]
 | c::r,cur=>by simp only [lV];split<;>simp [sE]
theorem sQ:∀(r cur:Str),((lV cur r).length=1)↔r.all j0=true
 | [],cur=>by simp [lV]
 | c::r,cur=>by
  have:=sE r [c]
  have ih:=sQ r (cur++[c]);simp only [lV];cases h:j0 c with
  | true=>rw [Cl rfl];simp [h,ih]
  | false=>rw [Co gF];simp [h];intro e;rw [e] at this;simp at this
theorem qm:∀(r cur:Str),(lV cur r).length≤r.length+1
 | [],cur=>by simp [lV]
 | c::r,cur=>by
  have h1:=qm r (cur++[c]);have h2:=qm r [c];simp only [lV];split<;>simp<;>omega
theorem vx (c:UInt8) (r:Str):kX (c::r)=(!j0 c&&decide ((mX (c::r)).length=1)):=by
 rw [Bool.eq_iff_iff];simp only [kX,Cs,Cj,mX,sQ]
theorem sN (l:Str):(mX l).length≤l.length:=by
 cases l with
 | nil=>simp [mX]
 | cons c r=>have:=qm r [c];simp only [mX,Cr];omega
theorem xW:(Tryz.prog.info? 9).map (fun i=>(i.zero,i.size,i.bytes))=some (some (.string ⟨#[]⟩),1,16):=by kernel_rfl
def SpRelR (l:Str) (T:List Str) (w:World) (o f q:Value) (wr:World):Prop :=
 ∃(i fr:Nat) (out:List Str),q=.int .i64 i∧f=.int .i64 fr∧wr.ownsRow w.heap.size 9 1 o out.length (kv out)∧Below w.heap.size w wr∧1≤i ∧
  ((i≤l.length∧fr<i∧Hid (out++lV ((l.drop fr).take (i-fr)) (l.drop i)=T))∨(i=l.length+1∧Hid (out=T)))
def vB (l:Str) (w:World) (e:Ending) (w':World):Prop :=
 ∃(a:Option Addr) (c:Nat),e=.returned (.slice a (mX l).length c)∧w'.ownsRow w.heap.size 9 1 (.slice a (mX l).length c) (mX l).length (kv (mX l))∧Below w.heap.size w w'
theorem sK (l:Str) (w:World) (hl:l.length≤1000000) :
  Calls Tryz.prog 51 #[.string ⟨l.toArray⟩] w fun e w'=>vB l w e w':=by
 obtain⟨T,hT⟩:∃T,mX l=T:=⟨_,rfl⟩;unfold vB;rw [hT];have hTN:T.length≤l.length:=by rw [←hT];exact sN l
 have HT:=ab hT;clear hT;have HI0:Hid ((1≤l.length∧0<1∧Hid (([]:List Str)++lV ((l.drop 0).take (1-0)) (l.drop 1)=T))∨(1=l.length+1∧Hid (([]:List Str)=T))):=ab (by
  cases l with
  | nil=>exact .inr ⟨rfl,ab (by rw [←HT.out];rfl)⟩
  | cons c r=>exact .inl ⟨by simp,by omega,ab (by rw [←HT.out];simp [mX])⟩)
 obtain⟨iu,hiu⟩:=info_parts xW;go_enter Tryz.func51,Tryz.ntmps51
 go_wp2
 go_loopw [3,4,5] (fun o f q wr=>SpRelR l T w o f q wr) (fun _ _ q _=>l.length+1-(intOf q).toNat)
 case atStart=>exact⟨1,0,[],rfl,rfl,World.ownsRow_nil _ _ _ _,Below.refl _ _,by omega,HI0.out⟩
 case round =>
  obtain⟨i,fr,out,rfl,rfl,hown,hb,hi1,HF⟩:=hrel;clear HI0 HT;have hB:=hb.size;rcases HF with⟨hi,hfi,HF⟩|⟨hi,HF⟩
  ·have hol:out.length≤l.length:=by have h:=CR List.length HF.out;simp only [Cy] at h;omega
   by_cases hil:i=l.length
   ·subst hil
    have HE:Hid (out++[(l.drop fr).take (l.length-fr)]=T):=ab (by rw [←HF.out,List.drop_length];rfl);clear HF;go_wp2_with (at_builtin;refine kz w.heap.size 9 rfl _ _ 53 rfl Tryz.underlying53 hiu rfl gD rfl hown rfl gZ rfl gG gu gD hB ?_)
    intro v1 w1 ho1 hg1 hb1 hne1;go_wp2
    go_roundw
    case rel=>exact⟨l.length+1,l.length,_,by go_num,rfl,by rw [←HE.out];simpa [kv] using ho1,hb.trans (hb1.mono (Cp _)),by omega,.inr ⟨rfl,ab rfl⟩⟩
    case measure=>simp [intOf]<;>omega
   ·have hlt:i<l.length:=gu
    have hne:((i:Int)==l.length)=false:=by rw [CM];omega
    cases hd:l.drop i with
    | nil=>have:=ll hd;omega
    | cons c r =>
     obtain⟨_,h3,hr⟩:=ky hd;have HF2:Hid (out++lV ((l.drop fr).take (i-fr)) (c::r)=T):=ab jy;have Hr:=ab hr;have HD:=ab hd;clear hd HF hr hil;cases hc:j0 c with
     | true =>
      go_wp2_with (go_at_call 82;refine(qX c _ hc).mono ?_;rintro e w1 ⟨rfl,rfl⟩)
      go_roundw
      case rel =>
       refine⟨i+1,fr,out,by go_num,rfl,hown,hb,by omega,.inl ⟨by omega,by omega,ab ?_⟩⟩;rw [Hr.out,←HF2.out];simp only [lV];rw [Cl hc];congr 2
       rw [show i+1-fr=i-fr+1 by omega,List.take_add_one];congr 1
       rw [List.getElem?_drop,show fr+(i-fr)=i by omega,Cn hlt,h3];rfl
      case measure=>simp [intOf]<;>omega
     | false =>
      go_wp2_with (first|(go_at_call 82;refine(qX c _ hc).mono ?_;rintro e w1 ⟨rfl,rfl⟩)|(at_builtin;refine kz w.heap.size 9 rfl _ _ 53 rfl Tryz.underlying53 hiu rfl gD rfl hown rfl gZ rfl gG gu gD hB ?_))
      intro v1 w1 ho1 hg1 hb1 hne1;go_wp2
      go_roundw
      case rel =>
       refine⟨i+1,i,out++[(l.drop fr).take (i-fr)],by go_num,rfl,by simpa [kv] using ho1,hb.trans (hb1.mono (Cp _)),by omega,.inl ⟨by omega,by omega,ab ?_⟩⟩;rw [Hr.out,←HF2.out];simp only [lV];rw [Co (by rw [hc];simp),HD.out,show i+1-i=1 by omega];simp
      case measure=>simp [intOf]<;>omega
  ·obtain⟨oa,oc,rfl⟩:=j7 hown
   have h2:l.length<i:=gu;have HE:=HF;have HOW:=ab hown;clear HF hi hown;go_wp2
   go_ret
   refine⟨oa,oc,?_,?_,hb⟩
   ·rw [←HE.out];rfl
   ·rw [←HE.out];exact HOW.out
theorem wy (l:Str) (w:World) (hl:l.length≤1000000) :
  Calls Tryz.prog 104 #[.string ⟨l.toArray⟩] w fun e w'=>e=.returned (.bool (kX l))∧Below w.heap.size w w':=by
 cases l with
 | nil =>
  go_enter Tryz.func104,Tryz.ntmps104
  go_wp2
  go_ret
  exact⟨rfl,Below.refl _ _⟩
 | cons c r =>
  obtain⟨n,hn⟩:∃n,(mX (c::r)).length=n:=⟨_,rfl⟩;have hP:=vx c r;rw [hn] at hP;rw [hP];have HN:=ab hn;have HL:=ab hl;have hnl:n≤1000001:=by have:=sN (c::r);simp only [Cr] at this hl;omega
  clear hP hn hl;cases hc:j0 c with
  | true =>
   go_enter Tryz.func104,Tryz.ntmps104
   go_wp2_with (go_at_call 82;refine(qX c _ hc).mono ?_;rintro e w1 ⟨rfl,rfl⟩)
   go_ret
   exact⟨rfl,Below.refl _ _⟩
  | false =>
   go_enter Tryz.func104,Tryz.ntmps104
   go_wp2_with (first|(go_at_call 82;refine(qX c _ hc).mono ?_;rintro e w1 ⟨rfl,rfl⟩)|(go_at_call 51;refine(sK (c::r) _ HL.out).mono ?_;rintro e w1 ⟨a,cp,rfl,_,hb1⟩;rw [HN.out]))
   go_ret
   refine⟨jU ?_,hb1⟩;rw [Bool.eq_iff_iff];simp;try omega
def kM (c:UInt8):List Row:=if c=100 then [([48],[57])] else if c=119 then [([48],[57]),([65],[90]),([95],[95]),([97],[122])] else if c=115 then [([9],[13]),([32],[32])] else []
def mY (c:UInt8):Bool:=c==100||c==119||c==115
def pD (L:List Row) (b:Bool) (w:World) (e:Ending) (w':World):Prop :=
 ∃a k,e=.returned (.tuple #[.slice a L.length k,.bool b])∧SlS w' (fun x=>w.heap.size≤x) a 2 L.length (jX L)∧Below w.heap.size w w'∧(b=true→∃x,a=some x)
theorem wQ {w:World} {B:Nat} {n sz:Nat} {cs:Array Value} {t:TypeId} (hB:B≤w.heap.size) (hl:cs.toList.length=n*sz) (h:Sl (w.alloc (.cells cs t)) (w.alloc (.cells cs t)).heap.size (some ⟨w.heap.size,0,none⟩) sz n cs.toList) :
  SlS (w.alloc (.cells cs t)) (fun x=>B≤x) (some ⟨w.heap.size,0,none⟩) sz n cs.toList :=
 ⟨hl,fun hn=>by
  obtain⟨b,o,h1,h2,h3⟩:=h.2 hn;injection h1 with h1
  injection h1 with h1 h4
  subst h1 h4;exact⟨_,_,rfl,hB,h2,h3⟩⟩
theorem uD (c:UInt8) (w:World):Calls Tryz.prog 167 #[.int .u8 c.toNat] w fun e w'=>pD (kM c) (mY c) w e w':=by
 have hb:=(Below.refl w.heap.size w).alloc (Cp _) (.cells #[.string ⟨(([48]:Str)).toArray⟩,.string ⟨(([57]:Str)).toArray⟩] 72);by_cases h1:c=100
 ·subst h1
  show Calls Tryz.prog 167 #[.int .u8 (100:Nat)] w fun e w'=>pD [([48],[57])] true w e w'
  go_enter Tryz.func167,Tryz.ntmps167
  go_wp2
  go_ret2
  refine⟨_,_,rfl,?_,hb.alloc gF _,fun _=>⟨_,rfl⟩⟩;have hs:=wQ (B:=w.heap.size) (w:=w.alloc (.cells #[.string ⟨(([48]:Str)).toArray⟩,.string ⟨(([57]:Str)).toArray⟩] 72)) (t:=72) (cs:=#[.string ⟨(([48]:Str)).toArray⟩,.string ⟨(([57]:Str)).toArray⟩]) (n:=1) (sz:=2) gF rfl (Sl.lit (heap_alloc_new _ _) rfl);rw [CL] at hs;exact hs
 by_cases h2:c=119
 ·subst h2
  show Calls Tryz.prog 167 #[.int .u8 (119:Nat)] w fun e w'=>pD [([48],[57]),([65],[90]),([95],[95]),([97],[122])] true w e w'
  go_enter Tryz.func167,Tryz.ntmps167
  go_wp2
  go_ret2
  refine⟨_,_,rfl,?_,hb.alloc gF _,fun _=>⟨_,rfl⟩⟩;have hs:=wQ (B:=w.heap.size) (w:=w.alloc (.cells #[.string ⟨(([48]:Str)).toArray⟩,.string ⟨(([57]:Str)).toArray⟩] 72)) (t:=72) (cs:=#[.string ⟨(([48]:Str)).toArray⟩,.string ⟨(([57]:Str)).toArray⟩,.string ⟨(([65]:Str)).toArray⟩,.string ⟨(([90]:Str)).toArray⟩,.string ⟨(([95]:Str)).toArray⟩,.string ⟨(([95]:Str)).toArray⟩,.string ⟨(([97]:Str)).toArray⟩,.string ⟨(([122]:Str)).toArray⟩]) (n:=4) (sz:=2) gF rfl (Sl.lit (heap_alloc_new _ _) rfl);rw [CL] at hs;exact hs
 by_cases h3:c=115
 ·subst h3
  show Calls Tryz.prog 167 #[.int .u8 (115:Nat)] w fun e w'=>pD [([9],[13]),([32],[32])] true w e w'
  go_enter Tryz.func167,Tryz.ntmps167
  go_wp2
  go_ret2
  refine⟨_,_,rfl,?_,hb.alloc gF _,fun _=>⟨_,rfl⟩⟩;have hs:=wQ (B:=w.heap.size) (w:=w.alloc (.cells #[.string ⟨(([48]:Str)).toArray⟩,.string ⟨(([57]:Str)).toArray⟩] 72)) (t:=72) (cs:=#[.string ⟨(([9]:Str)).toArray⟩,.string ⟨(([13]:Str)).toArray⟩,.string ⟨(([32]:Str)).toArray⟩,.string ⟨(([32]:Str)).toArray⟩]) (n:=2) (sz:=2) gF rfl (Sl.lit (heap_alloc_new _ _) rfl);rw [CL] at hs;exact hs
 ·have hL:kM c=[]:=by simp [kM,h1,h2,h3]
  have hB:mY c=false:=by simp [mY,h1,h2,h3]
  have n1:c.toNat≠100:=fun e=>h1 (Ck.1 e)
  have n2:c.toNat≠119:=fun e=>h2 (Ck.1 e)
  have n3:c.toNat≠115:=fun e=>h3 (Ck.1 e)
  rw [hL,hB];clear hL hB h1 h2 h3;go_enter Tryz.func167,Tryz.ntmps167
  go_wp2
  go_ret2
  exact⟨none,0,rfl,SlS.none_ _ _ _ _,hb,fun h=>by cases h⟩
abbrev Res:=Except Int (Rx × List Str)
def rx0:Rx:=.mk 0 [] false [] 0 0 false []
def rxK (k:Int):Rx:=.mk k [] false [] 0 0 false []
def chrR (c:Str):Rx:=.mk 2 c false [] 0 0 false []
def setR (rows:List Row) (ng:Bool):Rx:=.mk 4 [] ng rows 0 0 false []
def grpR (k:Int) (x:Rx):Rx:=.mk k [] false [] 0 0 false [x]
def repR (lo hi:Int) (lz:Bool) (x:Rx):Rx:=.mk 7 [] false [] lo hi lz [x]
def l6 (c:Str):Option Str :=
 if c=[] then none else if c=[110] then some [10] else if c=[114] then some [13] else if c=[116] then some [9] else if c=[102] then some [12] else if c=[118] then some [11]
 else if c=[95]∨lG c=false then some c else none
def nC (c:Str):Option (List Row):=match c with
 | [b]=>if mY b=true then some (kM b) else none
 | _=>none
def bigS (c:Str):Option (List Row):=if c=[68] then some (kM 100) else if c=[87] then some (kM 119) else if c=[83] then some (kM 115) else none
def escM:List Str→Res
 | []=>.error 10
 | c::r=>match nC c with
  | some rows=>.ok (setR rows false,r)
  | none=>match bigS c with
   | some rows=>.ok (setR rows true,r)
   | none=>match l6 c with
    | none=>.error 10
    | some t=>.ok (chrR t,r)
def pH:List Str→Option (Str × List Row × List Str)
 | []=>none
 | c::r=>if c=[93] then none else if c=[92] then(match r with
   | []=>none
   | c2::r2=>match nC c2 with
    | some rows=>some ([],rows,r2)
    | none=>match l6 c2 with
     | none=>none
     | some t=>some (t,[],r2)) else some (c,[],r)
def kG (c:Str):List Str→Option (List Str)
 | []=>none
 | x::r=>if x=c then some r else none
def lc:Nat→List Row→List Str→Option (List Row × List Str)
 | 0,_,_=>none
 | n+1,rows,r=>match kG [93] r with
  | some r1=>some (rows,r1)
  | none=>match pH r with
   | none=>none
   | some (c,nm,r1) =>
    if nm≠[] then lc n (rows++nm) r1
    else match kG [45] r1 with
     | none=>lc n (rows++[(c,c)]) r1
     | some r2=>if kG [93] r2=none then(match pH r2 with
       | none=>none
       | some (t,nm2,r3)=>if nm2≠[]∨Op.bytesLess t c=true then none else lc n (rows++[(c,t)]) r3)
      else lc n (rows++[(c,c)]) r1
def mN (r:List Str):Res :=
 let ng:=(kG [94] r).isSome
 let r0:=(kG [94] r).getD r
 match lc (r0.length+1) [] r0 with
 | none=>.error 10
 | some (rows,r1)=>.ok (setR (mq rows) ng,r1)
def digS (c:Str):Option Nat:=match c with
 | [b]=>if 48≤b.toNat∧b.toNat≤57 then some (b.toNat-48) else none
 | _=>none
def numL:Nat→Nat→List Str→Option (Nat × List Str)
 | k,n,[]=>if 0<k∧n≤255 then some (n,[]) else none
 | k,n,c::r=>match digS c with
  | some d=>if k=3 then none else numL (k+1) (10*n+d) r
  | none=>if 0<k∧n≤255 then some (n,c::r) else none
def nV (r:List Str):Option (Int × Int × List Str):=match numL 0 0 r with
 | none=>none
 | some (lo,r1)=>match kG [125] r1 with
  | some r2=>some (lo,lo,r2)
  | none=>match kG [44] r1 with
   | none=>none
   | some r2=>match kG [125] r2 with
    | some r3=>some (lo,-1,r3)
    | none=>match numL 0 0 r2 with
     | none=>none
     | some (hi,r3)=>if lo≤hi then(match kG [125] r3 with
      | some r4=>some (lo,hi,r4)
      | none=>none) else none
def qN (x:Rx) (lo hi:Int) (r:List Str):Rx × List Str:=match kG [63] r with
 | some r1=>(repR lo hi true x,r1)
 | none=>(repR lo hi false x,r)
def me (x:Rx):List Str→Res
 | []=>.ok (x,[])
 | c::r=>if c=[42] then .ok (qN x 0 (-1) r) else if c=[43] then .ok (qN x 1 (-1) r) else if c=[63] then .ok (qN x 0 1 r)
  else if c=[123] then(match nV r with
   | none=>.error 10
   | some (lo,hi,r1)=>.ok (qN x lo hi r1)) else .ok (x,c::r)
def qC (r:List Str):Option (Int × List Str):=match kG [63] r with
 | none=>some (5,r)
 | some r1=>match kG [58] r1 with
  | none=>none
  | some r2=>some (6,r2)
def pd (pat:List Str→Nat→Res) (r:List Str) (d:Nat):Res :=
 if 16≤d then .error 8 else match qC r with
 | none=>.error 10
 | some (k,r0)=>match pat r0 (d+1) with
  | .error e=>.error e
  | .ok (x,r1)=>match kG [41] r1 with
   | none=>.error 10
   | some r2=>.ok (grpR k x,r2)
def xE (c:Str):Bool:=decide (c=[42])||decide (c=[43])||decide (c=[63])||decide (c=[41])||decide (c=[123])||decide (c=[124])||decide (c=[94])||decide (c=[36])
def od (pat:List Str→Nat→Res):List Str→Nat→Res
 | [],_=>.error 10
 | c::r,d=>if c=[46] then .ok (rxK 3,r) else if c=[40] then pd pat r d else if c=[91] then mN r else if c=[92] then escM r
  else if xE c=true then .error 10 else .ok (chrR c,r)
def tQ (r:List Str):Option (Rx × List Str):=match r with
 | []=>none
 | c::r1=>if c=[94] then some (rxK 8,r1) else if c=[36] then some (rxK 9,r1) else if c=[92] then(match kG [98] r1 with
  | some r2=>some (rxK 10,r2)
  | none=>match kG [66] r1 with
   | some r2=>some (rxK 11,r2)
   | none=>none) else none
def o7 (pat:List Str→Nat→Res) (r:List Str) (d:Nat):Res:=match tQ r with
 | some y=>.ok y
 | none=>match od pat r d with
  | .error e=>.error e
  | .ok (x,r1)=>me x r1
def patL (trm:List Str→Res):Nat→List Rx→List Rx→List Str→Res
 | 0,_,_,_=>.error 1
 | n+1,alts,terms,r=>match r with
  | []=>.ok (altR (alts++[seqR terms]),[])
  | c::r1=>if c=[41] then .ok (altR (alts++[seqR terms]),c::r1) else if c=[124] then patL trm n (alts++[seqR terms]) [] r1
   else match trm (c::r1) with
    | .error e=>.error e
    | .ok (x,r2)=>patL trm n alts (terms++[x]) r2
def patF:Nat→List Str→Nat→Res
 | 0,_,_=>.error 1
 | n+1,r,d=>patL (fun r=>o7 (patF n) r d) (r.length+1) [] [] r
def wi (l:List Str):Except Int Rx:=match patF (l.length+1) l 0 with
 | .error e=>.error e
 | .ok (x,[])=>.ok x
 | .ok (_,_::_)=>.error 10
def sy (s:Str):Except Int Rx :=
 if 256<s.length then .error 4 else match kh s with
 | []=>wi []
 | c::r=>if kX c=true then wi (c::r) else .error 10
def RdT (T:TypeId) (x:List Value) (w:World) (g:Nat) (r:List Str):Prop :=
 ∃(a:Option Addr) (c:Nat) (l:List Str) (i:Nat),w.heap[g]?=some (.cells (.slice a l.length c::.int .i64 i::x).toArray T (0,0))∧SlS w (fun b=>b<g) a 1 l.length (kv l)∧l.length≤200000∧i≤l.length ∧
  (∀p∈l,p≠[]∧p.length≤1000000)∧l.drop i=r
def hdS:List Str→Str|[]=>[]|c::_=>c
theorem RdT.cells {T:TypeId} {x:List Value} {w:World} {g:Nat} {r:List Str} (h:RdT T x w g r):∃a c l i,w.cell? ⟨g,0,none⟩=some (.slice a (l:List Str).length c)∧w.cell? ⟨g,1,none⟩=some (.int .i64 (i:Nat)) ∧
  (∀j,j<2+x.length→w.frozen? ⟨g,j,none⟩=false)∧SlS w (fun b=>b<g) a 1 l.length (kv l)∧l.length≤200000∧i≤l.length∧(∀p∈l,p≠[]∧p.length≤1000000)∧l.drop i=r∧g<w.heap.size:=by
 obtain⟨a,c,l,i,h1,h2,h3,h4,h5,h6⟩:=h;refine⟨a,c,l,i,?_,?_,?_,h2,h3,h4,h5,h6,jO h1⟩
 ·rw [Cv h1];rfl
 ·rw [Cv h1];rfl
 ·intro j hj;unfold World.frozen?;rw [h1];rfl
theorem RdT.cell2 {T:TypeId} {u:Value} {w:World} {g:Nat} {r:List Str} (h:RdT T [u] w g r):w.cell? ⟨g,2,none⟩=some u:=by
 obtain⟨a,c,l,i,h1,_⟩:=h;rw [Cv h1];rfl
theorem RdT.lt {T:TypeId} {x:List Value} {w:World} {g:Nat} {r:List Str} (h:RdT T x w g r):g<w.heap.size:=by
 obtain⟨a,c,l,i,h1,_⟩:=h;exact jO h1
def Still (w w':World):Prop:=w'.heap=w.heap∧w'.os=w.os∧w'.tape=w.tape∧w'.output=w.output
theorem Still.drewN (w:World) (n:Nat):Still w (w.drewN n):=⟨rfl,rfl,rfl,rfl⟩
theorem Still.trans {a b c:World} (h1:Still a b) (h2:Still b c):Still a c:=⟨h2.1.trans h1.1,h2.2.1.trans h1.2.1,h2.2.2.1.trans h1.2.2.1,h2.2.2.2.trans h1.2.2.2⟩
theorem Still.below {w w':World} (h:Still w w') (B:Nat):Below B w w':=⟨h.2.1,h.2.2.1,h.2.2.2,by rw [h.1];exact Cp _,fun _ _=>by rw [h.1]⟩
theorem Still.size {w w':World} (h:Still w w'):w'.heap.size=w.heap.size:=by rw [h.1]
theorem Still.grown {w w':World} (h:Still w w') (g:Option Nat):w.grownBy w' g:=⟨h.2.1,h.2.2.1,h.2.2.2,by rw [h.1];exact Cp _,fun _ _ _=>by rw [h.1]⟩
theorem RdT.later {T:TypeId} {x:List Value} {w w':World} {g:Nat} {r:List Str} (hr:RdT T x w g r) (h:Below w.heap.size w w'):RdT T x w' g r:=by
 obtain⟨a,c,l,i,h1,h2,h3⟩:=hr;exact⟨a,c,l,i,(h.block g (jO h1)).trans h1,h2.keep ⟨h.size,fun b _ hlt=>h.block b hlt⟩,h3⟩
theorem Still.rd {T:TypeId} {x:List Value} {w w':World} (h:Still w w') {g:Nat} {r:List Str} (hr:RdT T x w g r):RdT T x w' g r:=hr.later (h.below _)
abbrev Rd (w:World) (g:Nat) (r:List Str) (d:Nat):Prop:=RdT 103 [.int .i64 d] w g r
theorem sJ {α:Type} {l:List α} {i:Nat} (h:l.drop i=[]):l.length≤i:=by simpa using h
theorem RdT.pos {T:TypeId} {x:List Value} {w:World} {g:Nat} {c:Str} {r:List Str} (h:RdT T x w g (c::r)):c≠[]∧c.length≤1000000:=by
 obtain⟨a,k,l,i,_,_,_,_,h5,h6⟩:=h;have:=(j6 h6).2.1
 exact h5 c (CF this)
theorem kH {T:TypeId} {x:List Value} {g:Nat} {r:List Str} (w:World) (h:RdT T x w g r) :
  Calls Tryz.prog 46 #[.pointer (some ⟨g,0,none⟩)] w fun e w'=>e=.returned (.string ⟨(hdS r).toArray⟩)∧Still w w':=by
 obtain⟨a,c,l,i,c0,c1,hf,hs,hl,hi,hp,hd,hg⟩:=h.cells;clear h hf;cases r with
 | nil =>
  have h2:l.length≤i:=sJ hd;show Calls Tryz.prog 46 #[.pointer (some ⟨g,0,none⟩)] w fun e w'=>e=.returned (.string ⟨(([]:Str)).toArray⟩)∧Still w w'
  clear hd hs;go_enter Tryz.func46,Tryz.ntmps46
  go_wp2
  go_quiet (fail)
  go_wp2
  go_ret
  exact⟨rfl,Still.drewN _ _⟩
 | cons p r =>
  obtain⟨h2,hx,_⟩:=j6 hd;obtain⟨b,o,rfl,hb,k0⟩:=hs.sl.str hx;show Calls Tryz.prog 46 #[.pointer (some ⟨g,0,none⟩)] w fun e w'=>e=.returned (.string ⟨p.toArray⟩)∧Still w w'
  clear hx hs hd;go_enter Tryz.func46,Tryz.ntmps46
  go_wp2
  go_quiet (fail)
  go_wp2
  obtain⟨w1,hw1⟩:∃w1,w1=w.drewN nq:=⟨_,rfl⟩;have hbq:Below w.heap.size w w1:=by rw [hw1];exact below_drewN (Below.refl _ _) _
  rw [←hw1];have e0:=jP hbq _ _ c0;have e1:=jP hbq _ _ c1;have e2:=jP hbq _ _ k0;have HW:=ab hw1;clear c0 c1 k0 hw1;go_quiet (fail)
  go_wp2
  go_ret
  refine⟨rfl,?_⟩;rw [HW.out];exact(Still.drewN _ _).trans (Still.drewN _ _)
theorem vS {w:World} {g:Nat} {y z u:Value} {x:List Value} {t:TypeId} (h:w.heap[g]?=some (.cells (y::z::x).toArray t (0,0))):(w.setCell ⟨g,1,none⟩ u).heap[g]?=some (.cells (y::u::x).toArray t (0,0)):=by
 simp [World.setCell,Array.getElem?_modify,h]
theorem RdT.setAt {T:TypeId} {x:List Value} {w:World} {g:Nat} {r r':List Str} {a:Option Addr} {c:Nat} {l:List Str} (h:RdT T x w g r)
  (h0:w.cell? ⟨g,0,none⟩=some (.slice a l.length c)) (h2:SlS w (fun b=>b<g) a 1 l.length (kv l)) (h3:l.length≤200000) (h5:∀p∈l,p≠[]∧p.length≤1000000) (j:Nat) (hj:j≤l.length) (hd:l.drop j=r') :
  RdT T x (w.setCell ⟨g,1,none⟩ (.int .i64 j)) g r':=by
 obtain⟨a',c',l',i',h1,_⟩:=h;rw [Cv h1] at h0;have e:(Value.slice a' l'.length c')=.slice a l.length c:=by simpa using h0
 rw [e] at h1;exact⟨a,c,l,j,vS h1,h2.keep (Kept.setLow _ fun b hb=>Nat.ne_of_lt hb),h3,hj,h5,hd⟩
theorem pK {l r:List Str} {i:Nat} {c:Str} (h:l.drop i=c::r):i+1≤l.length∧l.drop (i+1)=r:=⟨(j6 h).1,(j6 h).2.2⟩
theorem RdT.step {T:TypeId} {x:List Value} {w:World} {g:Nat} {c:Str} {r:List Str} (h:RdT T x w g (c::r)):∃i:Nat,i<1000000∧w.cell? ⟨g,1,none⟩=some (.int .i64 i)∧w.frozen? ⟨g,1,none⟩=false∧RdT T x (w.setCell ⟨g,1,none⟩ (.int .i64 ((i:Int)+1))) g r:=by
 obtain⟨a,k,l,i,c0,c1,hf,hs,hl,hi,hp,hd,hg⟩:=h.cells;obtain⟨h1,h2⟩:=pK hd;exact⟨i,by omega,c1,hf 1 gu,h.setAt (l:=l) c0 hs hl hp (i+1) h1 h2⟩
theorem RdT.step2 {T:TypeId} {x:List Value} {w:World} {g:Nat} {c c2:Str} {r:List Str} (h:RdT T x w g (c::c2::r)):∃i:Nat,i<1000000∧w.cell? ⟨g,1,none⟩=some (.int .i64 i)∧w.frozen? ⟨g,1,none⟩=false∧RdT T x (w.setCell ⟨g,1,none⟩ (.int .i64 ((i:Int)+2))) g r:=by
 obtain⟨a,k,l,i,c0,c1,hf,hs,hl,hi,hp,hd,hg⟩:=h.cells;obtain⟨h1,h2⟩:=pK hd;obtain⟨h3,h4⟩:=pK h2;exact⟨i,by omega,c1,hf 1 gu,h.setAt (l:=l) c0 hs hl hp (i+2) h3 h4⟩
theorem wl {w w1 w2:World} {g:Option Nat} (h1:Still w w1) (h2:w1.grownBy w2 g):w.grownBy w2 g:=jM (h1.grown g) h2
theorem take_yes {T:TypeId} {x:List Value} {g:Nat} {r:List Str} (c:Str) (w:World) (h:RdT T x w g (c::r)) :
  Calls Tryz.prog 143 #[.pointer (some ⟨g,0,none⟩),.string ⟨c.toArray⟩] w fun e w'=>e=.returned (.bool true)∧RdT T x w' g r∧w.grownBy w' (some g):=by
 have HS:=ab (kH w h);have HR:=ab h;clear h;go_enter Tryz.func143,Tryz.ntmps143
 exact cz
theorem take_no {T:TypeId} {x:List Value} {g:Nat} {r:List Str} (c:Str) (w:World) (h:RdT T x w g r) (hc:kG c r=none) (hc0:c≠[]) :
  Calls Tryz.prog 143 #[.pointer (some ⟨g,0,none⟩),.string ⟨c.toArray⟩] w fun e w'=>e=.returned (.bool false)∧Still w w':=by
 have HS:=ab (kH w h);obtain⟨u,hu⟩:∃u,hdS r=u:=⟨_,rfl⟩;have hne:u≠c:=by
  rw [←hu];cases r with
  | nil=>exact fun e=>hc0 e.symm
  | cons p r=>intro e;simp only [hdS] at e;rw [kG,Cl e] at hc;cases hc
 have h1:(u==c)=false:=CM.2 hne;have h2:(u != c)=true:=by simp [bne,h1]
 rw [hu] at HS;clear h hc hc0 hu;go_enter Tryz.func143,Tryz.ntmps143
 go_wp2_with (go_at_call 46;refine HS.out.mono ?_)
 rintro e w1 ⟨rfl,hst⟩;go_wp2
 go_ret
 exact⟨rfl,hst⟩
theorem next_nil {T:TypeId} {x:List Value} {g:Nat} (w:World) (h:RdT T x w g []) :
  Calls Tryz.prog 138 #[.pointer (some ⟨g,0,none⟩)] w fun e w'=>e=.returned (.string ⟨(([]:Str)).toArray⟩)∧Still w w':=by
 have HS:=ab (kH w h);clear h;go_enter Tryz.func138,Tryz.ntmps138
 go_wp2_with (go_at_call 46;refine HS.out.mono ?_)
 rintro e w1 ⟨rfl,hst⟩;unfold hdS;go_wp2
 go_ret
 exact⟨rfl,hst⟩
theorem km {T:TypeId} {x:List Value} {g:Nat} {c:Str} {r:List Str} (w:World) (h:RdT T x w g (c::r)) :
  Calls Tryz.prog 138 #[.pointer (some ⟨g,0,none⟩)] w fun e w'=>e=.returned (.string ⟨c.toArray⟩)∧RdT T x w' g r∧w.grownBy w' (some g):=by
 have HS:=ab (kH w h);have hc:=h.pos.1;have HR:=ab h;cases c with
 | nil=>exact absurd rfl hc
 | cons b c =>
  clear h hc;go_enter Tryz.func138,Tryz.ntmps138
  exact cz
def BK (c:Str) (w:World) (e:Ending) (w':World):Prop:=w=w'∧match l6 c with
 | some t=>e=.returned (.tuple #[.string ⟨t.toArray⟩,.bool true])
 | none=>∃t:Str,e=.returned (.tuple #[.string ⟨t.toArray⟩,.bool false])
theorem vN (c:Str) (w:World) (hs:c.length≤100000000) :
  Calls Tryz.prog 168 #[.string ⟨c.toArray⟩] w fun e w'=>BK c w e w':=by
 by_cases h0:c=[]
 ·subst h0
  go_enter Tryz.func168,Tryz.ntmps168
  go_wp2
  go_ret2
  exact⟨rfl,[],rfl⟩
 have g0:List.isEmpty c=false:=by cases c<;>simp at h0 ⊢
 by_cases h110:c=[110]
 ·subst h110
  exact cm
 have g110:(c==[110])=false:=CM.2 h110;by_cases h114:c=[114]
 ·subst h114
  exact cm
 have g114:(c==[114])=false:=CM.2 h114;by_cases h116:c=[116]
 ·subst h116
  exact cm
 have g116:(c==[116])=false:=CM.2 h116;by_cases h102:c=[102]
 ·subst h102
  exact cm
 have g102:(c==[102])=false:=CM.2 h102;by_cases h118:c=[118]
 ·subst h118
  exact cm
 have g118:(c==[118])=false:=CM.2 h118;have hM:l6 c=if c=[95]∨lG c=false then some c else none:=by
  unfold l6;rw [Co h0,Co h110,Co h114,Co h116,Co h102,Co h118]
 have HW:=ab (qR c w hs);by_cases h95:c=[95]
 ·subst h95
  clear HW hM;exact cm
 have g95:(c==[95])=false:=CM.2 h95;cases hw:lG c with
 | true =>
  rw [Co (by rw [hw];simp [h95])] at hM;rw [hw] at HW;have HM:=ab hM;clear hM hw h0 h110 h114 h116 h102 h118 h95;go_enter Tryz.func168,Tryz.ntmps168
  go_wp2_with (go_at_call 182;refine HW.out.mono ?_;rintro e w1 ⟨rfl,rfl⟩)
  go_ret2
  exact⟨rfl,by rw [HM.out];exact⟨c,rfl⟩⟩
 | false =>
  rw [Cl (.inr hw)] at hM;rw [hw] at HW;have HM:=ab hM;clear hM hw h0 h110 h114 h116 h102 h118 h95;go_enter Tryz.func168,Tryz.ntmps168
  go_wp2_with (go_at_call 182;refine HW.out.mono ?_;rintro e w1 ⟨rfl,rfl⟩)
  go_ret2
  exact⟨rfl,by rw [HM.out];rfl⟩
def NumPost (g d:Nat) (w:World) (R:Option (Nat × List Str)) (e:Ending) (w':World):Prop:=w.grownBy w' (some g)∧match R with
 | some (n,r)=>e=.returned (.tuple #[.int .i64 n,.bool true])∧n≤255∧Rd w' g r d
 | none=>(∃v:Int,e=.returned (.tuple #[.int .i64 v,.bool false]))∧∃r,Rd w' g r d
def NumRel (g d:Nat) (w:World) (R:Option (Nat × List Str)) (vn vk vc:Value) (wr:World):Prop :=
 ∃(n k:Nat) (r:List Str),vn=.int .i64 n∧vk=.int .i64 k∧vc=.string ⟨(hdS r).toArray⟩∧Rd wr g r d∧w.grownBy wr (some g)∧k≤3∧n≤999∧Hid (k=0∧n=0∨k=1∧n≤9∨k=2∧n≤99∨k=3)∧Hid (numL k n r=R)
theorem kO (c:Str) (r:List Str):hdS (c::r)=c:=rfl
theorem tg {g d:Nat} {r:List Str} (w:World) (h:Rd w g r d) :
  Calls Tryz.prog 169 #[.pointer (some ⟨g,0,none⟩)] w fun e w'=>NumPost g d w (numL 0 0 r) e w':=by
 obtain⟨R,hR⟩:∃R,numL 0 0 r=R:=⟨_,rfl⟩;rw [hR];have HR:=ab hR;have HRD:=ab h;clear hR h;go_enter Tryz.func169,Tryz.ntmps169
 go_wp2_with (go_at_call 46;refine(kH _ HRD.out).mono ?_)
 rintro e w1 ⟨rfl,hst⟩;have HRD1:=ab (hst.rd HRD.out);have hg1:=hst.grown (some g);clear hst HRD;go_wp2
 go_loopw [4,5,6] (fun vn vk vc wr=>NumRel g d w R vn vk vc wr) (fun _ vk _ _=>4-(intOf vk).toNat)
 case atStart=>exact⟨0,0,r,rfl,rfl,rfl,HRD1.out,hg1,by omega,by omega,ab (.inl ⟨rfl,rfl⟩),HR⟩
 case round =>
  clear HR HRD1 hg1;obtain⟨n,k,r,rfl,rfl,rfl,hrd,hg,hk,hn,HB,HF⟩:=hrel;have HRD:=ab hrd;cases r with
  | nil =>
   have HF2:Hid ((if 0<k∧n≤255 then some (n,[]) else none)=R):=HF;clear HF hrd;generalize hr:([]:List Str)=r at *
   have hh:hdS r=[]:=by rw [←hr];rfl
   rw [hh];clear hr hh;exact aE
  | cons c r' =>
   have hp:=hrd.pos;obtain⟨i,hi,c1,hf,hr1⟩:=hrd.step;have HR1:=ab hr1;clear hrd hr1;rw [kO];match c,hp with
   | [b],_ =>
    by_cases hb1:48≤b.toNat
    ·by_cases hb2:b.toNat≤57
     ·have hdg:digS [b]=some (b.toNat-48):=by simp only [digS,Cl (And.intro hb1 hb2)]
      by_cases hk3:k=3
      ·have HF2:Hid (none=R):=ab (by rw [←HF.out,numL,hdg];simp [hk3])
       clear HF hdg;go_wp2
       go_ret2
       exact⟨hg,by rw [←HF2.out];exact⟨⟨_,rfl⟩,_,HRD.out⟩⟩
      ·have HF2:Hid (numL (k+1) (10*n+(b.toNat-48)) r'=R):=ab (by rw [←HF.out,numL,hdg];simp [hk3])
       have hn99:n≤99:=by have:=HB.out;omega
       have HB2:Hid (k+1=0∧10*n+(b.toNat-48)=0∨k+1=1∧10*n+(b.toNat-48)≤9∨k+1=2∧10*n+(b.toNat-48)≤99∨k+1=3):=ab (by have:=HB.out;omega);clear HF hdg;have hg2:w.grownBy (wr.setCell ⟨g,1,none⟩ (.int .i64 ((i:Int)+1))) (some g):=j9 hg _ _;go_wp2_with (go_at_call 46;refine(kH _ HR1.out).mono ?_)
       rintro e w3 ⟨rfl,hst⟩;have hrd3:=hst.rd HR1.out;have hg3:=jM hg2 (hst.grown _);clear hst;go_wp2
       go_roundw
       case rel=>exact⟨10*n+(b.toNat-48),k+1,r',CR (Value.int .i64) gu,by go_num,rfl,hrd3,hg3,by omega,by omega,HB2,HF2⟩
       case measure=>simp [intOf];omega
     ·have HF2:Hid ((if 0<k∧n≤255 then some (n,[b]::r') else none)=R):=ab (by
       rw [←HF.out];simp only [numL,digS,Co (show ¬(48≤b.toNat∧b.toNat≤57) from fun q=>hb2 q.2)])
      clear HF;generalize hr:[b]::r'=r at *
      exact aE
    ·have HF2:Hid ((if 0<k∧n≤255 then some (n,[b]::r') else none)=R):=ab (by
      rw [←HF.out];simp only [numL,digS,Co (show ¬(48≤b.toNat∧b.toNat≤57) from fun q=>hb1 q.1)])
     clear HF;generalize hr:[b]::r'=r at *
     exact aE
   | [],hp=>exact absurd rfl hp.1
   | b::b2::t,hp =>
    have hlt:=hp.2;have HF2:Hid ((if 0<k∧n≤255 then some (n,(b::b2::t)::r') else none)=R):=ab (by
     rw [←HF.out];simp only [numL,digS])
    have hne:((t.length:Int)+1+1==1)=false:=by rw [CM];omega
    clear HF;generalize hr:(b::b2::t)::r'=r at *
    exact aE
theorem lM {c:Str} {r r1:List Str} (h:kG c r=some r1):r=c::r1:=by
 cases r with
 | nil=>cases h
 | cons x r =>
  simp only [kG] at h;by_cases hx:x=c
  ·rw [Cl hx] at h;injection h with h;rw [hx,h]
  ·rw [Co hx] at h;cases h
theorem kI {T:TypeId} {x:List Value} {g:Nat} {r r1:List Str} {c:Str} (w:World) (h:RdT T x w g r) (hc:kG c r=some r1) :
  Calls Tryz.prog 143 #[.pointer (some ⟨g,0,none⟩),.string ⟨c.toArray⟩] w fun e w'=>e=.returned (.bool true)∧RdT T x w' g r1∧w.grownBy w' (some g):=by
 have e:=lM hc;subst e;exact take_yes c w h
theorem kj {T:TypeId} {x:List Value} {g:Nat} {r:List Str} {c:Str} (w:World) (h:RdT T x w g r) (hc:kG c r=none) (hc0:c≠[]) :
  Calls Tryz.prog 143 #[.pointer (some ⟨g,0,none⟩),.string ⟨c.toArray⟩] w fun e w'=>e=.returned (.bool false)∧RdT T x w' g r∧w.grownBy w' (some g) :=
 (take_no c w h hc hc0).mono fun _ _ ⟨h1,h2⟩=>⟨h1,h2.rd h,h2.grown _⟩
theorem nP {g d:Nat} {r r1:List Str} {n:Nat} (w:World) (h:Rd w g r d) (hn:numL 0 0 r=some (n,r1)) :
  Calls Tryz.prog 169 #[.pointer (some ⟨g,0,none⟩)] w fun e w'=>e=.returned (.tuple #[.int .i64 n,.bool true])∧Rd w' g r1 d∧w.grownBy w' (some g):=by
 refine(tg w h).mono ?_
 rintro e w' ⟨h1,h2⟩;rw [hn] at h2;exact⟨h2.1,h2.2.2,h1⟩
def NumNo (w:World) (g d:Nat) (e:Ending) (w':World):Prop:=∃v:Int,e=.returned (.tuple #[.int .i64 v,.bool false])∧w.grownBy w' (some g)∧∃r,Rd w' g r d
theorem rF {g d:Nat} {r:List Str} (w:World) (h:Rd w g r d) (hn:numL 0 0 r=none) :
  Calls Tryz.prog 169 #[.pointer (some ⟨g,0,none⟩)] w fun e w'=>NumNo w g d e w':=by
 refine(tg w h).mono ?_
 rintro e w' ⟨h1,h2⟩;rw [hn] at h2;obtain⟨⟨v,h2⟩,h3⟩:=h2;exact⟨v,h2,h1,h3⟩
theorem wW:∀(r:List Str) (k n:Nat) {m:Nat} {r1:List Str},numL k n r=some (m,r1)→m≤255
 | [],k,n,m,r1,h=>by
  unfold numL at h;split at h
  ·rename_i q;injection h with h;injection h with h _;omega
  ·cases h
 | c::r,k,n,m,r1,h=>by
  unfold numL at h;split at h
  ·split at h
   ·cases h
   ·exact wW r _ _ h
  ·split at h
   ·rename_i q;injection h with h;injection h with h _;omega
   ·cases h
def BdPost (g d:Nat) (w:World) (R:Option (Int × Int × List Str)) (e:Ending) (w':World):Prop:=w.grownBy w' (some g)∧match R with
 | some (lo,hi,r)=>e=.returned (.tuple #[.int .i64 lo,.int .i64 hi,.bool true])∧Rd w' g r d
 | none=>(∃a b:Int,e=.returned (.tuple #[.int .i64 a,.int .i64 b,.bool false]))∧∃r,Rd w' g r d
theorem sZ {g d:Nat} {r:List Str} (w:World) (h:Rd w g r d) :
  Calls Tryz.prog 142 #[.pointer (some ⟨g,0,none⟩)] w fun e w'=>BdPost g d w (nV r) e w':=by
 obtain⟨R,hR⟩:∃R,nV r=R:=⟨_,rfl⟩;rw [hR];have HRD:=ab h;unfold nV at hR;clear h;cases h1:numL 0 0 r with
 | none =>
  rw [h1] at hR;have HR:=ab hR;have HC:=ab (rF _ HRD.out h1);clear hR h1;go_enter Tryz.func142,Tryz.ntmps142
  go_wp2_with (go_at_call 169;refine HC.out.mono ?_)
  rintro e w1 hq1;obtain⟨v,rfl,hg1,r9,hrd9⟩:=hq1;have HRD9:=ab hrd9;clear hrd9;go_wp2
  go_ret3
  exact⟨hg1,by rw [←HR.out];exact⟨⟨_,_,rfl⟩,_,HRD9.out⟩⟩
 | some y =>
  obtain⟨lo,r1⟩:=y;have hlo:=wW _ _ _ h1;simp only [h1] at hR;have HC:=ab (nP _ HRD.out h1);clear h1;cases h2:kG [125] r1 with
  | some r2 =>
   simp only [h2] at hR;have HR:=ab hR;have H2:=ab h2;clear hR h2;go_enter Tryz.func142,Tryz.ntmps142
   go_wp2_with (go_at_call 169;refine(HC.out).mono ?_)
   rintro e w1 ⟨rfl,hrd1,hg1⟩;have HRD1:=ab hrd1;clear hrd1;go_wp2_with (go_at_call 143;refine(kI _ HRD1.out H2.out).mono ?_)
   rintro e w2 ⟨rfl,hrd2,hq2⟩;have HRD2:=ab hrd2;have hg2:=jM hg1 hq2;clear hrd2 hq2;go_wp2
   go_ret3
   exact⟨hg2,by rw [←HR.out];exact⟨rfl,HRD2.out⟩⟩
  | none =>
   simp only [h2] at hR;have H2:=ab h2;clear h2;cases h3:kG [44] r1 with
   | none =>
    simp only [h3] at hR;have HR:=ab hR;have H3:=ab h3;clear hR h3;go_enter Tryz.func142,Tryz.ntmps142
    go_wp2_with (go_at_call 169;refine(HC.out).mono ?_)
    rintro e w1 ⟨rfl,hrd1,hg1⟩;have HRD1:=ab hrd1;clear hrd1;go_wp2_with (go_at_call 143;refine(kj _ HRD1.out H2.out gF).mono ?_)
    rintro e w2 ⟨rfl,hrd2,hq2⟩;have HRD2:=ab hrd2;have hg2:=jM hg1 hq2;clear hrd2 hq2;go_wp2_with (go_at_call 143;refine(kj _ HRD2.out H3.out gF).mono ?_)
    rintro e w3 ⟨rfl,hrd3,hq3⟩;have HRD3:=ab hrd3;have hg3:=jM hg2 hq3;clear hrd3 hq3;go_wp2
    go_ret3
    exact⟨hg3,by rw [←HR.out];exact⟨⟨_,_,rfl⟩,_,HRD3.out⟩⟩
   | some r2 =>
    simp only [h3] at hR;have H3:=ab h3;clear h3;cases h4:kG [125] r2 with
    | some r3 =>
     simp only [h4] at hR;have HR:=ab hR;have H4:=ab h4;clear hR h4;go_enter Tryz.func142,Tryz.ntmps142
     go_wp2_with (go_at_call 169;refine(HC.out).mono ?_)
     rintro e w1 ⟨rfl,hrd1,hg1⟩;have HRD1:=ab hrd1;clear hrd1;go_wp2_with (go_at_call 143;refine(kj _ HRD1.out H2.out gF).mono ?_)
     rintro e w2 ⟨rfl,hrd2,hq2⟩;have HRD2:=ab hrd2;have hg2:=jM hg1 hq2;clear hrd2 hq2;go_wp2_with (go_at_call 143;refine(kI _ HRD2.out H3.out).mono ?_)
     rintro e w3 ⟨rfl,hrd3,hq3⟩;have HRD3:=ab hrd3;have hg3:=jM hg2 hq3;clear hrd3 hq3;go_wp2_with (go_at_call 143;refine(kI _ HRD3.out H4.out).mono ?_)
     rintro e w4 ⟨rfl,hrd4,hq4⟩;have HRD4:=ab hrd4;have hg4:=jM hg3 hq4;clear hrd4 hq4;go_wp2
     go_ret3
     exact⟨hg4,by rw [←HR.out];exact⟨rfl,HRD4.out⟩⟩
    | none =>
     simp only [h4] at hR;have H4:=ab h4;clear h4;cases h5:numL 0 0 r2 with
     | none =>
      simp only [h5] at hR;have HR:=ab hR;have H5:=ab h5;clear hR h5;go_enter Tryz.func142,Tryz.ntmps142
      go_wp2_with (go_at_call 169;refine(HC.out).mono ?_)
      rintro e w1 ⟨rfl,hrd1,hg1⟩;have HRD1:=ab hrd1;clear hrd1;go_wp2_with (go_at_call 143;refine(kj _ HRD1.out H2.out gF).mono ?_)
      rintro e w2 ⟨rfl,hrd2,hq2⟩;have HRD2:=ab hrd2;have hg2:=jM hg1 hq2;clear hrd2 hq2;go_wp2_with (go_at_call 143;refine(kI _ HRD2.out H3.out).mono ?_)
      rintro e w3 ⟨rfl,hrd3,hq3⟩;have HRD3:=ab hrd3;have hg3:=jM hg2 hq3;clear hrd3 hq3;go_wp2_with (go_at_call 143;refine(kj _ HRD3.out H4.out gF).mono ?_)
      rintro e w4 ⟨rfl,hrd4,hq4⟩;have HRD4:=ab hrd4;have hg4:=jM hg3 hq4;clear hrd4 hq4;go_wp2_with (go_at_call 169;refine(rF _ HRD4.out H5.out).mono ?_)
      rintro e w5 hn5;obtain⟨v,rfl,hq5,r9,hrd9⟩:=hn5;have HRD9:=ab hrd9;clear hrd9;have hg5:=jM hg4 hq5;go_wp2
      go_ret3
      exact⟨hg5,by rw [←HR.out];exact⟨⟨_,_,rfl⟩,_,HRD9.out⟩⟩
     | some y =>
      obtain⟨hi,r3⟩:=y;have hhi:=wW _ _ _ h5;simp only [h5] at hR;have H5:=ab h5;clear h5;by_cases hle:lo≤hi
      ·rw [Cl gu] at hR
       have hle':decide ((lo:Int)≤(hi:Int))=true:=by simp;omega
       cases h6:kG [125] r3 with
       | none =>
        simp only [h6] at hR;have HR:=ab hR;have H6:=ab h6;clear hR h6;go_enter Tryz.func142,Tryz.ntmps142
        go_wp2_with (go_at_call 169;refine(HC.out).mono ?_)
        rintro e w1 ⟨rfl,hrd1,hg1⟩;have HRD1:=ab hrd1;clear hrd1;go_wp2_with (go_at_call 143;refine(kj _ HRD1.out H2.out gF).mono ?_)
        rintro e w2 ⟨rfl,hrd2,hq2⟩;have HRD2:=ab hrd2;have hg2:=jM hg1 hq2;clear hrd2 hq2;go_wp2_with (go_at_call 143;refine(kI _ HRD2.out H3.out).mono ?_)
        rintro e w3 ⟨rfl,hrd3,hq3⟩;have HRD3:=ab hrd3;have hg3:=jM hg2 hq3;clear hrd3 hq3;go_wp2_with (go_at_call 143;refine(kj _ HRD3.out H4.out gF).mono ?_)
        rintro e w4 ⟨rfl,hrd4,hq4⟩;have HRD4:=ab hrd4;have hg4:=jM hg3 hq4;clear hrd4 hq4;go_wp2_with (go_at_call 169;refine(nP _ HRD4.out H5.out).mono ?_)
        rintro e w5 ⟨rfl,hrd5,hq5⟩;have HRD5:=ab hrd5;have hg5:=jM hg4 hq5;clear hrd5 hq5;go_wp2_with (go_at_call 143;refine(kj _ HRD5.out H6.out gF).mono ?_)
        rintro e w6 ⟨rfl,hrd6,hq6⟩;have HRD6:=ab hrd6;have hg6:=jM hg5 hq6;clear hrd6 hq6;go_wp2
        go_ret3
        exact⟨hg6,by rw [←HR.out];exact⟨⟨_,_,rfl⟩,_,HRD6.out⟩⟩
       | some r4 =>
        simp only [h6] at hR;have HR:=ab hR;have H6:=ab h6;clear hR h6;go_enter Tryz.func142,Tryz.ntmps142
        go_wp2_with (go_at_call 169;refine(HC.out).mono ?_)
        rintro e w1 ⟨rfl,hrd1,hg1⟩;have HRD1:=ab hrd1;clear hrd1;go_wp2_with (go_at_call 143;refine(kj _ HRD1.out H2.out gF).mono ?_)
        rintro e w2 ⟨rfl,hrd2,hq2⟩;have HRD2:=ab hrd2;have hg2:=jM hg1 hq2;clear hrd2 hq2;go_wp2_with (go_at_call 143;refine(kI _ HRD2.out H3.out).mono ?_)
        rintro e w3 ⟨rfl,hrd3,hq3⟩;have HRD3:=ab hrd3;have hg3:=jM hg2 hq3;clear hrd3 hq3;go_wp2_with (go_at_call 143;refine(kj _ HRD3.out H4.out gF).mono ?_)
        rintro e w4 ⟨rfl,hrd4,hq4⟩;have HRD4:=ab hrd4;have hg4:=jM hg3 hq4;clear hrd4 hq4;go_wp2_with (go_at_call 169;refine(nP _ HRD4.out H5.out).mono ?_)
        rintro e w5 ⟨rfl,hrd5,hq5⟩;have HRD5:=ab hrd5;have hg5:=jM hg4 hq5;clear hrd5 hq5;go_wp2_with (go_at_call 143;refine(kI _ HRD5.out H6.out).mono ?_)
        rintro e w6 ⟨rfl,hrd6,hq6⟩;have HRD6:=ab hrd6;have hg6:=jM hg5 hq6;clear hrd6 hq6;go_wp2
        go_ret3
        exact⟨hg6,by rw [←HR.out];exact⟨rfl,HRD6.out⟩⟩
      ·rw [Co gu] at hR
       have hle':decide ((lo:Int)≤(hi:Int))=false:=by simp;omega
       have HR:=ab hR;clear hR;go_enter Tryz.func142,Tryz.ntmps142
       go_wp2_with (go_at_call 169;refine(HC.out).mono ?_)
       rintro e w1 ⟨rfl,hrd1,hg1⟩;have HRD1:=ab hrd1;clear hrd1;go_wp2_with (go_at_call 143;refine(kj _ HRD1.out H2.out gF).mono ?_)
       rintro e w2 ⟨rfl,hrd2,hq2⟩;have HRD2:=ab hrd2;have hg2:=jM hg1 hq2;clear hrd2 hq2;go_wp2_with (go_at_call 143;refine(kI _ HRD2.out H3.out).mono ?_)
       rintro e w3 ⟨rfl,hrd3,hq3⟩;have HRD3:=ab hrd3;have hg3:=jM hg2 hq3;clear hrd3 hq3;go_wp2_with (go_at_call 143;refine(kj _ HRD3.out H4.out gF).mono ?_)
       rintro e w4 ⟨rfl,hrd4,hq4⟩;have HRD4:=ab hrd4;have hg4:=jM hg3 hq4;clear hrd4 hq4;go_wp2_with (go_at_call 169;refine(nP _ HRD4.out H5.out).mono ?_)
       rintro e w5 ⟨rfl,hrd5,hq5⟩;have HRD5:=ab hrd5;have hg5:=jM hg4 hq5;clear hrd5 hq5;go_wp2
       go_ret3
       exact⟨hg5,by rw [←HR.out];exact⟨⟨_,_,rfl⟩,_,HRD5.out⟩⟩
end Go.Proofs.YtjggmmaojklmpaaGreat
