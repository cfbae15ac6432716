/- walks of casing: joined, Turn -/
import Derived.Test.YtjggmmaojklmpaaGreatDoorKb2
set_option maxRecDepth 100000
set_option maxHeartbeats 4000000
namespace Go.Proofs.YtjggmmaojklmpaaGreatDoor
open Go.RowKit
theorem Au (l:Str) (small:Bool) (w:World) (hs:l.length≤1000000) :
  Calls Tryz.prog 89 #[.string ⟨l.toArray⟩,.bool small] w fun e w'=>e=.returned (.string ⟨(na small false l []).toArray⟩)∧Below w.heap.size w w':=by
 generalize hR:na small false l []=R
 have HR:=ab hR;clear hR;have HR0:Hid (na small false (l.drop 0) []=R):=HR;clear HR;go_enter Tryz.func89,Tryz.ntmps89
 go_wp2
 go_loopw [6] (fun q wr=>∃(i:Nat) (acc:Str) (pw:Bool),i≤l.length∧q=.int .i64 i∧Bld w.heap.size w.heap.size acc wr∧Below w.heap.size w wr∧acc.length≤i∧Hid ((i=0→pw=false)∧(0<i→∀x,l[i-1]?=some x→pP x=pw))∧Hid (na small pw (l.drop i) acc=R)) (fun q _=>l.length-(intOf q).toNat)
 case atStart=>exact⟨0,[],false,by omega,rfl,Bld.fresh _ _ (Dv _),(Below.refl _ _).alloc (Dv _) _,by simp,ab ⟨fun _=>rfl,fun h=>by omega⟩,HR0⟩
 case round =>
  obtain⟨i,acc,pw,hi,rfl,hbl,hb,hacc,HP,HF⟩:=hrel;clear HR0;have hB:=hb.size;cases hd:l.drop i with
  | nil =>
   have h2:=kN hd;have HF':Hid (na small pw [] acc=R):=ab gR;clear hd HF;go_wp2_with (go_at_call 25;refine(nw _ _ _ _ hbl hB).mono ?_;rintro e w1 ⟨rfl,hb1⟩)
   go_ret
   exact⟨kQ (by rw [←HF'.out];rfl),hb.trans hb1⟩
  | cons c r =>
   obtain⟨h2,h3,hr⟩:=kh hd;have HF':Hid (na small pw (c::r) acc=R):=ab gR;have Hr:=ab hr;have hc256:=po c;clear hd HF hr;by_cases hw:pP c=true
   ·have HW:=ab hw
    by_cases hpw:pw=true
    ·have hi0:0<i:=by
      rcases Nat.eq_zero_or_pos i with h|h
      ·have:=HP.out.1 h;rw [this] at hpw;cases hpw
      ·exact h
     obtain⟨x,hx⟩:∃x,l[i-1]?=some x:=⟨l[i-1],Dt fR⟩;have hxw:pP x=true:=by rw [HP.out.2 hi0 x hx,hpw]
     have hx3:∀h:i-1<l.length,l[i-1]'h=x:=fun h=>by rw [Dt h] at hx;injection hx
     have hx256:=po x;have hgt:decide ((0:Int)<i)=true:=by simp;omega
     subst hpw;clear hx;go_wp2_with (first|(go_at_call 109;refine(qe _ _ fR fR).mono ?_;rintro e w1 ⟨rfl,rfl⟩)|(go_at_call 46;refine(jW w.heap.size _ acc _ _ hbl fR hB fR fR).mono ?_))
     rintro e w2 ⟨rfl,hbl2,hfr2⟩;rw [u8_back] at hbl2;clear hw hxw hx3;have hB3:=hbl2.lt;go_wp2_with fail
     go_roundw
     case rel =>
      refine⟨i+1,acc++[c],true,by omega,by go_num,hbl2,hb.trans (hfr2.below hB fX),?_,ab ⟨fun h=>by omega,fun _ x hx=>?_⟩,?_⟩
      ·exact fJ
      ·exact eR
      ·refine ab ?_
       rw [Hr.out,←HF'.out];conv=>rhs;unfold na;rw [Dr HW.out,Dr rfl]
     case measure=>simp [intOf];omega
    ·have hpf:pw=false:=by simpa using hpw
     subst hpf;clear hpw;rcases Nat.eq_zero_or_pos i with hi0|hi0
     ·have hgt:i≤0:=fR
      have HI0:=ab hi0;clear hi0;exact aw
     ·obtain⟨x,hx⟩:∃x,l[i-1]?=some x:=⟨l[i-1],Dt fR⟩
      have hxw:pP x=false:=HP.out.2 hi0 x hx;have hx3:∀h:i-1<l.length,l[i-1]'h=x:=fun h=>by rw [Dt h] at hx;injection hx
      have hx256:=po x;have hgt:decide ((0:Int)<i)=true:=by simp;omega
      clear hx;exact aw
   ·have hw':pP c=false:=by simpa using hw
    have HW:=ab hw';have hbl2:=hbl;have hfr2:Fr w.heap.size [w.heap.size] [5] wr wr:=Fr.refl _ _ _ _;clear hw;go_wp2_with (go_at_call 109;refine(qe _ _ fR fR).mono ?_;rintro e w1 ⟨rfl,rfl⟩)
    go_roundw
    case rel =>
     refine⟨i+1,acc,false,by omega,by go_num,hbl2,hb,by omega,ab ⟨fun h=>by omega,fun _ x hx=>?_⟩,?_⟩
     ·rw [show i+1-1=i from rfl,Dt h2,h3] at hx
      injection hx with hx;subst hx;exact HW.out
     ·refine ab ?_
      rw [Hr.out,←HF'.out];conv=>rhs;unfold na;rw [Du (by rw [HW.out];simp)]
    case measure=>simp [intOf];omega
theorem sF (f:UInt8→UInt8) (l:Str) (k:Nat) (hk:k<l.length):((l.take k).map f++l.drop k).set k (f l[k])=(l.take (k+1)).map f++l.drop (k+1):=by
 apply List.ext_getElem?
 intro i;have e1:((l.take k).map f).length=k:=by simp;omega
 have e2:((l.take (k+1)).map f).length=k+1:=by simp;omega
 rw [List.getElem?_set];by_cases h:k=i
 ·subst h
  rw [Dr rfl,Dr fY,DG fR,List.getElem?_map,List.getElem?_take_of_lt fR,Dt hk];rfl
 ·rw [Du h]
  by_cases h2:i<k
  ·rw [DG fR,DG fR,List.getElem?_map,List.getElem?_map,List.getElem?_take_of_lt h2,List.getElem?_take_of_lt fR]
  ·rw [DJ fR,DJ fR,e1,e2,List.getElem?_drop,List.getElem?_drop]
   congr 1;omega
theorem Turn_up (l:Str) (w:World) (hs:l.length≤1000000) :
  Calls Tryz.prog 60 #[.string ⟨l.toArray⟩,.int .i64 1] w fun e w'=>e=.returned (.tuple #[.string ⟨(l.map upB).toArray⟩,.int .i64 0])∧Below w.heap.size w w':=by
 obtain⟨cap,w0,hcv,hrow,hb0,hsz⟩:=BRow.made (P:=Tryz.prog) w (src:=9) (dst:=48) l Tryz.underlying9 Tryz.underlying48 Tryz.underlying5;have HZ:=ab hsz;clear hsz;have hsz0:w.heap.size<w0.heap.size:=by have:=HZ.out;omega
 go_enter Tryz.func60,Tryz.ntmps60
 go_wp2_with (fail)
 go_loopw [18] (fun q wr=>∃k:Nat,k≤l.length∧q=.int .i64 k∧BRow wr w.heap.size ((l.take k).map upB++l.drop k)∧Below w.heap.size w wr∧w.heap.size<wr.heap.size) (fun q _=>l.length-(intOf q).toNat)
 case atStart=>exact dm
 case round =>
  obtain⟨k,hk,rfl,hr,hb,hlt⟩:=hrel;by_cases h2:k<l.length
  ·have hc:=hr.cell (j:=k) (c:=l[k]) (by rw [DJ fY,List.getElem?_drop,DS,DT,show k+(k-min k l.length)=k by omega,Dt h2])
   have hf:=hr.free (j:=k) fY;have h256:=po l[k];have HS:=hr.set (j:=k) (upB l[k]);rw [sF upB l k h2] at HS;have HS':=ab HS;clear HS;generalize hx:l[k]=x at *
   have Hx:=ab hx;clear hx;go_wp2_with (go_at_call 87;refine(pE _ _ fR fR).mono ?_;rintro e w1 ⟨rfl,rfl⟩)
   exact cX
  ·exact cA
theorem CC (l:Str) (w:World) (hs:l.length≤1000000) :
  Calls Tryz.prog 60 #[.string ⟨l.toArray⟩,.int .i64 2] w fun e w'=>e=.returned (.tuple #[.string ⟨(l.map lowB).toArray⟩,.int .i64 0])∧Below w.heap.size w w':=by
 obtain⟨cap,w0,hcv,hrow,hb0,hsz⟩:=BRow.made (P:=Tryz.prog) w (src:=9) (dst:=48) l Tryz.underlying9 Tryz.underlying48 Tryz.underlying5;have HZ:=ab hsz;clear hsz;have hsz0:w.heap.size<w0.heap.size:=by have:=HZ.out;omega
 go_enter Tryz.func60,Tryz.ntmps60
 go_wp2_with (fail)
 go_loopw [33] (fun q wr=>∃k:Nat,k≤l.length∧q=.int .i64 k∧BRow wr w.heap.size ((l.take k).map lowB++l.drop k)∧Below w.heap.size w wr∧w.heap.size<wr.heap.size) (fun q _=>l.length-(intOf q).toNat)
 case atStart=>exact dm
 case round =>
  obtain⟨k,hk,rfl,hr,hb,hlt⟩:=hrel;by_cases h2:k<l.length
  ·have hc:=hr.cell (j:=k) (c:=l[k]) (by rw [DJ fY,List.getElem?_drop,DS,DT,show k+(k-min k l.length)=k by omega,Dt h2])
   have hf:=hr.free (j:=k) fY;have h256:=po l[k];have HS:=hr.set (j:=k) (lowB l[k]);rw [sF lowB l k h2] at HS;have HS':=ab HS;clear HS;generalize hx:l[k]=x at *
   have Hx:=ab hx;clear hx;go_wp2_with (go_at_call 88;refine(uR _ _ fR fR).mono ?_;rintro e w1 ⟨rfl,rfl⟩)
   exact cX
  ·exact cA
theorem Turn_cap (l:Str) (w:World) (hs:l.length≤1000000) :
  Calls Tryz.prog 60 #[.string ⟨l.toArray⟩,.int .i64 3] w fun e w'=>e=.returned (.tuple #[.string ⟨(capB l).toArray⟩,.int .i64 0])∧Below w.heap.size w w':=by
 obtain⟨cap,w0,hcv,hrow,hb0,hsz⟩:=BRow.made (P:=Tryz.prog) w (src:=9) (dst:=48) l Tryz.underlying9 Tryz.underlying48 Tryz.underlying5;have HZ:=ab hsz;clear hsz;have hsz0:w.heap.size<w0.heap.size:=by have:=HZ.out;omega
 cases l with
 | nil =>
  have hcv2:=hrow.back (P:=Tryz.prog) (src:=48) (dst:=9) Tryz.underlying48 Tryz.underlying5 Tryz.underlying9 cap;simp only [DP] at hcv hcv2;go_enter Tryz.func60,Tryz.ntmps60
  go_wp2_with (fail)
  go_ret2
  exact⟨rfl,hb0⟩
 | cons c r =>
  have hc:=hrow.cell (j:=0) (c:=c) rfl;have hf:=hrow.free (j:=0) fX;have h256:=po c;have HS:=hrow.set (j:=0) (upB c);have hcv2:=HS.back (P:=Tryz.prog) (src:=48) (dst:=9) Tryz.underlying48 Tryz.underlying5 Tryz.underlying9 cap;simp only [List.set_cons_zero,Dx] at hcv2;clear HS;go_enter Tryz.func60,Tryz.ntmps60
  go_wp2_with (go_at_call 87;refine(pE _ _ fR fR).mono ?_;rintro e w1 ⟨rfl,rfl⟩)
  go_ret2
  exact⟨rfl,hb0.setCell (p:=⟨w.heap.size,0,none⟩) (Dv _) _⟩
theorem zo (l:Str) (way:Int) (w:World) (hs:l.length≤1000000) :
  Calls Tryz.prog 60 #[.string ⟨l.toArray⟩,.int .i64 way] w fun e w'=>e=.returned (.tuple #[.string ⟨((turn l way).1).toArray⟩,.int .i64 (turn l way).2])∧Below w.heap.size w w':=by
 by_cases h1:way=1
 ·subst h1;exact Turn_up l w hs
 by_cases h2:way=2
 ·subst h2;exact CC l w hs
 by_cases h3:way=3
 ·subst h3;exact Turn_cap l w hs
 obtain⟨cap,w0,hcv,hrow,hb0,hsz⟩:=BRow.made (P:=Tryz.prog) w (src:=9) (dst:=48) l Tryz.underlying9 Tryz.underlying48 Tryz.underlying5;have HZ:=ab hsz;clear hsz;by_cases h4:way=4
 ·subst h4
  exact dd
 by_cases h5:way=5
 ·subst h5
  exact dd
 have hT:turn l way=([],2):=by unfold turn;rw [Du h1,Du h2,Du h3,Du h4,Du h5]
 rw [hT];have e1:(way==1)=false:=by simpa using h1
 have e2:(way==2)=false:=by simpa using h2
 have e3:(way==3)=false:=by simpa using h3
 have e4:(way==4)=false:=by simpa using h4
 have e5:(way==5)=false:=by simpa using h5
 clear h1 h2 h3 h4 h5 hT;go_enter Tryz.func60,Tryz.ntmps60
 go_wp2_with (fail)
 go_ret2
 exact⟨rfl,hb0⟩
def Fm.cells (f:Fm):List Value:=[.int .i64 f.kind,.int .i64 f.n,.int .i64 f.cse,.string ⟨(f.thn).toArray⟩,.string ⟨(f.els).toArray⟩]
def kT (fs:List Fm):List Value:=fs.flatMap Fm.cells
theorem pV (fs:List Fm):(kT fs).length=fs.length*5:=by
 induction fs with
 | nil=>rfl
 | cons f fs ih=>simp only [kT,DD,DE] at *;rw [ih];simp [Fm.cells];omega
theorem ou {fs:List Fm} {k:Nat} {f:Fm} (h:fs[k]?=some f) (j:Nat) (hj:j<5):(kT fs)[k*5+j]?=f.cells[j]?:=by
 induction fs generalizing k with
 | nil=>simp at h
 | cons g fs ih =>
  cases k with
  | zero =>
   simp at h;subst h
   simp only [kT,DD,Nat.zero_mul,Nat.zero_add];rw [DG (by simp [Fm.cells];omega)]
  | succ k =>
   simp only [List.getElem?_cons_succ] at h;simp only [kT,DD];rw [DJ (by simp [Fm.cells];omega)];rw [show (k+1)*5+j-g.cells.length=k*5+j by simp [Fm.cells];omega];exact ih h
theorem Sl.fm {w:World} {B:Nat} {a:Option Addr} {n:Nat} {fs:List Fm} (h:Sl w B a 5 n (kT fs)) {k:Nat} {f:Fm} (hk:fs[k]?=some f) :
  ∃b o,a=some ⟨b,o,none⟩∧b<B∧w.cell? ⟨b,o+k*5,none⟩=some (.int .i64 f.kind)∧w.cell? ⟨b,o+k*5+1,none⟩=some (.int .i64 f.n)∧w.cell? ⟨b,o+k*5+2,none⟩=some (.int .i64 f.cse) ∧
   w.cell? ⟨b,o+k*5+3,none⟩=some (.string ⟨(f.thn).toArray⟩)∧w.cell? ⟨b,o+k*5+4,none⟩=some (.string ⟨(f.els).toArray⟩):=by
 have hlt:=(Dw.1 hk).1;have hn:n=fs.length:=by have:=h.1;rw [pV] at this;omega
 obtain⟨b,o,h1,h2,h3⟩:=h.2 fR;refine⟨b,o,h1,h2,?_,?_,?_,?_,?_⟩
 ·exact h3 (k*5+0) _ (ou hk 0 fR)
 ·exact h3 (k*5+1) _ (ou hk 1 fR)
 ·exact h3 (k*5+2) _ (ou hk 2 fR)
 ·exact h3 (k*5+3) _ (ou hk 3 fR)
 ·exact h3 (k*5+4) _ (ou hk 4 fR)
def kJ (f:Fm) (n way thn els:Bool):Bool:=(n||decide (f.n=0))&&(way||decide (f.cse=0))&&(thn||decide (f.thn=[]))&&(els||decide (f.els=[]))
def mayF (f:Fm):Bool :=
 decide (0≤f.n∧f.n≤9999) &&
 (if f.kind=0 then kJ f false false true false&&decide (f.thn≠[])
  else if f.kind=1 then kJ f true false false false
  else if f.kind=2 then kJ f true true false false&&decide (lv f.cse≠[])
  else if f.kind=3 then kJ f true false true false
  else if f.kind=4 then kJ f true false false true
  else if f.kind=5 then kJ f true false true true
  else false)
def mayL:Bool→List Fm→Bool
 | _,[]=>true
 | pt,f::r=>mayF f&&!(decide (f.kind=0)&&pt)&&mayL (decide (f.kind=0)) r
def oW (fs:List Fm):Bool:=mayL false fs
theorem Sl.fs_len {w:World} {B:Nat} {a:Option Addr} {n:Nat} {fs:List Fm} (h:Sl w B a 5 n (kT fs)):n=fs.length:=by
 have:=h.1;rw [pV] at this;omega
theorem Di:Tryz.prog.underlying 60=some (.struct (Tryz.prog.fieldsOf 60)):=by kernel_rfl
theorem px (f:Fm) (b1 b2 b3 b4:Bool) (w:World) :
  Calls Tryz.prog 69 #[.agg #[.int .i64 (f).kind,.int .i64 (f).n,.int .i64 (f).cse,.string ⟨((f).thn).toArray⟩,.string ⟨((f).els).toArray⟩],.bool b1,.bool b2,.bool b3,.bool b4] w fun e w'=>e=.returned (.bool (kJ f b1 b2 b3 b4))∧Below w.heap.size w w':=by
 generalize hR:kJ f b1 b2 b3 b4=R
 have HR:=ab hR;clear hR;cases b1<;>cases b2<;>cases b3<;>cases b4
 all_goals
  go_enter Tryz.func69,Tryz.ntmps69
  go_wp2
  all_goals
   go_ret
   refine⟨jG ?_,(Below.refl _ _).alloc (Dv _) _⟩;rw [←HR.out,Bool.eq_iff_iff];simp [kJ, *]
theorem sH (f:Fm) (w:World) :
  Calls Tryz.prog 42 #[.agg #[.int .i64 (f).kind,.int .i64 (f).n,.int .i64 (f).cse,.string ⟨((f).thn).toArray⟩,.string ⟨((f).els).toArray⟩]] w fun e w'=>e=.returned (.bool (mayF f))∧Below w.heap.size w w':=by
 obtain⟨kind,n,cse,thn,els⟩:=f;by_cases hn:0≤n∧n≤9999
 ·obtain⟨hn0,hn1⟩:=hn
  have hz:=fun(n:Int) (w:World)=>mE n w
  generalize hR:mayF ⟨kind,n,cse,thn,els⟩=R
  have HR:=ab hR;clear hR;have HZ:=ab hz;clear hz;have hk:kind=0∨kind=1∨kind=2∨kind=3∨kind=4∨kind=5∨(¬kind=0∧¬kind=1∧¬kind=2∧¬kind=3∧¬kind=4∧¬kind=5):=fR;have HN:Hid (decide (0≤n∧n≤9999)=true):=ab fY;rcases hk with hk|hk|hk|hk|hk|hk|⟨k0,k1,k2,k3,k4,k5⟩
  ·subst hk
   have HS:Hid (R=(kJ ⟨0,n,cse,thn,els⟩ false false true false&&decide (thn≠[]))):=ab (by rw [←HR.out,mayF,HN.out,DK,Dr rfl]);clear HR;by_cases hB:kJ ⟨0,n,cse,thn,els⟩ false false true false=true
   ·go_enter Tryz.func42,Tryz.ntmps42
    go_wp2_with (go_at_call 69;refine(px ⟨_,n,cse,thn,els⟩ _ _ _ _ _).mono ?_)
    rintro e w1 ⟨rfl,hb1⟩;have c2:w1.cell? ⟨w.heap.size,3,none⟩=some (.string ⟨thn.toArray⟩):=by
     rw [hb1.cell (p:=⟨w.heap.size,3,none⟩) fX];simp
    go_wp2
    go_ret
    refine⟨jG ?_,((Below.refl _ _).alloc (Dv _) _).trans (hb1.mono fX)⟩;rw [HS.out,hB];cases thn<;>rfl
   ·have hB':kJ ⟨0,n,cse,thn,els⟩ false false true false=false:=by simpa using hB
    exact cz
  ·subst hk
   have HS:Hid (R=(kJ ⟨1,n,cse,thn,els⟩ true false false false)):=ab (by rw [←HR.out,mayF,HN.out,DK,Du fX,Dr rfl]);exact bg
  ·subst hk
   have HS:Hid (R=(kJ ⟨2,n,cse,thn,els⟩ true true false false&&decide (lv cse≠[]))):=ab (by rw [←HR.out,mayF,HN.out,DK,Du fX,Du fX,Dr rfl]);clear HR;by_cases hB:kJ ⟨2,n,cse,thn,els⟩ true true false false=true
   ·go_enter Tryz.func42,Tryz.ntmps42
    go_wp2_with (go_at_call 69;refine(px ⟨_,n,cse,thn,els⟩ _ _ _ _ _).mono ?_)
    rintro e w1 ⟨rfl,hb1⟩;have c2:w1.cell? ⟨w.heap.size,2,none⟩=some (.int .i64 cse):=by
     rw [hb1.cell (p:=⟨w.heap.size,2,none⟩) fX];simp
    go_wp2_with (go_at_call 36;refine(HZ.out _ _).mono ?_)
    rintro e w2 ⟨rfl,hb2⟩;go_wp2
    go_ret
    refine⟨jG ?_,(((Below.refl _ _).alloc (Dv _) _).trans (hb1.mono fX)).trans (hb2.mono jd)⟩;rw [HS.out,hB];cases lv cse<;>rfl
   ·have hB':kJ ⟨2,n,cse,thn,els⟩ true true false false=false:=by simpa using hB
    exact cz
  ·subst hk
   have HS:Hid (R=(kJ ⟨3,n,cse,thn,els⟩ true false true false)):=ab (by rw [←HR.out,mayF,HN.out,DK,Du fX,Du fX,Du fX,Dr rfl]);exact bg
  ·subst hk
   have HS:Hid (R=(kJ ⟨4,n,cse,thn,els⟩ true false false true)):=ab (by rw [←HR.out,mayF,HN.out,DK,Du fX,Du fX,Du fX,Du fX,Dr rfl]);exact bg
  ·subst hk
   have HS:Hid (R=(kJ ⟨5,n,cse,thn,els⟩ true false true true)):=ab (by rw [←HR.out,mayF,HN.out,DK,Du fX,Du fX,Du fX,Du fX,Du fX,Dr rfl]);exact bg
  ·have HS:Hid (R=false):=ab (by rw [←HR.out,mayF,HN.out,DK,Du fR,Du fR,Du fR,Du fR,Du fR,Du fR])
   clear HR;have e0:(kind==0)=false:=by simpa using k0
   have e1:(kind==1)=false:=by simpa using k1
   have e2:(kind==2)=false:=by simpa using k2
   have e3:(kind==3)=false:=by simpa using k3
   have e4:(kind==4)=false:=by simpa using k4
   have e5:(kind==5)=false:=by simpa using k5
   clear k0 k1 k2 k3 k4 k5;go_enter Tryz.func42,Tryz.ntmps42
   go_wp2
   go_ret
   exact⟨jG HS.out.symm,(Below.refl _ _).alloc (Dv _) _⟩
 ·have HS:Hid (mayF ⟨kind,n,cse,thn,els⟩=false):=ab (by unfold mayF;rw [DU hn,Bool.false_and])
  rw [HS.out];go_enter Tryz.func42,Tryz.ntmps42
  go_wp2
  all_goals first
   | (exfalso;omega)
   | (go_ret;exact⟨rfl,(Below.refl _ _).alloc (Dv _) _⟩)
theorem tS (a:Option Addr) (n c:Nat) (fs:List Fm) (w:World) (h:Sl w w.heap.size a 5 n (kT fs)) (hn:n≤1000000) :
  Calls Tryz.prog 21 #[.slice a n c] w fun e w'=>e=.returned (.bool (oW fs))∧Below w.heap.size w w':=by
 generalize hR:oW fs=R
 have HR:=ab hR;clear hR;have HR0:Hid (mayL false (fs.drop 0)=R):=HR;have Hn:=ab h.fs_len;have HSl:=ab h;clear HR h;go_enter Tryz.func21,Tryz.ntmps21
 go_wp2
 go_loopw [7] (fun q wr=>∃(k:Nat) (pt:Bool),k≤n∧q=.int .i64 k∧Below w.heap.size w wr∧Hid ((k=0→pt=false)∧(0<k→∀g,fs[k-1]?=some g→decide (g.kind=0)=pt))∧Hid (mayL pt (fs.drop k)=R)) (fun q _=>n-(intOf q).toNat)
 case atStart=>exact ey
 case round =>
  obtain⟨k,pt,hk,rfl,hb,HP,HF⟩:=hrel;clear HR0;have hB:=hb.size;cases hd:fs.drop k with
  | nil =>
   have h2:n≤k:=by have:=Hn.out;simp at hd;omega
   have HF':Hid (mayL pt []=R):=ab gR;clear hd HF;go_wp2
   go_ret
   exact⟨jG HF'.out,hb⟩
  | cons f r =>
   obtain⟨h2,h3,hr⟩:=jO hd;have HF':Hid (mayL pt (f::r)=R):=ab gR;have Hr:=ab hr;have HK:=ab h3;have hkn:k<n:=by have:=Hn.out;omega
   obtain⟨b,o,rfl,hbB,c0,c1,c2,c3,c4⟩:=(HSl.out.keep hb).fm h3;clear hd HF hr h2 h3;obtain⟨kind,fn,cse,thn,els⟩:=f;by_cases hm:mayF ⟨kind,fn,cse,thn,els⟩=true
   ·have HM:=ab hm
    have c5:∀w1,Below (wr.heap.size+1) (wr.alloc (.cells #[.int .i64 kind,.int .i64 fn,.int .i64 cse,.string ⟨thn.toArray⟩,.string ⟨els.toArray⟩] 60)) w1→w1.cell? ⟨wr.heap.size,0,none⟩=some (.int .i64 kind):=fun w1 h1=>by
     rw [h1.cell (p:=⟨wr.heap.size,0,none⟩) fX];simp
    have C5:=ab c5;clear c5;by_cases hk0:kind=0
    ·subst hk0
     by_cases hkk:k=0
     ·have hpt:=HP.out.1 hkk
      have hkk':k≤0:=fR;subst hpt;have HKK:=ab hkk;clear hkk;go_wp2_with (go_at_call 42;refine(sH ⟨0,fn,cse,thn,els⟩ _).mono ?_;rintro e w1 ⟨rfl,hb1⟩;have d5:=C5.out w1 (by simpa using hb1);have hbw:Below w.heap.size wr w1:=((Below.refl _ _).alloc hB _).trans (hb1.mono fY))
      clear hm;go_roundw
      case rel =>
       refine⟨k+1,true,by omega,by go_num,hb.trans hbw,ab ⟨fun h=>by omega,fun _ g hg=>?_⟩,?_⟩
       ·exact cL
       ·refine ab ?_
        rw [Hr.out,←HF'.out];conv=>rhs;unfold mayL
        (rw [HM.out];rfl)
      case measure=>simp [intOf];omega
     ·obtain⟨g,hg⟩:∃g,fs[k-1]?=some g:=⟨fs[k-1]'(by have:=Hn.out;omega),Dt (by have:=Hn.out;omega)⟩
      have hpg:=HP.out.2 fR g hg;obtain⟨b',o',hab,_,g0,_⟩:=HSl.out.fm hg;have hbo:b'=b∧o'=o:=by simpa using hab.symm
      obtain⟨rfl,rfl⟩:=hbo;have hkp:0<k:=fR;have ek:((k-1:Nat):Int)=(k:Int)-1:=fR;have e1:(k:Int)-1<n∧0≤(k:Int)-1:=fR;obtain⟨gk,gn,gc,gt,ge⟩:=g;have G0:=ab g0;have HPG:=ab hpg;clear hab g0 hpg hkk hg;by_cases hgk:gk=0
      ·subst hgk
       go_wp2_with (go_at_call 42;refine(sH ⟨0,fn,cse,thn,els⟩ _).mono ?_;rintro e w1 ⟨rfl,hb1⟩;have d5:=C5.out w1 (by simpa using hb1);have hbw:Below w.heap.size wr w1:=((Below.refl _ _).alloc hB _).trans (hb1.mono fY);have g1:w1.cell? ⟨b',o'+(k-1)*5,none⟩=some (.int .i64 0):=((hb.trans hbw).cell (p:=⟨b',o'+(k-1)*5,none⟩) hbB).trans G0.out)
       go_ret
       refine⟨jG ?_,hb.trans hbw⟩;rw [←HF'.out,mayL,←HPG.out];simp
      ·have eg:(gk==0)=false:=by simpa using hgk
       have HGK:=ab hgk;clear hgk;go_wp2_with (go_at_call 42;refine(sH ⟨0,fn,cse,thn,els⟩ _).mono ?_;rintro e w1 ⟨rfl,hb1⟩;have d5:=C5.out w1 (by simpa using hb1);have hbw:Below w.heap.size wr w1:=((Below.refl _ _).alloc hB _).trans (hb1.mono fY);have g1:w1.cell? ⟨b',o'+(k-1)*5,none⟩=some (.int .i64 gk):=((hb.trans hbw).cell (p:=⟨b',o'+(k-1)*5,none⟩) hbB).trans G0.out)
       clear hm;go_roundw
       case rel =>
        refine⟨k+1,true,by omega,by go_num,hb.trans hbw,ab ⟨fun h=>by omega,fun _ g hg=>?_⟩,?_⟩
        ·exact cL
        ·refine ab ?_
         rw [Hr.out,←HF'.out];conv=>rhs;unfold mayL
         (rw [HM.out,←HPG.out];simp [HGK.out])
       case measure=>simp [intOf];omega
    ·have e0:(kind==0)=false:=by simpa using hk0
     have HK0:=ab hk0;clear hk0;go_wp2_with (go_at_call 42;refine(sH ⟨kind,fn,cse,thn,els⟩ _).mono ?_;rintro e w1 ⟨rfl,hb1⟩;have d5:=C5.out w1 (by simpa using hb1);have hbw:Below w.heap.size wr w1:=((Below.refl _ _).alloc hB _).trans (hb1.mono fY))
     clear hm;go_roundw
     case rel =>
      refine⟨k+1,false,by omega,by go_num,hb.trans hbw,ab ⟨fun h=>by omega,fun _ g hg=>?_⟩,?_⟩
      ·exact cL
      ·refine ab ?_
       rw [Hr.out,←HF'.out];conv=>rhs;unfold mayL
       (rw [HM.out];simp [HK0.out])
     case measure=>simp [intOf];omega
   ·have hm':mayF ⟨kind,fn,cse,thn,els⟩=false:=by simpa using hm
    clear hm;go_wp2_with (go_at_call 42;refine(sH ⟨kind,fn,cse,thn,els⟩ _).mono ?_;rintro e w1 ⟨rfl,hb1⟩)
    go_ret
    refine⟨jG ?_,hb.trans (((Below.refl _ _).alloc hB _).trans (hb1.mono fY))⟩;rw [←HF'.out,mayL,hm'];rfl
def oV:List Fm→Int→Int
 | [],n=>n
 | f::r,n=>if n≤f.thn.length∨n≤f.els.length then -1 else oV r (n-1-f.thn.length-f.els.length)
theorem vU (a:Option Addr) (n c:Nat) (m:Int) (fs:List Fm) (w:World) (h:Sl w w.heap.size a 5 n (kT fs)) (hn:n≤maxLen) (hm:-100000≤m∧m≤100000)
  (hsz:∀f∈fs,f.thn.length≤maxLen∧f.els.length≤maxLen) :
  Calls Tryz.prog 15 #[.slice a n c,.int .i64 m] w fun e w'=>e=.returned (.int .i64 (oV fs m))∧Below w.heap.size w w':=by
 unfold maxLen at hn hsz;generalize hR:oV fs m=R
 have HR:=ab hR;clear hR;have HR0:Hid (oV (fs.drop 0) m=R):=HR;have Hn:=ab h.fs_len;have HSl:=ab h;have HSz:=ab hsz;clear HR h hsz;obtain⟨hm0,hm1⟩:=hm;go_enter Tryz.func15,Tryz.ntmps15
 go_wp2
 go_loopw [1,5] (fun s q wr=>∃(k:Nat) (m':Int),k≤n∧q=.int .i64 k∧s=.int .i64 m'∧-100000≤m'∧m'≤100000∧Below w.heap.size w wr∧Hid (oV (fs.drop k) m'=R)) (fun _ q _=>n-(intOf q).toNat)
 case atStart=>exact⟨0,m,by omega,rfl,rfl,hm0,hm1,Below.refl _ _,HR0⟩
 case round =>
  obtain⟨k,m',hk,rfl,rfl,hm2,hm3,hb,HF⟩:=hrel;clear HR0;cases hd:fs.drop k with
  | nil =>
   have h2:n≤k:=by have:=Hn.out;simp at hd;omega
   have HF':Hid (oV [] m'=R):=ab gR;clear hd HF;go_wp2
   go_ret
   exact⟨lC HF'.out,hb⟩
  | cons f r =>
   obtain⟨h2,h3,hr⟩:=jO hd;have HF':Hid (oV (f::r) m'=R):=ab gR;have Hr:=ab hr;have hkn:k<n:=by have:=Hn.out;omega
   obtain⟨b,o,rfl,hbB,c0,c1,c2,c3,c4⟩:=(HSl.out.keep hb).fm h3;obtain⟨z1,z2⟩:=HSz.out f (DL h3);clear hd HF hr h2 h3;obtain⟨kind,fn,cse,thn,els⟩:=f;by_cases hA:m'≤thn.length∨m'≤els.length
   ·have HE:Hid (R=-1):=ab (by rw [←HF'.out];simp only [oV];exact Dr hA)
    go_wp2
    all_goals first
     | (go_ret;exact⟨lC HE.out.symm,hb⟩)
     | (exfalso;omega)
   ·have HE:Hid (R=oV r (m'-1-thn.length-els.length)):=ab (by rw [←HF'.out];simp only [oV];exact Du hA)
    have hA1:(thn.length:Int)<m':=by omega
    have hA2:(els.length:Int)<m':=by omega
    clear hA;go_wp2
    go_quiet (fail)
    go_wp2
    go_roundw
    case rel =>
     refine⟨k+1,m'-1-thn.length-els.length,by omega,by go_num,rfl,by omega,by omega,below_drewN hb _,ab ?_⟩;rw [Hr.out,HE.out]
    case measure=>simp [intOf];omega
theorem pre_eq (l p:Str):p.isPrefixOf l=(List.take p.length l==p):=by
 rw [Bool.eq_iff_iff,List.isPrefixOf_iff_prefix,Do,List.prefix_iff_eq_take];exact⟨fun h=>h.symm,fun h=>h.symm⟩
theorem lw (l p:Str) (i:Int) (w:World) (h0:0≤i) (hs:l.length≤100000000) (hp:p.length≤100000000) :
  Calls Tryz.prog 80 #[.string ⟨l.toArray⟩,.int .i64 i,.string ⟨p.toArray⟩] w fun e w'=>e=.returned (.bool (p.isPrefixOf (l.drop i.toNat)))∧w=w':=by
 obtain⟨n,rfl⟩:=Int.eq_ofNat_of_zero_le h0;rw [Int.toNat_natCast];generalize hR:List.isPrefixOf p (List.drop n l)=R
 have HR:=ab hR;clear hR;go_enter Tryz.func80,Tryz.ntmps80
 go_wp2
 ·rename_i h1 h2
  go_ret;refine⟨?_,rfl⟩;rw [←HR.out,List.drop_of_length_le fR,h2];rfl
 ·rename_i h1 h2
  go_ret;refine⟨?_,rfl⟩;rw [←HR.out,List.drop_of_length_le fR];cases p<;>simp_all
 ·go_ret;refine⟨?_,rfl⟩;rw [←HR.out,pre_eq];simp
 ·rename_i h1 h2
  go_ret;refine⟨?_,rfl⟩;rw [←HR.out,pre_eq]
  have:(List.take p.length (List.drop n l))≠p:=fun h=>by
   have:=DQ List.length h;simp at this;omega
  simp [this]
theorem oQ (l p:Str) (i:Int) (w:World) (h0:0≤i) (h1:i≤100000000) (_hs:l.length≤100000000) (_hp:p.length≤100000000) :
  Calls Tryz.prog 56 #[.string ⟨l.toArray⟩,.int .i64 i,.string ⟨p.toArray⟩] w fun e w'=>e=.returned (.bool (nW (l.drop (i.toNat+1)) p))∧w=w':=by
 obtain⟨n,rfl⟩:=Int.eq_ofNat_of_zero_le h0;rw [Int.toNat_natCast];cases hd:l.drop (n+1) with
 | nil =>
  have h2:=kN hd;clear hd;go_enter Tryz.func56,Tryz.ntmps56
  exact cM
 | cons c r =>
  obtain⟨h2,h3,_⟩:=kh hd;clear hd;go_enter Tryz.func56,Tryz.ntmps56
  go_wp2_with (go_at_call 28;refine(nv _ _ _).mono ?_;rintro e w1 ⟨rfl,rfl⟩)
  go_ret
  refine⟨?_,rfl⟩;simp [nW,idx_dec]
def ud (l:Str) (i:Int) (R:Option (Nat × Str)) (e:Ending):Prop :=
 match R with
 | none=>e=.returned (.tuple #[.int .i64 0,.int .i64 i,.bool false])
 | some (n,r)=>n<10000∧∃j:Nat,i<j∧j≤l.length∧l.drop j=r∧e=.returned (.tuple #[.int .i64 n,.int .i64 j,.bool true])
theorem wQ (l:Str) (i:Int) (w:World) (h0:0≤i) (h1:i≤100000000) (hs:l.length≤100000000) :
  Calls Tryz.prog 79 #[.string ⟨l.toArray⟩,.int .i64 i] w fun e w'=>w=w'∧ud l i (n6 (l.drop i.toNat)) e:=by
 obtain⟨i,rfl⟩:=Int.eq_ofNat_of_zero_le h0;rw [Int.toNat_natCast];generalize hR:n6 (l.drop i)=R
 have HR:Hid (nu (l.drop (i+0)) 0 0=R):=ab hR;clear hR;go_enter Tryz.func79,Tryz.ntmps79
 go_wp2
 go_loop [7,8] (fun n q=>∃k m:Nat,k≤4∧(k=0∨i+k≤l.length)∧m<10 ^ k∧q=.int .i64 ((i+k:Nat):Int)∧n=.int .i64 (m:Int)∧Hid (nu (l.drop (i+k)) k m=R)) (fun _ q=>l.length-(intOf q).toNat)
 case atStart=>exact⟨0,0,by omega,by omega,by omega,by simp,rfl,HR⟩
 case round =>
  obtain⟨k,m,hk,hik,hm,rfl,rfl,HF⟩:=hrel;clear HR;have hm4:m<10000:=DA hm (Nat.pow_le_pow_right fR hk);have Hm:=ab hm;clear hm;cases hd:l.drop (i+k) with
  | nil =>
   have h2:=kN hd;have HF':Hid (nu [] k m=R):=ab gR;clear hd HF;go_wp2
   go_ret3
   refine⟨rfl,?_⟩;rw [←HF'.out];unfold nu;by_cases h0k:0<k
   ·rw [Dr h0k];exact⟨hm4,i+k,by omega,by omega,List.drop_of_length_le h2,by simp;omega⟩
   ·exact eC
  | cons c r =>
   obtain⟨h2,h3,hr⟩:=kh hd;have HF':Hid (nu (c::r) k m=R):=ab gR;have Hr:=ab hr;clear hd HF hr;go_wp2
   ·rename_i g1 g2
    go_ret3
    refine⟨rfl,?_⟩;have hk4:k=4:=by simp at g2;omega
    rw [←HF'.out];unfold nu;rw [Dr fR,Dr hk4];unfold ud;simp
   ·rename_i g1 g2
    go_round
    have hk4:¬k=4:=by simp at g2;omega
    case rel =>
     refine⟨k+1,10*m+(c.toNat-48),by omega,by omega,?_,by go_num,?_,?_⟩
     ·have:=Hm.out;rw [Nat.pow_succ];omega
     ·congr 1;omega
     ·refine ab ?_
      rw [←HF'.out,show i+(k+1)=i+k+1 from rfl,Hr.out];conv=>rhs;unfold nu
      rw [Dr fR,Du hk4]
    case measure=>simp [intOf];omega
   all_goals
    go_ret3
    refine⟨rfl,?_⟩;rw [←HF'.out];unfold nu;rw [Du fR];by_cases h0k:0<k
    ·rw [Dr h0k];exact⟨hm4,i+k,by omega,by omega,by rw [List.drop_eq_getElem_cons h2,h3,Hr.out],by simp;omega⟩
    ·exact eC
def Cd (l:Str) (i:Nat) (R:Option (Str × Str)) (e:Ending):Prop :=
 match R with
 | none=>e=.returned (.tuple #[.string ⟨[].toArray⟩,.int .i64 0,.bool false])
 | some (t,r)=>t.length≤l.length∧∃j:Nat,i≤j∧j<l.length∧l.drop j=r∧e=.returned (.tuple #[.string ⟨t.toArray⟩,.int .i64 j,.bool true])
theorem vj (l:Str) (i one:Int) (w:World) (h0:0≤i) (h1:i≤1000000) (hs:l.length≤1000000) (ho:0≤one) :
  Calls Tryz.prog 103 #[.string ⟨l.toArray⟩,.int .i64 i,.int .u8 one] w fun e w'=>Below w.heap.size w w'∧Cd l i.toNat (j7 one (l.drop i.toNat) []) e:=by
 obtain⟨i,rfl⟩:=Int.eq_ofNat_of_zero_le h0;rw [Int.toNat_natCast];generalize hR:j7 one (l.drop i) []=R
 have HR:=ab hR;clear hR;obtain⟨iu,hiu⟩:=info_parts qC;go_enter Tryz.func103,Tryz.ntmps103
 go_wp2
 go_loopw [1,9] (fun q t wr=>∃(j:Nat) (tx:Str),i≤j∧j≤2000000∧q=.int .i64 j∧wr.ownsRow w.heap.size 5 1 t tx.length (kx tx)∧Below w.heap.size w wr∧tx.length≤l.length∧tx.length+i≤j∧Hid (j7 one (l.drop j) tx=R)) (fun q _ _=>l.length-(intOf q).toNat)
 case atStart=>exact⟨i,[],by omega,by omega,rfl,World.ownsRow_nil _ _ _ _,Below.refl _ _,by simp,by simp,HR⟩
 case round =>
  obtain⟨j,tx,hij,hj,rfl,hown,hb,htx,htj,HF⟩:=hrel;clear HR;have hB:=hb.size;have hcv:=oH (P:=Tryz.prog) (src:=48) (dst:=9) Tryz.underlying48 Tryz.underlying5 Tryz.underlying9 hown;cases hd:l.drop j with
  | nil =>
   have h2:=kN hd;have HF':Hid (j7 one [] tx=R):=ab gR;clear hd HF;go_wp2
   go_ret3
   refine⟨hb,?_⟩;rw [←HF'.out];rfl
  | cons c r =>
   obtain⟨h2,h3,hr⟩:=kh hd;have HF':Hid (j7 one (c::r) tx=R):=ab gR;have Hr:=ab hr;clear HF hr;by_cases hc:c.toNat=one.toNat
   ·have HD:=ab hd;clear hd
    have hbc:((c.toNat:Int)==one)=true:=by rw [Do];omega
    have Hc:=ab hc;clear hc;go_wp2
    go_ret3
    refine⟨hb,?_⟩;rw [←HF'.out];have:j7 one (c::r) tx=some (tx,c::r):=by cases r<;>simp [j7,Hc.out]
    rw [this];exact⟨by omega,j,by omega,h2,HD.out,by simp⟩
   ·have hbc:((c.toNat:Int)==one)=false:=by rw [DV];omega
    have Hc:=ab hc;clear hc hd;by_cases hA:c.toNat=92∧nW r five=true
    ·obtain⟨hA1,hA2⟩:=hA
     cases r with
     | nil=>simp [nW] at hA2
     | cons d r' =>
      obtain⟨k2,k3,kr⟩:=kh Hr.out;have Hkr:=ab kr;clear kr;have HS:Hid (j7 one (c::d::r') tx=j7 one r' (tx++[d])):=ab (by
       conv=>lhs;unfold j7
       rw [Du Hc.out,Dr ⟨hA1,hA2⟩])
      have hst:nW (List.drop (j+1) l) [36,125,92,47,58]=true:=by rw [Hr.out];exact hA2
      have hA1':((c.toNat:Int)==92)=true:=by simp [hA1]
      clear hA1 hA2;go_wp2_with (first
       | (go_at_call 56;refine(oQ _ _ _ _ fR fR fR fX).mono ?_;rintro e w1 ⟨rfl,rfl⟩)
       | (at_builtin;refine kv w.heap.size 5 rfl _ _ 48 rfl Tryz.underlying48 hiu rfl fU rfl hown rfl gQ rfl gd fR fU hB ?_;intro v1 w1 hown1 hg1 hb1 hne1))
      clear hst hA1';go_roundw
      case rel =>
       refine⟨j+2,tx++[d],by omega,by omega,by go_num,?_,hb.trans hb1,by simp;omega,by simp;omega,?_⟩
       ·simpa [kx] using hown1
       ·exact ab (by rw [Hkr.out,←HS.out];exact HF'.out)
      case measure=>simp [intOf];omega
    ·have HS:Hid (j7 one (c::r) tx=j7 one r (tx++[c])):=ab (by
      cases r with
      | nil=>simp [j7,Hc.out]
      | cons d r' =>
       conv=>lhs;unfold j7
       rw [Du Hc.out];exact Du hA)
     by_cases h92:c.toNat=92
     ·have hst:nW (List.drop (j+1) l) [36,125,92,47,58]=false:=by rw [Hr.out];simpa [h92,five] using hA
      have hA1':((c.toNat:Int)==92)=true:= ii;clear hA h92;go_wp2_with (first
       | (go_at_call 56;refine(oQ _ _ _ _ fR fR fR fX).mono ?_;rintro e w1 ⟨rfl,rfl⟩)
       | (at_builtin;refine kv w.heap.size 5 rfl _ _ 48 rfl Tryz.underlying48 hiu rfl fU rfl hown rfl gQ rfl gd fR fU hB ?_;intro v1 w1 hown1 hg1 hb1 hne1))
      clear hst hA1';exact cG
     ·have hA1':((c.toNat:Int)==92)=false:= gI
      clear hA h92;go_wp2_with (at_builtin;refine kv w.heap.size 5 rfl _ _ 48 rfl Tryz.underlying48 hiu rfl fU rfl hown rfl gQ rfl gd fR fU hB ?_;intro v1 w1 hown1 hg1 hb1 hne1)
      clear hA1';exact cG
end Go.Proofs.YtjggmmaojklmpaaGreatDoor
