/- walks of casing -/
import Derived.Test.YtdcnncgpomcaaaaGreatDoorSc1
set_option maxRecDepth 100000
set_option maxHeartbeats 4000000
namespace Go.Proofs.YtdcnncgpomcaaaaGreatDoor
open Go.RowKit
theorem oA (n:Int) (w:World) :
  Calls Tryz.prog 87 #[.int .i64 n] w fun e w'=>e=.returned (.string ⟨(nh n).toArray⟩)∧Below w.heap.size w w':=by
 by_cases h:1≤n∧n≤5
 ·obtain⟨h1,h2⟩:=h
  have hn:n=1∨n=2∨n=3∨n=4∨n=5:=gj;rcases hn with rfl|rfl|rfl|rfl|rfl
  all_goals
   go_enter Tryz.func87,Tryz.ntmps87
   go_wp2
   go_ret
   exact⟨rfl,(Below.refl _ _).alloc (Ia _) _⟩
 ·have hz:nh n=[]:=by
   unfold nh;rw [Hx gj,Hx gj,Hx gj,Hx gj,Hx gj]
  rw [hz];go_enter Tryz.func87,Tryz.ntmps87
  go_wp2
  all_goals
   first
   | (go_ret;exact⟨rfl,Below.refl _ _⟩)
   | (exfalso;omega)
theorem Way_any (s:Str) (w:World) :
  Calls Tryz.prog 130 #[.string ⟨s.toArray⟩] w fun e w'=>e=.returned (.int .i64 (pW s))∧Below w.heap.size w w':=by
 generalize hR:pW s=R
 have HR:=ab hR;clear hR;go_enter Tryz.func130,Tryz.ntmps130
 go_wp2
 go_loopw [3] (fun q wr=>∃k:Int,1≤k∧k≤6∧q=.int .i64 k∧Below w.heap.size w wr∧Hid (∀j:Int,1≤j→j<k→nh j≠s)) (fun q _=>(6-intOf q).toNat)
 case atStart=>exact⟨1,by omega,by omega,rfl,Below.refl _ _,ab fun j h1 h2=>by omega⟩
 case round =>
  obtain⟨k,hk1,hk6,rfl,hb,HM⟩:=hrel;by_cases h5:k≤5
  ·by_cases hq:nh k=s
   ·have hbq:(nh k==s)=true:=by simp [hq]
    have Hq:=ab hq;clear hq;go_wp2_with (go_at_call 87;refine(oA _ _).mono ?_;rintro e w1 ⟨rfl,hb1⟩)
    go_ret
    exact⟨mX (by rw [←HR.out,Gb hk1 h5 Hq.out]),hb.trans (hb1.mono hb.size)⟩
   ·have hbq:(nh k==s)=false:=by simp [hq]
    have Hq:=ab hq;clear hq;go_wp2_with (go_at_call 87;refine(oA _ _).mono ?_;rintro e w1 ⟨rfl,hb1⟩)
    go_roundw
    case rel =>
     refine⟨k+1,by omega,by omega,rfl,hb.trans (hb1.mono hb.size),ab fun j h1 h2=>?_⟩;by_cases hj:j=k
     ·subst hj;exact Hq.out
     ·exact HM.out j h1 gj
    case measure=>simp [intOf];omega
  ·go_wp2
   go_ret
   have:k=6:=gj
   subst this;exact⟨mX (by rw [←HR.out,El HM.out]),hb⟩
def Fm.cells (f:Fm):List Value:=[.int .i64 f.kind,.int .i64 f.n,.int .i64 f.cse,.string ⟨(f.thn).toArray⟩,.string ⟨(f.els).toArray⟩]
def l5 (fs:List Fm):List Value:=fs.flatMap Fm.cells
theorem sE (fs:List Fm):(l5 fs).length=fs.length*5:=by
 induction fs with
 | nil=>rfl
 | cons f fs ih=>simp only [l5,If,Ig] at *;rw [ih];simp [Fm.cells];omega
theorem qB {fs:List Fm} {k:Nat} {f:Fm} (h:fs[k]?=some f) (j:Nat) (hj:j<5):(l5 fs)[k*5+j]?=f.cells[j]?:=by
 induction fs generalizing k with
 | nil=>simp at h
 | cons g fs ih =>
  cases k with
  | zero =>
   simp at h;subst h
   simp only [l5,If,Nat.zero_mul,Nat.zero_add];rw [Ij (by simp [Fm.cells];omega)]
  | succ k =>
   simp only [List.getElem?_cons_succ] at h;simp only [l5,If];rw [Ih (by simp [Fm.cells];omega)];rw [show (k+1)*5+j-g.cells.length=k*5+j by simp [Fm.cells];omega];exact ih h
theorem Sl.fm {w:World} {B:Nat} {a:Option Addr} {n:Nat} {fs:List Fm} (h:Sl w B a 5 n (l5 fs)) {k:Nat} {f:Fm} (hk:fs[k]?=some f) :
  ∃b o,a=some ⟨b,o,none⟩∧b<B∧w.cell? ⟨b,o+k*5,none⟩=some (.int .i64 f.kind)∧w.cell? ⟨b,o+k*5+1,none⟩=some (.int .i64 f.n)∧w.cell? ⟨b,o+k*5+2,none⟩=some (.int .i64 f.cse) ∧
   w.cell? ⟨b,o+k*5+3,none⟩=some (.string ⟨(f.thn).toArray⟩)∧w.cell? ⟨b,o+k*5+4,none⟩=some (.string ⟨(f.els).toArray⟩):=by
 have hlt:=(Id.1 hk).1;have hn:n=fs.length:=by have:=h.1;rw [sE] at this;omega
 obtain⟨b,o,h1,h2,h3⟩:=h.2 gj;refine⟨b,o,h1,h2,?_,?_,?_,?_,?_⟩
 ·exact h3 (k*5+0) _ (qB hk 0 gj)
 ·exact h3 (k*5+1) _ (qB hk 1 gj)
 ·exact h3 (k*5+2) _ (qB hk 2 gj)
 ·exact h3 (k*5+3) _ (qB hk 3 gj)
 ·exact h3 (k*5+4) _ (qB hk 4 gj)
def my (f:Fm) (n way thn els:Bool):Bool:=(n||decide (f.n=0))&&(way||decide (f.cse=0))&&(thn||decide (f.thn=[]))&&(els||decide (f.els=[]))
def mayF (f:Fm):Bool :=
 decide (0≤f.n∧f.n≤9999) &&
 (if f.kind=0 then my f false false true false&&decide (f.thn≠[])
  else if f.kind=1 then my f true false false false
  else if f.kind=2 then my f true true false false&&decide (nh f.cse≠[])
  else if f.kind=3 then my f true false true false
  else if f.kind=4 then my f true false false true
  else if f.kind=5 then my f true false true true
  else false)
def mayL:Bool→List Fm→Bool
 | _,[]=>true
 | pt,f::r=>mayF f&&!(decide (f.kind=0)&&pt)&&mayL (decide (f.kind=0)) r
def tO (fs:List Fm):Bool:=mayL false fs
theorem Sl.fs_len {w:World} {B:Nat} {a:Option Addr} {n:Nat} {fs:List Fm} (h:Sl w B a 5 n (l5 fs)):n=fs.length:=by
 have:=h.1;rw [sE] at this;omega
theorem sj (f:Fm) (b1 b2 b3 b4:Bool) (w:World) :
  Calls Tryz.prog 112 #[.agg #[.int .i64 (f).kind,.int .i64 (f).n,.int .i64 (f).cse,.string ⟨((f).thn).toArray⟩,.string ⟨((f).els).toArray⟩],.bool b1,.bool b2,.bool b3,.bool b4] w fun e w'=>e=.returned (.bool (my f b1 b2 b3 b4))∧Below w.heap.size w w':=by
 generalize hR:my f b1 b2 b3 b4=R
 have HR:=ab hR;clear hR;cases b1<;>cases b2<;>cases b3<;>cases b4
 all_goals
  go_enter Tryz.func112,Tryz.ntmps112
  go_wp2
  all_goals
   go_ret
   refine⟨ll ?_,(Below.refl _ _).alloc (Ia _) _⟩;rw [←HR.out,Bool.eq_iff_iff];simp [my, *]
theorem uZ (f:Fm) (w:World) :
  Calls Tryz.prog 100 #[.agg #[.int .i64 (f).kind,.int .i64 (f).n,.int .i64 (f).cse,.string ⟨((f).thn).toArray⟩,.string ⟨((f).els).toArray⟩]] w fun e w'=>e=.returned (.bool (mayF f))∧Below w.heap.size w w':=by
 obtain⟨kind,n,cse,thn,els⟩:=f;by_cases hn:0≤n∧n≤9999
 ·obtain⟨hn0,hn1⟩:=hn
  have hz:=fun(n:Int) (w:World)=>oA n w
  generalize hR:mayF ⟨kind,n,cse,thn,els⟩=R
  have HR:=ab hR;clear hR;have HZ:=ab hz;clear hz;have hk:kind=0∨kind=1∨kind=2∨kind=3∨kind=4∨kind=5∨(¬kind=0∧¬kind=1∧¬kind=2∧¬kind=3∧¬kind=4∧¬kind=5):=gj;have HN:Hid (decide (0≤n∧n≤9999)=true):=ab gD;rcases hk with hk|hk|hk|hk|hk|hk|⟨k0,k1,k2,k3,k4,k5⟩
  ·subst hk
   have HS:Hid (R=(my ⟨0,n,cse,thn,els⟩ false false true false&&decide (thn≠[]))):=ab (by rw [←HR.out,mayF,HN.out,Im,Hu rfl]);clear HR;by_cases hB:my ⟨0,n,cse,thn,els⟩ false false true false=true
   ·go_enter Tryz.func100,Tryz.ntmps100
    go_wp2_with (go_at_call 112;refine(sj ⟨_,n,cse,thn,els⟩ _ _ _ _ _).mono ?_)
    rintro e w1 ⟨rfl,hb1⟩;have c2:w1.cell? ⟨w.heap.size,3,none⟩=some (.string ⟨thn.toArray⟩):=by
     rw [hb1.cell (p:=⟨w.heap.size,3,none⟩) gz];simp
    go_wp2
    go_ret
    refine⟨ll ?_,((Below.refl _ _).alloc (Ia _) _).trans (hb1.mono gz)⟩;rw [HS.out,hB];cases thn<;>rfl
   ·have hB':my ⟨0,n,cse,thn,els⟩ false false true false=false:=by simpa using hB
    exact ck
  ·subst hk
   have HS:Hid (R=(my ⟨1,n,cse,thn,els⟩ true false false false)):=ab (by rw [←HR.out,mayF,HN.out,Im,Hx gz,Hu rfl]);exact bg
  ·subst hk
   have HS:Hid (R=(my ⟨2,n,cse,thn,els⟩ true true false false&&decide (nh cse≠[]))):=ab (by rw [←HR.out,mayF,HN.out,Im,Hx gz,Hx gz,Hu rfl]);clear HR;by_cases hB:my ⟨2,n,cse,thn,els⟩ true true false false=true
   ·go_enter Tryz.func100,Tryz.ntmps100
    go_wp2_with (go_at_call 112;refine(sj ⟨_,n,cse,thn,els⟩ _ _ _ _ _).mono ?_)
    rintro e w1 ⟨rfl,hb1⟩;have c2:w1.cell? ⟨w.heap.size,2,none⟩=some (.int .i64 cse):=by
     rw [hb1.cell (p:=⟨w.heap.size,2,none⟩) gz];simp
    go_wp2_with (go_at_call 87;refine(HZ.out _ _).mono ?_)
    rintro e w2 ⟨rfl,hb2⟩;go_wp2
    go_ret
    refine⟨ll ?_,(((Below.refl _ _).alloc (Ia _) _).trans (hb1.mono gz)).trans (hb2.mono jP)⟩;rw [HS.out,hB];cases nh cse<;>rfl
   ·have hB':my ⟨2,n,cse,thn,els⟩ true true false false=false:=by simpa using hB
    exact ck
  ·subst hk
   have HS:Hid (R=(my ⟨3,n,cse,thn,els⟩ true false true false)):=ab (by rw [←HR.out,mayF,HN.out,Im,Hx gz,Hx gz,Hx gz,Hu rfl]);exact bg
  ·subst hk
   have HS:Hid (R=(my ⟨4,n,cse,thn,els⟩ true false false true)):=ab (by rw [←HR.out,mayF,HN.out,Im,Hx gz,Hx gz,Hx gz,Hx gz,Hu rfl]);exact bg
  ·subst hk
   have HS:Hid (R=(my ⟨5,n,cse,thn,els⟩ true false true true)):=ab (by rw [←HR.out,mayF,HN.out,Im,Hx gz,Hx gz,Hx gz,Hx gz,Hx gz,Hu rfl]);exact bg
  ·have HS:Hid (R=false):=ab (by rw [←HR.out,mayF,HN.out,Im,Hx gj,Hx gj,Hx gj,Hx gj,Hx gj,Hx gj])
   clear HR;have e0:(kind==0)=false:=by simpa using k0
   have e1:(kind==1)=false:=by simpa using k1
   have e2:(kind==2)=false:=by simpa using k2
   have e3:(kind==3)=false:=by simpa using k3
   have e4:(kind==4)=false:=by simpa using k4
   have e5:(kind==5)=false:=by simpa using k5
   clear k0 k1 k2 k3 k4 k5;go_enter Tryz.func100,Tryz.ntmps100
   go_wp2
   go_ret
   exact⟨ll HS.out.symm,(Below.refl _ _).alloc (Ia _) _⟩
 ·have HS:Hid (mayF ⟨kind,n,cse,thn,els⟩=false):=ab (by unfold mayF;rw [Ix hn,Bool.false_and])
  rw [HS.out];go_enter Tryz.func100,Tryz.ntmps100
  go_wp2
  all_goals first
   | (exfalso;omega)
   | (go_ret;exact⟨rfl,(Below.refl _ _).alloc (Ia _) _⟩)
theorem Ez (a:Option Addr) (n c:Nat) (fs:List Fm) (w:World) (h:Sl w w.heap.size a 5 n (l5 fs)) (hn:n≤1000000) :
  Calls Tryz.prog 85 #[.slice a n c] w fun e w'=>e=.returned (.bool (tO fs))∧Below w.heap.size w w':=by
 generalize hR:tO fs=R
 have HR:=ab hR;clear hR;have HR0:Hid (mayL false (fs.drop 0)=R):=HR;have Hn:=ab h.fs_len;have HSl:=ab h;clear HR h;go_enter Tryz.func85,Tryz.ntmps85
 go_wp2
 go_loopw [7] (fun q wr=>∃(k:Nat) (pt:Bool),k≤n∧q=.int .i64 k∧Below w.heap.size w wr∧Hid ((k=0→pt=false)∧(0<k→∀g,fs[k-1]?=some g→decide (g.kind=0)=pt))∧Hid (mayL pt (fs.drop k)=R)) (fun q _=>n-(intOf q).toNat)
 case atStart=>exact⟨0,false,by omega,rfl,Below.refl _ _,ab ⟨fun _=>rfl,fun h=>by omega⟩,HR0⟩
 case round =>
  obtain⟨k,pt,hk,rfl,hb,HP,HF⟩:=hrel;clear HR0;have hB:=hb.size;cases hd:fs.drop k with
  | nil =>
   have h2:n≤k:=by have:=Hn.out;simp at hd;omega
   have HF':Hid (mayL pt []=R):=ab io;clear hd HF;go_wp2
   go_ret
   exact⟨ll HF'.out,hb⟩
  | cons f r =>
   obtain⟨h2,h3,hr⟩:=kV hd;have HF':Hid (mayL pt (f::r)=R):=ab io;have Hr:=ab hr;have HK:=ab h3;have hkn:k<n:=by have:=Hn.out;omega
   obtain⟨b,o,rfl,hbB,c0,c1,c2,c3,c4⟩:=(HSl.out.keep hb).fm h3;clear hd HF hr h2 h3;obtain⟨kind,fn,cse,thn,els⟩:=f;by_cases hm:mayF ⟨kind,fn,cse,thn,els⟩=true
   ·have HM:=ab hm
    have c5:∀w1,Below (wr.heap.size+1) (wr.alloc (.cells #[.int .i64 kind,.int .i64 fn,.int .i64 cse,.string ⟨thn.toArray⟩,.string ⟨els.toArray⟩] 95)) w1→w1.cell? ⟨wr.heap.size,0,none⟩=some (.int .i64 kind):=fun w1 h1=>by
     rw [h1.cell (p:=⟨wr.heap.size,0,none⟩) gz];simp
    have C5:=ab c5;clear c5;by_cases hk0:kind=0
    ·subst hk0
     by_cases hkk:k=0
     ·have hpt:=HP.out.1 hkk
      have hkk':k≤0:=gj;subst hpt;have HKK:=ab hkk;clear hkk;go_wp2_with (go_at_call 100;refine(uZ ⟨0,fn,cse,thn,els⟩ _).mono ?_;rintro e w1 ⟨rfl,hb1⟩;have d5:=C5.out w1 (by simpa using hb1);have hbw:Below w.heap.size wr w1:=((Below.refl _ _).alloc hB _).trans (hb1.mono gD))
      clear hm;go_roundw
      case rel =>
       refine⟨k+1,true,by omega,by go_num,hb.trans hbw,ab ⟨fun h=>by omega,fun _ g hg=>?_⟩,?_⟩
       ·exact cB
       ·refine ab ?_
        rw [Hr.out,←HF'.out];conv=>rhs;unfold mayL
        (rw [HM.out];rfl)
      case measure=>simp [intOf];omega
     ·obtain⟨g,hg⟩:∃g,fs[k-1]?=some g:=⟨fs[k-1]'(by have:=Hn.out;omega),Hw (by have:=Hn.out;omega)⟩
      have hpg:=HP.out.2 gj g hg;obtain⟨b',o',hab,_,g0,_⟩:=HSl.out.fm hg;have hbo:b'=b∧o'=o:=by simpa using hab.symm
      obtain⟨rfl,rfl⟩:=hbo;have hkp:0<k:=gj;have ek:((k-1:Nat):Int)=(k:Int)-1:=gj;have e1:(k:Int)-1<n∧0≤(k:Int)-1:=gj;obtain⟨gk,gn,gc,gt,ge⟩:=g;have G0:=ab g0;have HPG:=ab hpg;clear hab g0 hpg hkk hg;by_cases hgk:gk=0
      ·subst hgk
       go_wp2_with (go_at_call 100;refine(uZ ⟨0,fn,cse,thn,els⟩ _).mono ?_;rintro e w1 ⟨rfl,hb1⟩;have d5:=C5.out w1 (by simpa using hb1);have hbw:Below w.heap.size wr w1:=((Below.refl _ _).alloc hB _).trans (hb1.mono gD);have g1:w1.cell? ⟨b',o'+(k-1)*5,none⟩=some (.int .i64 0):=((hb.trans hbw).cell (p:=⟨b',o'+(k-1)*5,none⟩) hbB).trans G0.out)
       go_ret
       refine⟨ll ?_,hb.trans hbw⟩;rw [←HF'.out,mayL,←HPG.out];simp
      ·have eg:(gk==0)=false:=by simpa using hgk
       have HGK:=ab hgk;clear hgk;go_wp2_with (go_at_call 100;refine(uZ ⟨0,fn,cse,thn,els⟩ _).mono ?_;rintro e w1 ⟨rfl,hb1⟩;have d5:=C5.out w1 (by simpa using hb1);have hbw:Below w.heap.size wr w1:=((Below.refl _ _).alloc hB _).trans (hb1.mono gD);have g1:w1.cell? ⟨b',o'+(k-1)*5,none⟩=some (.int .i64 gk):=((hb.trans hbw).cell (p:=⟨b',o'+(k-1)*5,none⟩) hbB).trans G0.out)
       clear hm;go_roundw
       case rel =>
        refine⟨k+1,true,by omega,by go_num,hb.trans hbw,ab ⟨fun h=>by omega,fun _ g hg=>?_⟩,?_⟩
        ·exact cB
        ·refine ab ?_
         rw [Hr.out,←HF'.out];conv=>rhs;unfold mayL
         (rw [HM.out,←HPG.out];simp [HGK.out])
       case measure=>simp [intOf];omega
    ·have e0:(kind==0)=false:=by simpa using hk0
     have HK0:=ab hk0;clear hk0;go_wp2_with (go_at_call 100;refine(uZ ⟨kind,fn,cse,thn,els⟩ _).mono ?_;rintro e w1 ⟨rfl,hb1⟩;have d5:=C5.out w1 (by simpa using hb1);have hbw:Below w.heap.size wr w1:=((Below.refl _ _).alloc hB _).trans (hb1.mono gD))
     clear hm;go_roundw
     case rel =>
      refine⟨k+1,false,by omega,by go_num,hb.trans hbw,ab ⟨fun h=>by omega,fun _ g hg=>?_⟩,?_⟩
      ·exact cB
      ·refine ab ?_
       rw [Hr.out,←HF'.out];conv=>rhs;unfold mayL
       (rw [HM.out];simp [HK0.out])
     case measure=>simp [intOf];omega
   ·have hm':mayF ⟨kind,fn,cse,thn,els⟩=false:=by simpa using hm
    clear hm;go_wp2_with (go_at_call 100;refine(uZ ⟨kind,fn,cse,thn,els⟩ _).mono ?_;rintro e w1 ⟨rfl,hb1⟩)
    go_ret
    refine⟨ll ?_,hb.trans (((Below.refl _ _).alloc hB _).trans (hb1.mono gD))⟩;rw [←HF'.out,mayL,hm'];rfl
def pT:List Fm→Int→Int
 | [],n=>n
 | f::r,n=>if n≤f.thn.length∨n≤f.els.length then -1 else pT r (n-1-f.thn.length-f.els.length)
def FF (l:Str) (i:Nat) (R:Option (Str × Str)) (e:Ending):Prop :=
 match R with
 | none=>e=.returned (.tuple #[.string ⟨[].toArray⟩,.int .i64 0,.bool false])
 | some (t,r)=>t.length≤l.length∧∃j:Nat,i≤j∧j<l.length∧l.drop j=r∧e=.returned (.tuple #[.string ⟨t.toArray⟩,.int .i64 j,.bool true])
theorem zo (l:Str) (i one:Int) (w:World) (h0:0≤i) (h1:i≤1000000) (hs:l.length≤1000000) (ho:0≤one) :
  Calls Tryz.prog 131 #[.string ⟨l.toArray⟩,.int .i64 i,.int .u8 one] w fun e w'=>Below w.heap.size w w'∧FF l i.toNat (ld one (l.drop i.toNat) []) e:=by
 obtain⟨i,rfl⟩:=Int.eq_ofNat_of_zero_le h0;rw [Int.toNat_natCast];generalize hR:ld one (l.drop i) []=R
 have HR:=ab hR;clear hR;obtain⟨iu,hiu⟩:=info_parts qj;go_enter Tryz.func131,Tryz.ntmps131
 go_wp2
 go_loopw [1,9] (fun q t wr=>∃(j:Nat) (tx:Str),i≤j∧j≤2000000∧q=.int .i64 j∧wr.ownsRow w.heap.size 5 1 t tx.length (lZ tx)∧Below w.heap.size w wr∧tx.length≤l.length∧tx.length+i≤j∧Hid (ld one (l.drop j) tx=R)) (fun q _ _=>l.length-(intOf q).toNat)
 case atStart=>exact⟨i,[],by omega,by omega,rfl,World.ownsRow_nil _ _ _ _,Below.refl _ _,by simp,by simp,HR⟩
 case round =>
  obtain⟨j,tx,hij,hj,rfl,hown,hb,htx,htj,HF⟩:=hrel;clear HR;have hB:=hb.size;have hcv:=nU (P:=Tryz.prog) (src:=52) (dst:=9) Tryz.underlying52 Tryz.underlying5 Tryz.underlying9 hown;cases hd:l.drop j with
  | nil =>
   have h2:=lX hd;have HF':Hid (ld one [] tx=R):=ab io;clear hd HF;go_wp2
   go_ret3
   refine⟨hb,?_⟩;rw [←HF'.out];rfl
  | cons c r =>
   obtain⟨h2,h3,hr⟩:=kY hd;have HF':Hid (ld one (c::r) tx=R):=ab io;have Hr:=ab hr;clear HF hr;by_cases hc:c.toNat=one.toNat
   ·have HD:=ab hd;clear hd
    have hbc:((c.toNat:Int)==one)=true:=by rw [Hp];omega
    have Hc:=ab hc;clear hc;go_wp2
    go_ret3
    refine⟨hb,?_⟩;rw [←HF'.out];have:ld one (c::r) tx=some (tx,c::r):=by cases r<;>simp [ld,Hc.out]
    rw [this];exact⟨by omega,j,by omega,h2,HD.out,by simp⟩
   ·have hbc:((c.toNat:Int)==one)=false:=by rw [Iu];omega
    have Hc:=ab hc;clear hc hd;by_cases hA:c.toNat=92∧qm r five=true
    ·obtain⟨hA1,hA2⟩:=hA
     cases r with
     | nil=>simp [qm] at hA2
     | cons d r' =>
      obtain⟨k2,k3,kr⟩:=kY Hr.out;have Hkr:=ab kr;clear kr;have HS:Hid (ld one (c::d::r') tx=ld one r' (tx++[d])):=ab (by
       conv=>lhs;unfold ld
       rw [Hx Hc.out,Hu ⟨hA1,hA2⟩])
      have hst:qm (List.drop (j+1) l) [36,125,92,47,58]=true:=by rw [Hr.out];exact hA2
      have hA1':((c.toNat:Int)==92)=true:=by simp [hA1]
      clear hA1 hA2;go_wp2_with (first
       | (go_at_call 120;refine(rA _ _ _ _ gj gj gj gz).mono ?_;rintro e w1 ⟨rfl,rfl⟩)
       | (at_builtin;refine l7 w.heap.size 5 rfl _ _ 52 rfl Tryz.underlying52 hiu rfl gv rfl hown rfl iz rfl gP gj gv hB ?_;intro v1 w1 hown1 hg1 hb1 hne1))
      clear hst hA1';go_roundw
      case rel =>
       refine⟨j+2,tx++[d],by omega,by omega,by go_num,?_,hb.trans hb1,by simp;omega,by simp;omega,?_⟩
       ·simpa [lZ] using hown1
       ·exact ab (by rw [Hkr.out,←HS.out];exact HF'.out)
      case measure=>simp [intOf];omega
    ·have HS:Hid (ld one (c::r) tx=ld one r (tx++[c])):=ab (by
      cases r with
      | nil=>simp [ld,Hc.out]
      | cons d r' =>
       conv=>lhs;unfold ld
       rw [Hx Hc.out];exact Hx hA)
     by_cases h92:c.toNat=92
     ·have hst:qm (List.drop (j+1) l) [36,125,92,47,58]=false:=by rw [Hr.out];simpa [h92,five] using hA
      have hA1':((c.toNat:Int)==92)=true:= iU;clear hA h92;go_wp2_with (first
       | (go_at_call 120;refine(rA _ _ _ _ gj gj gj gz).mono ?_;rintro e w1 ⟨rfl,rfl⟩)
       | (at_builtin;refine l7 w.heap.size 5 rfl _ _ 52 rfl Tryz.underlying52 hiu rfl gv rfl hown rfl iz rfl gP gj gv hB ?_;intro v1 w1 hown1 hg1 hb1 hne1))
      clear hst hA1';exact cu
     ·have hA1':((c.toNat:Int)==92)=false:= it
      clear hA h92;go_wp2_with (at_builtin;refine l7 w.heap.size 5 rfl _ _ 52 rfl Tryz.underlying52 hiu rfl gv rfl hown rfl iz rfl gP gj gv hB ?_;intro v1 w1 hown1 hg1 hb1 hne1)
      clear hA1';exact cu
theorem B5 (r:Str):Lib.indexByte r 125=match r.dropWhile mo with|[]=>-1|_::_=>((r.takeWhile mo).length:Int):=by
 induction r with
 | nil=>rfl
 | cons b r ih =>
  by_cases h:b.toNat=125
  ·have hb:b=125:=Ht.1 h
   subst hb;rfl
  ·have hb:(b==125)=false:=by rw [Iu];intro e;exact h (by rw [e];rfl)
   have hd:mo b=true:=by simpa [mo] using h
   rw [List.dropWhile_cons_of_pos hd,List.takeWhile_cons_of_pos hd];simp only [Lib.indexByte,hb,ih];cases r.dropWhile mo with
   | nil=>rfl
   | cons x y =>
    have h1:((((r.takeWhile mo).length:Int))==-1)=false:=by rw [Iu];omega
    simp only [h1,IF,if_false,H7];omega
theorem Way_eq {s:Str} {v:Int} (w:World) (h:pW s=v) :
  Calls Tryz.prog 130 #[.string ⟨s.toArray⟩] w fun e w'=>e=.returned (.int .i64 v)∧Below w.heap.size w w':=by
 subst h;exact Way_any s w
theorem rF {l t r:Str} {i one:Int} (w:World) (h0:0≤i) (h1:i≤1000000) (hs:l.length≤1000000) (ho:0≤one) (hU:ld one (l.drop i.toNat) []=some (t,r)) :
  Calls Tryz.prog 131 #[.string ⟨l.toArray⟩,.int .i64 i,.int .u8 one] w fun e w'=>Below w.heap.size w w'∧t.length≤l.length∧∃j:Nat,i≤j∧j<l.length∧l.drop j=r∧e=.returned (.tuple #[.string ⟨t.toArray⟩,.int .i64 j,.bool true]):=by
 refine(zo l i one w h0 h1 hs ho).mono ?_
 rintro e w1 ⟨hb,hp⟩;rw [hU] at hp;obtain⟨h2,j,h3,h4,h5,h6⟩:=hp;exact⟨hb,h2,j,by omega,h4,h5,h6⟩
theorem pH {l:Str} {i one:Int} (w:World) (h0:0≤i) (h1:i≤1000000) (hs:l.length≤1000000) (ho:0≤one) (hU:ld one (l.drop i.toNat) []=none) :
  Calls Tryz.prog 131 #[.string ⟨l.toArray⟩,.int .i64 i,.int .u8 one] w fun e w'=>Below w.heap.size w w'∧e=.returned (.tuple #[.string ⟨[].toArray⟩,.int .i64 0,.bool false]):=by
 refine(zo l i one w h0 h1 hs ho).mono ?_
 rintro e w1 ⟨hb,hp⟩;rw [hU] at hp;exact⟨hb,hp⟩
def CN (l:Str) (i:Nat) (R:Option (Fm × Str)) (e:Ending):Prop :=
 match R with
 | none=>e=.returned (.tuple #[.agg #[.int .i64 0,.int .i64 0,.int .i64 0,.string ⟨#[]⟩,.string ⟨#[]⟩],.int .i64 0,.bool false])
 | some (f,r)=>f.thn.length≤l.length∧f.els.length≤l.length∧∃j:Nat,i<j∧j≤l.length∧l.drop j=r∧e=.returned (.tuple #[.agg #[.int .i64 (f).kind,.int .i64 (f).n,.int .i64 (f).cse,.string ⟨((f).thn).toArray⟩,.string ⟨((f).els).toArray⟩],.int .i64 j,.bool true])
theorem Ev (l:Str) (i n:Nat) (w:World) (h1:i≤900000) (hs:l.length≤900000) :
  Calls Tryz.prog 126 #[.string ⟨l.toArray⟩,.int .i64 i,.int .i64 n] w fun e w'=>Below w.heap.size w w'∧CN l i (lU (l.drop i) n) e:=by
 generalize hR:lU (l.drop i) n=R
 have HR:=ab hR;clear hR;cases hd:l.drop i with
 | nil =>
  have h2:=lX hd;have hU:ld 125 (l.drop (i:Int).toNat) []=none:=by rw [Int.toNat_natCast,hd];rfl
  have HE:Hid (R=none):=ab (by rw [←HR.out,hd];rfl);have hh:∀p:Str,p.isPrefixOf (l.drop (i:Int).toNat)=p.isPrefixOf []:=fun p=>by rw [Int.toNat_natCast,hd]
  have HU:=ab hU;have HH:=ab hh;have e1:List.isPrefixOf [47] (List.drop i l)=false:=by rw [hd];rfl
  have e2:List.isPrefixOf [43] (List.drop i l)=false:=by rw [hd];rfl
  have e3:List.isPrefixOf [63] (List.drop i l)=false:=by rw [hd];rfl
  have e4:List.isPrefixOf [45] (List.drop i l)=false:=by rw [hd];rfl
  clear hd hU hh;go_enter Tryz.func126,Tryz.ntmps126
  go_wp2_with (first
   | (go_at_call 125;refine(mV _ _ _ _ gj gj gz).mono ?_;rintro e w1 ⟨rfl,rfl⟩)
   | (go_at_call 131;refine(pH _ gj gj gj gj HU.out).mono ?_;rintro e w1 ⟨hb1,rfl⟩;obtain⟨hc1,hf1⟩:=s8 hb1;have z0:w1.cell? ⟨w.heap.size,0,none⟩=some (.int .i64 0):= gp;have z1:w1.cell? ⟨w.heap.size,1,none⟩=some (.int .i64 0):= gp;have z2:w1.cell? ⟨w.heap.size,2,none⟩=some (.int .i64 0):= gp;have z3:w1.cell? ⟨w.heap.size,3,none⟩=some (.string ⟨#[]⟩):= gp;have z4:w1.cell? ⟨w.heap.size,4,none⟩=some (.string ⟨#[]⟩):= gp;have hbw:Below w.heap.size w w1:=((((Below.refl w.heap.size w).alloc (Ia _) _).alloc gz _).trans (hb1.mono gD))))
  refine Ir (v:=.tuple #[.agg #[.int .i64 0,.int .i64 0,.int .i64 0,.string ⟨#[]⟩,.string ⟨#[]⟩],.int .i64 0,.bool false]) ig rfl ⟨?_,by rw [HE.out];rfl⟩
  (repeat (first|with_reducible exact Below.refl _ _|with_reducible assumption|(refine Below.setCell ?_ gQ _)|(refine Below.alloc ?_ gF _)|(refine Below.drew ?_)))
 | cons c r =>
  obtain⟨h2,h3,hr⟩:=kY hd;have Hr:=ab hr;have HD:=ab hd;clear hr h3;by_cases c43:c.toNat=43
  ·have e1:List.isPrefixOf [47] (List.drop i l)=false:=by rw [hd,pre1];simp;try omega
   have e2:List.isPrefixOf [43] (List.drop i l)=true:=by rw [hd,pre1];simp;try omega
   have e3:List.isPrefixOf [63] (List.drop i l)=false:=by rw [hd,pre1];simp;try omega
   have e4:List.isPrefixOf [45] (List.drop i l)=false:=by rw [hd,pre1];simp;try omega
   have HE:Hid (R=match ld 125 r [] with|some (t,_::r2)=>some (⟨3,n,0,t,[]⟩,r2)|_=>none):=ab (by
    rw [←HR.out,hd];simp only [lU];rw [Hx gj,Hu c43];rfl)
   clear hd c43;cases hU:ld 125 r [] with
   | none =>
    have HU:Hid (ld 125 (l.drop ((i:Int)+1).toNat) []=none):=ab ia;have HE':Hid (R=none):=ab j7;clear hU HE;go_enter Tryz.func126,Tryz.ntmps126
    go_wp2_with (first|(go_at_call 125;refine(mV _ _ _ _ gj gj gz).mono ?_;rintro e w1 ⟨rfl,rfl⟩)|(go_at_call 131;refine(pH _ gj gj gj gj HU.out).mono ?_;rintro e w1 ⟨hb1,rfl⟩;obtain⟨hc1,hf1⟩:=s8 hb1;have z0:w1.cell? ⟨w.heap.size,0,none⟩=some (.int .i64 0):= gp;have z1:w1.cell? ⟨w.heap.size,1,none⟩=some (.int .i64 0):= gp;have z2:w1.cell? ⟨w.heap.size,2,none⟩=some (.int .i64 0):= gp;have z3:w1.cell? ⟨w.heap.size,3,none⟩=some (.string ⟨#[]⟩):= gp;have z4:w1.cell? ⟨w.heap.size,4,none⟩=some (.string ⟨#[]⟩):= gp;have y0:w1.cell? ⟨w.heap.size+1,0,none⟩=some (.int .i64 3):= gp;have y1:w1.cell? ⟨w.heap.size+1,1,none⟩=some (.int .i64 ↑n):= gp;have y2:w1.cell? ⟨w.heap.size+1,2,none⟩=some (.int .i64 0):= gp;have y3:w1.cell? ⟨w.heap.size+1,3,none⟩=some (.string ⟨#[]⟩):= gp;have y4:w1.cell? ⟨w.heap.size+1,4,none⟩=some (.string ⟨#[]⟩):= gp;have hbw:Below w.heap.size w w1:=((((Below.refl w.heap.size w).alloc (Ia _) _).alloc gz _).trans (hb1.mono gD))))
    exact eM
   | some p =>
    obtain⟨t,s⟩:=p;obtain⟨d,r2,rfl,_⟩:=nl _ _ _ hU;have HU:Hid (ld 125 (l.drop ((i:Int)+1).toNat) []=some (t,d::r2)):=ab ia;have HE':Hid (R=some (⟨3,n,0,t,[]⟩,r2)):=ab j7;clear hU HE;go_enter Tryz.func126,Tryz.ntmps126
    go_wp2_with (first|(go_at_call 125;refine(mV _ _ _ _ gj gj gz).mono ?_;rintro e w1 ⟨rfl,rfl⟩)|(go_at_call 131;refine(rF _ gj gj gj gj HU.out).mono ?_;rintro e w1 ⟨hb1,hlt,j,hj1,hj2,hj3,rfl⟩;obtain⟨hc1,hf1⟩:=s8 hb1;have z0:w1.cell? ⟨w.heap.size,0,none⟩=some (.int .i64 0):= gp;have z1:w1.cell? ⟨w.heap.size,1,none⟩=some (.int .i64 0):= gp;have z2:w1.cell? ⟨w.heap.size,2,none⟩=some (.int .i64 0):= gp;have z3:w1.cell? ⟨w.heap.size,3,none⟩=some (.string ⟨#[]⟩):= gp;have z4:w1.cell? ⟨w.heap.size,4,none⟩=some (.string ⟨#[]⟩):= gp;have y0:w1.cell? ⟨w.heap.size+1,0,none⟩=some (.int .i64 3):= gp;have y1:w1.cell? ⟨w.heap.size+1,1,none⟩=some (.int .i64 ↑n):= gp;have y2:w1.cell? ⟨w.heap.size+1,2,none⟩=some (.int .i64 0):= gp;have y3:w1.cell? ⟨w.heap.size+1,3,none⟩=some (.string ⟨#[]⟩):= gp;have y4:w1.cell? ⟨w.heap.size+1,4,none⟩=some (.string ⟨#[]⟩):= gp;have hbw:Below w.heap.size w w1:=((((Below.refl w.heap.size w).alloc (Ia _) _).alloc gz _).trans (hb1.mono gD));have HJ3:=ab hj3;clear hj3))
    refine Ir (v:=.tuple #[.agg #[.int .i64 3,.int .i64 n,.int .i64 0,.string ⟨t.toArray⟩,.string ⟨[].toArray⟩],.int .i64 (j+1),.bool true]) ig rfl ⟨?_,?_⟩
    ·(repeat (first|with_reducible exact Below.refl _ _|with_reducible assumption|(refine Below.setCell ?_ gQ _)|(refine Below.alloc ?_ gF _)|(refine Below.drew ?_)))
    ·rw [HE'.out]
     exact fR
  by_cases c45:c.toNat=45
  ·have e1:List.isPrefixOf [47] (List.drop i l)=false:=by rw [hd,pre1];simp;try omega
   have e2:List.isPrefixOf [43] (List.drop i l)=false:=by rw [hd,pre1];simp;try omega
   have e3:List.isPrefixOf [63] (List.drop i l)=false:=by rw [hd,pre1];simp;try omega
   have e4:List.isPrefixOf [45] (List.drop i l)=true:=by rw [hd,pre1];simp;try omega
   have HE:Hid (R=match ld 125 r [] with|some (t,_::r2)=>some (⟨4,n,0,[],t⟩,r2)|_=>none):=ab (by
    rw [←HR.out,hd];simp only [lU];rw [Hx gj,Hx gj,Hx gj,Hu c45];rfl)
   clear hd c43 c45;cases hU:ld 125 r [] with
   | none =>
    have HU:Hid (ld 125 (l.drop ((i:Int)+1).toNat) []=none):=ab ia;exact aF
   | some p =>
    obtain⟨t,s⟩:=p;obtain⟨d,r2,rfl,_⟩:=nl _ _ _ hU;have HU:Hid (ld 125 (l.drop ((i:Int)+1).toNat) []=some (t,d::r2)):=ab ia;exact aE
  by_cases c63:c.toNat=63
  ·have e1:List.isPrefixOf [47] (List.drop i l)=false:=by rw [hd,pre1];simp;try omega
   have e2:List.isPrefixOf [43] (List.drop i l)=false:=by rw [hd,pre1];simp;try omega
   have e3:List.isPrefixOf [63] (List.drop i l)=true:=by rw [hd,pre1];simp;try omega
   have e4:List.isPrefixOf [45] (List.drop i l)=false:=by rw [hd,pre1];simp;try omega
   have HE:Hid (R=match ld 58 r [] with|some (t,_::r2)=>(match ld 125 r2 [] with|some (u,_::r3)=>some (⟨5,n,0,t,u⟩,r3)|_=>none)|_=>none):=ab (by
    rw [←HR.out,hd];simp only [lU];rw [Hx gj,Hx gj,Hu c63];rfl)
   clear hd c43 c45 c63;cases hU:ld 58 r [] with
   | none =>
    have HU:Hid (ld 58 (l.drop ((i:Int)+1).toNat) []=none):=ab ia;have HE':Hid (R=none):=ab j7;clear hU HE;go_enter Tryz.func126,Tryz.ntmps126
    go_wp2_with (first|(go_at_call 125;refine(mV _ _ _ _ gj gj gz).mono ?_;rintro e w1 ⟨rfl,rfl⟩)|(go_at_call 131;refine(pH _ gj gj gj gj HU.out).mono ?_;rintro e w1 ⟨hb1,rfl⟩;obtain⟨hc1,hf1⟩:=s8 hb1;have z0:w1.cell? ⟨w.heap.size,0,none⟩=some (.int .i64 0):= gp;have z1:w1.cell? ⟨w.heap.size,1,none⟩=some (.int .i64 0):= gp;have z2:w1.cell? ⟨w.heap.size,2,none⟩=some (.int .i64 0):= gp;have z3:w1.cell? ⟨w.heap.size,3,none⟩=some (.string ⟨#[]⟩):= gp;have z4:w1.cell? ⟨w.heap.size,4,none⟩=some (.string ⟨#[]⟩):= gp;have y0:w1.cell? ⟨w.heap.size+1,0,none⟩=some (.int .i64 5):= gp;have y1:w1.cell? ⟨w.heap.size+1,1,none⟩=some (.int .i64 ↑n):= gp;have y2:w1.cell? ⟨w.heap.size+1,2,none⟩=some (.int .i64 0):= gp;have y3:w1.cell? ⟨w.heap.size+1,3,none⟩=some (.string ⟨#[]⟩):= gp;have y4:w1.cell? ⟨w.heap.size+1,4,none⟩=some (.string ⟨#[]⟩):= gp;have hbw:Below w.heap.size w w1:=((((Below.refl w.heap.size w).alloc (Ia _) _).alloc gz _).trans (hb1.mono gD))))
    exact eM
   | some p =>
    obtain⟨t,s⟩:=p;obtain⟨d,r2,rfl,_⟩:=nl _ _ _ hU;have HU:Hid (ld 58 (l.drop ((i:Int)+1).toNat) []=some (t,d::r2)):=ab ia;have HE1:Hid (R=match ld 125 r2 [] with|some (u,_::r3)=>some (⟨5,n,0,t,u⟩,r3)|_=>none):=ab j7;clear hU HE;go_enter Tryz.func126,Tryz.ntmps126
    go_wp2_with (first|(go_at_call 125;refine(mV _ _ _ _ gj gj gz).mono ?_;rintro e w1 ⟨rfl,rfl⟩)|(go_at_call 131;refine(rF _ gj gj gj gj HU.out).mono ?_))
    rintro e w1 ⟨hb1,hlt,j,hj1,hj2,hj3,rfl⟩;obtain⟨hc1,hf1⟩:=s8 hb1;have z0:w1.cell? ⟨w.heap.size,0,none⟩=some (.int .i64 0):= gp;have z1:w1.cell? ⟨w.heap.size,1,none⟩=some (.int .i64 0):= gp;have z2:w1.cell? ⟨w.heap.size,2,none⟩=some (.int .i64 0):= gp;have z3:w1.cell? ⟨w.heap.size,3,none⟩=some (.string ⟨#[]⟩):= gp;have z4:w1.cell? ⟨w.heap.size,4,none⟩=some (.string ⟨#[]⟩):= gp;have y0:w1.cell? ⟨w.heap.size+1,0,none⟩=some (.int .i64 5):= gp;have y1:w1.cell? ⟨w.heap.size+1,1,none⟩=some (.int .i64 ↑n):= gp;have y2:w1.cell? ⟨w.heap.size+1,2,none⟩=some (.int .i64 0):= gp;have y3:w1.cell? ⟨w.heap.size+1,3,none⟩=some (.string ⟨#[]⟩):= gp;have y4:w1.cell? ⟨w.heap.size+1,4,none⟩=some (.string ⟨#[]⟩):= gp;have hbw:Below w.heap.size w w1:=((((Below.refl w.heap.size w).alloc (Ia _) _).alloc gz _).trans (hb1.mono gD));have HJ:=ab (kY hj3).2.2;clear hj3;have hz:w.heap.size+1<w1.heap.size:=by have:=hb1.size;simp at this;omega
    cases hV:ld 125 r2 [] with
    | none =>
     have HV:Hid (ld 125 (l.drop ((j:Int)+1).toNat) []=none):=ab jD;have HE':Hid (R=none):=ab (by rw [HE1.out,hV]);clear hV HE1;go_wp2_with (go_at_call 131;refine(pH _ gj gj gj gj HV.out).mono ?_;rintro e w2 ⟨hb2,rfl⟩;obtain⟨hc2,hf2⟩:=s8 hb2;have fz2:∀j,w2.frozen? ⟨w.heap.size,j,none⟩=false:=(fun j=>by rw [hf2 _ _ gH];simp [go_sem,hf1]);have fy2:∀j,w2.frozen? ⟨w.heap.size+1,j,none⟩=false:=(fun j=>by rw [hf2 _ _ gH];simp [go_sem,hf1]);have x0:w2.cell? ⟨w.heap.size,0,none⟩=some (.int .i64 0):= jl;have x1:w2.cell? ⟨w.heap.size,1,none⟩=some (.int .i64 0):= jm;have x2:w2.cell? ⟨w.heap.size,2,none⟩=some (.int .i64 0):= jn;have x3:w2.cell? ⟨w.heap.size,3,none⟩=some (.string ⟨#[]⟩):= jo;have x4:w2.cell? ⟨w.heap.size,4,none⟩=some (.string ⟨#[]⟩):= jp;have v0:w2.cell? ⟨w.heap.size+1,0,none⟩=some (.int .i64 5):= jq;have v1:w2.cell? ⟨w.heap.size+1,1,none⟩=some (.int .i64 ↑n):= jr;have v2:w2.cell? ⟨w.heap.size+1,2,none⟩=some (.int .i64 0):= js;have v3:w2.cell? ⟨w.heap.size+1,3,none⟩=some (.string ⟨t.toArray⟩):= ju;have v4:w2.cell? ⟨w.heap.size+1,4,none⟩=some (.string ⟨#[]⟩):= jv;have hbw2:Below w.heap.size w w2:=(hbw.setCell (p:=⟨w.heap.size+1,3,none⟩) gz _).trans (hb2.mono gH))
     refine Ir (v:=.tuple #[.agg #[.int .i64 0,.int .i64 0,.int .i64 0,.string ⟨#[]⟩,.string ⟨#[]⟩],.int .i64 0,.bool false]) jK rfl ⟨?_,by rw [HE'.out];rfl⟩
     (repeat (first|with_reducible exact Below.refl _ _|with_reducible assumption|(refine Below.setCell ?_ gQ _)|(refine Below.alloc ?_ gF _)|(refine Below.drew ?_)))
    | some p =>
     obtain⟨u,s⟩:=p;obtain⟨d',r3,rfl,_⟩:=nl _ _ _ hV;have HV:Hid (ld 125 (l.drop ((j:Int)+1).toNat) []=some (u,d'::r3)):=ab jD;have HE':Hid (R=some (⟨5,n,0,t,u⟩,r3)):=ab (by rw [HE1.out,hV]);clear hV HE1;go_wp2_with (go_at_call 131;refine(rF _ gj gj gj gj HV.out).mono ?_;rintro e w2 ⟨hb2,hlt2,j2,hk1,hk2,hk3,rfl⟩;obtain⟨hc2,hf2⟩:=s8 hb2;have fz2:∀j,w2.frozen? ⟨w.heap.size,j,none⟩=false:=(fun j=>by rw [hf2 _ _ gH];simp [go_sem,hf1]);have fy2:∀j,w2.frozen? ⟨w.heap.size+1,j,none⟩=false:=(fun j=>by rw [hf2 _ _ gH];simp [go_sem,hf1]);have x0:w2.cell? ⟨w.heap.size,0,none⟩=some (.int .i64 0):= jl;have x1:w2.cell? ⟨w.heap.size,1,none⟩=some (.int .i64 0):= jm;have x2:w2.cell? ⟨w.heap.size,2,none⟩=some (.int .i64 0):= jn;have x3:w2.cell? ⟨w.heap.size,3,none⟩=some (.string ⟨#[]⟩):= jo;have x4:w2.cell? ⟨w.heap.size,4,none⟩=some (.string ⟨#[]⟩):= jp;have v0:w2.cell? ⟨w.heap.size+1,0,none⟩=some (.int .i64 5):= jq;have v1:w2.cell? ⟨w.heap.size+1,1,none⟩=some (.int .i64 ↑n):= jr;have v2:w2.cell? ⟨w.heap.size+1,2,none⟩=some (.int .i64 0):= js;have v3:w2.cell? ⟨w.heap.size+1,3,none⟩=some (.string ⟨t.toArray⟩):= ju;have v4:w2.cell? ⟨w.heap.size+1,4,none⟩=some (.string ⟨#[]⟩):= jv;have hbw2:Below w.heap.size w w2:=(hbw.setCell (p:=⟨w.heap.size+1,3,none⟩) gz _).trans (hb2.mono gH);have HK3:=ab hk3;clear hk3)
     refine Ir (v:=.tuple #[.agg #[.int .i64 5,.int .i64 n,.int .i64 0,.string ⟨t.toArray⟩,.string ⟨u.toArray⟩],.int .i64 (j2+1),.bool true]) jK rfl ⟨?_,?_⟩
     ·(repeat (first|with_reducible exact Below.refl _ _|with_reducible assumption|(refine Below.setCell ?_ gQ _)|(refine Below.alloc ?_ gF _)|(refine Below.drew ?_)))
     ·rw [HE'.out]
      refine⟨by simp;try omega,by simp;try omega,j2+1,by omega,by omega,(kY HK3.out).2.2,by simp⟩
  by_cases c47:c.toNat=47
  ·have e1:List.isPrefixOf [47] (List.drop i l)=true:=by rw [hd,pre1];simp;try omega
   have e2:List.isPrefixOf [43] (List.drop i l)=false:=by rw [hd,pre1];simp;try omega
   have e3:List.isPrefixOf [63] (List.drop i l)=false:=by rw [hd,pre1];simp;try omega
   have e4:List.isPrefixOf [45] (List.drop i l)=false:=by rw [hd,pre1];simp;try omega
   have HE:Hid (R=match r.dropWhile mo with
    | []=>none
    | _::r2=>if pW (r.takeWhile mo)=0 then none else some (⟨2,n,pW (r.takeWhile mo),[],[]⟩,r2)):=ab (by
    rw [←HR.out,hd];simp only [lU];rw [Hu c47];rfl)
   have hx:Lib.indexByte (List.drop i l) (125:Int).toNat.toUInt8=match r.dropWhile mo with|[]=>-1|_::_=>((r.takeWhile mo).length:Int)+1:=by
    rw [hd];have e125:(125:Int).toNat.toUInt8=125:=rfl;have hb:(c==125)=false:=by rw [Iu];intro e;rw [e] at c47;simp at c47
    rw [e125];simp only [Lib.indexByte,hb];rw [B5];cases r.dropWhile mo with
    | nil=>rfl
    | cons x y =>
     have h1:((((r.takeWhile mo).length:Int))==-1)=false:=by rw [Iu];omega
     simp only [h1,IF,if_false]
   clear hd c43 c45 c63 c47;have hspan:=Hz (p:=mo) (l:=r);generalize r.takeWhile mo=tk at *
   generalize r.dropWhile mo=dw at *
   have HX:=ab hx;have HSP:=ab hspan;clear hx hspan;cases dw with
   | nil =>
    have HX':Hid (Lib.indexByte (List.drop i l) (125:Int).toNat.toUInt8=-1):=HX;have HE':Hid (R=none):=HE;clear HX HE;go_enter Tryz.func126,Tryz.ntmps126
    go_wp2_with (first|(go_at_call 125;refine(mV _ _ _ _ gj gj gz).mono ?_;rintro e w1 ⟨rfl,rfl⟩)|(go_at_call 47;refine(lB _ HX'.out).mono ?_;rintro e w1 ⟨rfl,rfl⟩))
    refine Ir (v:=.tuple #[.agg #[.int .i64 0,.int .i64 0,.int .i64 0,.string ⟨#[]⟩,.string ⟨#[]⟩],.int .i64 0,.bool false]) (by simp [results,Tryz.results126,go_sem]) rfl ⟨?_,by rw [HE'.out];rfl⟩
    (repeat (first|with_reducible exact Below.refl _ _|with_reducible assumption|(refine Below.setCell ?_ gQ _)|(refine Below.alloc ?_ gF _)|(refine Below.drew ?_)))
   | cons d r2 =>
    have HX':Hid (Lib.indexByte (List.drop i l) (125:Int).toNat.toUInt8=(tk.length:Int)+1):=HX;have HE':Hid (R=if pW tk=0 then none else some (⟨2,n,pW tk,[],[]⟩,r2)):=HE;have hlen:i+1+tk.length<l.length:=by
     have h1:=Hy List.length HSP.out;have h2:=Hy List.length Hr.out;simp at h1 h2;omega
    have hK:∀k,k=tk.length→List.take k (List.drop (i+1) l)=tk:=fun k hk=>by
     rw [Hr.out,←HSP.out,hk,List.take_left]
    have HK:=ab hK;clear HX HE hK;go_enter Tryz.func126,Tryz.ntmps126
    have hW:pW (List.take (i+(tk.length+1)-(i+1)) (List.drop (i+1) l))=pW tk:=by rw [HK.out _ gj]
    generalize hv:pW tk=v at *
    have HW:=ab hW;have HV:=ab hv;clear hW hv;by_cases h0:v=0
    ·subst h0
     have HE2:Hid (R=none):=ab (by rw [HE'.out,Hu rfl]);clear HE';have HE':=HE2;go_wp2_with (first|(go_at_call 125;refine(mV _ _ _ _ gj gj gz).mono ?_;rintro e w1 ⟨rfl,rfl⟩)|(go_at_call 47;refine(lB _ HX'.out).mono ?_;rintro e w1 ⟨rfl,rfl⟩)|(go_at_call 130;refine(Way_eq _ HW.out).mono ?_;rintro e w1 ⟨rfl,hb1⟩;obtain⟨hc1,hf1⟩:=s8 hb1;have z0:w1.cell? ⟨w.heap.size,0,none⟩=some (.int .i64 0):= gp;have z1:w1.cell? ⟨w.heap.size,1,none⟩=some (.int .i64 0):= gp;have z2:w1.cell? ⟨w.heap.size,2,none⟩=some (.int .i64 0):= gp;have z3:w1.cell? ⟨w.heap.size,3,none⟩=some (.string ⟨#[]⟩):= gp;have z4:w1.cell? ⟨w.heap.size,4,none⟩=some (.string ⟨#[]⟩):= gp;have y0:w1.cell? ⟨w.heap.size+1,0,none⟩=some (.int .i64 4):= gp;have y1:w1.cell? ⟨w.heap.size+1,1,none⟩=some (.int .i64 ↑n):= gp;have y2:w1.cell? ⟨w.heap.size+1,2,none⟩=some (.int .i64 0):= gp;have y3:w1.cell? ⟨w.heap.size+1,3,none⟩=some (.string ⟨#[]⟩):= gp;have y4:w1.cell? ⟨w.heap.size+1,4,none⟩=some (.string ⟨#[]⟩):= gp;have hbw:Below w.heap.size w w1:=((((Below.refl w.heap.size w).alloc (Ia _) _).alloc gz _).trans (hb1.mono gD))))
     exact eM
    ·have HE2:Hid (R=some (⟨2,n,v,[],[]⟩,r2)):=ab (by rw [HE'.out,Hx h0])
     have e0:(v==0)=false:=by simpa using h0
     clear HE' h0;go_wp2_with (first|(go_at_call 125;refine(mV _ _ _ _ gj gj gz).mono ?_;rintro e w1 ⟨rfl,rfl⟩)|(go_at_call 47;refine(lB _ HX'.out).mono ?_;rintro e w1 ⟨rfl,rfl⟩)|(go_at_call 130;refine(Way_eq _ HW.out).mono ?_;rintro e w1 ⟨rfl,hb1⟩;obtain⟨hc1,hf1⟩:=s8 hb1;have z0:w1.cell? ⟨w.heap.size,0,none⟩=some (.int .i64 0):= gp;have z1:w1.cell? ⟨w.heap.size,1,none⟩=some (.int .i64 0):= gp;have z2:w1.cell? ⟨w.heap.size,2,none⟩=some (.int .i64 0):= gp;have z3:w1.cell? ⟨w.heap.size,3,none⟩=some (.string ⟨#[]⟩):= gp;have z4:w1.cell? ⟨w.heap.size,4,none⟩=some (.string ⟨#[]⟩):= gp;have y0:w1.cell? ⟨w.heap.size+1,0,none⟩=some (.int .i64 4):= gp;have y1:w1.cell? ⟨w.heap.size+1,1,none⟩=some (.int .i64 ↑n):= gp;have y2:w1.cell? ⟨w.heap.size+1,2,none⟩=some (.int .i64 0):= gp;have y3:w1.cell? ⟨w.heap.size+1,3,none⟩=some (.string ⟨#[]⟩):= gp;have y4:w1.cell? ⟨w.heap.size+1,4,none⟩=some (.string ⟨#[]⟩):= gp;have hbw:Below w.heap.size w w1:=((((Below.refl w.heap.size w).alloc (Ia _) _).alloc gz _).trans (hb1.mono gD))))
     refine Ir (v:=.tuple #[.agg #[.int .i64 2,.int .i64 n,.int .i64 v,.string ⟨[].toArray⟩,.string ⟨[].toArray⟩],.int .i64 (i+(tk.length+1)+1),.bool true]) ig rfl ⟨?_,?_⟩
     ·(repeat (first|with_reducible exact Below.refl _ _|with_reducible assumption|(refine Below.setCell ?_ gQ _)|(refine Below.alloc ?_ gF _)|(refine Below.drew ?_)))
     ·rw [HE2.out]
      refine⟨by simp,by simp,i+(tk.length+1)+1,by omega,by omega,?_,by simp⟩;rw [show i+(tk.length+1)+1=i+1+(tk.length+1) by omega,←List.drop_drop,Hr.out,←HSP.out,List.drop_append];simp
  ·have e1:List.isPrefixOf [47] (List.drop i l)=false:=by rw [hd,pre1];simp;try omega
   have e2:List.isPrefixOf [43] (List.drop i l)=false:=by rw [hd,pre1];simp;try omega
   have e3:List.isPrefixOf [63] (List.drop i l)=false:=by rw [hd,pre1];simp;try omega
   have e4:List.isPrefixOf [45] (List.drop i l)=false:=by rw [hd,pre1];simp;try omega
   have HE:Hid (R=match ld 125 (c::r) [] with|some (t,_::r2)=>some (⟨4,n,0,[],t⟩,r2)|_=>none):=ab (by
    rw [←HR.out,hd];simp only [lU];rw [Hx c47,Hx c43,Hx c63,Hx c45];rfl)
   clear hd c43 c45 c63 c47;cases hU:ld 125 (c::r) [] with
   | none =>
    have HU:Hid (ld 125 (l.drop ((i:Int)).toNat) []=none):=ab (by rw [Int.toNat_natCast,HD.out];exact hU);exact aF
   | some p =>
    obtain⟨t,s⟩:=p;obtain⟨d,r2,rfl,_⟩:=nl _ _ _ hU;have HU:Hid (ld 125 (l.drop ((i:Int)).toNat) []=some (t,d::r2)):=ab (by rw [Int.toNat_natCast,HD.out];exact hU);exact aE
end Go.Proofs.YtdcnncgpomcaaaaGreatDoor
