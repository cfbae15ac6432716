/- walks of casing -/
import Derived.Test.YtbgcjpefocdkkaaGreatSm1
set_option maxRecDepth 100000
namespace Go.Proofs.YtbgcjpefocdkkaaGreat
open Go.RowKit
theorem Name_any (n:Int) (w:World) :
  Calls Tryz.prog 101 #[.int .i64 n] w fun e w'=>e=.returned (.string ⟨(nameOf n).toArray⟩)∧Below w.heap.size w w':=by
 by_cases h:1≤n∧n≤5
 ·obtain⟨h1,h2⟩:=h
  have hn:n=1∨n=2∨n=3∨n=4∨n=5:=by omega
  rcases hn with rfl|rfl|rfl|rfl|rfl
  all_goals
   go_enter Tryz.func101,Tryz.ntmps101
   go_wp2
   go_ret
   exact⟨rfl,(Below.refl _ _).alloc (Nat.le_refl _) _⟩
 ·have hz:nameOf n=[]:=by
   unfold nameOf;rw [if_neg (by omega),if_neg (by omega),if_neg (by omega),if_neg (by omega),if_neg (by omega)]
  rw [hz];go_enter Tryz.func101,Tryz.ntmps101
  go_wp2
  all_goals
   first
   | (go_ret;exact⟨rfl,Below.refl _ _⟩)
   | (exfalso;omega)
theorem Way_any (s:Str) (w:World) :
  Calls Tryz.prog 123 #[.string ⟨(s).toArray⟩] w fun e w'=>e=.returned (.int .i64 (wayOf s))∧Below w.heap.size w w':=by
 generalize hR:wayOf s=R
 have HR:=Lib.hid hR;clear hR;go_enter Tryz.func123,Tryz.ntmps123
 go_wp2
 go_loopw [3] (fun q wr=>∃k:Int,1≤k∧k≤6∧q=.int .i64 k∧Below w.heap.size w wr∧Hid (∀j:Int,1≤j→j<k→nameOf j≠s)) (fun q _=>(6-intOf q).toNat)
 case atStart=>exact⟨1,by omega,by omega,rfl,Below.refl _ _,Lib.hid fun j h1 h2=>by omega⟩
 case round =>
  obtain⟨k,hk1,hk6,rfl,hb,HM⟩:=hrel;by_cases h5:k≤5
  ·by_cases hq:nameOf k=s
   ·have hbq:(nameOf k==s)=true:=by simp [hq]
    have Hq:=Lib.hid hq;clear hq;go_wp2_with (go_at_call 101;refine(Name_any _ _).mono ?_;rintro e w1 ⟨rfl,hb1⟩)
    go_ret
    exact⟨ret_int (by rw [←HR.out,wayOf_hit hk1 h5 Hq.out]),hb.trans (hb1.mono hb.size)⟩
   ·have hbq:(nameOf k==s)=false:=by simp [hq]
    have Hq:=Lib.hid hq;clear hq;go_wp2_with (go_at_call 101;refine(Name_any _ _).mono ?_;rintro e w1 ⟨rfl,hb1⟩)
    go_roundw
    case rel =>
     refine⟨k+1,by omega,by omega,rfl,hb.trans (hb1.mono hb.size),Lib.hid fun j h1 h2=>?_⟩;by_cases hj:j=k
     ·subst hj;exact Hq.out
     ·exact HM.out j h1 (by omega)
    case measure=>simp [intOf];omega
  ·go_wp2
   go_ret
   have:k=6:=by omega
   subst this;exact⟨ret_int (by rw [←HR.out,wayOf_miss HM.out]),hb⟩
end Go.Proofs.YtbgcjpefocdkkaaGreat
set_option maxRecDepth 100000
namespace Go.Proofs.YtbgcjpefocdkkaaGreat
open Go.RowKit
def Fm.cells (f:Fm):List Value:=[.int .i64 f.kind,.int .i64 f.n,.int .i64 f.cse,.string ⟨(f.thn).toArray⟩,.string ⟨(f.els).toArray⟩]
def fcells (fs:List Fm):List Value:=fs.flatMap Fm.cells
theorem fcells_length (fs:List Fm):(fcells fs).length=fs.length*5:=by
 induction fs with
 | nil=>rfl
 | cons f fs ih=>simp only [fcells,List.flatMap_cons,List.length_append] at *;rw [ih];simp [Fm.cells];omega
theorem fcells_at {fs:List Fm} {k:Nat} {f:Fm} (h:fs[k]?=some f) (j:Nat) (hj:j<5):(fcells fs)[k*5+j]?=f.cells[j]?:=by
 induction fs generalizing k with
 | nil=>simp at h
 | cons g fs ih =>
  cases k with
  | zero =>
   simp at h;subst h
   simp only [fcells,List.flatMap_cons,Nat.zero_mul,Nat.zero_add];rw [List.getElem?_append_left (by simp [Fm.cells];omega)]
  | succ k =>
   simp only [List.getElem?_cons_succ] at h;simp only [fcells,List.flatMap_cons];rw [List.getElem?_append_right (by simp [Fm.cells];omega)];rw [show (k+1)*5+j-g.cells.length=k*5+j by simp [Fm.cells];omega];exact ih h
theorem Sl.fm {w:World} {B:Nat} {a:Option Addr} {n:Nat} {fs:List Fm} (h:Sl w B a 5 n (fcells fs)) {k:Nat} {f:Fm} (hk:fs[k]?=some f) :
  ∃b o,a=some ⟨b,o,none⟩∧b<B∧w.cell? ⟨b,o+k*5,none⟩=some (.int .i64 f.kind)∧w.cell? ⟨b,o+k*5+1,none⟩=some (.int .i64 f.n)∧w.cell? ⟨b,o+k*5+2,none⟩=some (.int .i64 f.cse) ∧
   w.cell? ⟨b,o+k*5+3,none⟩=some (.string ⟨(f.thn).toArray⟩)∧w.cell? ⟨b,o+k*5+4,none⟩=some (.string ⟨(f.els).toArray⟩):=by
 have hlt:=(List.getElem?_eq_some_iff.1 hk).1;have hn:n=fs.length:=by have:=h.1;rw [fcells_length] at this;omega
 obtain⟨b,o,h1,h2,h3⟩:=h.2 (by omega);refine⟨b,o,h1,h2,?_,?_,?_,?_,?_⟩
 ·exact h3 (k*5+0) _ (fcells_at hk 0 (by omega))
 ·exact h3 (k*5+1) _ (fcells_at hk 1 (by omega))
 ·exact h3 (k*5+2) _ (fcells_at hk 2 (by omega))
 ·exact h3 (k*5+3) _ (fcells_at hk 3 (by omega))
 ·exact h3 (k*5+4) _ (fcells_at hk 4 (by omega))
def blankB (f:Fm) (n way thn els:Bool):Bool:=(n||decide (f.n=0))&&(way||decide (f.cse=0))&&(thn||decide (f.thn=[]))&&(els||decide (f.els=[]))
def mayF (f:Fm):Bool :=
 decide (0≤f.n∧f.n≤9999) &&
 (if f.kind=0 then blankB f false false true false&&decide (f.thn≠[])
  else if f.kind=1 then blankB f true false false false
  else if f.kind=2 then blankB f true true false false&&decide (nameOf f.cse≠[])
  else if f.kind=3 then blankB f true false true false
  else if f.kind=4 then blankB f true false false true
  else if f.kind=5 then blankB f true false true true
  else false)
def mayL:Bool→List Fm→Bool
 | _,[]=>true
 | pt,f::r=>mayF f&&!(decide (f.kind=0)&&pt)&&mayL (decide (f.kind=0)) r
def mayFs (fs:List Fm):Bool:=mayL false fs
theorem Sl.fs_len {w:World} {B:Nat} {a:Option Addr} {n:Nat} {fs:List Fm} (h:Sl w B a 5 n (fcells fs)):n=fs.length:=by
 have:=h.1;rw [fcells_length] at this;omega
set_option maxHeartbeats 2000000 in
theorem blank_any (f:Fm) (b1 b2 b3 b4:Bool) (w:World) :
  Calls Tryz.prog 100 #[.agg #[.int .i64 (f).kind,.int .i64 (f).n,.int .i64 (f).cse,.string ⟨((f).thn).toArray⟩,.string ⟨((f).els).toArray⟩],.bool b1,.bool b2,.bool b3,.bool b4] w fun e w'=>e=.returned (.bool (blankB f b1 b2 b3 b4))∧Below w.heap.size w w':=by
 generalize hR:blankB f b1 b2 b3 b4=R
 have HR:=Lib.hid hR;clear hR;cases b1<;>cases b2<;>cases b3<;>cases b4
 all_goals
  go_enter Tryz.func100,Tryz.ntmps100
  go_wp2
  all_goals
   go_ret
   refine⟨ret_bool ?_,(Below.refl _ _).alloc (Nat.le_refl _) _⟩;rw [←HR.out,Bool.eq_iff_iff];simp [blankB, *]
end Go.Proofs.YtbgcjpefocdkkaaGreat
set_option maxRecDepth 100000
namespace Go.Proofs.YtbgcjpefocdkkaaGreat
open Go.RowKit
set_option maxHeartbeats 4000000 in
theorem may_any (f:Fm) (w:World) :
  Calls Tryz.prog 86 #[.agg #[.int .i64 (f).kind,.int .i64 (f).n,.int .i64 (f).cse,.string ⟨((f).thn).toArray⟩,.string ⟨((f).els).toArray⟩]] w fun e w'=>e=.returned (.bool (mayF f))∧Below w.heap.size w w':=by
 obtain⟨kind,n,cse,thn,els⟩:=f;by_cases hn:0≤n∧n≤9999
 ·obtain⟨hn0,hn1⟩:=hn
  have hz:=fun(n:Int) (w:World)=>Name_any n w
  generalize hR:mayF ⟨kind,n,cse,thn,els⟩=R
  have HR:=Lib.hid hR;clear hR;have HZ:=Lib.hid hz;clear hz;have hk:kind=0∨kind=1∨kind=2∨kind=3∨kind=4∨kind=5∨(¬kind=0∧¬kind=1∧¬kind=2∧¬kind=3∧¬kind=4∧¬kind=5):=by omega
  have HN:Hid (decide (0≤n∧n≤9999)=true):=Lib.hid (by simp;omega);rcases hk with hk|hk|hk|hk|hk|hk|⟨k0,k1,k2,k3,k4,k5⟩
  ·subst hk
   have HS:Hid (R=(blankB ⟨0,n,cse,thn,els⟩ false false true false&&decide (thn≠[]))):=Lib.hid (by rw [←HR.out,mayF,HN.out,Bool.true_and,if_pos rfl]);clear HR;by_cases hB:blankB ⟨0,n,cse,thn,els⟩ false false true false=true
   ·go_enter Tryz.func86,Tryz.ntmps86
    go_wp2_with (go_at_call 100;refine(blank_any ⟨_,n,cse,thn,els⟩ _ _ _ _ _).mono ?_)
    rintro e w1 ⟨rfl,hb1⟩;have c2:w1.cell? ⟨w.heap.size,3,none⟩=some (.string ⟨(thn).toArray⟩):=by
     rw [hb1.cell (p:=⟨w.heap.size,3,none⟩) (by simp)];simp
    go_wp2
    go_ret
    refine⟨ret_bool ?_,((Below.refl _ _).alloc (Nat.le_refl _) _).trans (hb1.mono (by simp))⟩;rw [HS.out,hB];cases thn<;>rfl
   ·have hB':blankB ⟨0,n,cse,thn,els⟩ false false true false=false:=by simpa using hB
    clear hB;go_enter Tryz.func86,Tryz.ntmps86
    go_wp2_with (go_at_call 100;refine(blank_any ⟨_,n,cse,thn,els⟩ _ _ _ _ _).mono ?_;rintro e w1 ⟨rfl,hb1⟩)
    go_ret
    refine⟨ret_bool ?_,((Below.refl _ _).alloc (Nat.le_refl _) _).trans (hb1.mono (by simp))⟩;rw [HS.out,hB'];simp
  ·subst hk
   have HS:Hid (R=(blankB ⟨1,n,cse,thn,els⟩ true false false false)):=Lib.hid (by rw [←HR.out,mayF,HN.out,Bool.true_and,if_neg (by simp),if_pos rfl]);clear HR;go_enter Tryz.func86,Tryz.ntmps86
   go_wp2_with (go_at_call 100;refine(blank_any ⟨_,n,cse,thn,els⟩ _ _ _ _ _).mono ?_;rintro e w1 ⟨rfl,hb1⟩)
   go_ret
   exact⟨ret_bool HS.out.symm,((Below.refl _ _).alloc (Nat.le_refl _) _).trans (hb1.mono (by simp))⟩
  ·subst hk
   have HS:Hid (R=(blankB ⟨2,n,cse,thn,els⟩ true true false false&&decide (nameOf cse≠[]))):=Lib.hid (by rw [←HR.out,mayF,HN.out,Bool.true_and,if_neg (by simp),if_neg (by simp),if_pos rfl]);clear HR;by_cases hB:blankB ⟨2,n,cse,thn,els⟩ true true false false=true
   ·go_enter Tryz.func86,Tryz.ntmps86
    go_wp2_with (go_at_call 100;refine(blank_any ⟨_,n,cse,thn,els⟩ _ _ _ _ _).mono ?_)
    rintro e w1 ⟨rfl,hb1⟩;have c2:w1.cell? ⟨w.heap.size,2,none⟩=some (.int .i64 cse):=by
     rw [hb1.cell (p:=⟨w.heap.size,2,none⟩) (by simp)];simp
    go_wp2_with (go_at_call 101;refine(HZ.out _ _).mono ?_)
    rintro e w2 ⟨rfl,hb2⟩;go_wp2
    go_ret
    refine⟨ret_bool ?_,(((Below.refl _ _).alloc (Nat.le_refl _) _).trans (hb1.mono (by simp))).trans (hb2.mono (by have:=hb1.size;simp at this;omega))⟩;rw [HS.out,hB];cases nameOf cse<;>rfl
   ·have hB':blankB ⟨2,n,cse,thn,els⟩ true true false false=false:=by simpa using hB
    clear hB;go_enter Tryz.func86,Tryz.ntmps86
    go_wp2_with (go_at_call 100;refine(blank_any ⟨_,n,cse,thn,els⟩ _ _ _ _ _).mono ?_;rintro e w1 ⟨rfl,hb1⟩)
    go_ret
    refine⟨ret_bool ?_,((Below.refl _ _).alloc (Nat.le_refl _) _).trans (hb1.mono (by simp))⟩;rw [HS.out,hB'];simp
  ·subst hk
   have HS:Hid (R=(blankB ⟨3,n,cse,thn,els⟩ true false true false)):=Lib.hid (by rw [←HR.out,mayF,HN.out,Bool.true_and,if_neg (by simp),if_neg (by simp),if_neg (by simp),if_pos rfl]);clear HR;go_enter Tryz.func86,Tryz.ntmps86
   go_wp2_with (go_at_call 100;refine(blank_any ⟨_,n,cse,thn,els⟩ _ _ _ _ _).mono ?_;rintro e w1 ⟨rfl,hb1⟩)
   go_ret
   exact⟨ret_bool HS.out.symm,((Below.refl _ _).alloc (Nat.le_refl _) _).trans (hb1.mono (by simp))⟩
  ·subst hk
   have HS:Hid (R=(blankB ⟨4,n,cse,thn,els⟩ true false false true)):=Lib.hid (by rw [←HR.out,mayF,HN.out,Bool.true_and,if_neg (by simp),if_neg (by simp),if_neg (by simp),if_neg (by simp),if_pos rfl]);clear HR;go_enter Tryz.func86,Tryz.ntmps86
   go_wp2_with (go_at_call 100;refine(blank_any ⟨_,n,cse,thn,els⟩ _ _ _ _ _).mono ?_;rintro e w1 ⟨rfl,hb1⟩)
   go_ret
   exact⟨ret_bool HS.out.symm,((Below.refl _ _).alloc (Nat.le_refl _) _).trans (hb1.mono (by simp))⟩
  ·subst hk
   have HS:Hid (R=(blankB ⟨5,n,cse,thn,els⟩ true false true true)):=Lib.hid (by rw [←HR.out,mayF,HN.out,Bool.true_and,if_neg (by simp),if_neg (by simp),if_neg (by simp),if_neg (by simp),if_neg (by simp),if_pos rfl]);clear HR;go_enter Tryz.func86,Tryz.ntmps86
   go_wp2_with (go_at_call 100;refine(blank_any ⟨_,n,cse,thn,els⟩ _ _ _ _ _).mono ?_;rintro e w1 ⟨rfl,hb1⟩)
   go_ret
   exact⟨ret_bool HS.out.symm,((Below.refl _ _).alloc (Nat.le_refl _) _).trans (hb1.mono (by simp))⟩
  ·have HS:Hid (R=false):=Lib.hid (by rw [←HR.out,mayF,HN.out,Bool.true_and,if_neg (by omega),if_neg (by omega),if_neg (by omega),if_neg (by omega),if_neg (by omega),if_neg (by omega)])
   clear HR;have e0:(kind==0)=false:=by simpa using k0
   have e1:(kind==1)=false:=by simpa using k1
   have e2:(kind==2)=false:=by simpa using k2
   have e3:(kind==3)=false:=by simpa using k3
   have e4:(kind==4)=false:=by simpa using k4
   have e5:(kind==5)=false:=by simpa using k5
   clear k0 k1 k2 k3 k4 k5;go_enter Tryz.func86,Tryz.ntmps86
   go_wp2
   go_ret
   exact⟨ret_bool HS.out.symm,(Below.refl _ _).alloc (Nat.le_refl _) _⟩
 ·have HS:Hid (mayF ⟨kind,n,cse,thn,els⟩=false):=Lib.hid (by unfold mayF;rw [decide_eq_false hn,Bool.false_and])
  rw [HS.out];go_enter Tryz.func86,Tryz.ntmps86
  go_wp2
  all_goals first
   | (exfalso;omega)
   | (go_ret;exact⟨rfl,(Below.refl _ _).alloc (Nat.le_refl _) _⟩)
end Go.Proofs.YtbgcjpefocdkkaaGreat
set_option maxRecDepth 100000
namespace Go.Proofs.YtbgcjpefocdkkaaGreat
open Go.RowKit
set_option maxHeartbeats 4000000 in
theorem May_any (a:Option Addr) (n c:Nat) (fs:List Fm) (w:World) (h:Sl w w.heap.size a 5 n (fcells fs)) (hn:n≤1000000) :
  Calls Tryz.prog 79 #[.slice a n c] w fun e w'=>e=.returned (.bool (mayFs fs))∧Below w.heap.size w w':=by
 generalize hR:mayFs fs=R
 have HR:=Lib.hid hR;clear hR;have HR0:Hid (mayL false (fs.drop 0)=R):=HR;have Hn:=Lib.hid h.fs_len;have HSl:=Lib.hid h;clear HR h;go_enter Tryz.func79,Tryz.ntmps79
 go_wp2
 go_loopw [7] (fun q wr=>∃(k:Nat) (pt:Bool),k≤n∧q=.int .i64 k∧Below w.heap.size w wr∧Hid ((k=0→pt=false)∧(0<k→∀g,fs[k-1]?=some g→decide (g.kind=0)=pt))∧Hid (mayL pt (fs.drop k)=R)) (fun q _=>n-(intOf q).toNat)
 case atStart=>exact⟨0,false,by omega,rfl,Below.refl _ _,Lib.hid ⟨fun _=>rfl,fun h=>by omega⟩,HR0⟩
 case round =>
  obtain⟨k,pt,hk,rfl,hb,HP,HF⟩:=hrel;clear HR0;have hB:=hb.size;cases hd:fs.drop k with
  | nil =>
   have h2:n≤k:=by have:=Hn.out;simp at hd;omega
   have HF':Hid (mayL pt []=R):=Lib.hid (by rw [←hd];exact HF.out);clear hd HF;go_wp2
   go_ret
   exact⟨ret_bool HF'.out,hb⟩
  | cons f r =>
   obtain⟨h2,h3,hr⟩:=ldrop_cons hd;have HF':Hid (mayL pt (f::r)=R):=Lib.hid (by rw [←hd];exact HF.out);have Hr:=Lib.hid hr;have HK:=Lib.hid h3;have hkn:k<n:=by have:=Hn.out;omega
   obtain⟨b,o,rfl,hbB,c0,c1,c2,c3,c4⟩:=(HSl.out.keep hb).fm h3;clear hd HF hr h2 h3;obtain⟨kind,fn,cse,thn,els⟩:=f;by_cases hm:mayF ⟨kind,fn,cse,thn,els⟩=true
   ·have HM:=Lib.hid hm
    have c5:∀w1,Below (wr.heap.size+1) (wr.alloc (.cells #[.int .i64 kind,.int .i64 fn,.int .i64 cse,.string ⟨(thn).toArray⟩,.string ⟨(els).toArray⟩] 85)) w1→w1.cell? ⟨wr.heap.size,0,none⟩=some (.int .i64 kind):=fun w1 h1=>by
     rw [h1.cell (p:=⟨wr.heap.size,0,none⟩) (by simp)];simp
    have C5:=Lib.hid c5;clear c5;by_cases hk0:kind=0
    ·subst hk0
     by_cases hkk:k=0
     ·have hpt:=HP.out.1 hkk
      have hkk':k≤0:=by omega
      subst hpt;have HKK:=Lib.hid hkk;clear hkk;go_wp2_with (go_at_call 86;refine(may_any ⟨0,fn,cse,thn,els⟩ _).mono ?_;rintro e w1 ⟨rfl,hb1⟩;have d5:=C5.out w1 (by simpa using hb1);have hbw:Below w.heap.size wr w1:=((Below.refl _ _).alloc hB _).trans (hb1.mono (by simp;omega)))
      clear hm;go_roundw
      case rel =>
       refine⟨k+1,true,by omega,by go_num,hb.trans hbw,Lib.hid ⟨fun h=>by omega,fun _ g hg=>?_⟩,?_⟩
       ·rw [show k+1-1=k from rfl,HK.out] at hg;injection hg with hg;subst hg;first|rfl|(simp;done)|(simp [HK0.out];done)
       ·refine Lib.hid ?_
        rw [Hr.out,←HF'.out];conv=>rhs;unfold mayL
        (rw [HM.out];rfl)
      case measure=>simp [intOf];omega
     ·obtain⟨g,hg⟩:∃g,fs[k-1]?=some g:=⟨fs[k-1]'(by have:=Hn.out;omega),List.getElem?_eq_getElem (by have:=Hn.out;omega)⟩
      have hpg:=HP.out.2 (by omega) g hg;obtain⟨b',o',hab,_,g0,_⟩:=HSl.out.fm hg;have hbo:b'=b∧o'=o:=by simpa using hab.symm
      obtain⟨rfl,rfl⟩:=hbo;have hkp:0<k:=by omega
      have ek:((k-1:Nat):Int)=(k:Int)-1:=by omega
      have e1:(k:Int)-1<n∧0≤(k:Int)-1:=by omega
      obtain⟨gk,gn,gc,gt,ge⟩:=g;have G0:=Lib.hid g0;have HPG:=Lib.hid hpg;clear hab g0 hpg hkk hg;by_cases hgk:gk=0
      ·subst hgk
       go_wp2_with (go_at_call 86;refine(may_any ⟨0,fn,cse,thn,els⟩ _).mono ?_;rintro e w1 ⟨rfl,hb1⟩;have d5:=C5.out w1 (by simpa using hb1);have hbw:Below w.heap.size wr w1:=((Below.refl _ _).alloc hB _).trans (hb1.mono (by simp;omega));have g1:w1.cell? ⟨b',o'+(k-1)*5,none⟩=some (.int .i64 0):=((hb.trans hbw).cell (p:=⟨b',o'+(k-1)*5,none⟩) hbB).trans G0.out)
       go_ret
       refine⟨ret_bool ?_,hb.trans hbw⟩;rw [←HF'.out,mayL,←HPG.out];simp
      ·have eg:(gk==0)=false:=by simpa using hgk
       have HGK:=Lib.hid hgk;clear hgk;go_wp2_with (go_at_call 86;refine(may_any ⟨0,fn,cse,thn,els⟩ _).mono ?_;rintro e w1 ⟨rfl,hb1⟩;have d5:=C5.out w1 (by simpa using hb1);have hbw:Below w.heap.size wr w1:=((Below.refl _ _).alloc hB _).trans (hb1.mono (by simp;omega));have g1:w1.cell? ⟨b',o'+(k-1)*5,none⟩=some (.int .i64 gk):=((hb.trans hbw).cell (p:=⟨b',o'+(k-1)*5,none⟩) hbB).trans G0.out)
       clear hm;go_roundw
       case rel =>
        refine⟨k+1,true,by omega,by go_num,hb.trans hbw,Lib.hid ⟨fun h=>by omega,fun _ g hg=>?_⟩,?_⟩
        ·rw [show k+1-1=k from rfl,HK.out] at hg;injection hg with hg;subst hg;first|rfl|(simp;done)|(simp [HK0.out];done)
        ·refine Lib.hid ?_
         rw [Hr.out,←HF'.out];conv=>rhs;unfold mayL
         (rw [HM.out,←HPG.out];simp [HGK.out])
       case measure=>simp [intOf];omega
    ·have e0:(kind==0)=false:=by simpa using hk0
     have HK0:=Lib.hid hk0;clear hk0;go_wp2_with (go_at_call 86;refine(may_any ⟨kind,fn,cse,thn,els⟩ _).mono ?_;rintro e w1 ⟨rfl,hb1⟩;have d5:=C5.out w1 (by simpa using hb1);have hbw:Below w.heap.size wr w1:=((Below.refl _ _).alloc hB _).trans (hb1.mono (by simp;omega)))
     clear hm;go_roundw
     case rel =>
      refine⟨k+1,false,by omega,by go_num,hb.trans hbw,Lib.hid ⟨fun h=>by omega,fun _ g hg=>?_⟩,?_⟩
      ·rw [show k+1-1=k from rfl,HK.out] at hg;injection hg with hg;subst hg;first|rfl|(simp;done)|(simp [HK0.out];done)
      ·refine Lib.hid ?_
       rw [Hr.out,←HF'.out];conv=>rhs;unfold mayL
       (rw [HM.out];simp [HK0.out])
     case measure=>simp [intOf];omega
   ·have hm':mayF ⟨kind,fn,cse,thn,els⟩=false:=by simpa using hm
    clear hm;go_wp2_with (go_at_call 86;refine(may_any ⟨kind,fn,cse,thn,els⟩ _).mono ?_;rintro e w1 ⟨rfl,hb1⟩)
    go_ret
    refine⟨ret_bool ?_,hb.trans (((Below.refl _ _).alloc hB _).trans (hb1.mono (by simp;omega)))⟩;rw [←HF'.out,mayL,hm'];rfl
end Go.Proofs.YtbgcjpefocdkkaaGreat
set_option maxRecDepth 100000
namespace Go.Proofs.YtbgcjpefocdkkaaGreat
open Go.RowKit
def UntilPost (l:Str) (i:Nat) (R:Option (Str × Str)) (e:Ending):Prop :=
 match R with
 | none=>e=.returned (.tuple #[.string ⟨([]).toArray⟩,.int .i64 0,.bool false])
 | some (t,r)=>t.length≤l.length∧∃j:Nat,i≤j∧j<l.length∧l.drop j=r∧e=.returned (.tuple #[.string ⟨(t).toArray⟩,.int .i64 j,.bool true])
set_option maxHeartbeats 1000000 in
theorem until_any (l:Str) (i one:Int) (w:World) (h0:0≤i) (h1:i≤1000000) (hs:l.length≤1000000) (ho:0≤one) :
  Calls Tryz.prog 124 #[.string ⟨(l).toArray⟩,.int .i64 i,.int .u8 one] w fun e w'=>Below w.heap.size w w'∧UntilPost l i.toNat (untilL one (l.drop i.toNat) []) e:=by
 obtain⟨i,rfl⟩:=Int.eq_ofNat_of_zero_le h0;rw [Int.toNat_natCast];generalize hR:untilL one (l.drop i) []=R
 have HR:=Lib.hid hR;clear hR;obtain⟨iu,hiu⟩:=info_parts u8_info;go_enter Tryz.func124,Tryz.ntmps124
 go_wp2
 go_loopw [1,9] (fun q t wr=>∃(j:Nat) (tx:Str),i≤j∧j≤2000000∧q=.int .i64 j∧wr.ownsRow w.heap.size 5 1 t tx.length (bcells tx)∧Below w.heap.size w wr∧tx.length≤l.length∧tx.length+i≤j∧Hid (untilL one (l.drop j) tx=R)) (fun q _ _=>l.length-(intOf q).toNat)
 case atStart=>exact⟨i,[],by omega,by omega,rfl,World.ownsRow_nil _ _ _ _,Below.refl _ _,by simp,by simp,HR⟩
 case round =>
  obtain⟨j,tx,hij,hj,rfl,hown,hb,htx,htj,HF⟩:=hrel;clear HR;have hB:=hb.size;have hcv:=conv_own (P:=Tryz.prog) (src:=61) (dst:=9) Tryz.underlying61 Tryz.underlying5 Tryz.underlying9 hown;cases hd:l.drop j with
  | nil =>
   have h2:=drop_nil hd;have HF':Hid (untilL one [] tx=R):=Lib.hid (by rw [←hd];exact HF.out);clear hd HF;go_wp2
   go_ret3
   refine⟨hb,?_⟩;rw [←HF'.out];rfl
  | cons c r =>
   obtain⟨h2,h3,hr⟩:=drop_cons hd;have HF':Hid (untilL one (c::r) tx=R):=Lib.hid (by rw [←hd];exact HF.out);have Hr:=Lib.hid hr;clear HF hr;by_cases hc:c.toNat=one.toNat
   ·have HD:=Lib.hid hd;clear hd
    have hbc:((c.toNat:Int)==one)=true:=by rw [beq_iff_eq];omega
    have Hc:=Lib.hid hc;clear hc;go_wp2
    go_ret3
    refine⟨hb,?_⟩;rw [←HF'.out];have:untilL one (c::r) tx=some (tx,c::r):=by cases r<;>simp [untilL,Hc.out]
    rw [this];exact⟨by omega,j,by omega,h2,HD.out,by simp⟩
   ·have hbc:((c.toNat:Int)==one)=false:=by rw [beq_eq_false_iff_ne];omega
    have Hc:=Lib.hid hc;clear hc hd;by_cases hA:c.toNat=92∧stands r five=true
    ·obtain⟨hA1,hA2⟩:=hA
     cases r with
     | nil=>simp [stands] at hA2
     | cons d r' =>
      obtain⟨k2,k3,kr⟩:=drop_cons Hr.out;have Hkr:=Lib.hid kr;clear kr;have HS:Hid (untilL one (c::d::r') tx=untilL one r' (tx++[d])):=Lib.hid (by
       conv=>lhs;unfold untilL
       rw [if_neg Hc.out,if_pos ⟨hA1,hA2⟩])
      have hst:stands (List.drop (j+1) l) [36,125,92,47,58]=true:=by rw [Hr.out];exact hA2
      have hA1':((c.toNat:Int)==92)=true:=by simp [hA1]
      clear hA1 hA2;go_wp2_with (first
       | (go_at_call 93;refine(stands_any _ _ _ _ (by omega) (by omega) (by omega) (by simp)).mono ?_;rintro e w1 ⟨rfl,rfl⟩)
       | (at_builtin;refine wpList_app1 w.heap.size 5 rfl _ _ 61 rfl Tryz.underlying61 hiu rfl (by decide) rfl hown rfl (by first|rfl|simp) rfl (by simp [Value.oneCell']) (by omega) (by decide) hB ?_;intro v1 w1 hown1 hg1 hb1 hne1))
      clear hst hA1';go_roundw
      case rel =>
       refine⟨j+2,tx++[d],by omega,by omega,by go_num,?_,hb.trans hb1,by simp;omega,by simp;omega,?_⟩
       ·simpa [bcells] using hown1
       ·exact Lib.hid (by rw [Hkr.out,←HS.out];exact HF'.out)
      case measure=>simp [intOf];omega
    ·have HS:Hid (untilL one (c::r) tx=untilL one r (tx++[c])):=Lib.hid (by
      cases r with
      | nil=>simp [untilL,Hc.out]
      | cons d r' =>
       conv=>lhs;unfold untilL
       rw [if_neg Hc.out];exact if_neg hA)
     by_cases h92:c.toNat=92
     ·have hst:stands (List.drop (j+1) l) [36,125,92,47,58]=false:=by rw [Hr.out];simpa [h92,five] using hA
      have hA1':((c.toNat:Int)==92)=true:=(by rw [beq_iff_eq];omega);clear hA h92;go_wp2_with (first
       | (go_at_call 93;refine(stands_any _ _ _ _ (by omega) (by omega) (by omega) (by simp)).mono ?_;rintro e w1 ⟨rfl,rfl⟩)
       | (at_builtin;refine wpList_app1 w.heap.size 5 rfl _ _ 61 rfl Tryz.underlying61 hiu rfl (by decide) rfl hown rfl (by first|rfl|simp) rfl (by simp [Value.oneCell']) (by omega) (by decide) hB ?_;intro v1 w1 hown1 hg1 hb1 hne1))
      clear hst hA1';go_roundw
      case rel =>
       refine⟨j+1,tx++[c],by omega,by omega,by go_num,?_,hb.trans hb1,by simp;omega,by simp;omega,?_⟩
       ·simpa [bcells] using hown1
       ·exact Lib.hid (by rw [Hr.out,←HS.out];exact HF'.out)
      case measure=>simp [intOf];omega
     ·have hA1':((c.toNat:Int)==92)=false:=(by rw [beq_eq_false_iff_ne];omega)
      clear hA h92;go_wp2_with (at_builtin;refine wpList_app1 w.heap.size 5 rfl _ _ 61 rfl Tryz.underlying61 hiu rfl (by decide) rfl hown rfl (by first|rfl|simp) rfl (by simp [Value.oneCell']) (by omega) (by decide) hB ?_;intro v1 w1 hown1 hg1 hb1 hne1)
      clear hA1';go_roundw
      case rel =>
       refine⟨j+1,tx++[c],by omega,by omega,by go_num,?_,hb.trans hb1,by simp;omega,by simp;omega,?_⟩
       ·simpa [bcells] using hown1
       ·exact Lib.hid (by rw [Hr.out,←HS.out];exact HF'.out)
      case measure=>simp [intOf];omega
end Go.Proofs.YtbgcjpefocdkkaaGreat
