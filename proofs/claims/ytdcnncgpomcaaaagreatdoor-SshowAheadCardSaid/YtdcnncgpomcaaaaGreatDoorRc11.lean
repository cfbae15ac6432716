/- walks of casing -/
import Derived.Test.YtdcnncgpomcaaaaGreatDoorRc1
set_option maxRecDepth 100000
set_option maxHeartbeats 4000000
namespace Go.Proofs.YtdcnncgpomcaaaaGreatDoor
open Go.RowKit
theorem o7 (n:Int) (w:World) :
  Calls Tryz.prog 87 #[.int .i64 n] w fun e w'=>e=.returned (.string ⟨(nO n).toArray⟩)∧Below w.heap.size w w':=by
 by_cases h:1≤n∧n≤5
 ·obtain⟨h1,h2⟩:=h
  have hn:n=1∨n=2∨n=3∨n=4∨n=5:=gN;rcases hn with rfl|rfl|rfl|rfl|rfl
  all_goals
   go_enter Tryz.func87,Tryz.ntmps87
   go_wp2
   go_ret
   exact⟨rfl,(Below.refl _ _).alloc (Ju _) _⟩
 ·have hz:nO n=[]:=by
   unfold nO;rw [Jo gN,Jo gN,Jo gN,Jo gN,Jo gN]
  rw [hz];go_enter Tryz.func87,Tryz.ntmps87
  go_wp2
  all_goals
   first
   | (go_ret;exact⟨rfl,Below.refl _ _⟩)
   | (exfalso;omega)
theorem Way_any (s:Str) (w:World) :
  Calls Tryz.prog 130 #[.string ⟨s.toArray⟩] w fun e w'=>e=.returned (.int .i64 (qQ s))∧Below w.heap.size w w':=by
 generalize hR:qQ s=R
 have HR:=ab hR;clear hR;go_enter Tryz.func130,Tryz.ntmps130
 go_wp2
 go_loopw [3] (fun q wr=>∃k:Int,1≤k∧k≤6∧q=.int .i64 k∧Below w.heap.size w wr∧Hid (∀j:Int,1≤j→j<k→nO j≠s)) (fun q _=>(6-intOf q).toNat)
 case atStart=>exact⟨1,by omega,by omega,rfl,Below.refl _ _,ab fun j h1 h2=>by omega⟩
 case round =>
  obtain⟨k,hk1,hk6,rfl,hb,HM⟩:=hrel;by_cases h5:k≤5
  ·by_cases hq:nO k=s
   ·have hbq:(nO k==s)=true:=by simp [hq]
    have Hq:=ab hq;clear hq;go_wp2_with (go_at_call 87;refine(o7 _ _).mono ?_;rintro e w1 ⟨rfl,hb1⟩)
    go_ret
    exact⟨nA (by rw [←HR.out,Hj hk1 h5 Hq.out]),hb.trans (hb1.mono hb.size)⟩
   ·have hbq:(nO k==s)=false:=by simp [hq]
    have Hq:=ab hq;clear hq;go_wp2_with (go_at_call 87;refine(o7 _ _).mono ?_;rintro e w1 ⟨rfl,hb1⟩)
    go_roundw
    case rel =>
     refine⟨k+1,by omega,by omega,rfl,hb.trans (hb1.mono hb.size),ab fun j h1 h2=>?_⟩;by_cases hj:j=k
     ·subst hj;exact Hq.out
     ·exact HM.out j h1 gN
    case measure=>simp [intOf];omega
  ·go_wp2
   go_ret
   have:k=6:=gN
   subst this;exact⟨nA (by rw [←HR.out,FS HM.out]),hb⟩
def Fm.cells (f:Fm):List Value:=[.int .i64 f.kind,.int .i64 f.n,.int .i64 f.cse,.string ⟨(f.thn).toArray⟩,.string ⟨(f.els).toArray⟩]
def mu (fs:List Fm):List Value:=fs.flatMap Fm.cells
theorem tI (fs:List Fm):(mu fs).length=fs.length*5:=by
 induction fs with
 | nil=>rfl
 | cons f fs ih=>simp only [mu,Jz,JA] at *;rw [ih];simp [Fm.cells];omega
theorem rN {fs:List Fm} {k:Nat} {f:Fm} (h:fs[k]?=some f) (j:Nat) (hj:j<5):(mu fs)[k*5+j]?=f.cells[j]?:=by
 induction fs generalizing k with
 | nil=>simp at h
 | cons g fs ih =>
  cases k with
  | zero =>
   simp at h;subst h
   simp only [mu,Jz,Nat.zero_mul,Nat.zero_add];rw [JD (by simp [Fm.cells];omega)]
  | succ k =>
   simp only [List.getElem?_cons_succ] at h;simp only [mu,Jz];rw [JB (by simp [Fm.cells];omega)];rw [show (k+1)*5+j-g.cells.length=k*5+j by simp [Fm.cells];omega];exact ih h
theorem Sl.fm {w:World} {B:Nat} {a:Option Addr} {n:Nat} {fs:List Fm} (h:Sl w B a 5 n (mu fs)) {k:Nat} {f:Fm} (hk:fs[k]?=some f) :
  ∃b o,a=some ⟨b,o,none⟩∧b<B∧w.cell? ⟨b,o+k*5,none⟩=some (.int .i64 f.kind)∧w.cell? ⟨b,o+k*5+1,none⟩=some (.int .i64 f.n)∧w.cell? ⟨b,o+k*5+2,none⟩=some (.int .i64 f.cse) ∧
   w.cell? ⟨b,o+k*5+3,none⟩=some (.string ⟨(f.thn).toArray⟩)∧w.cell? ⟨b,o+k*5+4,none⟩=some (.string ⟨(f.els).toArray⟩):=by
 have hlt:=(Jx.1 hk).1;have hn:n=fs.length:=by have:=h.1;rw [tI] at this;omega
 obtain⟨b,o,h1,h2,h3⟩:=h.2 gN;refine⟨b,o,h1,h2,?_,?_,?_,?_,?_⟩
 ·exact h3 (k*5+0) _ (rN hk 0 gN)
 ·exact h3 (k*5+1) _ (rN hk 1 gN)
 ·exact h3 (k*5+2) _ (rN hk 2 gN)
 ·exact h3 (k*5+3) _ (rN hk 3 gN)
 ·exact h3 (k*5+4) _ (rN hk 4 gN)
def m7 (f:Fm) (n way thn els:Bool):Bool:=(n||decide (f.n=0))&&(way||decide (f.cse=0))&&(thn||decide (f.thn=[]))&&(els||decide (f.els=[]))
def mayF (f:Fm):Bool :=
 decide (0≤f.n∧f.n≤9999) &&
 (if f.kind=0 then m7 f false false true false&&decide (f.thn≠[])
  else if f.kind=1 then m7 f true false false false
  else if f.kind=2 then m7 f true true false false&&decide (nO f.cse≠[])
  else if f.kind=3 then m7 f true false true false
  else if f.kind=4 then m7 f true false false true
  else if f.kind=5 then m7 f true false true true
  else false)
def mayL:Bool→List Fm→Bool
 | _,[]=>true
 | pt,f::r=>mayF f&&!(decide (f.kind=0)&&pt)&&mayL (decide (f.kind=0)) r
def uN (fs:List Fm):Bool:=mayL false fs
theorem Sl.fs_len {w:World} {B:Nat} {a:Option Addr} {n:Nat} {fs:List Fm} (h:Sl w B a 5 n (mu fs)):n=fs.length:=by
 have:=h.1;rw [tI] at this;omega
theorem IP:Tryz.prog.underlying 95=some (.struct (Tryz.prog.fieldsOf 95)):=by kernel_rfl
theorem tu (f:Fm) (b1 b2 b3 b4:Bool) (w:World) :
  Calls Tryz.prog 112 #[.agg #[.int .i64 (f).kind,.int .i64 (f).n,.int .i64 (f).cse,.string ⟨((f).thn).toArray⟩,.string ⟨((f).els).toArray⟩],.bool b1,.bool b2,.bool b3,.bool b4] w fun e w'=>e=.returned (.bool (m7 f b1 b2 b3 b4))∧Below w.heap.size w w':=by
 generalize hR:m7 f b1 b2 b3 b4=R
 have HR:=ab hR;clear hR;cases b1<;>cases b2<;>cases b3<;>cases b4
 all_goals
  go_enter Tryz.func112,Tryz.ntmps112
  go_wp2
  all_goals
   go_ret
   refine⟨lM ?_,(Below.refl _ _).alloc (Ju _) _⟩;rw [←HR.out,Bool.eq_iff_iff];simp [m7, *]
theorem vY (f:Fm) (w:World) :
  Calls Tryz.prog 100 #[.agg #[.int .i64 (f).kind,.int .i64 (f).n,.int .i64 (f).cse,.string ⟨((f).thn).toArray⟩,.string ⟨((f).els).toArray⟩]] w fun e w'=>e=.returned (.bool (mayF f))∧Below w.heap.size w w':=by
 obtain⟨kind,n,cse,thn,els⟩:=f;by_cases hn:0≤n∧n≤9999
 ·obtain⟨hn0,hn1⟩:=hn
  have hz:=fun(n:Int) (w:World)=>o7 n w
  generalize hR:mayF ⟨kind,n,cse,thn,els⟩=R
  have HR:=ab hR;clear hR;have HZ:=ab hz;clear hz;have hk:kind=0∨kind=1∨kind=2∨kind=3∨kind=4∨kind=5∨(¬kind=0∧¬kind=1∧¬kind=2∧¬kind=3∧¬kind=4∧¬kind=5):=gN;have HN:Hid (decide (0≤n∧n≤9999)=true):=ab gV;rcases hk with hk|hk|hk|hk|hk|hk|⟨k0,k1,k2,k3,k4,k5⟩
  ·subst hk
   have HS:Hid (R=(m7 ⟨0,n,cse,thn,els⟩ false false true false&&decide (thn≠[]))):=ab (by rw [←HR.out,mayF,HN.out,JG,Jl rfl]);clear HR;by_cases hB:m7 ⟨0,n,cse,thn,els⟩ false false true false=true
   ·go_enter Tryz.func100,Tryz.ntmps100
    go_wp2_with (go_at_call 112;refine(tu ⟨_,n,cse,thn,els⟩ _ _ _ _ _).mono ?_)
    rintro e w1 ⟨rfl,hb1⟩;have c2:w1.cell? ⟨w.heap.size,3,none⟩=some (.string ⟨thn.toArray⟩):=by
     rw [hb1.cell (p:=⟨w.heap.size,3,none⟩) gU];simp
    go_wp2
    go_ret
    refine⟨lM ?_,((Below.refl _ _).alloc (Ju _) _).trans (hb1.mono gU)⟩;rw [HS.out,hB];cases thn<;>rfl
   ·have hB':m7 ⟨0,n,cse,thn,els⟩ false false true false=false:=by simpa using hB
    exact cn
  ·subst hk
   have HS:Hid (R=(m7 ⟨1,n,cse,thn,els⟩ true false false false)):=ab (by rw [←HR.out,mayF,HN.out,JG,Jo gU,Jl rfl]);exact bf
  ·subst hk
   have HS:Hid (R=(m7 ⟨2,n,cse,thn,els⟩ true true false false&&decide (nO cse≠[]))):=ab (by rw [←HR.out,mayF,HN.out,JG,Jo gU,Jo gU,Jl rfl]);clear HR;by_cases hB:m7 ⟨2,n,cse,thn,els⟩ true true false false=true
   ·go_enter Tryz.func100,Tryz.ntmps100
    go_wp2_with (go_at_call 112;refine(tu ⟨_,n,cse,thn,els⟩ _ _ _ _ _).mono ?_)
    rintro e w1 ⟨rfl,hb1⟩;have c2:w1.cell? ⟨w.heap.size,2,none⟩=some (.int .i64 cse):=by
     rw [hb1.cell (p:=⟨w.heap.size,2,none⟩) gU];simp
    go_wp2_with (go_at_call 87;refine(HZ.out _ _).mono ?_)
    rintro e w2 ⟨rfl,hb2⟩;go_wp2
    go_ret
    refine⟨lM ?_,(((Below.refl _ _).alloc (Ju _) _).trans (hb1.mono gU)).trans (hb2.mono kj)⟩;rw [HS.out,hB];cases nO cse<;>rfl
   ·have hB':m7 ⟨2,n,cse,thn,els⟩ true true false false=false:=by simpa using hB
    exact cn
  ·subst hk
   have HS:Hid (R=(m7 ⟨3,n,cse,thn,els⟩ true false true false)):=ab (by rw [←HR.out,mayF,HN.out,JG,Jo gU,Jo gU,Jo gU,Jl rfl]);exact bf
  ·subst hk
   have HS:Hid (R=(m7 ⟨4,n,cse,thn,els⟩ true false false true)):=ab (by rw [←HR.out,mayF,HN.out,JG,Jo gU,Jo gU,Jo gU,Jo gU,Jl rfl]);exact bf
  ·subst hk
   have HS:Hid (R=(m7 ⟨5,n,cse,thn,els⟩ true false true true)):=ab (by rw [←HR.out,mayF,HN.out,JG,Jo gU,Jo gU,Jo gU,Jo gU,Jo gU,Jl rfl]);exact bf
  ·have HS:Hid (R=false):=ab (by rw [←HR.out,mayF,HN.out,JG,Jo gN,Jo gN,Jo gN,Jo gN,Jo gN,Jo gN])
   clear HR;have e0:(kind==0)=false:=by simpa using k0
   have e1:(kind==1)=false:=by simpa using k1
   have e2:(kind==2)=false:=by simpa using k2
   have e3:(kind==3)=false:=by simpa using k3
   have e4:(kind==4)=false:=by simpa using k4
   have e5:(kind==5)=false:=by simpa using k5
   clear k0 k1 k2 k3 k4 k5;go_enter Tryz.func100,Tryz.ntmps100
   go_wp2
   go_ret
   exact⟨lM HS.out.symm,(Below.refl _ _).alloc (Ju _) _⟩
 ·have HS:Hid (mayF ⟨kind,n,cse,thn,els⟩=false):=ab (by unfold mayF;rw [JT hn,Bool.false_and])
  rw [HS.out];go_enter Tryz.func100,Tryz.ntmps100
  go_wp2
  all_goals first
   | (exfalso;omega)
   | (go_ret;exact⟨rfl,(Below.refl _ _).alloc (Ju _) _⟩)
theorem GO (a:Option Addr) (n c:Nat) (fs:List Fm) (w:World) (h:Sl w w.heap.size a 5 n (mu fs)) (hn:n≤1000000) :
  Calls Tryz.prog 85 #[.slice a n c] w fun e w'=>e=.returned (.bool (uN fs))∧Below w.heap.size w w':=by
 generalize hR:uN fs=R
 have HR:=ab hR;clear hR;have HR0:Hid (mayL false (fs.drop 0)=R):=HR;have Hn:=ab h.fs_len;have HSl:=ab h;clear HR h;go_enter Tryz.func85,Tryz.ntmps85
 go_wp2
 go_loopw [7] (fun q wr=>∃(k:Nat) (pt:Bool),k≤n∧q=.int .i64 k∧Below w.heap.size w wr∧Hid ((k=0→pt=false)∧(0<k→∀g,fs[k-1]?=some g→decide (g.kind=0)=pt))∧Hid (mayL pt (fs.drop k)=R)) (fun q _=>n-(intOf q).toNat)
 case atStart=>exact⟨0,false,by omega,rfl,Below.refl _ _,ab ⟨fun _=>rfl,fun h=>by omega⟩,HR0⟩
 case round =>
  obtain⟨k,pt,hk,rfl,hb,HP,HF⟩:=hrel;clear HR0;have hB:=hb.size;cases hd:fs.drop k with
  | nil =>
   have h2:n≤k:=by have:=Hn.out;simp at hd;omega
   have HF':Hid (mayL pt []=R):=ab iL;clear hd HF;go_wp2
   go_ret
   exact⟨lM HF'.out,hb⟩
  | cons f r =>
   obtain⟨h2,h3,hr⟩:=lC hd;have HF':Hid (mayL pt (f::r)=R):=ab iL;have Hr:=ab hr;have HK:=ab h3;have hkn:k<n:=by have:=Hn.out;omega
   obtain⟨b,o,rfl,hbB,c0,c1,c2,c3,c4⟩:=(HSl.out.keep hb).fm h3;clear hd HF hr h2 h3;obtain⟨kind,fn,cse,thn,els⟩:=f;by_cases hm:mayF ⟨kind,fn,cse,thn,els⟩=true
   ·have HM:=ab hm
    have c5:∀w1,Below (wr.heap.size+1) (wr.alloc (.cells #[.int .i64 kind,.int .i64 fn,.int .i64 cse,.string ⟨thn.toArray⟩,.string ⟨els.toArray⟩] 95)) w1→w1.cell? ⟨wr.heap.size,0,none⟩=some (.int .i64 kind):=fun w1 h1=>by
     rw [h1.cell (p:=⟨wr.heap.size,0,none⟩) gU];simp
    have C5:=ab c5;clear c5;by_cases hk0:kind=0
    ·subst hk0
     by_cases hkk:k=0
     ·have hpt:=HP.out.1 hkk
      have hkk':k≤0:=gN;subst hpt;have HKK:=ab hkk;clear hkk;go_wp2_with (go_at_call 100;refine(vY ⟨0,fn,cse,thn,els⟩ _).mono ?_;rintro e w1 ⟨rfl,hb1⟩;have d5:=C5.out w1 (by simpa using hb1);have hbw:Below w.heap.size wr w1:=((Below.refl _ _).alloc hB _).trans (hb1.mono gV))
      clear hm;go_roundw
      case rel =>
       refine⟨k+1,true,by omega,by go_num,hb.trans hbw,ab ⟨fun h=>by omega,fun _ g hg=>?_⟩,?_⟩
       ·exact cH
       ·refine ab ?_
        rw [Hr.out,←HF'.out];conv=>rhs;unfold mayL
        (rw [HM.out];rfl)
      case measure=>simp [intOf];omega
     ·obtain⟨g,hg⟩:∃g,fs[k-1]?=some g:=⟨fs[k-1]'(by have:=Hn.out;omega),Jn (by have:=Hn.out;omega)⟩
      have hpg:=HP.out.2 gN g hg;obtain⟨b',o',hab,_,g0,_⟩:=HSl.out.fm hg;have hbo:b'=b∧o'=o:=by simpa using hab.symm
      obtain⟨rfl,rfl⟩:=hbo;have hkp:0<k:=gN;have ek:((k-1:Nat):Int)=(k:Int)-1:=gN;have e1:(k:Int)-1<n∧0≤(k:Int)-1:=gN;obtain⟨gk,gn,gc,gt,ge⟩:=g;have G0:=ab g0;have HPG:=ab hpg;clear hab g0 hpg hkk hg;by_cases hgk:gk=0
      ·subst hgk
       go_wp2_with (go_at_call 100;refine(vY ⟨0,fn,cse,thn,els⟩ _).mono ?_;rintro e w1 ⟨rfl,hb1⟩;have d5:=C5.out w1 (by simpa using hb1);have hbw:Below w.heap.size wr w1:=((Below.refl _ _).alloc hB _).trans (hb1.mono gV);have g1:w1.cell? ⟨b',o'+(k-1)*5,none⟩=some (.int .i64 0):=((hb.trans hbw).cell (p:=⟨b',o'+(k-1)*5,none⟩) hbB).trans G0.out)
       go_ret
       refine⟨lM ?_,hb.trans hbw⟩;rw [←HF'.out,mayL,←HPG.out];simp
      ·have eg:(gk==0)=false:=by simpa using hgk
       have HGK:=ab hgk;clear hgk;go_wp2_with (go_at_call 100;refine(vY ⟨0,fn,cse,thn,els⟩ _).mono ?_;rintro e w1 ⟨rfl,hb1⟩;have d5:=C5.out w1 (by simpa using hb1);have hbw:Below w.heap.size wr w1:=((Below.refl _ _).alloc hB _).trans (hb1.mono gV);have g1:w1.cell? ⟨b',o'+(k-1)*5,none⟩=some (.int .i64 gk):=((hb.trans hbw).cell (p:=⟨b',o'+(k-1)*5,none⟩) hbB).trans G0.out)
       clear hm;go_roundw
       case rel =>
        refine⟨k+1,true,by omega,by go_num,hb.trans hbw,ab ⟨fun h=>by omega,fun _ g hg=>?_⟩,?_⟩
        ·exact cH
        ·refine ab ?_
         rw [Hr.out,←HF'.out];conv=>rhs;unfold mayL
         (rw [HM.out,←HPG.out];simp [HGK.out])
       case measure=>simp [intOf];omega
    ·have e0:(kind==0)=false:=by simpa using hk0
     have HK0:=ab hk0;clear hk0;go_wp2_with (go_at_call 100;refine(vY ⟨kind,fn,cse,thn,els⟩ _).mono ?_;rintro e w1 ⟨rfl,hb1⟩;have d5:=C5.out w1 (by simpa using hb1);have hbw:Below w.heap.size wr w1:=((Below.refl _ _).alloc hB _).trans (hb1.mono gV))
     clear hm;go_roundw
     case rel =>
      refine⟨k+1,false,by omega,by go_num,hb.trans hbw,ab ⟨fun h=>by omega,fun _ g hg=>?_⟩,?_⟩
      ·exact cH
      ·refine ab ?_
       rw [Hr.out,←HF'.out];conv=>rhs;unfold mayL
       (rw [HM.out];simp [HK0.out])
     case measure=>simp [intOf];omega
   ·have hm':mayF ⟨kind,fn,cse,thn,els⟩=false:=by simpa using hm
    clear hm;go_wp2_with (go_at_call 100;refine(vY ⟨kind,fn,cse,thn,els⟩ _).mono ?_;rintro e w1 ⟨rfl,hb1⟩)
    go_ret
    refine⟨lM ?_,hb.trans (((Below.refl _ _).alloc hB _).trans (hb1.mono gV))⟩;rw [←HF'.out,mayL,hm'];rfl
def qC:List Fm→Int→Int
 | [],n=>n
 | f::r,n=>if n≤f.thn.length∨n≤f.els.length then -1 else qC r (n-1-f.thn.length-f.els.length)
theorem BB (a:Option Addr) (n c:Nat) (m:Int) (fs:List Fm) (w:World) (h:Sl w w.heap.size a 5 n (mu fs)) (hn:n≤maxLen) (hm:-100000≤m∧m≤100000)
  (hsz:∀f∈fs,f.thn.length≤maxLen∧f.els.length≤maxLen) :
  Calls Tryz.prog 30 #[.slice a n c,.int .i64 m] w fun e w'=>e=.returned (.int .i64 (qC fs m))∧Below w.heap.size w w':=by
 unfold maxLen at hn hsz;generalize hR:qC fs m=R
 have HR:=ab hR;clear hR;have HR0:Hid (qC (fs.drop 0) m=R):=HR;have Hn:=ab h.fs_len;have HSl:=ab h;have HSz:=ab hsz;clear HR h hsz;obtain⟨hm0,hm1⟩:=hm;go_enter Tryz.func30,Tryz.ntmps30
 go_wp2
 go_loopw [1,5] (fun s q wr=>∃(k:Nat) (m':Int),k≤n∧q=.int .i64 k∧s=.int .i64 m'∧-100000≤m'∧m'≤100000∧Below w.heap.size w wr∧Hid (qC (fs.drop k) m'=R)) (fun _ q _=>n-(intOf q).toNat)
 case atStart=>exact⟨0,m,by omega,rfl,rfl,hm0,hm1,Below.refl _ _,HR0⟩
 case round =>
  obtain⟨k,m',hk,rfl,rfl,hm2,hm3,hb,HF⟩:=hrel;clear HR0;cases hd:fs.drop k with
  | nil =>
   have h2:n≤k:=by have:=Hn.out;simp at hd;omega
   have HF':Hid (qC [] m'=R):=ab iL;clear hd HF;go_wp2
   go_ret
   exact⟨nA HF'.out,hb⟩
  | cons f r =>
   obtain⟨h2,h3,hr⟩:=lC hd;have HF':Hid (qC (f::r) m'=R):=ab iL;have Hr:=ab hr;have hkn:k<n:=by have:=Hn.out;omega
   obtain⟨b,o,rfl,hbB,c0,c1,c2,c3,c4⟩:=(HSl.out.keep hb).fm h3;obtain⟨z1,z2⟩:=HSz.out f (JH h3);clear hd HF hr h2 h3;obtain⟨kind,fn,cse,thn,els⟩:=f;by_cases hA:m'≤thn.length∨m'≤els.length
   ·have HE:Hid (R=-1):=ab (by rw [←HF'.out];simp only [qC];exact Jl hA)
    exact eN
   ·have HE:Hid (R=qC r (m'-1-thn.length-els.length)):=ab (by rw [←HF'.out];simp only [qC];exact Jo hA)
    have hA1:(thn.length:Int)<m':=by omega
    have hA2:(els.length:Int)<m':=by omega
    clear hA;go_wp2
    go_quiet (fail)
    go_wp2
    go_roundw
    case rel =>
     refine⟨k+1,m'-1-thn.length-els.length,by omega,by go_num,rfl,by omega,by omega,below_drewN hb _,ab ?_⟩;rw [Hr.out,HE.out]
    case measure=>simp [intOf];omega
def G8 (l:Str) (i:Nat) (R:Option (Str × Str)) (e:Ending):Prop :=
 match R with
 | none=>e=.returned (.tuple #[.string ⟨[].toArray⟩,.int .i64 0,.bool false])
 | some (t,r)=>t.length≤l.length∧∃j:Nat,i≤j∧j<l.length∧l.drop j=r∧e=.returned (.tuple #[.string ⟨t.toArray⟩,.int .i64 j,.bool true])
theorem Aw (l:Str) (i one:Int) (w:World) (h0:0≤i) (h1:i≤1000000) (hs:l.length≤1000000) (ho:0≤one) :
  Calls Tryz.prog 131 #[.string ⟨l.toArray⟩,.int .i64 i,.int .u8 one] w fun e w'=>Below w.heap.size w w'∧G8 l i.toNat (lH one (l.drop i.toNat) []) e:=by
 obtain⟨i,rfl⟩:=Int.eq_ofNat_of_zero_le h0;rw [Int.toNat_natCast];generalize hR:lH one (l.drop i) []=R
 have HR:=ab hR;clear hR;obtain⟨iu,hiu⟩:=info_parts qP;go_enter Tryz.func131,Tryz.ntmps131
 go_wp2
 go_loopw [1,9] (fun q t wr=>∃(j:Nat) (tx:Str),i≤j∧j≤2000000∧q=.int .i64 j∧wr.ownsRow w.heap.size 5 1 t tx.length (mt tx)∧Below w.heap.size w wr∧tx.length≤l.length∧tx.length+i≤j∧Hid (lH one (l.drop j) tx=R)) (fun q _ _=>l.length-(intOf q).toNat)
 case atStart=>exact⟨i,[],by omega,by omega,rfl,World.ownsRow_nil _ _ _ _,Below.refl _ _,by simp,by simp,HR⟩
 case round =>
  obtain⟨j,tx,hij,hj,rfl,hown,hb,htx,htj,HF⟩:=hrel;clear HR;have hB:=hb.size;have hcv:=oN (P:=Tryz.prog) (src:=52) (dst:=9) Tryz.underlying52 Tryz.underlying5 Tryz.underlying9 hown;cases hd:l.drop j with
  | nil =>
   have h2:=ms hd;have HF':Hid (lH one [] tx=R):=ab iL;clear hd HF;go_wp2
   go_ret3
   refine⟨hb,?_⟩;rw [←HF'.out];rfl
  | cons c r =>
   obtain⟨h2,h3,hr⟩:=lG hd;have HF':Hid (lH one (c::r) tx=R):=ab iL;have Hr:=ab hr;clear HF hr;by_cases hc:c.toNat=one.toNat
   ·have HD:=ab hd;clear hd
    have hbc:((c.toNat:Int)==one)=true:=by rw [Ji];omega
    have Hc:=ab hc;clear hc;go_wp2
    go_ret3
    refine⟨hb,?_⟩;rw [←HF'.out];have:lH one (c::r) tx=some (tx,c::r):=by cases r<;>simp [lH,Hc.out]
    rw [this];exact⟨by omega,j,by omega,h2,HD.out,by simp⟩
   ·have hbc:((c.toNat:Int)==one)=false:=by rw [JP];omega
    have Hc:=ab hc;clear hc hd;by_cases hA:c.toNat=92∧qX r five=true
    ·obtain⟨hA1,hA2⟩:=hA
     cases r with
     | nil=>simp [qX] at hA2
     | cons d r' =>
      obtain⟨k2,k3,kr⟩:=lG Hr.out;have Hkr:=ab kr;clear kr;have HS:Hid (lH one (c::d::r') tx=lH one r' (tx++[d])):=ab (by
       conv=>lhs;unfold lH
       rw [Jo Hc.out,Jl ⟨hA1,hA2⟩])
      have hst:qX (List.drop (j+1) l) [36,125,92,47,58]=true:=by rw [Hr.out];exact hA2
      have hA1':((c.toNat:Int)==92)=true:=by simp [hA1]
      clear hA1 hA2;go_wp2_with (first
       | (go_at_call 120;refine(sc _ _ _ _ gN gN gN gU).mono ?_;rintro e w1 ⟨rfl,rfl⟩)
       | (at_builtin;refine mA w.heap.size 5 rfl _ _ 52 rfl Tryz.underlying52 hiu rfl gR rfl hown rfl iV rfl ii gN gR hB ?_;intro v1 w1 hown1 hg1 hb1 hne1))
      clear hst hA1';go_roundw
      case rel =>
       refine⟨j+2,tx++[d],by omega,by omega,by go_num,?_,hb.trans hb1,by simp;omega,by simp;omega,?_⟩
       ·simpa [mt] using hown1
       ·exact ab (by rw [Hkr.out,←HS.out];exact HF'.out)
      case measure=>simp [intOf];omega
    ·have HS:Hid (lH one (c::r) tx=lH one r (tx++[c])):=ab (by
      cases r with
      | nil=>simp [lH,Hc.out]
      | cons d r' =>
       conv=>lhs;unfold lH
       rw [Jo Hc.out];exact Jo hA)
     by_cases h92:c.toNat=92
     ·have hst:qX (List.drop (j+1) l) [36,125,92,47,58]=false:=by rw [Hr.out];simpa [h92,five] using hA
      have hA1':((c.toNat:Int)==92)=true:= jj;clear hA h92;go_wp2_with (first
       | (go_at_call 120;refine(sc _ _ _ _ gN gN gN gU).mono ?_;rintro e w1 ⟨rfl,rfl⟩)
       | (at_builtin;refine mA w.heap.size 5 rfl _ _ 52 rfl Tryz.underlying52 hiu rfl gR rfl hown rfl iV rfl ii gN gR hB ?_;intro v1 w1 hown1 hg1 hb1 hne1))
      clear hst hA1';exact cz
     ·have hA1':((c.toNat:Int)==92)=false:= iP
      clear hA h92;go_wp2_with (at_builtin;refine mA w.heap.size 5 rfl _ _ 52 rfl Tryz.underlying52 hiu rfl gR rfl hown rfl iV rfl ii gN gR hB ?_;intro v1 w1 hown1 hg1 hb1 hne1)
      clear hA1';exact cz
theorem DZ (r:Str):Lib.indexByte r 125=match r.dropWhile mV with|[]=>-1|_::_=>((r.takeWhile mV).length:Int):=by
 induction r with
 | nil=>rfl
 | cons b r ih =>
  by_cases h:b.toNat=125
  ·have hb:b=125:=Jk.1 h
   subst hb;rfl
  ·have hb:(b==125)=false:=by rw [JP];intro e;exact h (by rw [e];rfl)
   have hd:mV b=true:=by simpa [mV] using h
   rw [List.dropWhile_cons_of_pos hd,List.takeWhile_cons_of_pos hd];simp only [Lib.indexByte,hb,ih];cases r.dropWhile mV with
   | nil=>rfl
   | cons x y =>
    have h1:((((r.takeWhile mV).length:Int))==-1)=false:=by rw [JP];omega
    simp only [h1,J1,if_false,Jr];omega
theorem Way_eq {s:Str} {v:Int} (w:World) (h:qQ s=v) :
  Calls Tryz.prog 130 #[.string ⟨s.toArray⟩] w fun e w'=>e=.returned (.int .i64 v)∧Below w.heap.size w w':=by
 subst h;exact Way_any s w
theorem rT {l t r:Str} {i one:Int} (w:World) (h0:0≤i) (h1:i≤1000000) (hs:l.length≤1000000) (ho:0≤one) (hU:lH one (l.drop i.toNat) []=some (t,r)) :
  Calls Tryz.prog 131 #[.string ⟨l.toArray⟩,.int .i64 i,.int .u8 one] w fun e w'=>Below w.heap.size w w'∧t.length≤l.length∧∃j:Nat,i≤j∧j<l.length∧l.drop j=r∧e=.returned (.tuple #[.string ⟨t.toArray⟩,.int .i64 j,.bool true]):=by
 refine(Aw l i one w h0 h1 hs ho).mono ?_
 rintro e w1 ⟨hb,hp⟩;rw [hU] at hp;obtain⟨h2,j,h3,h4,h5,h6⟩:=hp;exact⟨hb,h2,j,by omega,h4,h5,h6⟩
theorem qy {l:Str} {i one:Int} (w:World) (h0:0≤i) (h1:i≤1000000) (hs:l.length≤1000000) (ho:0≤one) (hU:lH one (l.drop i.toNat) []=none) :
  Calls Tryz.prog 131 #[.string ⟨l.toArray⟩,.int .i64 i,.int .u8 one] w fun e w'=>Below w.heap.size w w'∧e=.returned (.tuple #[.string ⟨[].toArray⟩,.int .i64 0,.bool false]):=by
 refine(Aw l i one w h0 h1 hs ho).mono ?_
 rintro e w1 ⟨hb,hp⟩;rw [hU] at hp;exact⟨hb,hp⟩
def DP (l:Str) (i:Nat) (R:Option (Fm × Str)) (e:Ending):Prop :=
 match R with
 | none=>e=.returned (.tuple #[.agg #[.int .i64 0,.int .i64 0,.int .i64 0,.string ⟨#[]⟩,.string ⟨#[]⟩],.int .i64 0,.bool false])
 | some (f,r)=>f.thn.length≤l.length∧f.els.length≤l.length∧∃j:Nat,i<j∧j≤l.length∧l.drop j=r∧e=.returned (.tuple #[.agg #[.int .i64 (f).kind,.int .i64 (f).n,.int .i64 (f).cse,.string ⟨((f).thn).toArray⟩,.string ⟨((f).els).toArray⟩],.int .i64 j,.bool true])
theorem FD (l:Str) (i n:Nat) (w:World) (h1:i≤900000) (hs:l.length≤900000) :
  Calls Tryz.prog 126 #[.string ⟨l.toArray⟩,.int .i64 i,.int .i64 n] w fun e w'=>Below w.heap.size w w'∧DP l i (mo (l.drop i) n) e:=by
 generalize hR:mo (l.drop i) n=R
 have HR:=ab hR;clear hR;cases hd:l.drop i with
 | nil =>
  have h2:=ms hd;have hU:lH 125 (l.drop (i:Int).toNat) []=none:=by rw [Int.toNat_natCast,hd];rfl
  have HE:Hid (R=none):=ab (by rw [←HR.out,hd];rfl);have hh:∀p:Str,p.isPrefixOf (l.drop (i:Int).toNat)=p.isPrefixOf []:=fun p=>by rw [Int.toNat_natCast,hd]
  have HU:=ab hU;have HH:=ab hh;have e1:List.isPrefixOf [47] (List.drop i l)=false:=by rw [hd];rfl
  have e2:List.isPrefixOf [43] (List.drop i l)=false:=by rw [hd];rfl
  have e3:List.isPrefixOf [63] (List.drop i l)=false:=by rw [hd];rfl
  have e4:List.isPrefixOf [45] (List.drop i l)=false:=by rw [hd];rfl
  clear hd hU hh;go_enter Tryz.func126,Tryz.ntmps126
  go_wp2_with (first
   | (go_at_call 125;refine(nE _ _ _ _ gN gN gU).mono ?_;rintro e w1 ⟨rfl,rfl⟩)
   | (go_at_call 131;refine(qy _ gN gN gN gN HU.out).mono ?_;rintro e w1 ⟨hb1,rfl⟩;obtain⟨hc1,hf1⟩:=ub hb1;have z0:w1.cell? ⟨w.heap.size,0,none⟩=some (.int .i64 0):= gO;have z1:w1.cell? ⟨w.heap.size,1,none⟩=some (.int .i64 0):= gO;have z2:w1.cell? ⟨w.heap.size,2,none⟩=some (.int .i64 0):= gO;have z3:w1.cell? ⟨w.heap.size,3,none⟩=some (.string ⟨#[]⟩):= gO;have z4:w1.cell? ⟨w.heap.size,4,none⟩=some (.string ⟨#[]⟩):= gO;have hbw:Below w.heap.size w w1:=((((Below.refl w.heap.size w).alloc (Ju _) _).alloc gU _).trans (hb1.mono gV))))
  refine JM (v:=.tuple #[.agg #[.int .i64 0,.int .i64 0,.int .i64 0,.string ⟨#[]⟩,.string ⟨#[]⟩],.int .i64 0,.bool false]) iG rfl ⟨?_,by rw [HE.out];rfl⟩
  (repeat (first|with_reducible exact Below.refl _ _|with_reducible assumption|(refine Below.setCell ?_ ij _)|(refine Below.alloc ?_ gX _)|(refine Below.drew ?_)))
 | cons c r =>
  obtain⟨h2,h3,hr⟩:=lG hd;have Hr:=ab hr;have HD:=ab hd;clear hr h3;by_cases c43:c.toNat=43
  ·have e1:List.isPrefixOf [47] (List.drop i l)=false:=by rw [hd,pre1];simp;try omega
   have e2:List.isPrefixOf [43] (List.drop i l)=true:=by rw [hd,pre1];simp;try omega
   have e3:List.isPrefixOf [63] (List.drop i l)=false:=by rw [hd,pre1];simp;try omega
   have e4:List.isPrefixOf [45] (List.drop i l)=false:=by rw [hd,pre1];simp;try omega
   have HE:Hid (R=match lH 125 r [] with|some (t,_::r2)=>some (⟨3,n,0,t,[]⟩,r2)|_=>none):=ab (by
    rw [←HR.out,hd];simp only [mo];rw [Jo gN,Jl c43];rfl)
   clear hd c43;cases hU:lH 125 r [] with
   | none =>
    have HU:Hid (lH 125 (l.drop ((i:Int)+1).toNat) []=none):=ab iC;have HE':Hid (R=none):=ab kB;clear hU HE;go_enter Tryz.func126,Tryz.ntmps126
    go_wp2_with (first|(go_at_call 125;refine(nE _ _ _ _ gN gN gU).mono ?_;rintro e w1 ⟨rfl,rfl⟩)|(go_at_call 131;refine(qy _ gN gN gN gN HU.out).mono ?_;rintro e w1 ⟨hb1,rfl⟩;obtain⟨hc1,hf1⟩:=ub hb1;have z0:w1.cell? ⟨w.heap.size,0,none⟩=some (.int .i64 0):= gO;have z1:w1.cell? ⟨w.heap.size,1,none⟩=some (.int .i64 0):= gO;have z2:w1.cell? ⟨w.heap.size,2,none⟩=some (.int .i64 0):= gO;have z3:w1.cell? ⟨w.heap.size,3,none⟩=some (.string ⟨#[]⟩):= gO;have z4:w1.cell? ⟨w.heap.size,4,none⟩=some (.string ⟨#[]⟩):= gO;have y0:w1.cell? ⟨w.heap.size+1,0,none⟩=some (.int .i64 3):= gO;have y1:w1.cell? ⟨w.heap.size+1,1,none⟩=some (.int .i64 ↑n):= gO;have y2:w1.cell? ⟨w.heap.size+1,2,none⟩=some (.int .i64 0):= gO;have y3:w1.cell? ⟨w.heap.size+1,3,none⟩=some (.string ⟨#[]⟩):= gO;have y4:w1.cell? ⟨w.heap.size+1,4,none⟩=some (.string ⟨#[]⟩):= gO;have hbw:Below w.heap.size w w1:=((((Below.refl w.heap.size w).alloc (Ju _) _).alloc gU _).trans (hb1.mono gV))))
    exact ff
   | some p =>
    obtain⟨t,s⟩:=p;obtain⟨d,r2,rfl,_⟩:=nZ _ _ _ hU;have HU:Hid (lH 125 (l.drop ((i:Int)+1).toNat) []=some (t,d::r2)):=ab iC;have HE':Hid (R=some (⟨3,n,0,t,[]⟩,r2)):=ab kB;clear hU HE;go_enter Tryz.func126,Tryz.ntmps126
    go_wp2_with (first|(go_at_call 125;refine(nE _ _ _ _ gN gN gU).mono ?_;rintro e w1 ⟨rfl,rfl⟩)|(go_at_call 131;refine(rT _ gN gN gN gN HU.out).mono ?_;rintro e w1 ⟨hb1,hlt,j,hj1,hj2,hj3,rfl⟩;obtain⟨hc1,hf1⟩:=ub hb1;have z0:w1.cell? ⟨w.heap.size,0,none⟩=some (.int .i64 0):= gO;have z1:w1.cell? ⟨w.heap.size,1,none⟩=some (.int .i64 0):= gO;have z2:w1.cell? ⟨w.heap.size,2,none⟩=some (.int .i64 0):= gO;have z3:w1.cell? ⟨w.heap.size,3,none⟩=some (.string ⟨#[]⟩):= gO;have z4:w1.cell? ⟨w.heap.size,4,none⟩=some (.string ⟨#[]⟩):= gO;have y0:w1.cell? ⟨w.heap.size+1,0,none⟩=some (.int .i64 3):= gO;have y1:w1.cell? ⟨w.heap.size+1,1,none⟩=some (.int .i64 ↑n):= gO;have y2:w1.cell? ⟨w.heap.size+1,2,none⟩=some (.int .i64 0):= gO;have y3:w1.cell? ⟨w.heap.size+1,3,none⟩=some (.string ⟨#[]⟩):= gO;have y4:w1.cell? ⟨w.heap.size+1,4,none⟩=some (.string ⟨#[]⟩):= gO;have hbw:Below w.heap.size w w1:=((((Below.refl w.heap.size w).alloc (Ju _) _).alloc gU _).trans (hb1.mono gV));have HJ3:=ab hj3;clear hj3))
    refine JM (v:=.tuple #[.agg #[.int .i64 3,.int .i64 n,.int .i64 0,.string ⟨t.toArray⟩,.string ⟨[].toArray⟩],.int .i64 (j+1),.bool true]) iG rfl ⟨?_,?_⟩
    ·(repeat (first|with_reducible exact Below.refl _ _|with_reducible assumption|(refine Below.setCell ?_ ij _)|(refine Below.alloc ?_ gX _)|(refine Below.drew ?_)))
    ·rw [HE'.out]
     exact gz
  by_cases c45:c.toNat=45
  ·have e1:List.isPrefixOf [47] (List.drop i l)=false:=by rw [hd,pre1];simp;try omega
   have e2:List.isPrefixOf [43] (List.drop i l)=false:=by rw [hd,pre1];simp;try omega
   have e3:List.isPrefixOf [63] (List.drop i l)=false:=by rw [hd,pre1];simp;try omega
   have e4:List.isPrefixOf [45] (List.drop i l)=true:=by rw [hd,pre1];simp;try omega
   have HE:Hid (R=match lH 125 r [] with|some (t,_::r2)=>some (⟨4,n,0,[],t⟩,r2)|_=>none):=ab (by
    rw [←HR.out,hd];simp only [mo];rw [Jo gN,Jo gN,Jo gN,Jl c45];rfl)
   clear hd c43 c45;cases hU:lH 125 r [] with
   | none =>
    have HU:Hid (lH 125 (l.drop ((i:Int)+1).toNat) []=none):=ab iC;exact aF
   | some p =>
    obtain⟨t,s⟩:=p;obtain⟨d,r2,rfl,_⟩:=nZ _ _ _ hU;have HU:Hid (lH 125 (l.drop ((i:Int)+1).toNat) []=some (t,d::r2)):=ab iC;exact aE
  by_cases c63:c.toNat=63
  ·have e1:List.isPrefixOf [47] (List.drop i l)=false:=by rw [hd,pre1];simp;try omega
   have e2:List.isPrefixOf [43] (List.drop i l)=false:=by rw [hd,pre1];simp;try omega
   have e3:List.isPrefixOf [63] (List.drop i l)=true:=by rw [hd,pre1];simp;try omega
   have e4:List.isPrefixOf [45] (List.drop i l)=false:=by rw [hd,pre1];simp;try omega
   have HE:Hid (R=match lH 58 r [] with|some (t,_::r2)=>(match lH 125 r2 [] with|some (u,_::r3)=>some (⟨5,n,0,t,u⟩,r3)|_=>none)|_=>none):=ab (by
    rw [←HR.out,hd];simp only [mo];rw [Jo gN,Jo gN,Jl c63];rfl)
   clear hd c43 c45 c63;cases hU:lH 58 r [] with
   | none =>
    have HU:Hid (lH 58 (l.drop ((i:Int)+1).toNat) []=none):=ab iC;have HE':Hid (R=none):=ab kB;clear hU HE;go_enter Tryz.func126,Tryz.ntmps126
    go_wp2_with (first|(go_at_call 125;refine(nE _ _ _ _ gN gN gU).mono ?_;rintro e w1 ⟨rfl,rfl⟩)|(go_at_call 131;refine(qy _ gN gN gN gN HU.out).mono ?_;rintro e w1 ⟨hb1,rfl⟩;obtain⟨hc1,hf1⟩:=ub hb1;have z0:w1.cell? ⟨w.heap.size,0,none⟩=some (.int .i64 0):= gO;have z1:w1.cell? ⟨w.heap.size,1,none⟩=some (.int .i64 0):= gO;have z2:w1.cell? ⟨w.heap.size,2,none⟩=some (.int .i64 0):= gO;have z3:w1.cell? ⟨w.heap.size,3,none⟩=some (.string ⟨#[]⟩):= gO;have z4:w1.cell? ⟨w.heap.size,4,none⟩=some (.string ⟨#[]⟩):= gO;have y0:w1.cell? ⟨w.heap.size+1,0,none⟩=some (.int .i64 5):= gO;have y1:w1.cell? ⟨w.heap.size+1,1,none⟩=some (.int .i64 ↑n):= gO;have y2:w1.cell? ⟨w.heap.size+1,2,none⟩=some (.int .i64 0):= gO;have y3:w1.cell? ⟨w.heap.size+1,3,none⟩=some (.string ⟨#[]⟩):= gO;have y4:w1.cell? ⟨w.heap.size+1,4,none⟩=some (.string ⟨#[]⟩):= gO;have hbw:Below w.heap.size w w1:=((((Below.refl w.heap.size w).alloc (Ju _) _).alloc gU _).trans (hb1.mono gV))))
    exact ff
   | some p =>
    obtain⟨t,s⟩:=p;obtain⟨d,r2,rfl,_⟩:=nZ _ _ _ hU;have HU:Hid (lH 58 (l.drop ((i:Int)+1).toNat) []=some (t,d::r2)):=ab iC;have HE1:Hid (R=match lH 125 r2 [] with|some (u,_::r3)=>some (⟨5,n,0,t,u⟩,r3)|_=>none):=ab kB;clear hU HE;go_enter Tryz.func126,Tryz.ntmps126
    go_wp2_with (first|(go_at_call 125;refine(nE _ _ _ _ gN gN gU).mono ?_;rintro e w1 ⟨rfl,rfl⟩)|(go_at_call 131;refine(rT _ gN gN gN gN HU.out).mono ?_))
    rintro e w1 ⟨hb1,hlt,j,hj1,hj2,hj3,rfl⟩;obtain⟨hc1,hf1⟩:=ub hb1;have z0:w1.cell? ⟨w.heap.size,0,none⟩=some (.int .i64 0):= gO;have z1:w1.cell? ⟨w.heap.size,1,none⟩=some (.int .i64 0):= gO;have z2:w1.cell? ⟨w.heap.size,2,none⟩=some (.int .i64 0):= gO;have z3:w1.cell? ⟨w.heap.size,3,none⟩=some (.string ⟨#[]⟩):= gO;have z4:w1.cell? ⟨w.heap.size,4,none⟩=some (.string ⟨#[]⟩):= gO;have y0:w1.cell? ⟨w.heap.size+1,0,none⟩=some (.int .i64 5):= gO;have y1:w1.cell? ⟨w.heap.size+1,1,none⟩=some (.int .i64 ↑n):= gO;have y2:w1.cell? ⟨w.heap.size+1,2,none⟩=some (.int .i64 0):= gO;have y3:w1.cell? ⟨w.heap.size+1,3,none⟩=some (.string ⟨#[]⟩):= gO;have y4:w1.cell? ⟨w.heap.size+1,4,none⟩=some (.string ⟨#[]⟩):= gO;have hbw:Below w.heap.size w w1:=((((Below.refl w.heap.size w).alloc (Ju _) _).alloc gU _).trans (hb1.mono gV));have HJ:=ab (lG hj3).2.2;clear hj3;have hz:w.heap.size+1<w1.heap.size:=by have:=hb1.size;simp at this;omega
    cases hV:lH 125 r2 [] with
    | none =>
     have HV:Hid (lH 125 (l.drop ((j:Int)+1).toNat) []=none):=ab jV;have HE':Hid (R=none):=ab (by rw [HE1.out,hV]);clear hV HE1;go_wp2_with (go_at_call 131;refine(qy _ gN gN gN gN HV.out).mono ?_;rintro e w2 ⟨hb2,rfl⟩;obtain⟨hc2,hf2⟩:=ub hb2;have fz2:∀j,w2.frozen? ⟨w.heap.size,j,none⟩=false:=(fun j=>by rw [hf2 _ _ gZ];simp [go_sem,hf1]);have fy2:∀j,w2.frozen? ⟨w.heap.size+1,j,none⟩=false:=(fun j=>by rw [hf2 _ _ gZ];simp [go_sem,hf1]);have x0:w2.cell? ⟨w.heap.size,0,none⟩=some (.int .i64 0):= jE;have x1:w2.cell? ⟨w.heap.size,1,none⟩=some (.int .i64 0):= jF;have x2:w2.cell? ⟨w.heap.size,2,none⟩=some (.int .i64 0):= jG;have x3:w2.cell? ⟨w.heap.size,3,none⟩=some (.string ⟨#[]⟩):= jH;have x4:w2.cell? ⟨w.heap.size,4,none⟩=some (.string ⟨#[]⟩):= jI;have v0:w2.cell? ⟨w.heap.size+1,0,none⟩=some (.int .i64 5):= jJ;have v1:w2.cell? ⟨w.heap.size+1,1,none⟩=some (.int .i64 ↑n):= jK;have v2:w2.cell? ⟨w.heap.size+1,2,none⟩=some (.int .i64 0):= jL;have v3:w2.cell? ⟨w.heap.size+1,3,none⟩=some (.string ⟨t.toArray⟩):= jM;have v4:w2.cell? ⟨w.heap.size+1,4,none⟩=some (.string ⟨#[]⟩):= jN;have hbw2:Below w.heap.size w w2:=(hbw.setCell (p:=⟨w.heap.size+1,3,none⟩) gU _).trans (hb2.mono gZ))
     refine JM (v:=.tuple #[.agg #[.int .i64 0,.int .i64 0,.int .i64 0,.string ⟨#[]⟩,.string ⟨#[]⟩],.int .i64 0,.bool false]) j9 rfl ⟨?_,by rw [HE'.out];rfl⟩
     (repeat (first|with_reducible exact Below.refl _ _|with_reducible assumption|(refine Below.setCell ?_ ij _)|(refine Below.alloc ?_ gX _)|(refine Below.drew ?_)))
    | some p =>
     obtain⟨u,s⟩:=p;obtain⟨d',r3,rfl,_⟩:=nZ _ _ _ hV;have HV:Hid (lH 125 (l.drop ((j:Int)+1).toNat) []=some (u,d'::r3)):=ab jV;have HE':Hid (R=some (⟨5,n,0,t,u⟩,r3)):=ab (by rw [HE1.out,hV]);clear hV HE1;go_wp2_with (go_at_call 131;refine(rT _ gN gN gN gN HV.out).mono ?_;rintro e w2 ⟨hb2,hlt2,j2,hk1,hk2,hk3,rfl⟩;obtain⟨hc2,hf2⟩:=ub hb2;have fz2:∀j,w2.frozen? ⟨w.heap.size,j,none⟩=false:=(fun j=>by rw [hf2 _ _ gZ];simp [go_sem,hf1]);have fy2:∀j,w2.frozen? ⟨w.heap.size+1,j,none⟩=false:=(fun j=>by rw [hf2 _ _ gZ];simp [go_sem,hf1]);have x0:w2.cell? ⟨w.heap.size,0,none⟩=some (.int .i64 0):= jE;have x1:w2.cell? ⟨w.heap.size,1,none⟩=some (.int .i64 0):= jF;have x2:w2.cell? ⟨w.heap.size,2,none⟩=some (.int .i64 0):= jG;have x3:w2.cell? ⟨w.heap.size,3,none⟩=some (.string ⟨#[]⟩):= jH;have x4:w2.cell? ⟨w.heap.size,4,none⟩=some (.string ⟨#[]⟩):= jI;have v0:w2.cell? ⟨w.heap.size+1,0,none⟩=some (.int .i64 5):= jJ;have v1:w2.cell? ⟨w.heap.size+1,1,none⟩=some (.int .i64 ↑n):= jK;have v2:w2.cell? ⟨w.heap.size+1,2,none⟩=some (.int .i64 0):= jL;have v3:w2.cell? ⟨w.heap.size+1,3,none⟩=some (.string ⟨t.toArray⟩):= jM;have v4:w2.cell? ⟨w.heap.size+1,4,none⟩=some (.string ⟨#[]⟩):= jN;have hbw2:Below w.heap.size w w2:=(hbw.setCell (p:=⟨w.heap.size+1,3,none⟩) gU _).trans (hb2.mono gZ);have HK3:=ab hk3;clear hk3)
     refine JM (v:=.tuple #[.agg #[.int .i64 5,.int .i64 n,.int .i64 0,.string ⟨t.toArray⟩,.string ⟨u.toArray⟩],.int .i64 (j2+1),.bool true]) j9 rfl ⟨?_,?_⟩
     ·(repeat (first|with_reducible exact Below.refl _ _|with_reducible assumption|(refine Below.setCell ?_ ij _)|(refine Below.alloc ?_ gX _)|(refine Below.drew ?_)))
     ·rw [HE'.out]
      refine⟨by simp;try omega,by simp;try omega,j2+1,by omega,by omega,(lG HK3.out).2.2,by simp⟩
  by_cases c47:c.toNat=47
  ·have e1:List.isPrefixOf [47] (List.drop i l)=true:=by rw [hd,pre1];simp;try omega
   have e2:List.isPrefixOf [43] (List.drop i l)=false:=by rw [hd,pre1];simp;try omega
   have e3:List.isPrefixOf [63] (List.drop i l)=false:=by rw [hd,pre1];simp;try omega
   have e4:List.isPrefixOf [45] (List.drop i l)=false:=by rw [hd,pre1];simp;try omega
   have HE:Hid (R=match r.dropWhile mV with
    | []=>none
    | _::r2=>if qQ (r.takeWhile mV)=0 then none else some (⟨2,n,qQ (r.takeWhile mV),[],[]⟩,r2)):=ab (by
    rw [←HR.out,hd];simp only [mo];rw [Jl c47];rfl)
   have hx:Lib.indexByte (List.drop i l) (125:Int).toNat.toUInt8=match r.dropWhile mV with|[]=>-1|_::_=>((r.takeWhile mV).length:Int)+1:=by
    rw [hd];have e125:(125:Int).toNat.toUInt8=125:=rfl;have hb:(c==125)=false:=by rw [JP];intro e;rw [e] at c47;simp at c47
    rw [e125];simp only [Lib.indexByte,hb];rw [DZ];cases r.dropWhile mV with
    | nil=>rfl
    | cons x y =>
     have h1:((((r.takeWhile mV).length:Int))==-1)=false:=by rw [JP];omega
     simp only [h1,J1,if_false]
   clear hd c43 c45 c63 c47;have hspan:=Jq (p:=mV) (l:=r);generalize r.takeWhile mV=tk at *
   generalize r.dropWhile mV=dw at *
   have HX:=ab hx;have HSP:=ab hspan;clear hx hspan;cases dw with
   | nil =>
    have HX':Hid (Lib.indexByte (List.drop i l) (125:Int).toNat.toUInt8=-1):=HX;have HE':Hid (R=none):=HE;clear HX HE;go_enter Tryz.func126,Tryz.ntmps126
    go_wp2_with (first|(go_at_call 125;refine(nE _ _ _ _ gN gN gU).mono ?_;rintro e w1 ⟨rfl,rfl⟩)|(go_at_call 47;refine(lX _ HX'.out).mono ?_;rintro e w1 ⟨rfl,rfl⟩))
    refine JM (v:=.tuple #[.agg #[.int .i64 0,.int .i64 0,.int .i64 0,.string ⟨#[]⟩,.string ⟨#[]⟩],.int .i64 0,.bool false]) (by simp [results,Tryz.results126,go_sem]) rfl ⟨?_,by rw [HE'.out];rfl⟩
    (repeat (first|with_reducible exact Below.refl _ _|with_reducible assumption|(refine Below.setCell ?_ ij _)|(refine Below.alloc ?_ gX _)|(refine Below.drew ?_)))
   | cons d r2 =>
    have HX':Hid (Lib.indexByte (List.drop i l) (125:Int).toNat.toUInt8=(tk.length:Int)+1):=HX;have HE':Hid (R=if qQ tk=0 then none else some (⟨2,n,qQ tk,[],[]⟩,r2)):=HE;have hlen:i+1+tk.length<l.length:=by
     have h1:=Jp List.length HSP.out;have h2:=Jp List.length Hr.out;simp at h1 h2;omega
    have hK:∀k,k=tk.length→List.take k (List.drop (i+1) l)=tk:=fun k hk=>by
     rw [Hr.out,←HSP.out,hk,List.take_left]
    have HK:=ab hK;clear HX HE hK;go_enter Tryz.func126,Tryz.ntmps126
    have hW:qQ (List.take (i+(tk.length+1)-(i+1)) (List.drop (i+1) l))=qQ tk:=by rw [HK.out _ gN]
    generalize hv:qQ tk=v at *
    have HW:=ab hW;have HV:=ab hv;clear hW hv;by_cases h0:v=0
    ·subst h0
     have HE2:Hid (R=none):=ab (by rw [HE'.out,Jl rfl]);clear HE';have HE':=HE2;go_wp2_with (first|(go_at_call 125;refine(nE _ _ _ _ gN gN gU).mono ?_;rintro e w1 ⟨rfl,rfl⟩)|(go_at_call 47;refine(lX _ HX'.out).mono ?_;rintro e w1 ⟨rfl,rfl⟩)|(go_at_call 130;refine(Way_eq _ HW.out).mono ?_;rintro e w1 ⟨rfl,hb1⟩;obtain⟨hc1,hf1⟩:=ub hb1;have z0:w1.cell? ⟨w.heap.size,0,none⟩=some (.int .i64 0):= gO;have z1:w1.cell? ⟨w.heap.size,1,none⟩=some (.int .i64 0):= gO;have z2:w1.cell? ⟨w.heap.size,2,none⟩=some (.int .i64 0):= gO;have z3:w1.cell? ⟨w.heap.size,3,none⟩=some (.string ⟨#[]⟩):= gO;have z4:w1.cell? ⟨w.heap.size,4,none⟩=some (.string ⟨#[]⟩):= gO;have y0:w1.cell? ⟨w.heap.size+1,0,none⟩=some (.int .i64 4):= gO;have y1:w1.cell? ⟨w.heap.size+1,1,none⟩=some (.int .i64 ↑n):= gO;have y2:w1.cell? ⟨w.heap.size+1,2,none⟩=some (.int .i64 0):= gO;have y3:w1.cell? ⟨w.heap.size+1,3,none⟩=some (.string ⟨#[]⟩):= gO;have y4:w1.cell? ⟨w.heap.size+1,4,none⟩=some (.string ⟨#[]⟩):= gO;have hbw:Below w.heap.size w w1:=((((Below.refl w.heap.size w).alloc (Ju _) _).alloc gU _).trans (hb1.mono gV))))
     exact ff
    ·have HE2:Hid (R=some (⟨2,n,v,[],[]⟩,r2)):=ab (by rw [HE'.out,Jo h0])
     have e0:(v==0)=false:=by simpa using h0
     clear HE' h0;go_wp2_with (first|(go_at_call 125;refine(nE _ _ _ _ gN gN gU).mono ?_;rintro e w1 ⟨rfl,rfl⟩)|(go_at_call 47;refine(lX _ HX'.out).mono ?_;rintro e w1 ⟨rfl,rfl⟩)|(go_at_call 130;refine(Way_eq _ HW.out).mono ?_;rintro e w1 ⟨rfl,hb1⟩;obtain⟨hc1,hf1⟩:=ub hb1;have z0:w1.cell? ⟨w.heap.size,0,none⟩=some (.int .i64 0):= gO;have z1:w1.cell? ⟨w.heap.size,1,none⟩=some (.int .i64 0):= gO;have z2:w1.cell? ⟨w.heap.size,2,none⟩=some (.int .i64 0):= gO;have z3:w1.cell? ⟨w.heap.size,3,none⟩=some (.string ⟨#[]⟩):= gO;have z4:w1.cell? ⟨w.heap.size,4,none⟩=some (.string ⟨#[]⟩):= gO;have y0:w1.cell? ⟨w.heap.size+1,0,none⟩=some (.int .i64 4):= gO;have y1:w1.cell? ⟨w.heap.size+1,1,none⟩=some (.int .i64 ↑n):= gO;have y2:w1.cell? ⟨w.heap.size+1,2,none⟩=some (.int .i64 0):= gO;have y3:w1.cell? ⟨w.heap.size+1,3,none⟩=some (.string ⟨#[]⟩):= gO;have y4:w1.cell? ⟨w.heap.size+1,4,none⟩=some (.string ⟨#[]⟩):= gO;have hbw:Below w.heap.size w w1:=((((Below.refl w.heap.size w).alloc (Ju _) _).alloc gU _).trans (hb1.mono gV))))
     refine JM (v:=.tuple #[.agg #[.int .i64 2,.int .i64 n,.int .i64 v,.string ⟨[].toArray⟩,.string ⟨[].toArray⟩],.int .i64 (i+(tk.length+1)+1),.bool true]) iG rfl ⟨?_,?_⟩
     ·(repeat (first|with_reducible exact Below.refl _ _|with_reducible assumption|(refine Below.setCell ?_ ij _)|(refine Below.alloc ?_ gX _)|(refine Below.drew ?_)))
     ·rw [HE2.out]
      refine⟨by simp,by simp,i+(tk.length+1)+1,by omega,by omega,?_,by simp⟩;rw [show i+(tk.length+1)+1=i+1+(tk.length+1) by omega,←List.drop_drop,Hr.out,←HSP.out,List.drop_append];simp
  ·have e1:List.isPrefixOf [47] (List.drop i l)=false:=by rw [hd,pre1];simp;try omega
   have e2:List.isPrefixOf [43] (List.drop i l)=false:=by rw [hd,pre1];simp;try omega
   have e3:List.isPrefixOf [63] (List.drop i l)=false:=by rw [hd,pre1];simp;try omega
   have e4:List.isPrefixOf [45] (List.drop i l)=false:=by rw [hd,pre1];simp;try omega
   have HE:Hid (R=match lH 125 (c::r) [] with|some (t,_::r2)=>some (⟨4,n,0,[],t⟩,r2)|_=>none):=ab (by
    rw [←HR.out,hd];simp only [mo];rw [Jo c47,Jo c43,Jo c63,Jo c45];rfl)
   clear hd c43 c45 c63 c47;cases hU:lH 125 (c::r) [] with
   | none =>
    have HU:Hid (lH 125 (l.drop ((i:Int)).toNat) []=none):=ab (by rw [Int.toNat_natCast,HD.out];exact hU);exact aF
   | some p =>
    obtain⟨t,s⟩:=p;obtain⟨d,r2,rfl,_⟩:=nZ _ _ _ hU;have HU:Hid (lH 125 (l.drop ((i:Int)).toNat) []=some (t,d::r2)):=ab (by rw [Int.toNat_natCast,HD.out];exact hU);exact aE
end Go.Proofs.YtdcnncgpomcaaaaGreatDoor
