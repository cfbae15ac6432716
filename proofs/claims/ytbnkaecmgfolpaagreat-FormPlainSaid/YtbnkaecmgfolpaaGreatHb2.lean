/- Formats as data: their parts, a slice of them in memory; the plain functions on them. -/
import Derived.Test.YtbnkaecmgfolpaaGreatHb1
import Derived.Lib.Bytealg
set_option maxRecDepth 100000
set_option maxHeartbeats 4000000
namespace Go.Proofs.YtbnkaecmgfolpaaGreat
open Go.RowKit
def Fm.cells (f:Fm):List Value:=[.int .i64 f.kind,.int .i64 f.n,.int .i64 f.cse,.string ⟨(f.thn).toArray⟩,.string ⟨(f.els).toArray⟩]
def kk (fs:List Fm):List Value:=fs.flatMap Fm.cells
theorem mg (fs:List Fm):(kk fs).length=fs.length*5:=by
 induction fs with
 | nil=>rfl
 | cons f fs ih=>simp only [kk,Af,zX] at *;rw [ih];simp [Fm.cells];omega
theorem nf {fs:List Fm} {k:Nat} {f:Fm} (h:fs[k]?=some f) (j:Nat) (hj:j<5):(kk fs)[k*5+j]?=f.cells[j]?:=by
 induction fs generalizing k with
 | nil=>simp at h
 | cons g fs ih =>
  cases k with
  | zero =>
   simp at h;subst h
   simp only [kk,Af,Nat.zero_mul,Nat.zero_add];rw [zZ (by simp [Fm.cells];omega)]
  | succ k =>
   simp only [List.getElem?_cons_succ] at h;simp only [kk,Af];rw [Aa (by simp [Fm.cells];omega)];rw [show (k+1)*5+j-g.cells.length=k*5+j by simp [Fm.cells];omega];exact ih h
theorem Sl.fm {w:World} {B:Nat} {a:Option Addr} {n:Nat} {fs:List Fm} (h:Sl w B a 5 n (kk fs)) {k:Nat} {f:Fm} (hk:fs[k]?=some f) :
  ∃b o,a=some ⟨b,o,none⟩∧b<B∧w.cell? ⟨b,o+k*5,none⟩=some (.int .i64 f.kind)∧w.cell? ⟨b,o+k*5+1,none⟩=some (.int .i64 f.n)∧w.cell? ⟨b,o+k*5+2,none⟩=some (.int .i64 f.cse) ∧
   w.cell? ⟨b,o+k*5+3,none⟩=some (.string ⟨(f.thn).toArray⟩)∧w.cell? ⟨b,o+k*5+4,none⟩=some (.string ⟨(f.els).toArray⟩):=by
 have hlt:=(zQ.1 hk).1;have hn:n=fs.length:=by have:=h.1;rw [mg] at this;omega
 obtain⟨b,o,h1,h2,h3⟩:=h.2 fg;refine⟨b,o,h1,h2,?_,?_,?_,?_,?_⟩
 ·exact h3 (k*5+0) _ (nf hk 0 fg)
 ·exact h3 (k*5+1) _ (nf hk 1 fg)
 ·exact h3 (k*5+2) _ (nf hk 2 fg)
 ·exact h3 (k*5+3) _ (nf hk 3 fg)
 ·exact h3 (k*5+4) _ (nf hk 4 fg)
def kl (f:Fm) (n way thn els:Bool):Bool:=(n||decide (f.n=0))&&(way||decide (f.cse=0))&&(thn||decide (f.thn=[]))&&(els||decide (f.els=[]))
def mayF (f:Fm):Bool :=
 decide (0≤f.n∧f.n≤9999) &&
 (if f.kind=0 then kl f false false true false&&decide (f.thn≠[])
  else if f.kind=1 then kl f true false false false
  else if f.kind=2 then kl f true true false false&&decide (mF f.cse≠[])
  else if f.kind=3 then kl f true false true false
  else if f.kind=4 then kl f true false false true
  else if f.kind=5 then kl f true false true true
  else false)
def mayL:Bool→List Fm→Bool
 | _,[]=>true
 | pt,f::r=>mayF f&&!(decide (f.kind=0)&&pt)&&mayL (decide (f.kind=0)) r
def lC (fs:List Fm):Bool:=mayL false fs
theorem Sl.fs_len {w:World} {B:Nat} {a:Option Addr} {n:Nat} {fs:List Fm} (h:Sl w B a 5 n (kk fs)):n=fs.length:=by
 have:=h.1;rw [mg] at this;omega
theorem oJ (f:Fm) (b1 b2 b3 b4:Bool) (w:World) :
  Calls Tryz.prog 117 #[.agg #[.int .i64 (f).kind,.int .i64 (f).n,.int .i64 (f).cse,.string ⟨((f).thn).toArray⟩,.string ⟨((f).els).toArray⟩],.bool b1,.bool b2,.bool b3,.bool b4] w fun e w'=>e=.returned (.bool (kl f b1 b2 b3 b4))∧Below w.heap.size w w':=by
 generalize hR:kl f b1 b2 b3 b4=R
 have HR:=ab hR;clear hR;cases b1<;>cases b2<;>cases b3<;>cases b4
 all_goals
  go_enter Tryz.func117,Tryz.ntmps117
  go_wp2
  all_goals
   go_ret
   refine⟨i9 ?_,(Below.refl _ _).alloc (zP _) _⟩;rw [←HR.out,Bool.eq_iff_iff];simp [kl, *]
theorem ql (f:Fm) (w:World) :
  Calls Tryz.prog 82 #[.agg #[.int .i64 (f).kind,.int .i64 (f).n,.int .i64 (f).cse,.string ⟨((f).thn).toArray⟩,.string ⟨((f).els).toArray⟩]] w fun e w'=>e=.returned (.bool (mayF f))∧Below w.heap.size w w':=by
 obtain⟨kind,n,cse,thn,els⟩:=f;by_cases hn:0≤n∧n≤9999
 ·obtain⟨hn0,hn1⟩:=hn
  have hz:=fun(n:Int) (w:World)=>r8 n w
  generalize hR:mayF ⟨kind,n,cse,thn,els⟩=R
  have HR:=ab hR;clear hR;have HZ:=ab hz;clear hz;have hk:kind=0∨kind=1∨kind=2∨kind=3∨kind=4∨kind=5∨(¬kind=0∧¬kind=1∧¬kind=2∧¬kind=3∧¬kind=4∧¬kind=5):=fg;have HN:Hid (decide (0≤n∧n≤9999)=true):=ab fr;rcases hk with hk|hk|hk|hk|hk|hk|⟨k0,k1,k2,k3,k4,k5⟩
  ·subst hk
   have HS:Hid (R=(kl ⟨0,n,cse,thn,els⟩ false false true false&&decide (thn≠[]))):=ab (by rw [←HR.out,mayF,HN.out,Ag,zL rfl]);clear HR;by_cases hB:kl ⟨0,n,cse,thn,els⟩ false false true false=true
   ·go_enter Tryz.func82,Tryz.ntmps82
    go_wp2_with (go_at_call 117;refine(oJ ⟨_,n,cse,thn,els⟩ _ _ _ _ _).mono ?_)
    rintro e w1 ⟨rfl,hb1⟩;have c2:w1.cell? ⟨w.heap.size,3,none⟩=some (.string ⟨thn.toArray⟩):=by
     rw [hb1.cell (p:=⟨w.heap.size,3,none⟩) fq];simp
    go_wp2
    go_ret
    refine⟨i9 ?_,((Below.refl _ _).alloc (zP _) _).trans (hb1.mono fq)⟩;rw [HS.out,hB];cases thn<;>rfl
   ·have hB':kl ⟨0,n,cse,thn,els⟩ false false true false=false:=by simpa using hB
    exact b7
  ·subst hk
   have HS:Hid (R=(kl ⟨1,n,cse,thn,els⟩ true false false false)):=ab (by rw [←HR.out,mayF,HN.out,Ag,zO fq,zL rfl]);exact be
  ·subst hk
   have HS:Hid (R=(kl ⟨2,n,cse,thn,els⟩ true true false false&&decide (mF cse≠[]))):=ab (by rw [←HR.out,mayF,HN.out,Ag,zO fq,zO fq,zL rfl]);clear HR;by_cases hB:kl ⟨2,n,cse,thn,els⟩ true true false false=true
   ·go_enter Tryz.func82,Tryz.ntmps82
    go_wp2_with (go_at_call 117;refine(oJ ⟨_,n,cse,thn,els⟩ _ _ _ _ _).mono ?_)
    rintro e w1 ⟨rfl,hb1⟩;have c2:w1.cell? ⟨w.heap.size,2,none⟩=some (.int .i64 cse):=by
     rw [hb1.cell (p:=⟨w.heap.size,2,none⟩) fq];simp
    go_wp2_with (go_at_call 118;refine(HZ.out _ _).mono ?_)
    rintro e w2 ⟨rfl,hb2⟩;go_wp2
    go_ret
    refine⟨i9 ?_,(((Below.refl _ _).alloc (zP _) _).trans (hb1.mono fq)).trans (hb2.mono iq)⟩;rw [HS.out,hB];cases mF cse<;>rfl
   ·have hB':kl ⟨2,n,cse,thn,els⟩ true true false false=false:=by simpa using hB
    exact b7
  ·subst hk
   have HS:Hid (R=(kl ⟨3,n,cse,thn,els⟩ true false true false)):=ab (by rw [←HR.out,mayF,HN.out,Ag,zO fq,zO fq,zO fq,zL rfl]);exact be
  ·subst hk
   have HS:Hid (R=(kl ⟨4,n,cse,thn,els⟩ true false false true)):=ab (by rw [←HR.out,mayF,HN.out,Ag,zO fq,zO fq,zO fq,zO fq,zL rfl]);exact be
  ·subst hk
   have HS:Hid (R=(kl ⟨5,n,cse,thn,els⟩ true false true true)):=ab (by rw [←HR.out,mayF,HN.out,Ag,zO fq,zO fq,zO fq,zO fq,zO fq,zL rfl]);exact be
  ·have HS:Hid (R=false):=ab (by rw [←HR.out,mayF,HN.out,Ag,zO fg,zO fg,zO fg,zO fg,zO fg,zO fg])
   clear HR;have e0:(kind==0)=false:=by simpa using k0
   have e1:(kind==1)=false:=by simpa using k1
   have e2:(kind==2)=false:=by simpa using k2
   have e3:(kind==3)=false:=by simpa using k3
   have e4:(kind==4)=false:=by simpa using k4
   have e5:(kind==5)=false:=by simpa using k5
   clear k0 k1 k2 k3 k4 k5;go_enter Tryz.func82,Tryz.ntmps82
   go_wp2
   go_ret
   exact⟨i9 HS.out.symm,(Below.refl _ _).alloc (zP _) _⟩
 ·have HS:Hid (mayF ⟨kind,n,cse,thn,els⟩=false):=ab (by unfold mayF;rw [Ah hn,Bool.false_and])
  rw [HS.out];go_enter Tryz.func82,Tryz.ntmps82
  go_wp2
  all_goals first
   | (exfalso;omega)
   | (go_ret;exact⟨rfl,(Below.refl _ _).alloc (zP _) _⟩)
theorem uE (a:Option Addr) (n c:Nat) (fs:List Fm) (w:World) (h:Sl w w.heap.size a 5 n (kk fs)) (hn:n≤1000000) :
  Calls Tryz.prog 51 #[.slice a n c] w fun e w'=>e=.returned (.bool (lC fs))∧Below w.heap.size w w':=by
 generalize hR:lC fs=R
 have HR:=ab hR;clear hR;have HR0:Hid (mayL false (fs.drop 0)=R):=HR;have Hn:=ab h.fs_len;have HSl:=ab h;clear HR h;go_enter Tryz.func51,Tryz.ntmps51
 go_wp2
 go_loopw [7] (fun q wr=>∃(k:Nat) (pt:Bool),k≤n∧q=.int .i64 k∧Below w.heap.size w wr∧Hid ((k=0→pt=false)∧(0<k→∀g,fs[k-1]?=some g→decide (g.kind=0)=pt))∧Hid (mayL pt (fs.drop k)=R)) (fun q _=>n-(intOf q).toNat)
 case atStart=>exact⟨0,false,by omega,rfl,Below.refl _ _,ab ⟨fun _=>rfl,fun h=>by omega⟩,HR0⟩
 case round =>
  obtain⟨k,pt,hk,rfl,hb,HP,HF⟩:=hrel;clear HR0;have hB:=hb.size;cases hd:fs.drop k with
  | nil =>
   have h2:n≤k:=by have:=Hn.out;simp at hd;omega
   have HF':Hid (mayL pt []=R):=ab gr;clear hd HF;go_wp2
   go_ret
   exact⟨i9 HF'.out,hb⟩
  | cons f r =>
   obtain⟨h2,h3,hr⟩:=js hd;have HF':Hid (mayL pt (f::r)=R):=ab gr;have Hr:=ab hr;have HK:=ab h3;have hkn:k<n:=by have:=Hn.out;omega
   obtain⟨b,o,rfl,hbB,c0,c1,c2,c3,c4⟩:=(HSl.out.keep hb).fm h3;clear hd HF hr h2 h3;obtain⟨kind,fn,cse,thn,els⟩:=f;by_cases hm:mayF ⟨kind,fn,cse,thn,els⟩=true
   ·have HM:=ab hm
    have c5:∀w1,Below (wr.heap.size+1) (wr.alloc (.cells #[.int .i64 kind,.int .i64 fn,.int .i64 cse,.string ⟨thn.toArray⟩,.string ⟨els.toArray⟩] 43)) w1→w1.cell? ⟨wr.heap.size,0,none⟩=some (.int .i64 kind):=fun w1 h1=>by
     rw [h1.cell (p:=⟨wr.heap.size,0,none⟩) fq];simp
    have C5:=ab c5;clear c5;by_cases hk0:kind=0
    ·subst hk0
     by_cases hkk:k=0
     ·have hpt:=HP.out.1 hkk
      have hkk':k≤0:=fg;subst hpt;have HKK:=ab hkk;clear hkk;go_wp2_with (go_at_call 82;refine(ql ⟨0,fn,cse,thn,els⟩ _).mono ?_;rintro e w1 ⟨rfl,hb1⟩;have d5:=C5.out w1 (by simpa using hb1);have hbw:Below w.heap.size wr w1:=((Below.refl _ _).alloc hB _).trans (hb1.mono fr))
      clear hm;go_roundw
      case rel =>
       refine⟨k+1,true,by omega,by go_num,hb.trans hbw,ab ⟨fun h=>by omega,fun _ g hg=>?_⟩,?_⟩
       ·exact cq
       ·refine ab ?_
        rw [Hr.out,←HF'.out];conv=>rhs;unfold mayL
        (rw [HM.out];rfl)
      case measure=>simp [intOf];omega
     ·obtain⟨g,hg⟩:∃g,fs[k-1]?=some g:=⟨fs[k-1]'(by have:=Hn.out;omega),zN (by have:=Hn.out;omega)⟩
      have hpg:=HP.out.2 fg g hg;obtain⟨b',o',hab,_,g0,_⟩:=HSl.out.fm hg;have hbo:b'=b∧o'=o:=by simpa using hab.symm
      obtain⟨rfl,rfl⟩:=hbo;have hkp:0<k:=fg;have ek:((k-1:Nat):Int)=(k:Int)-1:=fg;have e1:(k:Int)-1<n∧0≤(k:Int)-1:=fg;obtain⟨gk,gn,gc,gt,ge⟩:=g;have G0:=ab g0;have HPG:=ab hpg;clear hab g0 hpg hkk hg;by_cases hgk:gk=0
      ·subst hgk
       go_wp2_with (go_at_call 82;refine(ql ⟨0,fn,cse,thn,els⟩ _).mono ?_;rintro e w1 ⟨rfl,hb1⟩;have d5:=C5.out w1 (by simpa using hb1);have hbw:Below w.heap.size wr w1:=((Below.refl _ _).alloc hB _).trans (hb1.mono fr);have g1:w1.cell? ⟨b',o'+(k-1)*5,none⟩=some (.int .i64 0):=((hb.trans hbw).cell (p:=⟨b',o'+(k-1)*5,none⟩) hbB).trans G0.out)
       go_ret
       refine⟨i9 ?_,hb.trans hbw⟩;rw [←HF'.out,mayL,←HPG.out];simp
      ·have eg:(gk==0)=false:=by simpa using hgk
       have HGK:=ab hgk;clear hgk;go_wp2_with (go_at_call 82;refine(ql ⟨0,fn,cse,thn,els⟩ _).mono ?_;rintro e w1 ⟨rfl,hb1⟩;have d5:=C5.out w1 (by simpa using hb1);have hbw:Below w.heap.size wr w1:=((Below.refl _ _).alloc hB _).trans (hb1.mono fr);have g1:w1.cell? ⟨b',o'+(k-1)*5,none⟩=some (.int .i64 gk):=((hb.trans hbw).cell (p:=⟨b',o'+(k-1)*5,none⟩) hbB).trans G0.out)
       clear hm;go_roundw
       case rel =>
        refine⟨k+1,true,by omega,by go_num,hb.trans hbw,ab ⟨fun h=>by omega,fun _ g hg=>?_⟩,?_⟩
        ·exact cq
        ·refine ab ?_
         rw [Hr.out,←HF'.out];conv=>rhs;unfold mayL
         (rw [HM.out,←HPG.out];simp [HGK.out])
       case measure=>simp [intOf];omega
    ·have e0:(kind==0)=false:=by simpa using hk0
     have HK0:=ab hk0;clear hk0;go_wp2_with (go_at_call 82;refine(ql ⟨kind,fn,cse,thn,els⟩ _).mono ?_;rintro e w1 ⟨rfl,hb1⟩;have d5:=C5.out w1 (by simpa using hb1);have hbw:Below w.heap.size wr w1:=((Below.refl _ _).alloc hB _).trans (hb1.mono fr))
     clear hm;go_roundw
     case rel =>
      refine⟨k+1,false,by omega,by go_num,hb.trans hbw,ab ⟨fun h=>by omega,fun _ g hg=>?_⟩,?_⟩
      ·exact cq
      ·refine ab ?_
       rw [Hr.out,←HF'.out];conv=>rhs;unfold mayL
       (rw [HM.out];simp [HK0.out])
     case measure=>simp [intOf];omega
   ·have hm':mayF ⟨kind,fn,cse,thn,els⟩=false:=by simpa using hm
    clear hm;go_wp2_with (go_at_call 82;refine(ql ⟨kind,fn,cse,thn,els⟩ _).mono ?_;rintro e w1 ⟨rfl,hb1⟩)
    go_ret
    refine⟨i9 ?_,hb.trans (((Below.refl _ _).alloc hB _).trans (hb1.mono fr))⟩;rw [←HF'.out,mayL,hm'];rfl
theorem mT (l:Str) (c:Int) (w:World) :
  Calls Tryz.prog 70 #[.string ⟨l.toArray⟩,.int .u8 c] w fun e w'=>e=.returned (.int .i64 (Lib.indexByte l c.toNat.toUInt8))∧w=w':=by
 go_enter Tryz.func70,Tryz.ntmps70
 go_wp2
 rw [run_callFunc_extern Tryz.func101 fp fp fp (e:=Extern.BytealgIndexByte.indexByte) fp,Lib.run_indexByteString];simp only [Result.andThen];rw [Oper.upon_value];exact cM
theorem lU (l:Str) (c:Int) (w:World) :
  Calls Tryz.prog 36 #[.string ⟨l.toArray⟩,.int .u8 c] w fun e w'=>e=.returned (.int .i64 (Lib.indexByte l c.toNat.toUInt8))∧w=w':=by
 go_enter Tryz.func36,Tryz.ntmps36
 go_wp2_with (go_at_call 70;refine(mT _ _ _).mono ?_;rintro e w1 ⟨rfl,rfl⟩)
 go_ret
 exact⟨rfl,rfl⟩
theorem idx_ge (l:Str) (c:UInt8):0≤Lib.indexByte l c↔l.contains c=true:=by
 induction l with
 | nil=>simp [Lib.indexByte]
 | cons b l ih =>
  have:=Lib.indexByte_ge l c
  unfold Lib.indexByte;rw [List.contains_cons,Ai,←ih];by_cases h:b=c
  ·simp [h]
  ·have h':(b==c)=false:=fS
   have h'':¬(c==b)=true:=by simpa using (fun e=>h e.symm)
   rw [h',zO fq];by_cases h1:Lib.indexByte l c=-1
   ·simp [h1];exact fun e=>h e.symm
   ·have h2:¬(Lib.indexByte l c==-1)=true:=by simpa using h1
    rw [zO h2];simp [h''];omega
theorem idx_dec (l:Str) (c:UInt8):decide (0≤Lib.indexByte l c)=l.contains c:=by
 rw [Bool.eq_iff_iff,decide_eq_true_iff];exact idx_ge l c
theorem j6 {l:Str} {c k:Int} (w:World) (h:Lib.indexByte l c.toNat.toUInt8=k) :
  Calls Tryz.prog 36 #[.string ⟨l.toArray⟩,.int .u8 c] w fun e w'=>e=.returned (.int .i64 k)∧w=w':=by
 subst h;exact lU l c w
theorem pre_eq (l p:Str):p.isPrefixOf l=(List.take p.length l==p):=by
 rw [Bool.eq_iff_iff,List.isPrefixOf_iff_prefix,zI,List.prefix_iff_eq_take];exact⟨fun h=>h.symm,fun h=>h.symm⟩
theorem kf (l p:Str) (i:Int) (w:World) (h0:0≤i) (hs:l.length≤100000000) (hp:p.length≤100000000) :
  Calls Tryz.prog 99 #[.string ⟨l.toArray⟩,.int .i64 i,.string ⟨p.toArray⟩] w fun e w'=>e=.returned (.bool (p.isPrefixOf (l.drop i.toNat)))∧w=w':=by
 obtain⟨n,rfl⟩:=Int.eq_ofNat_of_zero_le h0;rw [Int.toNat_natCast];generalize hR:List.isPrefixOf p (List.drop n l)=R
 have HR:=ab hR;clear hR;go_enter Tryz.func99,Tryz.ntmps99
 go_wp2
 ·rename_i h1 h2
  go_ret;refine⟨?_,rfl⟩;rw [←HR.out,List.drop_of_length_le fg,h2];rfl
 ·rename_i h1 h2
  go_ret;refine⟨?_,rfl⟩;rw [←HR.out,List.drop_of_length_le fg];cases p<;>simp_all
 ·go_ret;refine⟨?_,rfl⟩;rw [←HR.out,pre_eq];simp
 ·rename_i h1 h2
  go_ret;refine⟨?_,rfl⟩;rw [←HR.out,pre_eq]
  have:(List.take p.length (List.drop n l))≠p:=fun h=>by
   have:=Ad List.length h;simp at this;omega
  simp [this]
theorem nt (l p:Str) (i:Int) (w:World) (h0:0≤i) (h1:i≤100000000) (_hs:l.length≤100000000) (_hp:p.length≤100000000) :
  Calls Tryz.prog 69 #[.string ⟨l.toArray⟩,.int .i64 i,.string ⟨p.toArray⟩] w fun e w'=>e=.returned (.bool (mG (l.drop (i.toNat+1)) p))∧w=w':=by
 obtain⟨n,rfl⟩:=Int.eq_ofNat_of_zero_le h0;rw [Int.toNat_natCast];cases hd:l.drop (n+1) with
 | nil =>
  have h2:=ki hd;clear hd;go_enter Tryz.func69,Tryz.ntmps69
  exact cM
 | cons c r =>
  obtain⟨h2,h3,_⟩:=jv hd;clear hd;go_enter Tryz.func69,Tryz.ntmps69
  go_wp2_with (go_at_call 36;refine(lU _ _ _).mono ?_;rintro e w1 ⟨rfl,rfl⟩)
  go_ret
  refine⟨?_,rfl⟩;simp [mG,idx_dec]
def rM (l:Str) (i:Int) (R:Option (Nat × Str)) (e:Ending):Prop :=
 match R with
 | none=>e=.returned (.tuple #[.int .i64 0,.int .i64 i,.bool false])
 | some (n,r)=>n<10000∧∃j:Nat,i<j∧j≤l.length∧l.drop j=r∧e=.returned (.tuple #[.int .i64 n,.int .i64 j,.bool true])
theorem ui (l:Str) (i:Int) (w:World) (h0:0≤i) (h1:i≤100000000) (hs:l.length≤100000000) :
  Calls Tryz.prog 98 #[.string ⟨l.toArray⟩,.int .i64 i] w fun e w'=>w=w'∧rM l i (n9 (l.drop i.toNat)) e:=by
 obtain⟨i,rfl⟩:=Int.eq_ofNat_of_zero_le h0;rw [Int.toNat_natCast];generalize hR:n9 (l.drop i)=R
 have HR:Hid (oW (l.drop (i+0)) 0 0=R):=ab hR;clear hR;go_enter Tryz.func98,Tryz.ntmps98
 go_wp2
 go_loop [7,8] (fun n q=>∃k m:Nat,k≤4∧(k=0∨i+k≤l.length)∧m<10 ^ k∧q=.int .i64 ((i+k:Nat):Int)∧n=.int .i64 (m:Int)∧Hid (oW (l.drop (i+k)) k m=R)) (fun _ q=>l.length-(intOf q).toNat)
 case atStart=>exact⟨0,0,by omega,by omega,by omega,by simp,rfl,HR⟩
 case round =>
  obtain⟨k,m,hk,hik,hm,rfl,rfl,HF⟩:=hrel;clear HR;have hm4:m<10000:=zS hm (Nat.pow_le_pow_right fg hk);have Hm:=ab hm;clear hm;cases hd:l.drop (i+k) with
  | nil =>
   have h2:=ki hd;have HF':Hid (oW [] k m=R):=ab gr;clear hd HF;go_wp2
   go_ret3
   refine⟨rfl,?_⟩;rw [←HF'.out];unfold oW;by_cases h0k:0<k
   ·rw [zL h0k];exact⟨hm4,i+k,by omega,by omega,List.drop_of_length_le h2,by simp;omega⟩
   ·exact dO
  | cons c r =>
   obtain⟨h2,h3,hr⟩:=jv hd;have HF':Hid (oW (c::r) k m=R):=ab gr;have Hr:=ab hr;clear hd HF hr;go_wp2
   ·rename_i g1 g2
    go_ret3
    refine⟨rfl,?_⟩;have hk4:k=4:=by simp at g2;omega
    rw [←HF'.out];unfold oW;rw [zL fg,zL hk4];unfold rM;simp
   ·rename_i g1 g2
    go_round
    have hk4:¬k=4:=by simp at g2;omega
    case rel =>
     refine⟨k+1,10*m+(c.toNat-48),by omega,by omega,?_,by go_num,?_,?_⟩
     ·have:=Hm.out;rw [Nat.pow_succ];omega
     ·congr 1;omega
     ·refine ab ?_
      rw [←HF'.out,show i+(k+1)=i+k+1 from rfl,Hr.out];conv=>rhs;unfold oW
      rw [zL fg,zO hk4]
    case measure=>simp [intOf];omega
   all_goals
    go_ret3
    refine⟨rfl,?_⟩;rw [←HF'.out];unfold oW;rw [zO fg];by_cases h0k:0<k
    ·rw [zL h0k];exact⟨hm4,i+k,by omega,by omega,by rw [List.drop_eq_getElem_cons h2,h3,Hr.out],by simp;omega⟩
    ·exact dO
def yT (l:Str) (i:Nat) (R:Option (Str × Str)) (e:Ending):Prop :=
 match R with
 | none=>e=.returned (.tuple #[.string ⟨[].toArray⟩,.int .i64 0,.bool false])
 | some (t,r)=>t.length≤l.length∧∃j:Nat,i≤j∧j<l.length∧l.drop j=r∧e=.returned (.tuple #[.string ⟨t.toArray⟩,.int .i64 j,.bool true])
theorem tF (l:Str) (i one:Int) (w:World) (h0:0≤i) (h1:i≤1000000) (hs:l.length≤1000000) (ho:0≤one) :
  Calls Tryz.prog 139 #[.string ⟨l.toArray⟩,.int .i64 i,.int .u8 one] w fun e w'=>Below w.heap.size w w'∧yT l i.toNat (ji one (l.drop i.toNat) []) e:=by
 obtain⟨i,rfl⟩:=Int.eq_ofNat_of_zero_le h0;rw [Int.toNat_natCast];generalize hR:ji one (l.drop i) []=R
 have HR:=ab hR;clear hR;obtain⟨iu,hiu⟩:=info_parts oM;go_enter Tryz.func139,Tryz.ntmps139
 go_wp2
 go_loopw [1,9] (fun q t wr=>∃(j:Nat) (tx:Str),i≤j∧j≤2000000∧q=.int .i64 j∧wr.ownsRow w.heap.size 5 1 t tx.length (jF tx)∧Below w.heap.size w wr∧tx.length≤l.length∧tx.length+i≤j∧Hid (ji one (l.drop j) tx=R)) (fun q _ _=>l.length-(intOf q).toNat)
 case atStart=>exact⟨i,[],by omega,by omega,rfl,World.ownsRow_nil _ _ _ _,Below.refl _ _,by simp,by simp,HR⟩
 case round =>
  obtain⟨j,tx,hij,hj,rfl,hown,hb,htx,htj,HF⟩:=hrel;clear HR;have hB:=hb.size;have hcv:=pl (P:=Tryz.prog) (src:=67) (dst:=9) Tryz.underlying67 Tryz.underlying5 Tryz.underlying9 hown;cases hd:l.drop j with
  | nil =>
   have h2:=ki hd;have HF':Hid (ji one [] tx=R):=ab gr;clear hd HF;go_wp2
   go_ret3
   refine⟨hb,?_⟩;rw [←HF'.out];rfl
  | cons c r =>
   obtain⟨h2,h3,hr⟩:=jv hd;have HF':Hid (ji one (c::r) tx=R):=ab gr;have Hr:=ab hr;clear HF hr;by_cases hc:c.toNat=one.toNat
   ·have HD:=ab hd;clear hd
    have hbc:((c.toNat:Int)==one)=true:=by rw [zI];omega
    have Hc:=ab hc;clear hc;go_wp2
    go_ret3
    refine⟨hb,?_⟩;rw [←HF'.out];have:ji one (c::r) tx=some (tx,c::r):=by cases r<;>simp [ji,Hc.out]
    rw [this];exact⟨by omega,j,by omega,h2,HD.out,by simp⟩
   ·have hbc:((c.toNat:Int)==one)=false:=by rw [Aj];omega
    have Hc:=ab hc;clear hc hd;by_cases hA:c.toNat=92∧mG r five=true
    ·obtain⟨hA1,hA2⟩:=hA
     cases r with
     | nil=>simp [mG] at hA2
     | cons d r' =>
      obtain⟨k2,k3,kr⟩:=jv Hr.out;have Hkr:=ab kr;clear kr;have HS:Hid (ji one (c::d::r') tx=ji one r' (tx++[d])):=ab (by
       conv=>lhs;unfold ji
       rw [zO Hc.out,zL ⟨hA1,hA2⟩])
      have hst:mG (List.drop (j+1) l) [36,125,92,47,58]=true:=by rw [Hr.out];exact hA2
      have hA1':((c.toNat:Int)==92)=true:=by simp [hA1]
      clear hA1 hA2;go_wp2_with (first
       | (go_at_call 69;refine(nt _ _ _ _ fg fg fg fq).mono ?_;rintro e w1 ⟨rfl,rfl⟩)
       | (at_builtin;refine jU w.heap.size 5 rfl _ _ 67 rfl Tryz.underlying67 hiu rfl fo rfl hown rfl f9 rfl fz fg fo hB ?_;intro v1 w1 hown1 hg1 hb1 hne1))
      clear hst hA1';go_roundw
      case rel =>
       refine⟨j+2,tx++[d],by omega,by omega,by go_num,?_,hb.trans hb1,by simp;omega,by simp;omega,?_⟩
       ·simpa [jF] using hown1
       ·exact ab (by rw [Hkr.out,←HS.out];exact HF'.out)
      case measure=>simp [intOf];omega
    ·have HS:Hid (ji one (c::r) tx=ji one r (tx++[c])):=ab (by
      cases r with
      | nil=>simp [ji,Hc.out]
      | cons d r' =>
       conv=>lhs;unfold ji
       rw [zO Hc.out];exact zO hA)
     by_cases h92:c.toNat=92
     ·have hst:mG (List.drop (j+1) l) [36,125,92,47,58]=false:=by rw [Hr.out];simpa [h92,five] using hA
      have hA1':((c.toNat:Int)==92)=true:= gu;clear hA h92;go_wp2_with (first
       | (go_at_call 69;refine(nt _ _ _ _ fg fg fg fq).mono ?_;rintro e w1 ⟨rfl,rfl⟩)
       | (at_builtin;refine jU w.heap.size 5 rfl _ _ 67 rfl Tryz.underlying67 hiu rfl fo rfl hown rfl f9 rfl fz fg fo hB ?_;intro v1 w1 hown1 hg1 hb1 hne1))
      clear hst hA1';exact cj
     ·have hA1':((c.toNat:Int)==92)=false:= fR
      clear hA h92;go_wp2_with (at_builtin;refine jU w.heap.size 5 rfl _ _ 67 rfl Tryz.underlying67 hiu rfl fo rfl hown rfl f9 rfl fz fg fo hB ?_;intro v1 w1 hown1 hg1 hb1 hne1)
      clear hA1';exact cj
theorem vl (r:Str):Lib.indexByte r 125=match r.dropWhile kq with|[]=>-1|_::_=>((r.takeWhile kq).length:Int):=by
 induction r with
 | nil=>rfl
 | cons b r ih =>
  by_cases h:b.toNat=125
  ·have hb:b=125:=zK.1 h
   subst hb;rfl
  ·have hb:(b==125)=false:=by rw [Aj];intro e;exact h (by rw [e];rfl)
   have hd:kq b=true:=by simpa [kq] using h
   rw [List.dropWhile_cons_of_pos hd,List.takeWhile_cons_of_pos hd];simp only [Lib.indexByte,hb,ih];cases r.dropWhile kq with
   | nil=>rfl
   | cons x y =>
    have h1:((((r.takeWhile kq).length:Int))==-1)=false:=by rw [Aj];omega
    simp only [h1,Ak,if_false,zW];omega
theorem Way_eq {s:Str} {v:Int} (w:World) (h:nM s=v) :
  Calls Tryz.prog 138 #[.string ⟨s.toArray⟩] w fun e w'=>e=.returned (.int .i64 v)∧Below w.heap.size w w':=by
 subst h;exact Way_any s w
theorem nx {l t r:Str} {i one:Int} (w:World) (h0:0≤i) (h1:i≤1000000) (hs:l.length≤1000000) (ho:0≤one) (hU:ji one (l.drop i.toNat) []=some (t,r)) :
  Calls Tryz.prog 139 #[.string ⟨l.toArray⟩,.int .i64 i,.int .u8 one] w fun e w'=>Below w.heap.size w w'∧t.length≤l.length∧∃j:Nat,i≤j∧j<l.length∧l.drop j=r∧e=.returned (.tuple #[.string ⟨t.toArray⟩,.int .i64 j,.bool true]):=by
 refine(tF l i one w h0 h1 hs ho).mono ?_
 rintro e w1 ⟨hb,hp⟩;rw [hU] at hp;obtain⟨h2,j,h3,h4,h5,h6⟩:=hp;exact⟨hb,h2,j,by omega,h4,h5,h6⟩
theorem l5 {l:Str} {i one:Int} (w:World) (h0:0≤i) (h1:i≤1000000) (hs:l.length≤1000000) (ho:0≤one) (hU:ji one (l.drop i.toNat) []=none) :
  Calls Tryz.prog 139 #[.string ⟨l.toArray⟩,.int .i64 i,.int .u8 one] w fun e w'=>Below w.heap.size w w'∧e=.returned (.tuple #[.string ⟨[].toArray⟩,.int .i64 0,.bool false]):=by
 refine(tF l i one w h0 h1 hs ho).mono ?_
 rintro e w1 ⟨hb,hp⟩;rw [hU] at hp;exact⟨hb,hp⟩
def vy (l:Str) (i:Nat) (R:Option (Fm × Str)) (e:Ending):Prop :=
 match R with
 | none=>e=.returned (.tuple #[.agg #[.int .i64 0,.int .i64 0,.int .i64 0,.string ⟨#[]⟩,.string ⟨#[]⟩],.int .i64 0,.bool false])
 | some (f,r)=>f.thn.length≤l.length∧f.els.length≤l.length∧∃j:Nat,i<j∧j≤l.length∧l.drop j=r∧e=.returned (.tuple #[.agg #[.int .i64 (f).kind,.int .i64 (f).n,.int .i64 (f).cse,.string ⟨((f).thn).toArray⟩,.string ⟨((f).els).toArray⟩],.int .i64 j,.bool true])
theorem wB (l:Str) (i n:Nat) (w:World) (h1:i≤900000) (hs:l.length≤900000) :
  Calls Tryz.prog 100 #[.string ⟨l.toArray⟩,.int .i64 i,.int .i64 n] w fun e w'=>Below w.heap.size w w'∧vy l i (km (l.drop i) n) e:=by
 generalize hR:km (l.drop i) n=R
 have HR:=ab hR;clear hR;cases hd:l.drop i with
 | nil =>
  have h2:=ki hd;have hU:ji 125 (l.drop (i:Int).toNat) []=none:=by rw [Int.toNat_natCast,hd];rfl
  have HE:Hid (R=none):=ab (by rw [←HR.out,hd];rfl);have hh:∀p:Str,p.isPrefixOf (l.drop (i:Int).toNat)=p.isPrefixOf []:=fun p=>by rw [Int.toNat_natCast,hd]
  have HU:=ab hU;have HH:=ab hh;have e1:List.isPrefixOf [47] (List.drop i l)=false:=by rw [hd];rfl
  have e2:List.isPrefixOf [43] (List.drop i l)=false:=by rw [hd];rfl
  have e3:List.isPrefixOf [63] (List.drop i l)=false:=by rw [hd];rfl
  have e4:List.isPrefixOf [45] (List.drop i l)=false:=by rw [hd];rfl
  clear hd hU hh;go_enter Tryz.func100,Tryz.ntmps100
  go_wp2_with (first
   | (go_at_call 99;refine(kf _ _ _ _ fg fg fq).mono ?_;rintro e w1 ⟨rfl,rfl⟩)
   | (go_at_call 139;refine(l5 _ fg fg fg fg HU.out).mono ?_;rintro e w1 ⟨hb1,rfl⟩;obtain⟨hc1,hf1⟩:=oY hb1;have z0:w1.cell? ⟨w.heap.size,0,none⟩=some (.int .i64 0):= fh;have z1:w1.cell? ⟨w.heap.size,1,none⟩=some (.int .i64 0):= fh;have z2:w1.cell? ⟨w.heap.size,2,none⟩=some (.int .i64 0):= fh;have z3:w1.cell? ⟨w.heap.size,3,none⟩=some (.string ⟨#[]⟩):= fh;have z4:w1.cell? ⟨w.heap.size,4,none⟩=some (.string ⟨#[]⟩):= fh;have hbw:Below w.heap.size w w1:=((((Below.refl w.heap.size w).alloc (zP _) _).alloc fq _).trans (hb1.mono fr))))
  refine Al (v:=.tuple #[.agg #[.int .i64 0,.int .i64 0,.int .i64 0,.string ⟨#[]⟩,.string ⟨#[]⟩],.int .i64 0,.bool false]) fK rfl ⟨?_,by rw [HE.out];rfl⟩
  (repeat (first|with_reducible exact Below.refl _ _|with_reducible assumption|(refine Below.setCell ?_ fD _)|(refine Below.alloc ?_ fw _)|(refine Below.drew ?_)))
 | cons c r =>
  obtain⟨h2,h3,hr⟩:=jv hd;have Hr:=ab hr;have HD:=ab hd;clear hr h3;by_cases c43:c.toNat=43
  ·have e1:List.isPrefixOf [47] (List.drop i l)=false:=by rw [hd,pre1];simp;try omega
   have e2:List.isPrefixOf [43] (List.drop i l)=true:=by rw [hd,pre1];simp;try omega
   have e3:List.isPrefixOf [63] (List.drop i l)=false:=by rw [hd,pre1];simp;try omega
   have e4:List.isPrefixOf [45] (List.drop i l)=false:=by rw [hd,pre1];simp;try omega
   have HE:Hid (R=match ji 125 r [] with|some (t,_::r2)=>some (⟨3,n,0,t,[]⟩,r2)|_=>none):=ab (by
    rw [←HR.out,hd];simp only [km];rw [zO fg,zL c43];rfl)
   clear hd c43;cases hU:ji 125 r [] with
   | none =>
    have HU:Hid (ji 125 (l.drop ((i:Int)+1).toNat) []=none):=ab fJ;have HE':Hid (R=none):=ab iB;clear hU HE;go_enter Tryz.func100,Tryz.ntmps100
    go_wp2_with (first|(go_at_call 99;refine(kf _ _ _ _ fg fg fq).mono ?_;rintro e w1 ⟨rfl,rfl⟩)|(go_at_call 139;refine(l5 _ fg fg fg fg HU.out).mono ?_;rintro e w1 ⟨hb1,rfl⟩;obtain⟨hc1,hf1⟩:=oY hb1;have z0:w1.cell? ⟨w.heap.size,0,none⟩=some (.int .i64 0):= fh;have z1:w1.cell? ⟨w.heap.size,1,none⟩=some (.int .i64 0):= fh;have z2:w1.cell? ⟨w.heap.size,2,none⟩=some (.int .i64 0):= fh;have z3:w1.cell? ⟨w.heap.size,3,none⟩=some (.string ⟨#[]⟩):= fh;have z4:w1.cell? ⟨w.heap.size,4,none⟩=some (.string ⟨#[]⟩):= fh;have y0:w1.cell? ⟨w.heap.size+1,0,none⟩=some (.int .i64 3):= fh;have y1:w1.cell? ⟨w.heap.size+1,1,none⟩=some (.int .i64 ↑n):= fh;have y2:w1.cell? ⟨w.heap.size+1,2,none⟩=some (.int .i64 0):= fh;have y3:w1.cell? ⟨w.heap.size+1,3,none⟩=some (.string ⟨#[]⟩):= fh;have y4:w1.cell? ⟨w.heap.size+1,4,none⟩=some (.string ⟨#[]⟩):= fh;have hbw:Below w.heap.size w w1:=((((Below.refl w.heap.size w).alloc (zP _) _).alloc fq _).trans (hb1.mono fr))))
    exact dZ
   | some p =>
    obtain⟨t,s⟩:=p;obtain⟨d,r2,rfl,_⟩:=kt _ _ _ hU;have HU:Hid (ji 125 (l.drop ((i:Int)+1).toNat) []=some (t,d::r2)):=ab fJ;have HE':Hid (R=some (⟨3,n,0,t,[]⟩,r2)):=ab iB;clear hU HE;go_enter Tryz.func100,Tryz.ntmps100
    go_wp2_with (first|(go_at_call 99;refine(kf _ _ _ _ fg fg fq).mono ?_;rintro e w1 ⟨rfl,rfl⟩)|(go_at_call 139;refine(nx _ fg fg fg fg HU.out).mono ?_;rintro e w1 ⟨hb1,hlt,j,hj1,hj2,hj3,rfl⟩;obtain⟨hc1,hf1⟩:=oY hb1;have z0:w1.cell? ⟨w.heap.size,0,none⟩=some (.int .i64 0):= fh;have z1:w1.cell? ⟨w.heap.size,1,none⟩=some (.int .i64 0):= fh;have z2:w1.cell? ⟨w.heap.size,2,none⟩=some (.int .i64 0):= fh;have z3:w1.cell? ⟨w.heap.size,3,none⟩=some (.string ⟨#[]⟩):= fh;have z4:w1.cell? ⟨w.heap.size,4,none⟩=some (.string ⟨#[]⟩):= fh;have y0:w1.cell? ⟨w.heap.size+1,0,none⟩=some (.int .i64 3):= fh;have y1:w1.cell? ⟨w.heap.size+1,1,none⟩=some (.int .i64 ↑n):= fh;have y2:w1.cell? ⟨w.heap.size+1,2,none⟩=some (.int .i64 0):= fh;have y3:w1.cell? ⟨w.heap.size+1,3,none⟩=some (.string ⟨#[]⟩):= fh;have y4:w1.cell? ⟨w.heap.size+1,4,none⟩=some (.string ⟨#[]⟩):= fh;have hbw:Below w.heap.size w w1:=((((Below.refl w.heap.size w).alloc (zP _) _).alloc fq _).trans (hb1.mono fr));have HJ3:=ab hj3;clear hj3))
    refine Al (v:=.tuple #[.agg #[.int .i64 3,.int .i64 n,.int .i64 0,.string ⟨t.toArray⟩,.string ⟨[].toArray⟩],.int .i64 (j+1),.bool true]) fK rfl ⟨?_,?_⟩
    ·(repeat (first|with_reducible exact Below.refl _ _|with_reducible assumption|(refine Below.setCell ?_ fD _)|(refine Below.alloc ?_ fw _)|(refine Below.drew ?_)))
    ·rw [HE'.out]
     exact eQ
  by_cases c45:c.toNat=45
  ·have e1:List.isPrefixOf [47] (List.drop i l)=false:=by rw [hd,pre1];simp;try omega
   have e2:List.isPrefixOf [43] (List.drop i l)=false:=by rw [hd,pre1];simp;try omega
   have e3:List.isPrefixOf [63] (List.drop i l)=false:=by rw [hd,pre1];simp;try omega
   have e4:List.isPrefixOf [45] (List.drop i l)=true:=by rw [hd,pre1];simp;try omega
   have HE:Hid (R=match ji 125 r [] with|some (t,_::r2)=>some (⟨4,n,0,[],t⟩,r2)|_=>none):=ab (by
    rw [←HR.out,hd];simp only [km];rw [zO fg,zO fg,zO fg,zL c45];rfl)
   clear hd c43 c45;cases hU:ji 125 r [] with
   | none =>
    have HU:Hid (ji 125 (l.drop ((i:Int)+1).toNat) []=none):=ab fJ;exact aI
   | some p =>
    obtain⟨t,s⟩:=p;obtain⟨d,r2,rfl,_⟩:=kt _ _ _ hU;have HU:Hid (ji 125 (l.drop ((i:Int)+1).toNat) []=some (t,d::r2)):=ab fJ;exact aF
  by_cases c63:c.toNat=63
  ·have e1:List.isPrefixOf [47] (List.drop i l)=false:=by rw [hd,pre1];simp;try omega
   have e2:List.isPrefixOf [43] (List.drop i l)=false:=by rw [hd,pre1];simp;try omega
   have e3:List.isPrefixOf [63] (List.drop i l)=true:=by rw [hd,pre1];simp;try omega
   have e4:List.isPrefixOf [45] (List.drop i l)=false:=by rw [hd,pre1];simp;try omega
   have HE:Hid (R=match ji 58 r [] with|some (t,_::r2)=>(match ji 125 r2 [] with|some (u,_::r3)=>some (⟨5,n,0,t,u⟩,r3)|_=>none)|_=>none):=ab (by
    rw [←HR.out,hd];simp only [km];rw [zO fg,zO fg,zL c63];rfl)
   clear hd c43 c45 c63;cases hU:ji 58 r [] with
   | none =>
    have HU:Hid (ji 58 (l.drop ((i:Int)+1).toNat) []=none):=ab fJ;have HE':Hid (R=none):=ab iB;clear hU HE;go_enter Tryz.func100,Tryz.ntmps100
    go_wp2_with (first|(go_at_call 99;refine(kf _ _ _ _ fg fg fq).mono ?_;rintro e w1 ⟨rfl,rfl⟩)|(go_at_call 139;refine(l5 _ fg fg fg fg HU.out).mono ?_;rintro e w1 ⟨hb1,rfl⟩;obtain⟨hc1,hf1⟩:=oY hb1;have z0:w1.cell? ⟨w.heap.size,0,none⟩=some (.int .i64 0):= fh;have z1:w1.cell? ⟨w.heap.size,1,none⟩=some (.int .i64 0):= fh;have z2:w1.cell? ⟨w.heap.size,2,none⟩=some (.int .i64 0):= fh;have z3:w1.cell? ⟨w.heap.size,3,none⟩=some (.string ⟨#[]⟩):= fh;have z4:w1.cell? ⟨w.heap.size,4,none⟩=some (.string ⟨#[]⟩):= fh;have y0:w1.cell? ⟨w.heap.size+1,0,none⟩=some (.int .i64 5):= fh;have y1:w1.cell? ⟨w.heap.size+1,1,none⟩=some (.int .i64 ↑n):= fh;have y2:w1.cell? ⟨w.heap.size+1,2,none⟩=some (.int .i64 0):= fh;have y3:w1.cell? ⟨w.heap.size+1,3,none⟩=some (.string ⟨#[]⟩):= fh;have y4:w1.cell? ⟨w.heap.size+1,4,none⟩=some (.string ⟨#[]⟩):= fh;have hbw:Below w.heap.size w w1:=((((Below.refl w.heap.size w).alloc (zP _) _).alloc fq _).trans (hb1.mono fr))))
    exact dZ
   | some p =>
    obtain⟨t,s⟩:=p;obtain⟨d,r2,rfl,_⟩:=kt _ _ _ hU;have HU:Hid (ji 58 (l.drop ((i:Int)+1).toNat) []=some (t,d::r2)):=ab fJ;have HE1:Hid (R=match ji 125 r2 [] with|some (u,_::r3)=>some (⟨5,n,0,t,u⟩,r3)|_=>none):=ab iB;clear hU HE;go_enter Tryz.func100,Tryz.ntmps100
    go_wp2_with (first|(go_at_call 99;refine(kf _ _ _ _ fg fg fq).mono ?_;rintro e w1 ⟨rfl,rfl⟩)|(go_at_call 139;refine(nx _ fg fg fg fg HU.out).mono ?_))
    rintro e w1 ⟨hb1,hlt,j,hj1,hj2,hj3,rfl⟩;obtain⟨hc1,hf1⟩:=oY hb1;have z0:w1.cell? ⟨w.heap.size,0,none⟩=some (.int .i64 0):= fh;have z1:w1.cell? ⟨w.heap.size,1,none⟩=some (.int .i64 0):= fh;have z2:w1.cell? ⟨w.heap.size,2,none⟩=some (.int .i64 0):= fh;have z3:w1.cell? ⟨w.heap.size,3,none⟩=some (.string ⟨#[]⟩):= fh;have z4:w1.cell? ⟨w.heap.size,4,none⟩=some (.string ⟨#[]⟩):= fh;have y0:w1.cell? ⟨w.heap.size+1,0,none⟩=some (.int .i64 5):= fh;have y1:w1.cell? ⟨w.heap.size+1,1,none⟩=some (.int .i64 ↑n):= fh;have y2:w1.cell? ⟨w.heap.size+1,2,none⟩=some (.int .i64 0):= fh;have y3:w1.cell? ⟨w.heap.size+1,3,none⟩=some (.string ⟨#[]⟩):= fh;have y4:w1.cell? ⟨w.heap.size+1,4,none⟩=some (.string ⟨#[]⟩):= fh;have hbw:Below w.heap.size w w1:=((((Below.refl w.heap.size w).alloc (zP _) _).alloc fq _).trans (hb1.mono fr));have HJ:=ab (jv hj3).2.2;clear hj3;have hz:w.heap.size+1<w1.heap.size:=by have:=hb1.size;simp at this;omega
    cases hV:ji 125 r2 [] with
    | none =>
     have HV:Hid (ji 125 (l.drop ((j:Int)+1).toNat) []=none):=ab g5;have HE':Hid (R=none):=ab (by rw [HE1.out,hV]);clear hV HE1;go_wp2_with (go_at_call 139;refine(l5 _ fg fg fg fg HV.out).mono ?_;rintro e w2 ⟨hb2,rfl⟩;obtain⟨hc2,hf2⟩:=oY hb2;have fz2:∀j,w2.frozen? ⟨w.heap.size,j,none⟩=false:=(fun j=>by rw [hf2 _ _ fx];simp [go_sem,hf1]);have fy2:∀j,w2.frozen? ⟨w.heap.size+1,j,none⟩=false:=(fun j=>by rw [hf2 _ _ fx];simp [go_sem,hf1]);have x0:w2.cell? ⟨w.heap.size,0,none⟩=some (.int .i64 0):= gN;have x1:w2.cell? ⟨w.heap.size,1,none⟩=some (.int .i64 0):= gO;have x2:w2.cell? ⟨w.heap.size,2,none⟩=some (.int .i64 0):= gP;have x3:w2.cell? ⟨w.heap.size,3,none⟩=some (.string ⟨#[]⟩):= gQ;have x4:w2.cell? ⟨w.heap.size,4,none⟩=some (.string ⟨#[]⟩):= gR;have v0:w2.cell? ⟨w.heap.size+1,0,none⟩=some (.int .i64 5):= gS;have v1:w2.cell? ⟨w.heap.size+1,1,none⟩=some (.int .i64 ↑n):= gT;have v2:w2.cell? ⟨w.heap.size+1,2,none⟩=some (.int .i64 0):= gU;have v3:w2.cell? ⟨w.heap.size+1,3,none⟩=some (.string ⟨t.toArray⟩):= gV;have v4:w2.cell? ⟨w.heap.size+1,4,none⟩=some (.string ⟨#[]⟩):= gW;have hbw2:Below w.heap.size w w2:=(hbw.setCell (p:=⟨w.heap.size+1,3,none⟩) fq _).trans (hb2.mono fx))
     refine Al (v:=.tuple #[.agg #[.int .i64 0,.int .i64 0,.int .i64 0,.string ⟨#[]⟩,.string ⟨#[]⟩],.int .i64 0,.bool false]) ij rfl ⟨?_,by rw [HE'.out];rfl⟩
     (repeat (first|with_reducible exact Below.refl _ _|with_reducible assumption|(refine Below.setCell ?_ fD _)|(refine Below.alloc ?_ fw _)|(refine Below.drew ?_)))
    | some p =>
     obtain⟨u,s⟩:=p;obtain⟨d',r3,rfl,_⟩:=kt _ _ _ hV;have HV:Hid (ji 125 (l.drop ((j:Int)+1).toNat) []=some (u,d'::r3)):=ab g5;have HE':Hid (R=some (⟨5,n,0,t,u⟩,r3)):=ab (by rw [HE1.out,hV]);clear hV HE1;go_wp2_with (go_at_call 139;refine(nx _ fg fg fg fg HV.out).mono ?_;rintro e w2 ⟨hb2,hlt2,j2,hk1,hk2,hk3,rfl⟩;obtain⟨hc2,hf2⟩:=oY hb2;have fz2:∀j,w2.frozen? ⟨w.heap.size,j,none⟩=false:=(fun j=>by rw [hf2 _ _ fx];simp [go_sem,hf1]);have fy2:∀j,w2.frozen? ⟨w.heap.size+1,j,none⟩=false:=(fun j=>by rw [hf2 _ _ fx];simp [go_sem,hf1]);have x0:w2.cell? ⟨w.heap.size,0,none⟩=some (.int .i64 0):= gN;have x1:w2.cell? ⟨w.heap.size,1,none⟩=some (.int .i64 0):= gO;have x2:w2.cell? ⟨w.heap.size,2,none⟩=some (.int .i64 0):= gP;have x3:w2.cell? ⟨w.heap.size,3,none⟩=some (.string ⟨#[]⟩):= gQ;have x4:w2.cell? ⟨w.heap.size,4,none⟩=some (.string ⟨#[]⟩):= gR;have v0:w2.cell? ⟨w.heap.size+1,0,none⟩=some (.int .i64 5):= gS;have v1:w2.cell? ⟨w.heap.size+1,1,none⟩=some (.int .i64 ↑n):= gT;have v2:w2.cell? ⟨w.heap.size+1,2,none⟩=some (.int .i64 0):= gU;have v3:w2.cell? ⟨w.heap.size+1,3,none⟩=some (.string ⟨t.toArray⟩):= gV;have v4:w2.cell? ⟨w.heap.size+1,4,none⟩=some (.string ⟨#[]⟩):= gW;have hbw2:Below w.heap.size w w2:=(hbw.setCell (p:=⟨w.heap.size+1,3,none⟩) fq _).trans (hb2.mono fx);have HK3:=ab hk3;clear hk3)
     refine Al (v:=.tuple #[.agg #[.int .i64 5,.int .i64 n,.int .i64 0,.string ⟨t.toArray⟩,.string ⟨u.toArray⟩],.int .i64 (j2+1),.bool true]) ij rfl ⟨?_,?_⟩
     ·(repeat (first|with_reducible exact Below.refl _ _|with_reducible assumption|(refine Below.setCell ?_ fD _)|(refine Below.alloc ?_ fw _)|(refine Below.drew ?_)))
     ·rw [HE'.out]
      refine⟨by simp;try omega,by simp;try omega,j2+1,by omega,by omega,(jv HK3.out).2.2,by simp⟩
  by_cases c47:c.toNat=47
  ·have e1:List.isPrefixOf [47] (List.drop i l)=true:=by rw [hd,pre1];simp;try omega
   have e2:List.isPrefixOf [43] (List.drop i l)=false:=by rw [hd,pre1];simp;try omega
   have e3:List.isPrefixOf [63] (List.drop i l)=false:=by rw [hd,pre1];simp;try omega
   have e4:List.isPrefixOf [45] (List.drop i l)=false:=by rw [hd,pre1];simp;try omega
   have HE:Hid (R=match r.dropWhile kq with
    | []=>none
    | _::r2=>if nM (r.takeWhile kq)=0 then none else some (⟨2,n,nM (r.takeWhile kq),[],[]⟩,r2)):=ab (by
    rw [←HR.out,hd];simp only [km];rw [zL c47];rfl)
   have hx:Lib.indexByte (List.drop i l) (125:Int).toNat.toUInt8=match r.dropWhile kq with|[]=>-1|_::_=>((r.takeWhile kq).length:Int)+1:=by
    rw [hd];have e125:(125:Int).toNat.toUInt8=125:=rfl;have hb:(c==125)=false:=by rw [Aj];intro e;rw [e] at c47;simp at c47
    rw [e125];simp only [Lib.indexByte,hb];rw [vl];cases r.dropWhile kq with
    | nil=>rfl
    | cons x y =>
     have h1:((((r.takeWhile kq).length:Int))==-1)=false:=by rw [Aj];omega
     simp only [h1,Ak,if_false]
   clear hd c43 c45 c63 c47;have hspan:=Ae (p:=kq) (l:=r);generalize r.takeWhile kq=tk at *
   generalize r.dropWhile kq=dw at *
   have HX:=ab hx;have HSP:=ab hspan;clear hx hspan;cases dw with
   | nil =>
    have HX':Hid (Lib.indexByte (List.drop i l) (125:Int).toNat.toUInt8=-1):=HX;have HE':Hid (R=none):=HE;clear HX HE;go_enter Tryz.func100,Tryz.ntmps100
    go_wp2_with (first|(go_at_call 99;refine(kf _ _ _ _ fg fg fq).mono ?_;rintro e w1 ⟨rfl,rfl⟩)|(go_at_call 36;refine(j6 _ HX'.out).mono ?_;rintro e w1 ⟨rfl,rfl⟩))
    refine Al (v:=.tuple #[.agg #[.int .i64 0,.int .i64 0,.int .i64 0,.string ⟨#[]⟩,.string ⟨#[]⟩],.int .i64 0,.bool false]) (by simp [results,Tryz.results100,go_sem]) rfl ⟨?_,by rw [HE'.out];rfl⟩
    (repeat (first|with_reducible exact Below.refl _ _|with_reducible assumption|(refine Below.setCell ?_ fD _)|(refine Below.alloc ?_ fw _)|(refine Below.drew ?_)))
   | cons d r2 =>
    have HX':Hid (Lib.indexByte (List.drop i l) (125:Int).toNat.toUInt8=(tk.length:Int)+1):=HX;have HE':Hid (R=if nM tk=0 then none else some (⟨2,n,nM tk,[],[]⟩,r2)):=HE;have hlen:i+1+tk.length<l.length:=by
     have h1:=Ad List.length HSP.out;have h2:=Ad List.length Hr.out;simp at h1 h2;omega
    have hK:∀k,k=tk.length→List.take k (List.drop (i+1) l)=tk:=fun k hk=>by
     rw [Hr.out,←HSP.out,hk,List.take_left]
    have HK:=ab hK;clear HX HE hK;go_enter Tryz.func100,Tryz.ntmps100
    have hW:nM (List.take (i+(tk.length+1)-(i+1)) (List.drop (i+1) l))=nM tk:=by rw [HK.out _ fg]
    generalize hv:nM tk=v at *
    have HW:=ab hW;have HV:=ab hv;clear hW hv;by_cases h0:v=0
    ·subst h0
     have HE2:Hid (R=none):=ab (by rw [HE'.out,zL rfl]);clear HE';have HE':=HE2;go_wp2_with (first|(go_at_call 99;refine(kf _ _ _ _ fg fg fq).mono ?_;rintro e w1 ⟨rfl,rfl⟩)|(go_at_call 36;refine(j6 _ HX'.out).mono ?_;rintro e w1 ⟨rfl,rfl⟩)|(go_at_call 138;refine(Way_eq _ HW.out).mono ?_;rintro e w1 ⟨rfl,hb1⟩;obtain⟨hc1,hf1⟩:=oY hb1;have z0:w1.cell? ⟨w.heap.size,0,none⟩=some (.int .i64 0):= fh;have z1:w1.cell? ⟨w.heap.size,1,none⟩=some (.int .i64 0):= fh;have z2:w1.cell? ⟨w.heap.size,2,none⟩=some (.int .i64 0):= fh;have z3:w1.cell? ⟨w.heap.size,3,none⟩=some (.string ⟨#[]⟩):= fh;have z4:w1.cell? ⟨w.heap.size,4,none⟩=some (.string ⟨#[]⟩):= fh;have y0:w1.cell? ⟨w.heap.size+1,0,none⟩=some (.int .i64 4):= fh;have y1:w1.cell? ⟨w.heap.size+1,1,none⟩=some (.int .i64 ↑n):= fh;have y2:w1.cell? ⟨w.heap.size+1,2,none⟩=some (.int .i64 0):= fh;have y3:w1.cell? ⟨w.heap.size+1,3,none⟩=some (.string ⟨#[]⟩):= fh;have y4:w1.cell? ⟨w.heap.size+1,4,none⟩=some (.string ⟨#[]⟩):= fh;have hbw:Below w.heap.size w w1:=((((Below.refl w.heap.size w).alloc (zP _) _).alloc fq _).trans (hb1.mono fr))))
     exact dZ
    ·have HE2:Hid (R=some (⟨2,n,v,[],[]⟩,r2)):=ab (by rw [HE'.out,zO h0])
     have e0:(v==0)=false:=by simpa using h0
     clear HE' h0;go_wp2_with (first|(go_at_call 99;refine(kf _ _ _ _ fg fg fq).mono ?_;rintro e w1 ⟨rfl,rfl⟩)|(go_at_call 36;refine(j6 _ HX'.out).mono ?_;rintro e w1 ⟨rfl,rfl⟩)|(go_at_call 138;refine(Way_eq _ HW.out).mono ?_;rintro e w1 ⟨rfl,hb1⟩;obtain⟨hc1,hf1⟩:=oY hb1;have z0:w1.cell? ⟨w.heap.size,0,none⟩=some (.int .i64 0):= fh;have z1:w1.cell? ⟨w.heap.size,1,none⟩=some (.int .i64 0):= fh;have z2:w1.cell? ⟨w.heap.size,2,none⟩=some (.int .i64 0):= fh;have z3:w1.cell? ⟨w.heap.size,3,none⟩=some (.string ⟨#[]⟩):= fh;have z4:w1.cell? ⟨w.heap.size,4,none⟩=some (.string ⟨#[]⟩):= fh;have y0:w1.cell? ⟨w.heap.size+1,0,none⟩=some (.int .i64 4):= fh;have y1:w1.cell? ⟨w.heap.size+1,1,none⟩=some (.int .i64 ↑n):= fh;have y2:w1.cell? ⟨w.heap.size+1,2,none⟩=some (.int .i64 0):= fh;have y3:w1.cell? ⟨w.heap.size+1,3,none⟩=some (.string ⟨#[]⟩):= fh;have y4:w1.cell? ⟨w.heap.size+1,4,none⟩=some (.string ⟨#[]⟩):= fh;have hbw:Below w.heap.size w w1:=((((Below.refl w.heap.size w).alloc (zP _) _).alloc fq _).trans (hb1.mono fr))))
     refine Al (v:=.tuple #[.agg #[.int .i64 2,.int .i64 n,.int .i64 v,.string ⟨[].toArray⟩,.string ⟨[].toArray⟩],.int .i64 (i+(tk.length+1)+1),.bool true]) fK rfl ⟨?_,?_⟩
     ·(repeat (first|with_reducible exact Below.refl _ _|with_reducible assumption|(refine Below.setCell ?_ fD _)|(refine Below.alloc ?_ fw _)|(refine Below.drew ?_)))
     ·rw [HE2.out]
      refine⟨by simp,by simp,i+(tk.length+1)+1,by omega,by omega,?_,by simp⟩;rw [show i+(tk.length+1)+1=i+1+(tk.length+1) by omega,←List.drop_drop,Hr.out,←HSP.out,List.drop_append];simp
  ·have e1:List.isPrefixOf [47] (List.drop i l)=false:=by rw [hd,pre1];simp;try omega
   have e2:List.isPrefixOf [43] (List.drop i l)=false:=by rw [hd,pre1];simp;try omega
   have e3:List.isPrefixOf [63] (List.drop i l)=false:=by rw [hd,pre1];simp;try omega
   have e4:List.isPrefixOf [45] (List.drop i l)=false:=by rw [hd,pre1];simp;try omega
   have HE:Hid (R=match ji 125 (c::r) [] with|some (t,_::r2)=>some (⟨4,n,0,[],t⟩,r2)|_=>none):=ab (by
    rw [←HR.out,hd];simp only [km];rw [zO c47,zO c43,zO c63,zO c45];rfl)
   clear hd c43 c45 c63 c47;cases hU:ji 125 (c::r) [] with
   | none =>
    have HU:Hid (ji 125 (l.drop ((i:Int)).toNat) []=none):=ab (by rw [Int.toNat_natCast,HD.out];exact hU);exact aI
   | some p =>
    obtain⟨t,s⟩:=p;obtain⟨d,r2,rfl,_⟩:=kt _ _ _ hU;have HU:Hid (ji 125 (l.drop ((i:Int)).toNat) []=some (t,d::r2)):=ab (by rw [Int.toNat_natCast,HD.out];exact hU);exact aF
end Go.Proofs.YtbnkaecmgfolpaaGreat
