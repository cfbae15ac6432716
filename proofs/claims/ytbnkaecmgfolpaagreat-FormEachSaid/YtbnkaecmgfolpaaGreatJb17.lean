/- walks of fmts: may, May -/
import Derived.Test.YtbnkaecmgfolpaaGreatJb11
set_option maxRecDepth 100000
set_option maxHeartbeats 4000000
namespace Go.Proofs.YtbnkaecmgfolpaaGreat
open Go.RowKit
theorem oh (f:Fm) (w:World) :
  Calls Tryz.prog 82 #[.agg #[.int .i64 (f).kind,.int .i64 (f).n,.int .i64 (f).cse,.string ⟨((f).thn).toArray⟩,.string ⟨((f).els).toArray⟩]] w fun e w'=>e=.returned (.bool (mayF f))∧Below w.heap.size w w':=by
 obtain⟨kind,n,cse,thn,els⟩:=f;by_cases hn:0≤n∧n≤9999
 ·obtain⟨hn0,hn1⟩:=hn
  have hz:=fun(n:Int) (w:World)=>pB n w
  generalize hR:mayF ⟨kind,n,cse,thn,els⟩=R
  have HR:=ab hR;clear hR;have HZ:=ab hz;clear hz;have hk:kind=0∨kind=1∨kind=2∨kind=3∨kind=4∨kind=5∨(¬kind=0∧¬kind=1∧¬kind=2∧¬kind=3∧¬kind=4∧¬kind=5):=eu;have HN:Hid (decide (0≤n∧n≤9999)=true):=ab eC;rcases hk with hk|hk|hk|hk|hk|hk|⟨k0,k1,k2,k3,k4,k5⟩
  ·subst hk
   have HS:Hid (R=(jw ⟨0,n,cse,thn,els⟩ false false true false&&decide (thn≠[]))):=ab (by rw [←HR.out,mayF,HN.out,xy,wU rfl]);clear HR;by_cases hB:jw ⟨0,n,cse,thn,els⟩ false false true false=true
   ·go_enter Tryz.func82,Tryz.ntmps82
    go_wp2_with (go_at_call 117;refine(mA ⟨_,n,cse,thn,els⟩ _ _ _ _ _).mono ?_)
    rintro e w1 ⟨rfl,hb1⟩;have c2:w1.cell? ⟨w.heap.size,3,none⟩=some (.string ⟨thn.toArray⟩):=by
     rw [hb1.cell (p:=⟨w.heap.size,3,none⟩) eB];simp
    go_wp2
    go_ret
    refine⟨gX ?_,((Below.refl _ _).alloc (wY _) _).trans (hb1.mono eB)⟩;rw [HS.out,hB];cases thn<;>rfl
   ·have hB':jw ⟨0,n,cse,thn,els⟩ false false true false=false:=by simpa using hB
    exact bM
  ·subst hk
   have HS:Hid (R=(jw ⟨1,n,cse,thn,els⟩ true false false false)):=ab (by rw [←HR.out,mayF,HN.out,xy,wX eB,wU rfl]);exact aV
  ·subst hk
   have HS:Hid (R=(jw ⟨2,n,cse,thn,els⟩ true true false false&&decide (kS cse≠[]))):=ab (by rw [←HR.out,mayF,HN.out,xy,wX eB,wX eB,wU rfl]);clear HR;by_cases hB:jw ⟨2,n,cse,thn,els⟩ true true false false=true
   ·go_enter Tryz.func82,Tryz.ntmps82
    go_wp2_with (go_at_call 117;refine(mA ⟨_,n,cse,thn,els⟩ _ _ _ _ _).mono ?_)
    rintro e w1 ⟨rfl,hb1⟩;have c2:w1.cell? ⟨w.heap.size,2,none⟩=some (.int .i64 cse):=by
     rw [hb1.cell (p:=⟨w.heap.size,2,none⟩) eB];simp
    go_wp2_with (go_at_call 118;refine(HZ.out _ _).mono ?_)
    rintro e w2 ⟨rfl,hb2⟩;go_wp2
    go_ret
    refine⟨gX ?_,(((Below.refl _ _).alloc (wY _) _).trans (hb1.mono eB)).trans (hb2.mono gj)⟩;rw [HS.out,hB];cases kS cse<;>rfl
   ·have hB':jw ⟨2,n,cse,thn,els⟩ true true false false=false:=by simpa using hB
    exact bM
  ·subst hk
   have HS:Hid (R=(jw ⟨3,n,cse,thn,els⟩ true false true false)):=ab (by rw [←HR.out,mayF,HN.out,xy,wX eB,wX eB,wX eB,wU rfl]);exact aV
  ·subst hk
   have HS:Hid (R=(jw ⟨4,n,cse,thn,els⟩ true false false true)):=ab (by rw [←HR.out,mayF,HN.out,xy,wX eB,wX eB,wX eB,wX eB,wU rfl]);exact aV
  ·subst hk
   have HS:Hid (R=(jw ⟨5,n,cse,thn,els⟩ true false true true)):=ab (by rw [←HR.out,mayF,HN.out,xy,wX eB,wX eB,wX eB,wX eB,wX eB,wU rfl]);exact aV
  ·have HS:Hid (R=false):=ab (by rw [←HR.out,mayF,HN.out,xy,wX eu,wX eu,wX eu,wX eu,wX eu,wX eu])
   clear HR;have e0:(kind==0)=false:=by simpa using k0
   have e1:(kind==1)=false:=by simpa using k1
   have e2:(kind==2)=false:=by simpa using k2
   have e3:(kind==3)=false:=by simpa using k3
   have e4:(kind==4)=false:=by simpa using k4
   have e5:(kind==5)=false:=by simpa using k5
   clear k0 k1 k2 k3 k4 k5;go_enter Tryz.func82,Tryz.ntmps82
   go_wp2
   go_ret
   exact⟨gX HS.out.symm,(Below.refl _ _).alloc (wY _) _⟩
 ·have HS:Hid (mayF ⟨kind,n,cse,thn,els⟩=false):=ab (by unfold mayF;rw [xK hn,Bool.false_and])
  rw [HS.out];go_enter Tryz.func82,Tryz.ntmps82
  go_wp2
  all_goals first
   | (exfalso;omega)
   | (go_ret;exact⟨rfl,(Below.refl _ _).alloc (wY _) _⟩)
theorem rM (a:Option Addr) (n c:Nat) (fs:List Fm) (w:World) (h:Sl w w.heap.size a 5 n (iV fs)) (hn:n≤1000000) :
  Calls Tryz.prog 51 #[.slice a n c] w fun e w'=>e=.returned (.bool (oP fs))∧Below w.heap.size w w':=by
 generalize hR:oP fs=R
 have HR:=ab hR;clear hR;have HR0:Hid (mayL false (fs.drop 0)=R):=HR;have Hn:=ab h.fs_len;have HSl:=ab h;clear HR h;go_enter Tryz.func51,Tryz.ntmps51
 go_wp2
 go_loopw [7] (fun q wr=>∃(k:Nat) (pt:Bool),k≤n∧q=.int .i64 k∧Below w.heap.size w wr∧Hid ((k=0→pt=false)∧(0<k→∀g,fs[k-1]?=some g→decide (g.kind=0)=pt))∧Hid (mayL pt (fs.drop k)=R)) (fun q _=>n-(intOf q).toNat)
 case atStart=>exact⟨0,false,by omega,rfl,Below.refl _ _,ab ⟨fun _=>rfl,fun h=>by omega⟩,HR0⟩
 case round =>
  obtain⟨k,pt,hk,rfl,hb,HP,HF⟩:=hrel;clear HR0;have hB:=hb.size;cases hd:fs.drop k with
  | nil =>
   have h2:n≤k:=by have:=Hn.out;simp at hd;omega
   have HF':Hid (mayL pt []=R):=ab eW;clear hd HF;go_wp2
   go_ret
   exact⟨gX HF'.out,hb⟩
  | cons f r =>
   obtain⟨h2,h3,hr⟩:=ig hd;have HF':Hid (mayL pt (f::r)=R):=ab eW;have Hr:=ab hr;have HK:=ab h3;have hkn:k<n:=by have:=Hn.out;omega
   obtain⟨b,o,rfl,hbB,c0,c1,c2,c3,c4⟩:=(HSl.out.keep hb).fm h3;clear hd HF hr h2 h3;obtain⟨kind,fn,cse,thn,els⟩:=f;by_cases hm:mayF ⟨kind,fn,cse,thn,els⟩=true
   ·have HM:=ab hm
    have c5:∀w1,Below (wr.heap.size+1) (wr.alloc (.cells #[.int .i64 kind,.int .i64 fn,.int .i64 cse,.string ⟨thn.toArray⟩,.string ⟨els.toArray⟩] 43)) w1→w1.cell? ⟨wr.heap.size,0,none⟩=some (.int .i64 kind):=fun w1 h1=>by
     rw [h1.cell (p:=⟨wr.heap.size,0,none⟩) eB];simp
    have C5:=ab c5;clear c5;by_cases hk0:kind=0
    ·subst hk0
     by_cases hkk:k=0
     ·have hpt:=HP.out.1 hkk
      have hkk':k≤0:=eu;subst hpt;have HKK:=ab hkk;clear hkk;go_wp2_with (go_at_call 82;refine(oh ⟨0,fn,cse,thn,els⟩ _).mono ?_;rintro e w1 ⟨rfl,hb1⟩;have d5:=C5.out w1 (by simpa using hb1);have hbw:Below w.heap.size wr w1:=((Below.refl _ _).alloc hB _).trans (hb1.mono eC))
      clear hm;go_roundw
      case rel =>
       refine⟨k+1,true,by omega,by go_num,hb.trans hbw,ab ⟨fun h=>by omega,fun _ g hg=>?_⟩,?_⟩
       ·exact bX
       ·refine ab ?_
        rw [Hr.out,←HF'.out];conv=>rhs;unfold mayL
        (rw [HM.out];rfl)
      case measure=>simp [intOf];omega
     ·obtain⟨g,hg⟩:∃g,fs[k-1]?=some g:=⟨fs[k-1]'(by have:=Hn.out;omega),wW (by have:=Hn.out;omega)⟩
      have hpg:=HP.out.2 eu g hg;obtain⟨b',o',hab,_,g0,_⟩:=HSl.out.fm hg;have hbo:b'=b∧o'=o:=by simpa using hab.symm
      obtain⟨rfl,rfl⟩:=hbo;have hkp:0<k:=eu;have ek:((k-1:Nat):Int)=(k:Int)-1:=eu;have e1:(k:Int)-1<n∧0≤(k:Int)-1:=eu;obtain⟨gk,gn,gc,gt,ge⟩:=g;have G0:=ab g0;have HPG:=ab hpg;clear hab g0 hpg hkk hg;by_cases hgk:gk=0
      ·subst hgk
       go_wp2_with (go_at_call 82;refine(oh ⟨0,fn,cse,thn,els⟩ _).mono ?_;rintro e w1 ⟨rfl,hb1⟩;have d5:=C5.out w1 (by simpa using hb1);have hbw:Below w.heap.size wr w1:=((Below.refl _ _).alloc hB _).trans (hb1.mono eC);have g1:w1.cell? ⟨b',o'+(k-1)*5,none⟩=some (.int .i64 0):=((hb.trans hbw).cell (p:=⟨b',o'+(k-1)*5,none⟩) hbB).trans G0.out)
       go_ret
       refine⟨gX ?_,hb.trans hbw⟩;rw [←HF'.out,mayL,←HPG.out];simp
      ·have eg:(gk==0)=false:=by simpa using hgk
       have HGK:=ab hgk;clear hgk;go_wp2_with (go_at_call 82;refine(oh ⟨0,fn,cse,thn,els⟩ _).mono ?_;rintro e w1 ⟨rfl,hb1⟩;have d5:=C5.out w1 (by simpa using hb1);have hbw:Below w.heap.size wr w1:=((Below.refl _ _).alloc hB _).trans (hb1.mono eC);have g1:w1.cell? ⟨b',o'+(k-1)*5,none⟩=some (.int .i64 gk):=((hb.trans hbw).cell (p:=⟨b',o'+(k-1)*5,none⟩) hbB).trans G0.out)
       clear hm;go_roundw
       case rel =>
        refine⟨k+1,true,by omega,by go_num,hb.trans hbw,ab ⟨fun h=>by omega,fun _ g hg=>?_⟩,?_⟩
        ·exact bX
        ·refine ab ?_
         rw [Hr.out,←HF'.out];conv=>rhs;unfold mayL
         (rw [HM.out,←HPG.out];simp [HGK.out])
       case measure=>simp [intOf];omega
    ·have e0:(kind==0)=false:=by simpa using hk0
     have HK0:=ab hk0;clear hk0;go_wp2_with (go_at_call 82;refine(oh ⟨kind,fn,cse,thn,els⟩ _).mono ?_;rintro e w1 ⟨rfl,hb1⟩;have d5:=C5.out w1 (by simpa using hb1);have hbw:Below w.heap.size wr w1:=((Below.refl _ _).alloc hB _).trans (hb1.mono eC))
     clear hm;go_roundw
     case rel =>
      refine⟨k+1,false,by omega,by go_num,hb.trans hbw,ab ⟨fun h=>by omega,fun _ g hg=>?_⟩,?_⟩
      ·exact bX
      ·refine ab ?_
       rw [Hr.out,←HF'.out];conv=>rhs;unfold mayL
       (rw [HM.out];simp [HK0.out])
     case measure=>simp [intOf];omega
   ·have hm':mayF ⟨kind,fn,cse,thn,els⟩=false:=by simpa using hm
    clear hm;go_wp2_with (go_at_call 82;refine(oh ⟨kind,fn,cse,thn,els⟩ _).mono ?_;rintro e w1 ⟨rfl,hb1⟩)
    go_ret
    refine⟨gX ?_,hb.trans (((Below.refl _ _).alloc hB _).trans (hb1.mono eC))⟩;rw [←HF'.out,mayL,hm'];rfl
def jL:List Fm→Int→Int
 | [],n=>n
 | f::r,n=>if n≤f.thn.length∨n≤f.els.length then -1 else jL r (n-1-f.thn.length-f.els.length)
theorem lu (a:Option Addr) (n c:Nat) (m:Int) (fs:List Fm) (w:World) (h:Sl w w.heap.size a 5 n (iV fs)) (hn:n≤maxLen) (hm:-100000≤m∧m≤100000)
  (hsz:∀f∈fs,f.thn.length≤maxLen∧f.els.length≤maxLen) :
  Calls Tryz.prog 21 #[.slice a n c,.int .i64 m] w fun e w'=>e=.returned (.int .i64 (jL fs m))∧Below w.heap.size w w':=by
 unfold maxLen at hn hsz;generalize hR:jL fs m=R
 have HR:=ab hR;clear hR;have HR0:Hid (jL (fs.drop 0) m=R):=HR;have Hn:=ab h.fs_len;have HSl:=ab h;have HSz:=ab hsz;clear HR h hsz;obtain⟨hm0,hm1⟩:=hm;go_enter Tryz.func21,Tryz.ntmps21
 go_wp2
 go_loopw [1,5] (fun s q wr=>∃(k:Nat) (m':Int),k≤n∧q=.int .i64 k∧s=.int .i64 m'∧-100000≤m'∧m'≤100000∧Below w.heap.size w wr∧Hid (jL (fs.drop k) m'=R)) (fun _ q _=>n-(intOf q).toNat)
 case atStart=>exact⟨0,m,by omega,rfl,rfl,hm0,hm1,Below.refl _ _,HR0⟩
 case round =>
  obtain⟨k,m',hk,rfl,rfl,hm2,hm3,hb,HF⟩:=hrel;clear HR0;cases hd:fs.drop k with
  | nil =>
   have h2:n≤k:=by have:=Hn.out;simp at hd;omega
   have HF':Hid (jL [] m'=R):=ab eW;clear hd HF;go_wp2
   go_ret
   exact⟨ke HF'.out,hb⟩
  | cons f r =>
   obtain⟨h2,h3,hr⟩:=ig hd;have HF':Hid (jL (f::r) m'=R):=ab eW;have Hr:=ab hr;have hkn:k<n:=by have:=Hn.out;omega
   obtain⟨b,o,rfl,hbB,c0,c1,c2,c3,c4⟩:=(HSl.out.keep hb).fm h3;obtain⟨z1,z2⟩:=HSz.out f (xA h3);clear hd HF hr h2 h3;obtain⟨kind,fn,cse,thn,els⟩:=f;by_cases hA:m'≤thn.length∨m'≤els.length
   ·have HE:Hid (R=-1):=ab (by rw [←HF'.out];simp only [jL];exact wU hA)
    go_wp2
    all_goals first
     | (go_ret;exact⟨ke HE.out.symm,hb⟩)
     | (exfalso;omega)
   ·have HE:Hid (R=jL r (m'-1-thn.length-els.length)):=ab (by rw [←HF'.out];simp only [jL];exact wX hA)
    have hA1:(thn.length:Int)<m':=by omega
    have hA2:(els.length:Int)<m':=by omega
    clear hA;go_wp2
    go_quiet (fail)
    go_wp2
    go_roundw
    case rel =>
     refine⟨k+1,m'-1-thn.length-els.length,by omega,by go_num,rfl,by omega,by omega,below_drewN hb _,ab ?_⟩;rw [Hr.out,HE.out]
    case measure=>simp [intOf];omega
def v6 (l:Str) (i:Nat) (R:Option (Str × Str)) (e:Ending):Prop :=
 match R with
 | none=>e=.returned (.tuple #[.string ⟨[].toArray⟩,.int .i64 0,.bool false])
 | some (t,r)=>t.length≤l.length∧∃j:Nat,i≤j∧j<l.length∧l.drop j=r∧e=.returned (.tuple #[.string ⟨t.toArray⟩,.int .i64 j,.bool true])
theorem qN (l:Str) (i one:Int) (w:World) (h0:0≤i) (h1:i≤1000000) (hs:l.length≤1000000) (ho:0≤one) :
  Calls Tryz.prog 139 #[.string ⟨l.toArray⟩,.int .i64 i,.int .u8 one] w fun e w'=>Below w.heap.size w w'∧v6 l i.toNat (ie one (l.drop i.toNat) []) e:=by
 obtain⟨i,rfl⟩:=Int.eq_ofNat_of_zero_le h0;rw [Int.toNat_natCast];generalize hR:ie one (l.drop i) []=R
 have HR:=ab hR;clear hR;obtain⟨iu,hiu⟩:=info_parts mI;go_enter Tryz.func139,Tryz.ntmps139
 go_wp2
 go_loopw [1,9] (fun q t wr=>∃(j:Nat) (tx:Str),i≤j∧j≤2000000∧q=.int .i64 j∧wr.ownsRow w.heap.size 5 1 t tx.length (iE tx)∧Below w.heap.size w wr∧tx.length≤l.length∧tx.length+i≤j∧Hid (ie one (l.drop j) tx=R)) (fun q _ _=>l.length-(intOf q).toNat)
 case atStart=>exact⟨i,[],by omega,by omega,rfl,World.ownsRow_nil _ _ _ _,Below.refl _ _,by simp,by simp,HR⟩
 case round =>
  obtain⟨j,tx,hij,hj,rfl,hown,hb,htx,htj,HF⟩:=hrel;clear HR;have hB:=hb.size;have hcv:=nB (P:=Tryz.prog) (src:=67) (dst:=9) Tryz.underlying67 Tryz.underlying5 Tryz.underlying9 hown;cases hd:l.drop j with
  | nil =>
   have h2:=jg hd;have HF':Hid (ie one [] tx=R):=ab eW;clear hd HF;go_wp2
   go_ret3
   refine⟨hb,?_⟩;rw [←HF'.out];rfl
  | cons c r =>
   obtain⟨h2,h3,hr⟩:=iv hd;have HF':Hid (ie one (c::r) tx=R):=ab eW;have Hr:=ab hr;clear HF hr;by_cases hc:c.toNat=one.toNat
   ·have HD:=ab hd;clear hd
    have hbc:((c.toNat:Int)==one)=true:=by rw [wR];omega
    have Hc:=ab hc;clear hc;go_wp2
    go_ret3
    refine⟨hb,?_⟩;rw [←HF'.out];have:ie one (c::r) tx=some (tx,c::r):=by cases r<;>simp [ie,Hc.out]
    rw [this];exact⟨by omega,j,by omega,h2,HD.out,by simp⟩
   ·have hbc:((c.toNat:Int)==one)=false:=by rw [xH];omega
    have Hc:=ab hc;clear hc hd;by_cases hA:c.toNat=92∧kP r five=true
    ·obtain⟨hA1,hA2⟩:=hA
     cases r with
     | nil=>simp [kP] at hA2
     | cons d r' =>
      obtain⟨k2,k3,kr⟩:=iv Hr.out;have Hkr:=ab kr;clear kr;have HS:Hid (ie one (c::d::r') tx=ie one r' (tx++[d])):=ab (by
       conv=>lhs;unfold ie
       rw [wX Hc.out,wU ⟨hA1,hA2⟩])
      have hst:kP (List.drop (j+1) l) [36,125,92,47,58]=true:=by rw [Hr.out];exact hA2
      have hA1':((c.toNat:Int)==92)=true:=by simp [hA1]
      clear hA1 hA2;go_wp2_with (first
       | (go_at_call 69;refine(lE _ _ _ _ eu eu eu eB).mono ?_;rintro e w1 ⟨rfl,rfl⟩)
       | (at_builtin;refine iK w.heap.size 5 rfl _ _ 67 rfl Tryz.underlying67 hiu rfl ez rfl hown rfl fg rfl eG eu ez hB ?_;intro v1 w1 hown1 hg1 hb1 hne1))
      clear hst hA1';go_roundw
      case rel =>
       refine⟨j+2,tx++[d],by omega,by omega,by go_num,?_,hb.trans hb1,by simp;omega,by simp;omega,?_⟩
       ·simpa [iE] using hown1
       ·exact ab (by rw [Hkr.out,←HS.out];exact HF'.out)
      case measure=>simp [intOf];omega
    ·have HS:Hid (ie one (c::r) tx=ie one r (tx++[c])):=ab (by
      cases r with
      | nil=>simp [ie,Hc.out]
      | cons d r' =>
       conv=>lhs;unfold ie
       rw [wX Hc.out];exact wX hA)
     by_cases h92:c.toNat=92
     ·have hst:kP (List.drop (j+1) l) [36,125,92,47,58]=false:=by rw [Hr.out];simpa [h92,five] using hA
      have hA1':((c.toNat:Int)==92)=true:= fx;clear hA h92;go_wp2_with (first
       | (go_at_call 69;refine(lE _ _ _ _ eu eu eu eB).mono ?_;rintro e w1 ⟨rfl,rfl⟩)
       | (at_builtin;refine iK w.heap.size 5 rfl _ _ 67 rfl Tryz.underlying67 hiu rfl ez rfl hown rfl fg rfl eG eu ez hB ?_;intro v1 w1 hown1 hg1 hb1 hne1))
      clear hst hA1';exact bS
     ·have hA1':((c.toNat:Int)==92)=false:= eU
      clear hA h92;go_wp2_with (at_builtin;refine iK w.heap.size 5 rfl _ _ 67 rfl Tryz.underlying67 hiu rfl ez rfl hown rfl fg rfl eG eu ez hB ?_;intro v1 w1 hown1 hg1 hb1 hne1)
      clear hA1';exact bS
theorem sU (r:Str):Lib.indexByte r 125=match r.dropWhile jm with|[]=>-1|_::_=>((r.takeWhile jm).length:Int):=by
 induction r with
 | nil=>rfl
 | cons b r ih =>
  by_cases h:b.toNat=125
  ·have hb:b=125:=wT.1 h
   subst hb;rfl
  ·have hb:(b==125)=false:=by rw [xH];intro e;exact h (by rw [e];rfl)
   have hd:jm b=true:=by simpa [jm] using h
   rw [List.dropWhile_cons_of_pos hd,List.takeWhile_cons_of_pos hd];simp only [Lib.indexByte,hb,ih];cases r.dropWhile jm with
   | nil=>rfl
   | cons x y =>
    have h1:((((r.takeWhile jm).length:Int))==-1)=false:=by rw [xH];omega
    simp only [h1,xX,if_false,xg];omega
theorem Way_eq {s:Str} {v:Int} (w:World) (h:lT s=v) :
  Calls Tryz.prog 138 #[.string ⟨s.toArray⟩] w fun e w'=>e=.returned (.int .i64 v)∧Below w.heap.size w w':=by
 subst h;exact Way_any s w
theorem ly {l t r:Str} {i one:Int} (w:World) (h0:0≤i) (h1:i≤1000000) (hs:l.length≤1000000) (ho:0≤one) (hU:ie one (l.drop i.toNat) []=some (t,r)) :
  Calls Tryz.prog 139 #[.string ⟨l.toArray⟩,.int .i64 i,.int .u8 one] w fun e w'=>Below w.heap.size w w'∧t.length≤l.length∧∃j:Nat,i≤j∧j<l.length∧l.drop j=r∧e=.returned (.tuple #[.string ⟨t.toArray⟩,.int .i64 j,.bool true]):=by
 refine(qN l i one w h0 h1 hs ho).mono ?_
 rintro e w1 ⟨hb,hp⟩;rw [hU] at hp;obtain⟨h2,j,h3,h4,h5,h6⟩:=hp;exact⟨hb,h2,j,by omega,h4,h5,h6⟩
theorem kp {l:Str} {i one:Int} (w:World) (h0:0≤i) (h1:i≤1000000) (hs:l.length≤1000000) (ho:0≤one) (hU:ie one (l.drop i.toNat) []=none) :
  Calls Tryz.prog 139 #[.string ⟨l.toArray⟩,.int .i64 i,.int .u8 one] w fun e w'=>Below w.heap.size w w'∧e=.returned (.tuple #[.string ⟨[].toArray⟩,.int .i64 0,.bool false]):=by
 refine(qN l i one w h0 h1 hs ho).mono ?_
 rintro e w1 ⟨hb,hp⟩;rw [hU] at hp;exact⟨hb,hp⟩
def sx (l:Str) (i:Nat) (R:Option (Fm × Str)) (e:Ending):Prop :=
 match R with
 | none=>e=.returned (.tuple #[.agg #[.int .i64 0,.int .i64 0,.int .i64 0,.string ⟨#[]⟩,.string ⟨#[]⟩],.int .i64 0,.bool false])
 | some (f,r)=>f.thn.length≤l.length∧f.els.length≤l.length∧∃j:Nat,i<j∧j≤l.length∧l.drop j=r∧e=.returned (.tuple #[.agg #[.int .i64 (f).kind,.int .i64 (f).n,.int .i64 (f).cse,.string ⟨((f).thn).toArray⟩,.string ⟨((f).els).toArray⟩],.int .i64 j,.bool true])
theorem tZ (l:Str) (i n:Nat) (w:World) (h1:i≤900000) (hs:l.length≤900000) :
  Calls Tryz.prog 100 #[.string ⟨l.toArray⟩,.int .i64 i,.int .i64 n] w fun e w'=>Below w.heap.size w w'∧sx l i (jh (l.drop i) n) e:=by
 generalize hR:jh (l.drop i) n=R
 have HR:=ab hR;clear hR;cases hd:l.drop i with
 | nil =>
  have h2:=jg hd;have hU:ie 125 (l.drop (i:Int).toNat) []=none:=by rw [Int.toNat_natCast,hd];rfl
  have HE:Hid (R=none):=ab (by rw [←HR.out,hd];rfl);have hh:∀p:Str,p.isPrefixOf (l.drop (i:Int).toNat)=p.isPrefixOf []:=fun p=>by rw [Int.toNat_natCast,hd]
  have HU:=ab hU;have HH:=ab hh;have e1:List.isPrefixOf [47] (List.drop i l)=false:=by rw [hd];rfl
  have e2:List.isPrefixOf [43] (List.drop i l)=false:=by rw [hd];rfl
  have e3:List.isPrefixOf [63] (List.drop i l)=false:=by rw [hd];rfl
  have e4:List.isPrefixOf [45] (List.drop i l)=false:=by rw [hd];rfl
  clear hd hU hh;go_enter Tryz.func100,Tryz.ntmps100
  go_wp2_with (first
   | (go_at_call 99;refine(jc _ _ _ _ eu eu eB).mono ?_;rintro e w1 ⟨rfl,rfl⟩)
   | (go_at_call 139;refine(kp _ eu eu eu eu HU.out).mono ?_;rintro e w1 ⟨hb1,rfl⟩;obtain⟨hc1,hf1⟩:=mJ hb1;have z0:w1.cell? ⟨w.heap.size,0,none⟩=some (.int .i64 0):= ew;have z1:w1.cell? ⟨w.heap.size,1,none⟩=some (.int .i64 0):= ew;have z2:w1.cell? ⟨w.heap.size,2,none⟩=some (.int .i64 0):= ew;have z3:w1.cell? ⟨w.heap.size,3,none⟩=some (.string ⟨#[]⟩):= ew;have z4:w1.cell? ⟨w.heap.size,4,none⟩=some (.string ⟨#[]⟩):= ew;have hbw:Below w.heap.size w w1:=((((Below.refl w.heap.size w).alloc (wY _) _).alloc eB _).trans (hb1.mono eC))))
  refine xE (v:=.tuple #[.agg #[.int .i64 0,.int .i64 0,.int .i64 0,.string ⟨#[]⟩,.string ⟨#[]⟩],.int .i64 0,.bool false]) eO rfl ⟨?_,by rw [HE.out];rfl⟩
  (repeat (first|with_reducible exact Below.refl _ _|with_reducible assumption|(refine Below.setCell ?_ eI _)|(refine Below.alloc ?_ eD _)|(refine Below.drew ?_)))
 | cons c r =>
  obtain⟨h2,h3,hr⟩:=iv hd;have Hr:=ab hr;have HD:=ab hd;clear hr h3;by_cases c43:c.toNat=43
  ·have e1:List.isPrefixOf [47] (List.drop i l)=false:=by rw [hd,pre1];simp;try omega
   have e2:List.isPrefixOf [43] (List.drop i l)=true:=by rw [hd,pre1];simp;try omega
   have e3:List.isPrefixOf [63] (List.drop i l)=false:=by rw [hd,pre1];simp;try omega
   have e4:List.isPrefixOf [45] (List.drop i l)=false:=by rw [hd,pre1];simp;try omega
   have HE:Hid (R=match ie 125 r [] with|some (t,_::r2)=>some (⟨3,n,0,t,[]⟩,r2)|_=>none):=ab (by
    rw [←HR.out,hd];simp only [jh];rw [wX eu,wU c43];rfl)
   clear hd c43;cases hU:ie 125 r [] with
   | none =>
    have HU:Hid (ie 125 (l.drop ((i:Int)+1).toNat) []=none):=ab eN;have HE':Hid (R=none):=ab gu;clear hU HE;go_enter Tryz.func100,Tryz.ntmps100
    go_wp2_with (first|(go_at_call 99;refine(jc _ _ _ _ eu eu eB).mono ?_;rintro e w1 ⟨rfl,rfl⟩)|(go_at_call 139;refine(kp _ eu eu eu eu HU.out).mono ?_;rintro e w1 ⟨hb1,rfl⟩;obtain⟨hc1,hf1⟩:=mJ hb1;have z0:w1.cell? ⟨w.heap.size,0,none⟩=some (.int .i64 0):= ew;have z1:w1.cell? ⟨w.heap.size,1,none⟩=some (.int .i64 0):= ew;have z2:w1.cell? ⟨w.heap.size,2,none⟩=some (.int .i64 0):= ew;have z3:w1.cell? ⟨w.heap.size,3,none⟩=some (.string ⟨#[]⟩):= ew;have z4:w1.cell? ⟨w.heap.size,4,none⟩=some (.string ⟨#[]⟩):= ew;have y0:w1.cell? ⟨w.heap.size+1,0,none⟩=some (.int .i64 3):= ew;have y1:w1.cell? ⟨w.heap.size+1,1,none⟩=some (.int .i64 ↑n):= ew;have y2:w1.cell? ⟨w.heap.size+1,2,none⟩=some (.int .i64 0):= ew;have y3:w1.cell? ⟨w.heap.size+1,3,none⟩=some (.string ⟨#[]⟩):= ew;have y4:w1.cell? ⟨w.heap.size+1,4,none⟩=some (.string ⟨#[]⟩):= ew;have hbw:Below w.heap.size w w1:=((((Below.refl w.heap.size w).alloc (wY _) _).alloc eB _).trans (hb1.mono eC))))
    exact dt
   | some p =>
    obtain⟨t,s⟩:=p;obtain⟨d,r2,rfl,_⟩:=jn _ _ _ hU;have HU:Hid (ie 125 (l.drop ((i:Int)+1).toNat) []=some (t,d::r2)):=ab eN;have HE':Hid (R=some (⟨3,n,0,t,[]⟩,r2)):=ab gu;clear hU HE;go_enter Tryz.func100,Tryz.ntmps100
    go_wp2_with (first|(go_at_call 99;refine(jc _ _ _ _ eu eu eB).mono ?_;rintro e w1 ⟨rfl,rfl⟩)|(go_at_call 139;refine(ly _ eu eu eu eu HU.out).mono ?_;rintro e w1 ⟨hb1,hlt,j,hj1,hj2,hj3,rfl⟩;obtain⟨hc1,hf1⟩:=mJ hb1;have z0:w1.cell? ⟨w.heap.size,0,none⟩=some (.int .i64 0):= ew;have z1:w1.cell? ⟨w.heap.size,1,none⟩=some (.int .i64 0):= ew;have z2:w1.cell? ⟨w.heap.size,2,none⟩=some (.int .i64 0):= ew;have z3:w1.cell? ⟨w.heap.size,3,none⟩=some (.string ⟨#[]⟩):= ew;have z4:w1.cell? ⟨w.heap.size,4,none⟩=some (.string ⟨#[]⟩):= ew;have y0:w1.cell? ⟨w.heap.size+1,0,none⟩=some (.int .i64 3):= ew;have y1:w1.cell? ⟨w.heap.size+1,1,none⟩=some (.int .i64 ↑n):= ew;have y2:w1.cell? ⟨w.heap.size+1,2,none⟩=some (.int .i64 0):= ew;have y3:w1.cell? ⟨w.heap.size+1,3,none⟩=some (.string ⟨#[]⟩):= ew;have y4:w1.cell? ⟨w.heap.size+1,4,none⟩=some (.string ⟨#[]⟩):= ew;have hbw:Below w.heap.size w w1:=((((Below.refl w.heap.size w).alloc (wY _) _).alloc eB _).trans (hb1.mono eC));have HJ3:=ab hj3;clear hj3))
    refine xE (v:=.tuple #[.agg #[.int .i64 3,.int .i64 n,.int .i64 0,.string ⟨t.toArray⟩,.string ⟨[].toArray⟩],.int .i64 (j+1),.bool true]) eO rfl ⟨?_,?_⟩
    ·(repeat (first|with_reducible exact Below.refl _ _|with_reducible assumption|(refine Below.setCell ?_ eI _)|(refine Below.alloc ?_ eD _)|(refine Below.drew ?_)))
    ·rw [HE'.out]
     exact d9
  by_cases c45:c.toNat=45
  ·have e1:List.isPrefixOf [47] (List.drop i l)=false:=by rw [hd,pre1];simp;try omega
   have e2:List.isPrefixOf [43] (List.drop i l)=false:=by rw [hd,pre1];simp;try omega
   have e3:List.isPrefixOf [63] (List.drop i l)=false:=by rw [hd,pre1];simp;try omega
   have e4:List.isPrefixOf [45] (List.drop i l)=true:=by rw [hd,pre1];simp;try omega
   have HE:Hid (R=match ie 125 r [] with|some (t,_::r2)=>some (⟨4,n,0,[],t⟩,r2)|_=>none):=ab (by
    rw [←HR.out,hd];simp only [jh];rw [wX eu,wX eu,wX eu,wU c45];rfl)
   clear hd c43 c45;cases hU:ie 125 r [] with
   | none =>
    have HU:Hid (ie 125 (l.drop ((i:Int)+1).toNat) []=none):=ab eN;exact aC
   | some p =>
    obtain⟨t,s⟩:=p;obtain⟨d,r2,rfl,_⟩:=jn _ _ _ hU;have HU:Hid (ie 125 (l.drop ((i:Int)+1).toNat) []=some (t,d::r2)):=ab eN;exact aB
  by_cases c63:c.toNat=63
  ·have e1:List.isPrefixOf [47] (List.drop i l)=false:=by rw [hd,pre1];simp;try omega
   have e2:List.isPrefixOf [43] (List.drop i l)=false:=by rw [hd,pre1];simp;try omega
   have e3:List.isPrefixOf [63] (List.drop i l)=true:=by rw [hd,pre1];simp;try omega
   have e4:List.isPrefixOf [45] (List.drop i l)=false:=by rw [hd,pre1];simp;try omega
   have HE:Hid (R=match ie 58 r [] with|some (t,_::r2)=>(match ie 125 r2 [] with|some (u,_::r3)=>some (⟨5,n,0,t,u⟩,r3)|_=>none)|_=>none):=ab (by
    rw [←HR.out,hd];simp only [jh];rw [wX eu,wX eu,wU c63];rfl)
   clear hd c43 c45 c63;cases hU:ie 58 r [] with
   | none =>
    have HU:Hid (ie 58 (l.drop ((i:Int)+1).toNat) []=none):=ab eN;have HE':Hid (R=none):=ab gu;clear hU HE;go_enter Tryz.func100,Tryz.ntmps100
    go_wp2_with (first|(go_at_call 99;refine(jc _ _ _ _ eu eu eB).mono ?_;rintro e w1 ⟨rfl,rfl⟩)|(go_at_call 139;refine(kp _ eu eu eu eu HU.out).mono ?_;rintro e w1 ⟨hb1,rfl⟩;obtain⟨hc1,hf1⟩:=mJ hb1;have z0:w1.cell? ⟨w.heap.size,0,none⟩=some (.int .i64 0):= ew;have z1:w1.cell? ⟨w.heap.size,1,none⟩=some (.int .i64 0):= ew;have z2:w1.cell? ⟨w.heap.size,2,none⟩=some (.int .i64 0):= ew;have z3:w1.cell? ⟨w.heap.size,3,none⟩=some (.string ⟨#[]⟩):= ew;have z4:w1.cell? ⟨w.heap.size,4,none⟩=some (.string ⟨#[]⟩):= ew;have y0:w1.cell? ⟨w.heap.size+1,0,none⟩=some (.int .i64 5):= ew;have y1:w1.cell? ⟨w.heap.size+1,1,none⟩=some (.int .i64 ↑n):= ew;have y2:w1.cell? ⟨w.heap.size+1,2,none⟩=some (.int .i64 0):= ew;have y3:w1.cell? ⟨w.heap.size+1,3,none⟩=some (.string ⟨#[]⟩):= ew;have y4:w1.cell? ⟨w.heap.size+1,4,none⟩=some (.string ⟨#[]⟩):= ew;have hbw:Below w.heap.size w w1:=((((Below.refl w.heap.size w).alloc (wY _) _).alloc eB _).trans (hb1.mono eC))))
    exact dt
   | some p =>
    obtain⟨t,s⟩:=p;obtain⟨d,r2,rfl,_⟩:=jn _ _ _ hU;have HU:Hid (ie 58 (l.drop ((i:Int)+1).toNat) []=some (t,d::r2)):=ab eN;have HE1:Hid (R=match ie 125 r2 [] with|some (u,_::r3)=>some (⟨5,n,0,t,u⟩,r3)|_=>none):=ab gu;clear hU HE;go_enter Tryz.func100,Tryz.ntmps100
    go_wp2_with (first|(go_at_call 99;refine(jc _ _ _ _ eu eu eB).mono ?_;rintro e w1 ⟨rfl,rfl⟩)|(go_at_call 139;refine(ly _ eu eu eu eu HU.out).mono ?_))
    rintro e w1 ⟨hb1,hlt,j,hj1,hj2,hj3,rfl⟩;obtain⟨hc1,hf1⟩:=mJ hb1;have z0:w1.cell? ⟨w.heap.size,0,none⟩=some (.int .i64 0):= ew;have z1:w1.cell? ⟨w.heap.size,1,none⟩=some (.int .i64 0):= ew;have z2:w1.cell? ⟨w.heap.size,2,none⟩=some (.int .i64 0):= ew;have z3:w1.cell? ⟨w.heap.size,3,none⟩=some (.string ⟨#[]⟩):= ew;have z4:w1.cell? ⟨w.heap.size,4,none⟩=some (.string ⟨#[]⟩):= ew;have y0:w1.cell? ⟨w.heap.size+1,0,none⟩=some (.int .i64 5):= ew;have y1:w1.cell? ⟨w.heap.size+1,1,none⟩=some (.int .i64 ↑n):= ew;have y2:w1.cell? ⟨w.heap.size+1,2,none⟩=some (.int .i64 0):= ew;have y3:w1.cell? ⟨w.heap.size+1,3,none⟩=some (.string ⟨#[]⟩):= ew;have y4:w1.cell? ⟨w.heap.size+1,4,none⟩=some (.string ⟨#[]⟩):= ew;have hbw:Below w.heap.size w w1:=((((Below.refl w.heap.size w).alloc (wY _) _).alloc eB _).trans (hb1.mono eC));have HJ:=ab (iv hj3).2.2;clear hj3;have hz:w.heap.size+1<w1.heap.size:=by have:=hb1.size;simp at this;omega
    cases hV:ie 125 r2 [] with
    | none =>
     have HV:Hid (ie 125 (l.drop ((j:Int)+1).toNat) []=none):=ab fV;have HE':Hid (R=none):=ab (by rw [HE1.out,hV]);clear hV HE1;go_wp2_with (go_at_call 139;refine(kp _ eu eu eu eu HV.out).mono ?_;rintro e w2 ⟨hb2,rfl⟩;obtain⟨hc2,hf2⟩:=mJ hb2;have fz2:∀j,w2.frozen? ⟨w.heap.size,j,none⟩=false:=(fun j=>by rw [hf2 _ _ eE];simp [go_sem,hf1]);have fy2:∀j,w2.frozen? ⟨w.heap.size+1,j,none⟩=false:=(fun j=>by rw [hf2 _ _ eE];simp [go_sem,hf1]);have x0:w2.cell? ⟨w.heap.size,0,none⟩=some (.int .i64 0):= fI;have x1:w2.cell? ⟨w.heap.size,1,none⟩=some (.int .i64 0):= fJ;have x2:w2.cell? ⟨w.heap.size,2,none⟩=some (.int .i64 0):= fK;have x3:w2.cell? ⟨w.heap.size,3,none⟩=some (.string ⟨#[]⟩):= fL;have x4:w2.cell? ⟨w.heap.size,4,none⟩=some (.string ⟨#[]⟩):= fM;have v0:w2.cell? ⟨w.heap.size+1,0,none⟩=some (.int .i64 5):= fN;have v1:w2.cell? ⟨w.heap.size+1,1,none⟩=some (.int .i64 ↑n):= fO;have v2:w2.cell? ⟨w.heap.size+1,2,none⟩=some (.int .i64 0):= fP;have v3:w2.cell? ⟨w.heap.size+1,3,none⟩=some (.string ⟨t.toArray⟩):= fQ;have v4:w2.cell? ⟨w.heap.size+1,4,none⟩=some (.string ⟨#[]⟩):= fR;have hbw2:Below w.heap.size w w2:=(hbw.setCell (p:=⟨w.heap.size+1,3,none⟩) eB _).trans (hb2.mono eE))
     refine xE (v:=.tuple #[.agg #[.int .i64 0,.int .i64 0,.int .i64 0,.string ⟨#[]⟩,.string ⟨#[]⟩],.int .i64 0,.bool false]) gd rfl ⟨?_,by rw [HE'.out];rfl⟩
     (repeat (first|with_reducible exact Below.refl _ _|with_reducible assumption|(refine Below.setCell ?_ eI _)|(refine Below.alloc ?_ eD _)|(refine Below.drew ?_)))
    | some p =>
     obtain⟨u,s⟩:=p;obtain⟨d',r3,rfl,_⟩:=jn _ _ _ hV;have HV:Hid (ie 125 (l.drop ((j:Int)+1).toNat) []=some (u,d'::r3)):=ab fV;have HE':Hid (R=some (⟨5,n,0,t,u⟩,r3)):=ab (by rw [HE1.out,hV]);clear hV HE1;go_wp2_with (go_at_call 139;refine(ly _ eu eu eu eu HV.out).mono ?_;rintro e w2 ⟨hb2,hlt2,j2,hk1,hk2,hk3,rfl⟩;obtain⟨hc2,hf2⟩:=mJ hb2;have fz2:∀j,w2.frozen? ⟨w.heap.size,j,none⟩=false:=(fun j=>by rw [hf2 _ _ eE];simp [go_sem,hf1]);have fy2:∀j,w2.frozen? ⟨w.heap.size+1,j,none⟩=false:=(fun j=>by rw [hf2 _ _ eE];simp [go_sem,hf1]);have x0:w2.cell? ⟨w.heap.size,0,none⟩=some (.int .i64 0):= fI;have x1:w2.cell? ⟨w.heap.size,1,none⟩=some (.int .i64 0):= fJ;have x2:w2.cell? ⟨w.heap.size,2,none⟩=some (.int .i64 0):= fK;have x3:w2.cell? ⟨w.heap.size,3,none⟩=some (.string ⟨#[]⟩):= fL;have x4:w2.cell? ⟨w.heap.size,4,none⟩=some (.string ⟨#[]⟩):= fM;have v0:w2.cell? ⟨w.heap.size+1,0,none⟩=some (.int .i64 5):= fN;have v1:w2.cell? ⟨w.heap.size+1,1,none⟩=some (.int .i64 ↑n):= fO;have v2:w2.cell? ⟨w.heap.size+1,2,none⟩=some (.int .i64 0):= fP;have v3:w2.cell? ⟨w.heap.size+1,3,none⟩=some (.string ⟨t.toArray⟩):= fQ;have v4:w2.cell? ⟨w.heap.size+1,4,none⟩=some (.string ⟨#[]⟩):= fR;have hbw2:Below w.heap.size w w2:=(hbw.setCell (p:=⟨w.heap.size+1,3,none⟩) eB _).trans (hb2.mono eE);have HK3:=ab hk3;clear hk3)
     refine xE (v:=.tuple #[.agg #[.int .i64 5,.int .i64 n,.int .i64 0,.string ⟨t.toArray⟩,.string ⟨u.toArray⟩],.int .i64 (j2+1),.bool true]) gd rfl ⟨?_,?_⟩
     ·(repeat (first|with_reducible exact Below.refl _ _|with_reducible assumption|(refine Below.setCell ?_ eI _)|(refine Below.alloc ?_ eD _)|(refine Below.drew ?_)))
     ·rw [HE'.out]
      refine⟨by simp;try omega,by simp;try omega,j2+1,by omega,by omega,(iv HK3.out).2.2,by simp⟩
  by_cases c47:c.toNat=47
  ·have e1:List.isPrefixOf [47] (List.drop i l)=true:=by rw [hd,pre1];simp;try omega
   have e2:List.isPrefixOf [43] (List.drop i l)=false:=by rw [hd,pre1];simp;try omega
   have e3:List.isPrefixOf [63] (List.drop i l)=false:=by rw [hd,pre1];simp;try omega
   have e4:List.isPrefixOf [45] (List.drop i l)=false:=by rw [hd,pre1];simp;try omega
   have HE:Hid (R=match r.dropWhile jm with
    | []=>none
    | _::r2=>if lT (r.takeWhile jm)=0 then none else some (⟨2,n,lT (r.takeWhile jm),[],[]⟩,r2)):=ab (by
    rw [←HR.out,hd];simp only [jh];rw [wU c47];rfl)
   have hx:Lib.indexByte (List.drop i l) (125:Int).toNat.toUInt8=match r.dropWhile jm with|[]=>-1|_::_=>((r.takeWhile jm).length:Int)+1:=by
    rw [hd];have e125:(125:Int).toNat.toUInt8=125:=rfl;have hb:(c==125)=false:=by rw [xH];intro e;rw [e] at c47;simp at c47
    rw [e125];simp only [Lib.indexByte,hb];rw [sU];cases r.dropWhile jm with
    | nil=>rfl
    | cons x y =>
     have h1:((((r.takeWhile jm).length:Int))==-1)=false:=by rw [xH];omega
     simp only [h1,xX,if_false]
   clear hd c43 c45 c63 c47;have hspan:=xL (p:=jm) (l:=r);generalize r.takeWhile jm=tk at *
   generalize r.dropWhile jm=dw at *
   have HX:=ab hx;have HSP:=ab hspan;clear hx hspan;cases dw with
   | nil =>
    have HX':Hid (Lib.indexByte (List.drop i l) (125:Int).toNat.toUInt8=-1):=HX;have HE':Hid (R=none):=HE;clear HX HE;go_enter Tryz.func100,Tryz.ntmps100
    go_wp2_with (first|(go_at_call 99;refine(jc _ _ _ _ eu eu eB).mono ?_;rintro e w1 ⟨rfl,rfl⟩)|(go_at_call 36;refine(iU _ HX'.out).mono ?_;rintro e w1 ⟨rfl,rfl⟩))
    refine xE (v:=.tuple #[.agg #[.int .i64 0,.int .i64 0,.int .i64 0,.string ⟨#[]⟩,.string ⟨#[]⟩],.int .i64 0,.bool false]) (by simp [results,Tryz.results100,go_sem]) rfl ⟨?_,by rw [HE'.out];rfl⟩
    (repeat (first|with_reducible exact Below.refl _ _|with_reducible assumption|(refine Below.setCell ?_ eI _)|(refine Below.alloc ?_ eD _)|(refine Below.drew ?_)))
   | cons d r2 =>
    have HX':Hid (Lib.indexByte (List.drop i l) (125:Int).toNat.toUInt8=(tk.length:Int)+1):=HX;have HE':Hid (R=if lT tk=0 then none else some (⟨2,n,lT tk,[],[]⟩,r2)):=HE;have hlen:i+1+tk.length<l.length:=by
     have h1:=xM List.length HSP.out;have h2:=xM List.length Hr.out;simp at h1 h2;omega
    have hK:∀k,k=tk.length→List.take k (List.drop (i+1) l)=tk:=fun k hk=>by
     rw [Hr.out,←HSP.out,hk,List.take_left]
    have HK:=ab hK;clear HX HE hK;go_enter Tryz.func100,Tryz.ntmps100
    have hW:lT (List.take (i+(tk.length+1)-(i+1)) (List.drop (i+1) l))=lT tk:=by rw [HK.out _ eu]
    generalize hv:lT tk=v at *
    have HW:=ab hW;have HV:=ab hv;clear hW hv;by_cases h0:v=0
    ·subst h0
     have HE2:Hid (R=none):=ab (by rw [HE'.out,wU rfl]);clear HE';have HE':=HE2;go_wp2_with (first|(go_at_call 99;refine(jc _ _ _ _ eu eu eB).mono ?_;rintro e w1 ⟨rfl,rfl⟩)|(go_at_call 36;refine(iU _ HX'.out).mono ?_;rintro e w1 ⟨rfl,rfl⟩)|(go_at_call 138;refine(Way_eq _ HW.out).mono ?_;rintro e w1 ⟨rfl,hb1⟩;obtain⟨hc1,hf1⟩:=mJ hb1;have z0:w1.cell? ⟨w.heap.size,0,none⟩=some (.int .i64 0):= ew;have z1:w1.cell? ⟨w.heap.size,1,none⟩=some (.int .i64 0):= ew;have z2:w1.cell? ⟨w.heap.size,2,none⟩=some (.int .i64 0):= ew;have z3:w1.cell? ⟨w.heap.size,3,none⟩=some (.string ⟨#[]⟩):= ew;have z4:w1.cell? ⟨w.heap.size,4,none⟩=some (.string ⟨#[]⟩):= ew;have y0:w1.cell? ⟨w.heap.size+1,0,none⟩=some (.int .i64 4):= ew;have y1:w1.cell? ⟨w.heap.size+1,1,none⟩=some (.int .i64 ↑n):= ew;have y2:w1.cell? ⟨w.heap.size+1,2,none⟩=some (.int .i64 0):= ew;have y3:w1.cell? ⟨w.heap.size+1,3,none⟩=some (.string ⟨#[]⟩):= ew;have y4:w1.cell? ⟨w.heap.size+1,4,none⟩=some (.string ⟨#[]⟩):= ew;have hbw:Below w.heap.size w w1:=((((Below.refl w.heap.size w).alloc (wY _) _).alloc eB _).trans (hb1.mono eC))))
     exact dt
    ·have HE2:Hid (R=some (⟨2,n,v,[],[]⟩,r2)):=ab (by rw [HE'.out,wX h0])
     have e0:(v==0)=false:=by simpa using h0
     clear HE' h0;go_wp2_with (first|(go_at_call 99;refine(jc _ _ _ _ eu eu eB).mono ?_;rintro e w1 ⟨rfl,rfl⟩)|(go_at_call 36;refine(iU _ HX'.out).mono ?_;rintro e w1 ⟨rfl,rfl⟩)|(go_at_call 138;refine(Way_eq _ HW.out).mono ?_;rintro e w1 ⟨rfl,hb1⟩;obtain⟨hc1,hf1⟩:=mJ hb1;have z0:w1.cell? ⟨w.heap.size,0,none⟩=some (.int .i64 0):= ew;have z1:w1.cell? ⟨w.heap.size,1,none⟩=some (.int .i64 0):= ew;have z2:w1.cell? ⟨w.heap.size,2,none⟩=some (.int .i64 0):= ew;have z3:w1.cell? ⟨w.heap.size,3,none⟩=some (.string ⟨#[]⟩):= ew;have z4:w1.cell? ⟨w.heap.size,4,none⟩=some (.string ⟨#[]⟩):= ew;have y0:w1.cell? ⟨w.heap.size+1,0,none⟩=some (.int .i64 4):= ew;have y1:w1.cell? ⟨w.heap.size+1,1,none⟩=some (.int .i64 ↑n):= ew;have y2:w1.cell? ⟨w.heap.size+1,2,none⟩=some (.int .i64 0):= ew;have y3:w1.cell? ⟨w.heap.size+1,3,none⟩=some (.string ⟨#[]⟩):= ew;have y4:w1.cell? ⟨w.heap.size+1,4,none⟩=some (.string ⟨#[]⟩):= ew;have hbw:Below w.heap.size w w1:=((((Below.refl w.heap.size w).alloc (wY _) _).alloc eB _).trans (hb1.mono eC))))
     refine xE (v:=.tuple #[.agg #[.int .i64 2,.int .i64 n,.int .i64 v,.string ⟨[].toArray⟩,.string ⟨[].toArray⟩],.int .i64 (i+(tk.length+1)+1),.bool true]) eO rfl ⟨?_,?_⟩
     ·(repeat (first|with_reducible exact Below.refl _ _|with_reducible assumption|(refine Below.setCell ?_ eI _)|(refine Below.alloc ?_ eD _)|(refine Below.drew ?_)))
     ·rw [HE2.out]
      refine⟨by simp,by simp,i+(tk.length+1)+1,by omega,by omega,?_,by simp⟩;rw [show i+(tk.length+1)+1=i+1+(tk.length+1) by omega,←List.drop_drop,Hr.out,←HSP.out,List.drop_append];simp
  ·have e1:List.isPrefixOf [47] (List.drop i l)=false:=by rw [hd,pre1];simp;try omega
   have e2:List.isPrefixOf [43] (List.drop i l)=false:=by rw [hd,pre1];simp;try omega
   have e3:List.isPrefixOf [63] (List.drop i l)=false:=by rw [hd,pre1];simp;try omega
   have e4:List.isPrefixOf [45] (List.drop i l)=false:=by rw [hd,pre1];simp;try omega
   have HE:Hid (R=match ie 125 (c::r) [] with|some (t,_::r2)=>some (⟨4,n,0,[],t⟩,r2)|_=>none):=ab (by
    rw [←HR.out,hd];simp only [jh];rw [wX c47,wX c43,wX c63,wX c45];rfl)
   clear hd c43 c45 c63 c47;cases hU:ie 125 (c::r) [] with
   | none =>
    have HU:Hid (ie 125 (l.drop ((i:Int)).toNat) []=none):=ab (by rw [Int.toNat_natCast,HD.out];exact hU);exact aC
   | some p =>
    obtain⟨t,s⟩:=p;obtain⟨d,r2,rfl,_⟩:=jn _ _ _ hU;have HU:Hid (ie 125 (l.drop ((i:Int)).toNat) []=some (t,d::r2)):=ab (by rw [Int.toNat_natCast,HD.out];exact hU);exact aB
end Go.Proofs.YtbnkaecmgfolpaaGreat
