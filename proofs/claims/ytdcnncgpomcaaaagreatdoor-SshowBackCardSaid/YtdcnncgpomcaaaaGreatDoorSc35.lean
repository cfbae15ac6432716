/- Formats as data: their parts, a slice of them in memory; the plain functions on them. -/
import Derived.Test.YtdcnncgpomcaaaaGreatDoorSc33
set_option maxRecDepth 100000
set_option maxHeartbeats 4000000
namespace Go.Proofs.YtdcnncgpomcaaaaGreatDoor
open Go.RowKit
theorem F0:Tryz.prog.underlying 95=some (.struct (Tryz.prog.fieldsOf 95)):=by kernel_rfl
open Go.RowKit
theorem AE (a:Option Addr) (n c:Nat) (m:Int) (fs:List Fm) (w:World) (h:Sl w w.heap.size a 5 n (l5 fs)) (hn:n≤maxLen) (hm:-100000≤m∧m≤100000)
  (hsz:∀f∈fs,f.thn.length≤maxLen∧f.els.length≤maxLen) :
  Calls Tryz.prog 30 #[.slice a n c,.int .i64 m] w fun e w'=>e=.returned (.int .i64 (pT fs m))∧Below w.heap.size w w':=by
 unfold maxLen at hn hsz;generalize hR:pT fs m=R
 have HR:=ab hR;clear hR;have HR0:Hid (pT (fs.drop 0) m=R):=HR;have Hn:=ab h.fs_len;have HSl:=ab h;have HSz:=ab hsz;clear HR h hsz;obtain⟨hm0,hm1⟩:=hm;go_enter Tryz.func30,Tryz.ntmps30
 go_wp2
 go_loopw [1,5] (fun s q wr=>∃(k:Nat) (m':Int),k≤n∧q=.int .i64 k∧s=.int .i64 m'∧-100000≤m'∧m'≤100000∧Below w.heap.size w wr∧Hid (pT (fs.drop k) m'=R)) (fun _ q _=>n-(intOf q).toNat)
 case atStart=>exact⟨0,m,by omega,rfl,rfl,hm0,hm1,Below.refl _ _,HR0⟩
 case round =>
  obtain⟨k,m',hk,rfl,rfl,hm2,hm3,hb,HF⟩:=hrel;clear HR0;cases hd:fs.drop k with
  | nil =>
   have h2:n≤k:=by have:=Hn.out;simp at hd;omega
   have HF':Hid (pT [] m'=R):=ab io;clear hd HF;go_wp2
   go_ret
   exact⟨mX HF'.out,hb⟩
  | cons f r =>
   obtain⟨h2,h3,hr⟩:=kV hd;have HF':Hid (pT (f::r) m'=R):=ab io;have Hr:=ab hr;have hkn:k<n:=by have:=Hn.out;omega
   obtain⟨b,o,rfl,hbB,c0,c1,c2,c3,c4⟩:=(HSl.out.keep hb).fm h3;obtain⟨z1,z2⟩:=HSz.out f (In h3);clear hd HF hr h2 h3;obtain⟨kind,fn,cse,thn,els⟩:=f;by_cases hA:m'≤thn.length∨m'≤els.length
   ·have HE:Hid (R=-1):=ab (by rw [←HF'.out];simp only [pT];exact Hu hA)
    exact eD
   ·have HE:Hid (R=pT r (m'-1-thn.length-els.length)):=ab (by rw [←HF'.out];simp only [pT];exact Hx hA)
    have hA1:(thn.length:Int)<m':=by omega
    have hA2:(els.length:Int)<m':=by omega
    clear hA;go_wp2
    go_quiet (fail)
    go_wp2
    go_roundw
    case rel =>
     refine⟨k+1,m'-1-thn.length-els.length,by omega,by go_num,rfl,by omega,by omega,below_drewN hb _,ab ?_⟩;rw [Hr.out,HE.out]
    case measure=>simp [intOf];omega
open Go.RowKit
namespace Rx
def finK (ks:List Rx):Option Int→Int
 | none=>-1
 | some m=>leftK ks m
def mem1:Rx→Prop
 | mk _ c _ rs _ _ _ ks=>c.length≤maxLen∧rs.length≤maxLen∧(∀r∈rs,r.1.length≤maxLen∧r.2.length≤maxLen)∧ks.length≤maxLen
mutual
def mem:Rx→Prop
 | mk k c ng rs lo hi lz ks=>mem1 (mk k c ng rs lo hi lz ks)∧memL ks
def memL:List Rx→Prop
 | []=>True
 | x::r=>mem x∧memL r
end
end Rx
theorem B3:∀{ks:List Rx} {x:Rx},Rx.memL ks→x∈ks→x.mem
 | [],_,_,h=>by simp at h
 | y::r,x,hs,h=>by
  simp only [Rx.memL] at hs;rcases Ii.1 h with rfl|h
  ·exact hs.1
  ·exact B3 hs.2 h
theorem xj:∀(rs:List (Str × Str)) (n m:Int),rZ rs n=some m→m≤n∧(-1000≤n→n≤1000→-1000≤m)
 | [],n,m,h=>by simp only [rZ] at h;injection h with h;subst h;omega
 | r::rs,n,m,h=>by
  simp only [rZ] at h;split at h
  ·cases h
  ·rename_i hc
   have:=xj rs _ m h
   refine⟨by omega,fun a b=>?_⟩;by_cases hn:-1000≤n-1-r.1.length-r.2.length
   ·exact this.2 hn gj
   ·exfalso;omega
theorem xT:∀(N:Nat) (x:Rx) (n:Int),x.parts≤N→-1000≤n→n≤1000→-1000≤x.left n∧x.left n≤1000
 | 0,x,_,h,_,_=>by have:=Rx.parts_pos x;omega
 | N+1,.mk k c ng rs lo hi lz ks,n,h,h0,h1=>by
  simp only [Rx.parts] at h;have hk:∀(l:List Rx) (m:Int),Rx.partsL l≤N→-1000≤m→m≤1000→-1000≤Rx.leftK l m∧Rx.leftK l m≤1000:=by
   intro l;induction l with
   | nil=>intro m _ a b;simp only [Rx.leftK];exact⟨a,b⟩
   | cons x r ih =>
    intro m hm a b;simp only [Rx.partsL] at hm;simp only [Rx.leftK];split
    ·exact⟨a,b⟩
    ·have:=xT N x m gj a b
     exact ih _ gj this.1 this.2
  simp only [Rx.left];split
  ·omega
  ·rename_i hc
   split
   ·omega
   ·rename_i m hm
    have h2:=xj rs _ m hm;exact hk ks m gj (h2.2 gj gj) gj
def LrRel (rs:List (Str × Str)) (R:Option Int) (w:World) (s q:Value) (wr:World):Prop :=
 ∃(k:Nat) (m:Int),k≤rs.length∧q=.int .i64 k∧s=.int .i64 m∧-1000≤m∧m≤1000∧Below w.heap.size w wr∧Hid (rZ (rs.drop k) m=R)
def LkRel (ks:List Rx) (R:Int) (w:World) (s q:Value) (wr:World):Prop :=
 ∃(k:Nat) (m:Int),k≤ks.length∧q=.int .i64 k∧s=.int .i64 m∧-1000≤m∧m≤1000∧Below w.heap.size w wr∧Hid (Rx.leftK (ks.drop k) m=R)
theorem zL (S:Nat→Prop):∀(N:Nat) (x:Rx),x.parts≤N→x.mem→∀(cc:List Value) (w:World) (n:Int),RxV w S cc x→-1000≤n→n≤1000 →
  Calls Tryz.prog 29 #[.agg cc.toArray,.int .i64 n] w fun e w'=>e=.returned (.int .i64 (x.left n))∧Below w.heap.size w w'
 | 0,x,h,_,_,_,_,_,_,_=>by have:=Rx.parts_pos x;omega
 | N+1,.mk k c ng rs lo hi lz ks,h,hmem,cc,w,n,hv,hn0,hn1=>by
  obtain⟨ra,rc,ka,kc,rfl,hrs,hx⟩:=hv.open_;simp only [Rx.parts] at h;obtain⟨⟨m1,m2,m3,m4⟩,hmemL⟩:=hmem;unfold maxLen at m1 m2 m3 m4;have ih:=fun(y:Rx) (hy:y∈ks)=>zL S N y jc (B3 hmemL hy)
  have ihb:=fun(y:Rx) (hy:y∈ks) (m:Int)=>xT N y m jc
  have IH:=ab ih;have IHB:=ab ihb;have M3:=ab m3;obtain⟨w0,hw0⟩:∃w0,w0=w.alloc (.cells #[.int .i64 k,.string ⟨c.toArray⟩,.bool ng,.slice ra rs.length rc,.int .i64 lo,.int .i64 hi,.bool lz,.slice ka ks.length kc] 38):=⟨_,rfl⟩;have hb0:Below w.heap.size w w0:=by rw [hw0];exact(Below.refl _ _).alloc (Ia _) _
  have HX:=ab (hx.later hb0);have HRS:=ab (hrs.keep (Kept.all hb0)).sl;have z3:w0.cell? ⟨w.heap.size,3,none⟩=some (.slice ra rs.length rc):=by rw [hw0];simp
  have z7:w0.cell? ⟨w.heap.size,7,none⟩=some (.slice ka ks.length kc):=by rw [hw0];simp
  have Z3:=ab z3;have Z7:=ab z7;clear hx hv hrs ih ihb hmemL z3 z7 m3;unfold rxc;by_cases hout:n≤c.length∨n≤rs.length∨n≤ks.length
  ·have HR:Hid ((Rx.mk k c ng rs lo hi lz ks).left n=-1):=ab (by simp only [Rx.left];rw [Hu hout])
   rw [HR.out];clear hw0;go_enter Tryz.func29,Tryz.ntmps29
   go_wp2
   all_goals first
    | (go_ret;exact⟨rfl,(Below.refl _ _).alloc (Ia _) _⟩)
    | (exfalso;omega)
  ·have h1:(c.length:Int)<n:=gj
   have h2:(rs.length:Int)<n:=gj;have h3:(ks.length:Int)<n:=gj;obtain⟨R,hR⟩:∃R,rZ rs (n-1-c.length)=R:=⟨_,rfl⟩;have HR0:Hid (rZ (rs.drop 0) (n-1-c.length)=R):=ab hR;have HE:Hid ((Rx.mk k c ng rs lo hi lz ks).left n=Rx.finK ks R):=ab (by simp only [Rx.left];rw [Hx hout,hR];cases R<;>rfl);rw [HE.out];have hR1:∀m,R=some m→-1000≤m∧m≤1000:=fun m hm=>by
    have:=xj rs _ m (hR.trans hm);omega
   have HR1:=ab hR1;clear hout hR hR1;go_enter Tryz.func29,Tryz.ntmps29
   go_wp2
   rw [←hw0];have HW0:=ab hw0;clear hw0;go_loopw [1,5] (fun s q wr=>LrRel rs R w0 s q wr) (fun _ q _=>rs.length-(intOf q).toNat)
   case atStart=>exact⟨0,n-1-c.length,by omega,rfl,rfl,by omega,by omega,Below.refl _ _,HR0⟩
   case round =>
    obtain⟨i,m,hi,rfl,rfl,hm0,hm1,hb,HF⟩:=hrel;clear HR0;have hB:=hb.size;have z3:wr.cell? ⟨w.heap.size,3,none⟩=some (.slice ra rs.length rc):=lp hb _ _ Z3.out;have hbb:=hb0.trans (hb.mono hb0.size);cases hd:rs.drop i with
    | nil =>
     have hge:rs.length≤i:=gX;have hie:i=rs.length:=gj;have HE2:Hid (R=some m):=ab ic;have HX1:=ab (HX.out.later hb);have HK0:Hid (Rx.leftK (ks.drop 0) m=Rx.leftK ks m):=ab rfl;obtain⟨T,hT⟩:∃T,Rx.leftK ks m=T:=⟨_,rfl⟩;rw [hT] at HK0;have HFK:Hid (Rx.finK ks R=T):=ab (by rw [HE2.out];exact hT);have Z7r:=ab (lp hb _ _ Z7.out);clear hd HF hT;subst hie;clear hge hi;obtain⟨wo,rfl⟩:∃wo:World,wo=wr:=⟨_,rfl⟩;go_wp2
     go_loopw [1,6] (fun s q wk=>LkRel ks T wo s q wk) (fun _ q _=>ks.length-(intOf q).toNat)
     case atStart=>exact⟨0,m,by omega,rfl,rfl,hm0,hm1,Below.refl _ _,HK0⟩
     case round =>
      obtain⟨j,m',hj,rfl,rfl,hk0,hk1,hbk,HG⟩:=hrel;clear HK0;have hBk:=hbk.size;have z7:wr.cell? ⟨w.heap.size,7,none⟩=some (.slice ka ks.length kc):=lp hbk _ _ Z7r.out;have hbbk:=hbb.trans (hbk.mono hbb.size);cases hd:ks.drop j with
      | nil =>
       have hge2:ks.length≤j:=gX;have HT:Hid (m'=T):=ab (by rw [←HG.out,hd];rfl);clear hd HG;go_wp2
       go_ret
       exact⟨mX (by rw [HFK.out];exact HT.out),hbbk⟩
      | cons y r =>
       obtain⟨g2,g3,hr⟩:=kV hd;have hym:=In g3;obtain⟨yk,yc,yn,yr,yl,yh,yz,ys⟩:=y;obtain⟨b,o,ya,yrc,yka,ykc,rfl,hS,hbB,_,_,hyv,c0,c1,c2,c3,c4,c5,c6,c7⟩:=(HX1.out.later hbk).cells g3;have Hr:=ab hr;have HG2:Hid (Rx.leftK (.mk yk yc yn yr yl yh yz ys::r) m'=T):=ab (by rw [←HG.out,hd]);have HYV:=ab hyv;unfold rxc at HYV;clear hd HG hr g3 hyv;by_cases hneg:m'<0
       ·have HT:Hid (m'=T):=ab (by rw [←HG2.out];simp only [Rx.leftK];rw [Hu hneg])
        go_wp2
        go_ret
        exact⟨mX (by rw [HFK.out];exact HT.out),hbbk⟩
       ·have HT:Hid (Rx.leftK r ((Rx.mk yk yc yn yr yl yh yz ys).left m')=T):=ab (by rw [←HG2.out];simp only [Rx.leftK];rw [Hx hneg])
        have hpos:0≤m':=by omega
        obtain⟨b1,b2⟩:=IHB.out _ hym m' hk0 hk1;clear hneg;go_wp2_with (go_at_call 29;refine(IH.out _ hym _ _ m' HYV.out hk0 hk1).mono ?_)
        first|rintro e w2 rfl hb2|rintro e w2 ⟨rfl,hb2⟩
        go_wp2
        go_roundw
        case rel=>exact⟨j+1,_,by omega,by go_num,rfl,b1,b2,hbk.trans (hb2.mono hBk),ab (by rw [Hr.out];exact HT.out)⟩
        case measure=>simp [intOf];omega
    | cons r0 r =>
     obtain⟨g2,g3,hr⟩:=kV hd;obtain⟨b,o,rfl,hbB,c0,c1⟩:=(HRS.out.keep (hb.mono (Ia _))).row g3;obtain⟨l1,l2⟩:=M3.out r0 (In g3);obtain⟨f,t⟩:=r0;replace l1:f.length≤2 ^ 63-1:=l1;replace l2:t.length≤2 ^ 63-1:=l2;replace c0:wr.cell? ⟨b,o+i*2,none⟩=some (.string ⟨f.toArray⟩):=c0;replace c1:wr.cell? ⟨b,o+i*2+1,none⟩=some (.string ⟨t.toArray⟩):=c1;have Hr:=ab hr;have HF2:Hid (rZ ((f,t)::r) m=R):=ab kp;clear hd HF hr g3;by_cases hc:m≤f.length∨m≤t.length
     ·have HRN:Hid (R=none):=ab (by rw [←HF2.out];simp only [rZ];rw [Hu hc])
      go_wp2
      all_goals first
       | (go_ret;exact⟨mX (by rw [HRN.out];rfl),hbb⟩)
       | (exfalso;omega)
     ·have HRN:Hid (rZ r (m-1-f.length-t.length)=R):=ab (by rw [←HF2.out];simp only [rZ];rw [Hx hc])
      have hcf:(f.length:Int)<m:=gj;have hct:(t.length:Int)<m:=gj;have x3:∀x:ExtOf wr,x.val.cell? ⟨w.heap.size,3,none⟩=some (.slice (some ⟨b,o,none⟩) rs.length rc):=ExtOf.cell z3;have x0:∀x:ExtOf wr,x.val.cell? ⟨b,o+i*2,none⟩=some (.string ⟨f.toArray⟩):=ExtOf.cell c0;have x1:∀x:ExtOf wr,x.val.cell? ⟨b,o+i*2+1,none⟩=some (.string ⟨t.toArray⟩):=ExtOf.cell c1;clear hc;go_wp2
      refine kE gC gC ?_;repeat (go_big_quiet_step ((fail)))
      refine wpQuiet_nil ?_;rintro _ ⟨xq,rfl⟩;go_wp2
      go_roundw
      case rel=>exact⟨i+1,m-1-f.length-t.length,by omega,by go_num,by go_num,by omega,by omega,hb.trans (xq.ext.mono hB),ab (by rw [Hr.out];exact HRN.out)⟩
      case measure=>simp [intOf];omega
open Go.ChangeShapes Go.WideShapes Go.RowKit
section
variable {H:Type} {enc:TypeId × Value→H} {P:Program} {w:World} {spare:Nat→Bool} {held:Bool}
theorem uQ {C:Nat}:∀{css:List (List Value)},(∀c∈css,c.length=C)→∀{j:Nat} {u:Value},css.flatten[j]?=some u→∃i k c,css[i]?=some c∧k<C∧j=i*C+k∧c[k]?=some u
 | [],_,j,u,h=>by simp at h
 | c::css,hC,j,u,h=>by
  have hc:=hC c (Ik ..);rw [List.flatten_cons] at h;by_cases hj:j<c.length
  ·rw [Ij hj] at h
   exact⟨0,j,c,rfl,by omega,by omega,h⟩
  ·rw [Ih gj] at h
   obtain⟨i,k,c',h1,h2,h3,h4⟩:=uQ (fun x hx=>hC x (Il _ hx)) h;exact⟨i+1,k,c',by simpa using h1,h2,by rw [Nat.succ_mul];omega,h4⟩
theorem vG {C:Nat}:∀{css:List (List Value)},(∀c∈css,c.length=C)→css.flatten.length=css.length*C
 | [],_=>by simp
 | c::css,hC=>by
  rw [List.flatten_cons,Ig,vG (fun x hx=>hC x (Il _ hx)),hC c (Ik ..),H7,Nat.succ_mul];omega
theorem pL {t e:TypeId} {C fuel:Nat} {cs:List Value} {x:DataW H × List MemPlace} (ht:P.underlying t=some (.slice e)) (hC:P.cellsOf e=C) (hC0:0<C)
  (h:DataW.trod enc P w 0 spare held fuel t cs=some x) (Q:List Value→Prop)
  (hQ:∀n c y,n<fuel→c.length=C→DataW.trod enc P w 0 spare held n e c=some y→Q c) :
  ∃(a:Option Addr) (len cap:Nat) (css:List (List Value)),cs=[.slice a len cap]∧len≤maxLen∧css.length=len∧(∀c∈css,Q c∧c.length=C)∧Sl w w.heap.size a C len css.flatten:=by
 rcases DataW.trod_slice ht h with⟨rfl,_⟩|⟨a,len,cap,elems,rest,n,hf,rfl,_,_,hl,hm,hlen,hel,_,_⟩
 ·exact⟨none,0,0,[],rfl,by simp [maxLen],rfl,by simp,Sl.none_ _ _ _ _⟩
 ·have each:∀i,i<len→∃c,c.length=C∧Q c∧∀j,j<C→w.cell? ((a.add (i*C)).add j)=c[j]?:=by
   intro i hi;have h1:=hel i hi;have hlt:i<elems.length:=gj;rw [Hw hlt,Option.bind_eq_some_iff] at h1;obtain⟨c,hc,hy⟩:=h1;obtain⟨_,h2,h3⟩:=World.cells?_some hc;rw [hC] at h2 h3;exact⟨c,h2,hQ n c _ gj h2 hy,h3⟩
  have all:∃css:List (List Value),css.length=len∧∀i c,css[i]?=some c→c.length=C∧Q c∧∀j,j<C→w.cell? ((a.add (i*C)).add j)=c[j]?:=by
   have:∀m,m≤len→∃css:List (List Value),css.length=m∧∀i c,css[i]?=some c→c.length=C∧Q c∧∀j,j<C→w.cell? ((a.add (i*C)).add j)=c[j]?:=by
    intro m;induction m with
    | zero=>intro _;exact⟨[],rfl,by simp⟩
    | succ m ih =>
     intro hm;obtain⟨css,h1,h2⟩:=ih gj;obtain⟨c,hc⟩:=each m gj;refine⟨css++[c],by simp [h1],fun i d hd=>?_⟩;by_cases hi:i<css.length
     ·rw [Ij hi] at hd;exact h2 i d hd
     ·rw [Ih gj] at hd
      have hi0:i-css.length=0:=by
       rcases Nat.eq_zero_or_pos (i-css.length) with h0|h0
       ·exact h0
       ·rw [List.getElem?_eq_none gD] at hd;cases hd
      rw [hi0] at hd;simp at hd;subst hd
      rw [show i=m by omega];exact hc
   exact this len (Ia _)
  obtain⟨css,h1,h2⟩:=all;have h3:∀c∈css,Q c∧c.length=C:=fun c hc=>by
   obtain⟨i,hi⟩:=List.getElem?_of_mem hc;exact⟨(h2 i c hi).2.1,(h2 i c hi).1⟩
  refine⟨some a,len,cap,css,rfl,by omega,h1,h3,by rw [vG (fun c hc=>(h3 c hc).2),h1],fun hn=>?_⟩;have h0:w.cell? a≠none:=by
   obtain⟨c,hc⟩:∃c,css[0]?=some c:=⟨_,Hw gj⟩;obtain⟨hc1,_,hc2⟩:=h2 0 c hc;have:=hc2 0 hC0
   rw [show (a.add (0*C)).add 0=a by simp [Addr.add],Hw gj] at this;rw [this];simp
  obtain⟨b,off,spot⟩:=a;have hspot:spot=none:=by
   cases spot with
   | none=>rfl
   | some s=>exfalso;apply h0;unfold World.cell?;split<;>simp
  subst hspot;have hb:b<w.heap.size:=by
   rcases Nat.lt_or_ge b w.heap.size with h4|h4
   ·exact h4
   ·exfalso;apply h0;simp [World.cell?,Array.getElem?_eq_none h4]
  refine⟨b,off,rfl,hb,fun j u hu=>?_⟩;obtain⟨i,k,c,g1,g2,rfl,g4⟩:=uQ (fun c hc=>(h3 c hc).2) hu;have:=(h2 i c g1).2.2 k g2
  rw [g4] at this;rw [←this];congr 1;unfold Addr.add;(repeat' split)<;>simp_all<;>omega
theorem xg {X:Type} (f:X→List Value) (K:X→Prop):∀{css:List (List Value)},(∀c∈css,∃x,c=f x∧K x)→∃xs:List X,css=xs.map f∧∀x∈xs,K x
 | [],_=>⟨[],rfl,by simp⟩
 | c::css,h=>by
  obtain⟨x,rfl,hx⟩:=h c (Ik ..);obtain⟨xs,rfl,hxs⟩:=xg f K (fun d hd=>h d (Il _ hd));exact⟨x::xs,rfl,fun y hy=>by
   rcases Ii.1 hy with rfl|hy
   ·exact hx
   ·exact hxs y hy⟩
theorem uT {X:Type} (f:X→List Value) (K:X→Prop) {t e:TypeId} {C fuel:Nat} {cs:List Value} {x:DataW H × List MemPlace} (ht:P.underlying t=some (.slice e)) (hC:P.cellsOf e=C) (hC0:0<C)
  (h:DataW.trod enc P w 0 spare held fuel t cs=some x)
  (hQ:∀n c y,n<fuel→c.length=C→DataW.trod enc P w 0 spare held n e c=some y→∃x,c=f x∧K x) :
  ∃(a:Option Addr) (cap:Nat) (xs:List X),cs=[.slice a xs.length cap]∧xs.length≤maxLen∧(∀x∈xs,K x)∧Sl w w.heap.size a C xs.length (xs.flatMap f):=by
 obtain⟨a,len,cap,css,h1,h2,h3,h4,h5⟩:=pL ht hC hC0 h (fun c=>∃x,c=f x∧K x) hQ;obtain⟨xs,rfl,hx⟩:=xg f K (fun c hc=>(h4 c hc).1);rw [List.length_map] at h3;subst h3;exact⟨a,cap,xs,h1,h2,hx,by rw [List.flatMap_def];exact h5⟩
end
section
variable {H:Type} {enc:TypeId × Value→H} {w:World} {base:Nat} {spare:Nat→Bool} {held:Bool}
theorem vS {P:Program} {t e:TypeId} (ht:P.underlying t=some (.slice e)) {r:Reach} {b0:Nat} {v:Value} (hval:Value.okWide P w r b0 t v):v.cells.toList=[v]:=by
 obtain⟨a,len,cap,rfl⟩:=okWide_slice ht hval;rfl
end
open Go.ChangeShapes Go.WideShapes Go.RowKit
theorem EG:Tryz.prog.underlying 38=some (.struct (Tryz.prog.fieldsOf 38)):=by kernel_rfl
theorem DT:Tryz.prog.underlying 93=some (.struct (Tryz.prog.fieldsOf 93)):=by kernel_rfl
theorem rx_fs : Tryz.prog.fieldsOf 38 = #[{ name := "Kind", type := 3, offset := 0, embedded := false, tag := "", pkgPath := "", byteOffset := 0 }, { name := "Char", type := 9, offset := 1, embedded := false, tag := "", pkgPath := "", byteOffset := 8 }, { name := "Not", type := 4, offset := 2, embedded := false, tag := "", pkgPath := "", byteOffset := 24 }, { name := "Rows", type := 35, offset := 3, embedded := false, tag := "", pkgPath := "", byteOffset := 32 }, { name := "Min", type := 3, offset := 4, embedded := false, tag := "", pkgPath := "", byteOffset := 56 }, { name := "Max", type := 3, offset := 5, embedded := false, tag := "", pkgPath := "", byteOffset := 64 }, { name := "Lazy", type := 4, offset := 6, embedded := false, tag := "", pkgPath := "", byteOffset := 72 }, { name := "Kids", type := 36, offset := 7, embedded := false, tag := "", pkgPath := "", byteOffset := 80 }] := by kernel_rfl
theorem row_fs : Tryz.prog.fieldsOf 93 = #[{ name := "From", type := 9, offset := 0, embedded := false, tag := "", pkgPath := "", byteOffset := 0 }, { name := "To", type := 9, offset := 1, embedded := false, tag := "", pkgPath := "", byteOffset := 16 }] := by kernel_rfl
theorem uw:Tryz.prog.cellsOf 3=1:=by kernel_rfl
theorem nZ:Tryz.prog.cellsOf 9=1:=by kernel_rfl
theorem sR:Tryz.prog.cellsOf 4=1:=by kernel_rfl
theorem D6:Tryz.prog.cellsOf 35=1:=by kernel_rfl
theorem Ff:Tryz.prog.cellsOf 36=1:=by kernel_rfl
theorem E9:Tryz.prog.cellsOf 93=2:=by kernel_rfl
theorem CK:Tryz.prog.cellsOf 38=8:=by kernel_rfl
theorem zA {w:World}:∀{css:List (List Value)},(∀c∈css,∃x:Rx,RxV w Any c x∧x.mem)→∃xs:List Rx,RxVs w Any css xs∧Rx.memL xs
 | [],_=>⟨[],.nil,by simp [Rx.memL]⟩
 | c::css,h=>by
  obtain⟨x,hx,hm⟩:=h c (Ik ..);obtain⟨xs,hxs,hms⟩:=zA (fun d hd=>h d (Il _ hd));exact⟨x::xs,.cons hx hxs,by simp only [Rx.memL];exact⟨hm,hms⟩⟩
section
variable {H:Type} {enc:TypeId × Value→H} {w:World} {spare:Nat→Bool} {held:Bool}
theorem open_row {n:Nat} {c:List Value} {y:DataW H × List MemPlace} (hc:c.length=2) (hy:DataW.trod enc Tryz.prog w 0 spare held n 93 c=some y) :
  ∃r:Str × Str,c=[.string ⟨(r.1).toArray⟩,.string ⟨(r.2).toArray⟩]∧r.1.length≤maxLen∧r.2.length≤maxLen:=by
 obtain⟨ys,m,_,_,_,hl,hfs⟩:=DataW.trod_struct DT hy;match c,hc with
 | [c0,c1],_ =>
  rw [row_fs] at hfs hl;have hys:ys.length=2:=hl;have f0 := hfs 0 ({ name := "From", type := 9, offset := 0, embedded := false, tag := "", pkgPath := "", byteOffset := 0 }) rfl
  have f1 := hfs 1 ({ name := "To", type := 9, offset := 1, embedded := false, tag := "", pkgPath := "", byteOffset := 16 }) rfl
  simp only [nZ] at f0 f1;rw [Hw gj] at f0 f1;obtain⟨s0,e0,_,h0⟩:=DataW.trod_string Tryz.underlying9 f0;obtain⟨s1,e1,_,h1⟩:=DataW.trod_string Tryz.underlying9 f1;simp only [List.drop,List.take] at e0 e1;injection e0 with e0;injection e1 with e1
  subst e0 e1;exact⟨⟨s0.data.toList,s1.data.toList⟩,by simp,by simpa using h0,by simpa using h1⟩
theorem rx_cells:∀(fuel:Nat) (c:List Value) (y:DataW H × List MemPlace),c.length=8→DataW.trod enc Tryz.prog w 0 spare held fuel 38 c=some y→∃x:Rx,RxV w Any c x∧x.mem:=by
 intro fuel;induction fuel using Nat.strongRecOn with
 | ind fuel ih =>
  intro c y hc hy;obtain⟨ys,m,hm,_,_,hl,hfs⟩:=DataW.trod_struct EG hy;match c,hc with
  | [c0,c1,c2,c3,c4,c5,c6,c7],_ =>
   rw [rx_fs] at hfs hl;have hys:ys.length=8:=hl;have f0 := hfs 0 ({ name := "Kind", type := 3, offset := 0, embedded := false, tag := "", pkgPath := "", byteOffset := 0 }) rfl
   have f1 := hfs 1 ({ name := "Char", type := 9, offset := 1, embedded := false, tag := "", pkgPath := "", byteOffset := 8 }) rfl
   have f2 := hfs 2 ({ name := "Not", type := 4, offset := 2, embedded := false, tag := "", pkgPath := "", byteOffset := 24 }) rfl
   have f3 := hfs 3 ({ name := "Rows", type := 35, offset := 3, embedded := false, tag := "", pkgPath := "", byteOffset := 32 }) rfl
   have f4 := hfs 4 ({ name := "Min", type := 3, offset := 4, embedded := false, tag := "", pkgPath := "", byteOffset := 56 }) rfl
   have f5 := hfs 5 ({ name := "Max", type := 3, offset := 5, embedded := false, tag := "", pkgPath := "", byteOffset := 64 }) rfl
   have f6 := hfs 6 ({ name := "Lazy", type := 4, offset := 6, embedded := false, tag := "", pkgPath := "", byteOffset := 72 }) rfl
   have f7 := hfs 7 ({ name := "Kids", type := 36, offset := 7, embedded := false, tag := "", pkgPath := "", byteOffset := 80 }) rfl
   simp only [nZ,uw,sR,D6,Ff] at f0 f1 f2 f3 f4 f5 f6 f7;rw [Hw gj] at f0 f1 f2 f3 f4 f5 f6 f7;obtain⟨n0,e0,_⟩:=DataW.trod_int Tryz.underlying3 f0;obtain⟨s1,e1,_,h1⟩:=DataW.trod_string Tryz.underlying9 f1;obtain⟨b2,e2,_⟩:=DataW.trod_bool Tryz.underlying4 f2;obtain⟨a3,cap3,rs,e3,h3,hr3,sl3⟩:=uT (fun r:Str × Str=>[.string ⟨(r.1).toArray⟩,.string ⟨(r.2).toArray⟩]) (fun r=>r.1.length≤maxLen∧r.2.length≤maxLen) Tryz.underlying35 (C:=2) E9 gv f3 (fun n c y _ hc hy=>open_row hc hy);obtain⟨n4,e4,_⟩:=DataW.trod_int Tryz.underlying3 f4;obtain⟨n5,e5,_⟩:=DataW.trod_int Tryz.underlying3 f5;obtain⟨b6,e6,_⟩:=DataW.trod_bool Tryz.underlying4 f6;obtain⟨a7,len7,cap7,css,e7,h7,hcl,hq,sl7⟩:=pL Tryz.underlying36 (C:=8) CK gv f7 (fun c=>∃x:Rx,RxV w Any c x∧x.mem) (fun n c y hn hc hy=>ih n gj c y hc hy);obtain⟨ks,hks,hmL⟩:=zA (fun c hc=>(hq c hc).1);have hlk:len7=ks.length:=by rw [←hks.length,hcl]
   subst hlk;simp only [List.drop,List.take] at e0 e1 e2 e3 e4 e5 e6 e7;injection e0 with e0;injection e1 with e1;injection e2 with e2;injection e3 with e3;injection e4 with e4;injection e5 with e5;injection e6 with e6;injection e7 with e7
   subst e0 e1 e2 e3 e4 e5 e6 e7;refine⟨.mk n0 s1.data.toList b2 rs n4 n5 b6 ks,?_,?_⟩
   ·have hv:=RxV.mk (k:=n0) (c:=s1.data.toList) (ng:=b2) (rs:=rs) (lo:=n4) (hi:=n5) (lz:=b6) (ks:=ks) (rc:=cap3) (kc:=cap7) (ra:=a3) (ka:=a7) sl3.slAny sl7.slAny hks
    unfold rxc at hv;rw [←ba_of] at hv;exact hv
   ·simp only [Rx.mem,Rx.mem1]
    exact⟨⟨by simpa using h1,h3,hr3,h7⟩,hmL⟩
end
open Go.ChangeShapes Go.WideShapes Go.RowKit
def Tf.mem (f:Tf):Prop:=f.rx.mem∧f.fs.length≤maxLen∧∀g∈f.fs,g.thn.length≤maxLen∧g.els.length≤maxLen
namespace Sn
mutual
def mem:Sn→Prop
 | mk _ t _ _ _ f o ks=>t.length≤maxLen∧f.mem∧o.length≤maxLen∧(∀s∈o,s.length≤maxLen)∧ks.length≤maxLen∧memL ks
def memL:List Sn→Prop
 | []=>True
 | x::r=>mem x∧memL r
end
end Sn
theorem AA:Tryz.prog.underlying 44=some (.struct (Tryz.prog.fieldsOf 44)):=by kernel_rfl
theorem zQ:Tryz.prog.underlying 41=some (.struct (Tryz.prog.fieldsOf 41)):=by kernel_rfl
theorem snip_fs : Tryz.prog.fieldsOf 44 = #[{ name := "Kind", type := 3, offset := 0, embedded := false, tag := "", pkgPath := "", byteOffset := 0 }, { name := "Text", type := 9, offset := 1, embedded := false, tag := "", pkgPath := "", byteOffset := 8 }, { name := "N", type := 3, offset := 2, embedded := false, tag := "", pkgPath := "", byteOffset := 24 }, { name := "Has", type := 4, offset := 3, embedded := false, tag := "", pkgPath := "", byteOffset := 32 }, { name := "Turned", type := 4, offset := 4, embedded := false, tag := "", pkgPath := "", byteOffset := 33 }, { name := "Form", type := 41, offset := 5, embedded := false, tag := "", pkgPath := "", byteOffset := 40 }, { name := "Opts", type := 42, offset := 16, embedded := false, tag := "", pkgPath := "", byteOffset := 176 }, { name := "Kids", type := 22, offset := 17, embedded := false, tag := "", pkgPath := "", byteOffset := 200 }] := by kernel_rfl
theorem form_fs : Tryz.prog.fieldsOf 41 = #[{ name := "Rx", type := 38, offset := 0, embedded := false, tag := "", pkgPath := "", byteOffset := 0 }, { name := "Fmts", type := 39, offset := 8, embedded := false, tag := "", pkgPath := "", byteOffset := 104 }, { name := "Fold", type := 4, offset := 9, embedded := false, tag := "", pkgPath := "", byteOffset := 128 }, { name := "All", type := 4, offset := 10, embedded := false, tag := "", pkgPath := "", byteOffset := 129 }] := by kernel_rfl
theorem Ef:Tryz.prog.cellsOf 41=11:=by kernel_rfl
theorem wE:Tryz.prog.cellsOf 44=18:=by kernel_rfl
theorem BE:Tryz.prog.cellsOf 22=1:=by kernel_rfl
theorem DC:Tryz.prog.cellsOf 42=1:=by kernel_rfl
theorem DW:Tryz.prog.cellsOf 39=1:=by kernel_rfl
theorem Gh:Tryz.prog.cellsOf 95=5:=by kernel_rfl
theorem vo {w:World}:∀{css:List (List Value)},(∀c∈css,∃x:Sn,SnV w Any c x∧x.mem)→∃xs:List Sn,SnVs w Any css xs∧Sn.memL xs
 | [],_=>⟨[],.nil,by simp [Sn.memL]⟩
 | c::css,h=>by
  obtain⟨x,hx,hm⟩:=h c (Ik ..);obtain⟨xs,hxs,hms⟩:=vo (fun d hd=>h d (Il _ hd));exact⟨x::xs,.cons hx hxs,by simp only [Sn.memL];exact⟨hm,hms⟩⟩
theorem yj {w:World} {S:Nat→Prop}:∀{css:List (List Value)} {xs:List Sn},SnVs w S css xs→css.length=xs.length
 | _,_,.nil=>rfl
 | _,_,.cons _ h=>Hy (·+1) (yj h)
section
variable {H:Type} {enc:TypeId × Value→H} {w:World} {spare:Nat→Bool} {held:Bool}
theorem G4 {n:Nat} {c:List Value} {y:DataW H × List MemPlace} (hc:c.length=5) (hy:DataW.trod enc Tryz.prog w 0 spare held n 95 c=some y):∃f:Fm,c=f.cells∧f.thn.length≤maxLen∧f.els.length≤maxLen:=by
 obtain⟨ys,m,_,_,_,hl,hfs⟩:=DataW.trod_struct F0 hy;match c,hc with
 | [c0,c1,c2,c3,c4],_ =>
  have hF : Tryz.prog.fieldsOf 95 = #[{ name := "Kind", type := 3, offset := 0, embedded := false, tag := "", pkgPath := "", byteOffset := 0 }, { name := "N", type := 3, offset := 1, embedded := false, tag := "", pkgPath := "", byteOffset := 8 }, { name := "Case", type := 3, offset := 2, embedded := false, tag := "", pkgPath := "", byteOffset := 16 }, { name := "Then", type := 9, offset := 3, embedded := false, tag := "", pkgPath := "", byteOffset := 24 }, { name := "Else", type := 9, offset := 4, embedded := false, tag := "", pkgPath := "", byteOffset := 40 }] := by kernel_rfl
  rw [hF] at hfs hl;have f0 := hfs 0 ({ name := "Kind", type := 3, offset := 0, embedded := false, tag := "", pkgPath := "", byteOffset := 0 }) rfl
  have f1 := hfs 1 ({ name := "N", type := 3, offset := 1, embedded := false, tag := "", pkgPath := "", byteOffset := 8 }) rfl
  have f2 := hfs 2 ({ name := "Case", type := 3, offset := 2, embedded := false, tag := "", pkgPath := "", byteOffset := 16 }) rfl
  have f3 := hfs 3 ({ name := "Then", type := 9, offset := 3, embedded := false, tag := "", pkgPath := "", byteOffset := 24 }) rfl
  have f4 := hfs 4 ({ name := "Else", type := 9, offset := 4, embedded := false, tag := "", pkgPath := "", byteOffset := 40 }) rfl
  simp only [uw,nZ,List.drop,List.take] at f0 f1 f2 f3 f4;have hys:ys.length=5:=hl;rw [Hw gj] at f0 f1 f2 f3 f4;obtain⟨n0,e0,_⟩:=DataW.trod_int Tryz.underlying3 f0;obtain⟨n1,e1,_⟩:=DataW.trod_int Tryz.underlying3 f1;obtain⟨n2,e2,_⟩:=DataW.trod_int Tryz.underlying3 f2;obtain⟨s3,e3,_,h3⟩:=DataW.trod_string Tryz.underlying9 f3;obtain⟨s4,e4,_,h4⟩:=DataW.trod_string Tryz.underlying9 f4;injection e0 with e0;injection e1 with e1;injection e2 with e2;injection e3 with e3;injection e4 with e4
  subst e0 e1 e2 e3 e4;exact⟨⟨n0,n1,n2,s3.data.toList,s4.data.toList⟩,by simp [Fm.cells],by simpa using h3,by simpa using h4⟩
theorem Bl {n:Nat} {c:List Value} {y:DataW H × List MemPlace} (hc:c.length=11) (hy:DataW.trod enc Tryz.prog w 0 spare held n 41 c=some y):∃f:Tf,TfV w Any c f∧f.mem:=by
 obtain⟨ys,m,_,_,_,hl,hfs⟩:=DataW.trod_struct zQ hy;match c,hc with
 | [c0,c1,c2,c3,c4,c5,c6,c7,c8,c9,c10],_ =>
  rw [form_fs] at hfs hl;have hys:ys.length=4:=hl;have f0 := hfs 0 ({ name := "Rx", type := 38, offset := 0, embedded := false, tag := "", pkgPath := "", byteOffset := 0 }) rfl
  have f1 := hfs 1 ({ name := "Fmts", type := 39, offset := 8, embedded := false, tag := "", pkgPath := "", byteOffset := 104 }) rfl
  have f2 := hfs 2 ({ name := "Fold", type := 4, offset := 9, embedded := false, tag := "", pkgPath := "", byteOffset := 128 }) rfl
  have f3 := hfs 3 ({ name := "All", type := 4, offset := 10, embedded := false, tag := "", pkgPath := "", byteOffset := 129 }) rfl
  simp only [CK,DW,sR,List.drop,List.take] at f0 f1 f2 f3;rw [Hw gj] at f0 f1 f2 f3;obtain⟨x,hx,hm⟩:=rx_cells _ [c0,c1,c2,c3,c4,c5,c6,c7] _ rfl f0;obtain⟨a1,cap1,fs,e1,h1,hr1,sl1⟩:=uT Fm.cells (fun f=>f.thn.length≤maxLen∧f.els.length≤maxLen) Tryz.underlying39 (C:=5) Gh gv f1 (fun n c y _ hc hy=>G4 hc hy);obtain⟨b2,e2,_⟩:=DataW.trod_bool Tryz.underlying4 f2;obtain⟨b3,e3,_⟩:=DataW.trod_bool Tryz.underlying4 f3;injection e1 with e1;injection e2 with e2;injection e3 with e3
  subst e1 e2 e3;exact⟨⟨x,fs,b2,b3⟩,⟨[c0,c1,c2,c3,c4,c5,c6,c7],a1,cap1,hx,sl1.slAny,rfl⟩,hm,h1,hr1⟩
theorem Do:∀(fuel:Nat) (c:List Value) (y:DataW H × List MemPlace),c.length=18→DataW.trod enc Tryz.prog w 0 spare held fuel 44 c=some y→∃x:Sn,SnV w Any c x∧x.mem:=by
 intro fuel;induction fuel using Nat.strongRecOn with
 | ind fuel ih =>
  intro c y hc hy;obtain⟨ys,m,hm,_,_,hl,hfs⟩:=DataW.trod_struct AA hy;match c,hc with
  | [c0,c1,c2,c3,c4,c5,c6,c7,c8,c9,c10,c11,c12,c13,c14,c15,c16,c17],_ =>
   rw [snip_fs] at hfs hl;have hys:ys.length=8:=hl;have f0 := hfs 0 ({ name := "Kind", type := 3, offset := 0, embedded := false, tag := "", pkgPath := "", byteOffset := 0 }) rfl
   have f1 := hfs 1 ({ name := "Text", type := 9, offset := 1, embedded := false, tag := "", pkgPath := "", byteOffset := 8 }) rfl
   have f2 := hfs 2 ({ name := "N", type := 3, offset := 2, embedded := false, tag := "", pkgPath := "", byteOffset := 24 }) rfl
   have f3 := hfs 3 ({ name := "Has", type := 4, offset := 3, embedded := false, tag := "", pkgPath := "", byteOffset := 32 }) rfl
   have f4 := hfs 4 ({ name := "Turned", type := 4, offset := 4, embedded := false, tag := "", pkgPath := "", byteOffset := 33 }) rfl
   have f5 := hfs 5 ({ name := "Form", type := 41, offset := 5, embedded := false, tag := "", pkgPath := "", byteOffset := 40 }) rfl
   have f6 := hfs 6 ({ name := "Opts", type := 42, offset := 16, embedded := false, tag := "", pkgPath := "", byteOffset := 176 }) rfl
   have f7 := hfs 7 ({ name := "Kids", type := 22, offset := 17, embedded := false, tag := "", pkgPath := "", byteOffset := 200 }) rfl
   simp only [nZ,uw,sR,Ef,DC,BE,List.drop,List.take] at f0 f1 f2 f3 f4 f5 f6 f7;rw [Hw gj] at f0 f1 f2 f3 f4 f5 f6 f7;obtain⟨n0,e0,_⟩:=DataW.trod_int Tryz.underlying3 f0;obtain⟨s1,e1,_,h1⟩:=DataW.trod_string Tryz.underlying9 f1;obtain⟨n2,e2,_⟩:=DataW.trod_int Tryz.underlying3 f2;obtain⟨b3,e3,_⟩:=DataW.trod_bool Tryz.underlying4 f3;obtain⟨b4,e4,_⟩:=DataW.trod_bool Tryz.underlying4 f4;obtain⟨tf,h5,hm5⟩:=Bl rfl f5;obtain⟨a6,cap6,os,e6,h6,hr6,sl6⟩:=uT (fun s:Str=>[.string ⟨s.toArray⟩]) (fun s=>s.length≤maxLen) Tryz.underlying42 (C:=1) nZ gv f6 (fun n c y _ _ hy=>by
    obtain⟨s,rfl,_,hs⟩:=DataW.trod_string Tryz.underlying9 hy;exact⟨s.data.toList,by simp,by simpa using hs⟩)
   have hm6:∀ys:List Str,ys.flatMap (fun s:Str=>[.string ⟨s.toArray⟩])=l8 ys:=by
    intro ys;induction ys with
    | nil=>rfl
    | cons y ys ih=>rw [If,ih];rfl
   rw [hm6] at sl6;obtain⟨a7,len7,cap7,css,e7,h7,hcl,hq,sl7⟩:=pL Tryz.underlying22 (C:=18) wE gv f7 (fun c=>∃x:Sn,SnV w Any c x∧x.mem) (fun n c y hn hc hy=>ih n gj c y hc hy);obtain⟨ks,hks,hmL⟩:=vo (fun c hc=>(hq c hc).1);have hlk:len7=ks.length:=by rw [←yj hks,hcl]
   subst hlk;injection e0 with e0;injection e1 with e1;injection e2 with e2;injection e3 with e3;injection e4 with e4;injection e6 with e6;injection e7 with e7
   subst e0 e1 e2 e3 e4 e6 e7;refine⟨.mk n0 s1.data.toList n2 b3 b4 tf os ks,?_,?_⟩
   ·have hv:=SnV.close (k:=n0) (t:=s1.data.toList) (n:=n2) (h:=b3) (u:=b4) (os:=os) (ks:=ks) (oc:=cap6) (kc:=cap7) h5 sl6.slAny ⟨css,sl7.slAny,hks⟩
    unfold snc at hv;rw [←ba_of] at hv;exact hv
   ·simp only [Sn.mem]
    exact⟨by simpa using h1,hm5,h6,hr6,h7,hmL⟩
theorem s6 {r:Reach} {b0:Nat} {v:Value} {d:DataW H} {ps:List MemPlace} (hval:Value.okWide Tryz.prog w r b0 22 v) (h:DataW.Trod enc Tryz.prog w 0 spare held 22 v d ps) :
  ∃(a:Option Addr) (cap:Nat) (xs:List Sn),v=.slice a xs.length cap∧xs.length≤maxLen∧Sn.memL xs∧SnSl w Any a xs.length xs:=by
 obtain⟨fuel,hf⟩:=h;rw [vS Tryz.underlying22 hval] at hf;obtain⟨a7,len7,cap7,css,e7,h7,hcl,hq,sl7⟩:=pL Tryz.underlying22 (C:=18) wE gv hf (fun c=>∃x:Sn,SnV w Any c x∧x.mem) (fun n c y hn hc hy=>Do n c y hc hy);obtain⟨ks,hks,hmL⟩:=vo (fun c hc=>(hq c hc).1);have hlk:len7=ks.length:=by rw [←yj hks,hcl]
 subst hlk;injection e7 with e7
 exact⟨a7,cap7,ks,e7,h7,hmL,css,sl7.slAny,hks⟩
end
open Go.RowKit
theorem Cg:∀(fs:List Fm) (m:Int),-1000≤m→m≤1000→-1000≤pT fs m∧pT fs m≤1000
 | [],m,a,b=>⟨a,b⟩
 | f::r,m,a,b=>by
  simp only [pT];split
  ·omega
  ·exact Cg r _ gj gj
theorem BZ (f:Tf) (n:Int) (a:-1000≤n) (b:n≤1000):-1000≤vY f n∧vY f n≤1000:=by
 have h:=xT _ f.rx n (Ia _) a b;unfold vY;split
 ·exact h
 ·exact Cg _ _ h.1 h.2
theorem BA (S:Nat→Prop) (f:Tf) (hm:f.mem) (fc:List Value) (w:World) (n:Int) (hv:TfV w S fc f) (hn0:-1000≤n) (hn1:n≤1000) :
  Calls Tryz.prog 19 #[.agg fc.toArray,.int .i64 n] w fun e w'=>e=.returned (.int .i64 (vY f n))∧Below w.heap.size w w':=by
 obtain⟨rk,rch,rng,rrs,rlo,rhi,rlz,rks,ra,rcp,rka,rkc,fa,fcp,hc⟩:=hv.open_;obtain⟨X,fs,fd,al⟩:=f;obtain⟨m1,m2,m3⟩:=hm;have hx1:X=.mk rk rch rng rrs rlo rhi rlz rks:=hc.rx;have hfce:fc=[.int .i64 rk,.string ⟨rch.toArray⟩,.bool rng,.slice ra rrs.length rcp,.int .i64 rlo,.int .i64 rhi,.bool rlz,.slice rka rks.length rkc,.slice fa fs.length fcp,.bool fd,.bool al]:=hc.eq;obtain⟨W0,hW0⟩:∃W0,W0=w.alloc (.cells fc.toArray 41):=⟨_,rfl⟩;have hb0:Below w.heap.size w W0:=by rw [hW0];exact(Below.refl _ _).alloc (Ia _) _
 have HB1:Hid (W0.heap[w.heap.size]?=some (.cells fc.toArray 41 (0,0))):=ab g7;have hXV:RxV W0 S [.int .i64 rk,.string ⟨rch.toArray⟩,.bool rng,.slice ra rrs.length rcp,.int .i64 rlo,.int .i64 rhi,.bool rlz,.slice rka rks.length rkc] X:=hx1▸hc.rv.later hb0;have HFS:Hid (SlS W0 S fa 5 fs.length (l5 fs)):=ab (hc.fv.keep (Kept.all hb0));have hlb:=xT _ X n (Ia _) hn0 hn1;have HRX:=ab (zL S _ X (Ia _) m1 _ W0 n hXV hn0 hn1);have HM3:=ab m3;have HM2:Hid (fs.length≤maxLen):=ab m2;have hF:vY ⟨X,fs,fd,al⟩ n=if X.left n<0 then X.left n else pT fs (X.left n):=rfl
 subst hfce;have HW0:=ab hW0;rw [hF];clear hv hc hx1 hW0 m1 m2 m3 hXV hF;generalize X.left n=m at HRX hlb ⊢
 obtain⟨l0,l1⟩:=hlb;by_cases hneg:m<0
 ·rw [Hu hneg]
  have g1:decide (m<0)=true:=Iw hneg;clear hneg;go_enter Tryz.func19,Tryz.ntmps19
  go_upto_region 1 with fail
  rw [←HW0.out];clear HW0;go_wp2_with (first
   | (refine kA rfl 38 (.tmp 5) rfl w.heap.size 0 rfl [.int .i64 rk,.string ⟨rch.toArray⟩,.bool rng,.slice ra rrs.length rcp,.int .i64 rlo,.int .i64 rhi,.bool rlz,.slice rka rks.length rkc] _ (kG (ds:=[.slice fa fs.length fcp,.bool fd,.bool al]) HB1.out) lK rfl g8 ?_)
   | (go_at_call 29;refine HRX.out.mono ?_))
  exact bh
 ·rw [Hx hneg]
  have g1:decide (m<0)=false:=Ix hneg;clear hneg;go_enter Tryz.func19,Tryz.ntmps19
  go_upto_region 1 with fail
  rw [←HW0.out];clear HW0;go_wp2_with (first
   | (refine kA rfl 38 (.tmp 5) rfl w.heap.size 0 rfl [.int .i64 rk,.string ⟨rch.toArray⟩,.bool rng,.slice ra rrs.length rcp,.int .i64 rlo,.int .i64 rhi,.bool rlz,.slice rka rks.length rkc] _ (kG (ds:=[.slice fa fs.length fcp,.bool fd,.bool al]) HB1.out) lK rfl g8 ?_)
   | (go_at_call 29;refine HRX.out.mono ?_))
  first|rintro e w1 rfl hb1|rintro e w1 ⟨rfl,hb1⟩
  have hx1:=(hb1.block _ (ky HB1.out)).trans HB1.out;have z8:=kz hx1 8 rfl;have HFL:=ab (AE fa fs.length fcp m fs w1 (HFS.out.keep (Kept.all hb1)).sl HM2.out gj HM3.out);clear hx1;go_wp2_with (go_at_call 30;refine HFL.out.mono ?_)
  first|rintro e w2 rfl hb2|rintro e w2 ⟨rfl,hb2⟩
  go_wp2
  go_ret
  exact⟨rfl,bel2 (bel2 hb0 hb1) hb2⟩
open Go.RowKit
namespace Sn
end Sn
def finO (ks:List Sn):Option Int→Int
 | none=>-1
 | some m=>if m<0 then m else Sn.leftL ks m
theorem Co:∀(o:List Str) (n m:Int),rL o n=some m→-1000≤n→n≤1000→-1000≤m∧m≤n
 | [],n,m,h,a,b=>by simp only [rL] at h;injection h with h;omega
 | s::r,n,m,h,a,b=>by
  simp only [rL] at h;split at h
  ·cases h
  ·have:=Co r _ m h gj gj;omega
theorem Ch:∀(N:Nat) (x:Sn) (n:Int),x.parts≤N→-1000≤n→n≤1000→-1000≤x.left n∧x.left n≤1000
 | 0,x,_,h,_,_=>by have:=Sn.parts_pos x;omega
 | N+1,.mk k t n0 h u f o ks,n,hp,h0,h1=>by
  simp only [Sn.parts] at hp;have hk:∀(l:List Sn) (m:Int),Sn.partsL l≤N→-1000≤m→m≤1000→-1000≤Sn.leftL l m∧Sn.leftL l m≤1000:=by
   intro l;induction l with
   | nil=>intro m _ a b;simp only [Sn.leftL];exact⟨a,b⟩
   | cons x r ih =>
    intro m hm a b;simp only [Sn.partsL] at hm;simp only [Sn.leftL];split
    ·exact⟨a,b⟩
    ·have:=Ch N x m gj a b
     exact ih _ gj this.1 this.2
  simp only [Sn.left];split
  ·omega
  ·rename_i hc
   have hf:=BZ f (n-1-t.length) gj gj;split
   ·omega
   ·rename_i m hm
    have h2:=Co o _ m hm hf.1 hf.2;split
    ·omega
    ·exact hk ks m gj gj gj
theorem CY:∀(l:List Sn) (m:Int),-1000≤m→m≤1000→-1000≤Sn.leftL l m∧Sn.leftL l m≤1000
 | [],m,a,b=>⟨a,b⟩
 | x::r,m,a,b=>by
  simp only [Sn.leftL];split
  ·exact⟨a,b⟩
  ·have:=Ch _ x m (Ia _) a b
   exact CY r _ this.1 this.2
theorem xH:∀{ks:List Sn} {x:Sn},Sn.memL ks→x∈ks→x.mem
 | [],_,_,h=>by simp at h
 | y::r,x,hs,h=>by
  simp only [Sn.memL] at hs;rcases Ii.1 h with rfl|h
  ·exact hs.1
  ·exact xH hs.2 h
theorem sJ:∀(l:List Sn) (m:Int),m<0→Sn.leftL l m=m
 | [],m,_=>rfl
 | x::r,m,h=>by simp only [Sn.leftL];rw [Hu h]
def SlRel (ks:List Sn) (R:Int) (w:World) (s q:Value) (wr:World):Prop :=
 ∃(k:Nat) (m:Int),k≤ks.length∧q=.int .i64 k∧s=.int .i64 m∧-1000≤m∧m≤1000∧Below w.heap.size w wr∧Hid (Sn.leftL (ks.drop k) m=R)
def SoLRel (o:List Str) (R:Option Int) (w:World) (s q:Value) (wr:World):Prop :=
 ∃(k:Nat) (m:Int),k≤o.length∧q=.int .i64 k∧s=.int .i64 m∧-1000≤m∧m≤1000∧Below w.heap.size w wr∧Hid (rL (o.drop k) m=R)
def LsC (ks:List Sn):Prop:=∀(S:Nat→Prop) (a:Option Addr) (c:Nat) (w:World) (n:Int),SnSl w S a ks.length ks→-1000≤n→n≤1000 →
 Calls Tryz.prog 8 #[.slice a ks.length c,.int .i64 n] w fun e w'=>e=.returned (.int .i64 (Sn.leftL ks n))∧Below w.heap.size w w'
theorem xx (ks:List Sn) (hmem:Sn.memL ks) (hkl:ks.length≤maxLen) (IH0:∀y∈ks,LsC y.kids):LsC ks:=by
 intro S a c w n hx hn0 hn1;obtain⟨R,hR⟩:∃R,Sn.leftL ks n=R:=⟨_,rfl⟩;have HRR:Hid (Sn.leftL (ks.drop 0) n=R):=ab hR;rw [hR];have HX:=ab hx;have HM:=ab (fun y hy=>xH (x:=y) hmem hy);have IH:=ab IH0;unfold maxLen at hkl;clear hx hmem IH0 hR;go_enter Tryz.func8,Tryz.ntmps8
 go_wp2
 go_loopw [1,5] (fun s q wr=>SlRel ks R w s q wr) (fun _ q _=>ks.length-(intOf q).toNat)
 case atStart=>exact⟨0,n,by omega,rfl,rfl,hn0,hn1,Below.refl _ _,HRR⟩
 case round =>
  obtain⟨i,m,hi,rfl,rfl,hm0,hm1,hb,HF⟩:=hrel;clear HRR;have hB:=hb.size;cases hd:ks.drop i with
  | nil =>
   have h2:ks.length≤i:=gX;have HE:Hid (m=R):=ab ic;clear hd HF;go_wp2
   go_ret
   exact⟨mX HE.out,hb⟩
  | cons y r =>
   obtain⟨h2,h3,hr⟩:=kV hd;by_cases hneg:m<0
   ·have HE:Hid (m=R):=ab (by rw [←HF.out,hd];simp only [Sn.leftL];rw [Hu hneg])
    have gn:decide (0≤m)=false:=Ix gj;clear hd HF hr h3;go_wp2
    go_ret
    exact⟨mX HE.out,hb⟩
   ·have hym:=In h3
    have hmy:=HM.out y hym;have hih:=IH.out y hym;have gn:decide (0≤m)=true:=Iw gj;obtain⟨yk,yt,yn,yh,yu,yf,yo,ys⟩:=y;have HF2:Hid (Sn.leftL (ks.drop (i+1)) ((Sn.mk yk yt yn yh yu yf yo ys).left m)=R):=ab (by rw [hr,←HF.out,hd];simp only [Sn.leftL];rw [Hx hneg]);simp only [Sn.mem] at hmy;obtain⟨m1,m2,m3,m4,m5,m6⟩:=hmy;unfold maxLen at m1 m3 m4 m5;obtain⟨b,o,cc,rfl,hS,hbB,hyv,hcc⟩:=(HX.out.later hb).at_ h3;obtain⟨fc,oa,oc,ka,kc,hA⟩:=hyv.at_;have k1:wr.cell? ⟨b,o+i*18+1,none⟩=some (.string ⟨yt.toArray⟩):=by rw [IJ];exact hcc 1 _ hA.c1
    have k16:wr.cell? ⟨b,o+i*18+16,none⟩=some (.slice oa yo.length oc):=by rw [IJ];exact hcc 16 _ hA.c16
    have k17:wr.cell? ⟨b,o+i*18+17,none⟩=some (.slice ka ys.length kc):=by rw [IJ];exact hcc 17 _ hA.c17
    have kf:∀(j:Nat) v,fc[j]?=some v→wr.cell? ⟨b,o+i*18+(5+j),none⟩=some v:=fun j v h=>by rw [IJ];exact hcc (5+j) _ (hA.cf j v h)
    by_cases hout:m≤yt.length∨m≤yo.length
    ·have HE:Hid (R=-1):=ab (by
      rw [←HF2.out,show (Sn.mk yk yt yn yh yu yf yo ys).left m=-1 by simp only [Sn.left];rw [Hu hout]];exact sJ _ _ gj)
     clear hd HF HF2 hr h3 hyv hcc hA kf hih m2 m4 m6 hym;exact eD
    ·have ht1:(yt.length:Int)<m:=gj
     have ho1:(yo.length:Int)<m:=gj;have hfb:=BZ yf (m-1-yt.length) gj gj;have HFM0:=ab (fun(x:ExtOf wr)=>BA S yf m2 fc x.val (m-1-yt.length) (hA.fv.keep (Kept.all x.ext)) gj gj);obtain⟨m2',hm2'⟩:∃m2',vY yf (m-1-yt.length)=m2':=⟨_,rfl⟩;rw [hm2'] at HFM0 hfb;obtain⟨f0,f1⟩:=hfb;obtain⟨R2,hR2⟩:∃R2,rL yo m2'=R2:=⟨_,rfl⟩;have HO0:Hid (rL (yo.drop 0) m2'=R2):=ab hR2;have HF3:Hid (Sn.leftL (ks.drop (i+1)) (finO ys R2)=R):=ab (by
      rw [←HF2.out];congr 1;simp only [Sn.left];rw [Hx hout,hm2',hR2];cases R2<;>rfl)
     have HKC:=ab (fun(w':World) (hb':Below wr.heap.size wr w') (m3:Int)=>hih S ka kc w' m3 (hA.kv.later hb'));have HOV:=ab hA.ov;have HM4:=ab m4;have K1:=ab k1;have K16:=ab k16;have K17:=ab k17;obtain⟨rk,rch,rng,rrs,rlo,rhi,rlz,rks,ra,rcp,rka,rkc,fa,fcp,hc⟩:=hA.fv.open_;have hfce:fc=[.int .i64 rk,.string ⟨rch.toArray⟩,.bool rng,.slice ra rrs.length rcp,.int .i64 rlo,.int .i64 rhi,.bool rlz,.slice rka rks.length rkc,.slice fa yf.fs.length fcp,.bool yf.fold,.bool yf.all]:=hc.eq;have HFM:=HFM0;rw [hfce] at HFM kf;have x1:∀x:ExtOf wr,x.val.cell? ⟨b,o+i*18+1,none⟩=some (.string ⟨yt.toArray⟩):=ExtOf.cell k1;have x5:∀x:ExtOf wr,x.val.cell? ⟨b,o+i*18+5,none⟩=some (.int .i64 rk):=ExtOf.cell (kf 0 _ rfl);have x6:∀x:ExtOf wr,x.val.cell? ⟨b,o+i*18+6,none⟩=some (.string ⟨rch.toArray⟩):=ExtOf.cell (kf 1 _ rfl);have x7:∀x:ExtOf wr,x.val.cell? ⟨b,o+i*18+7,none⟩=some (.bool rng):=ExtOf.cell (kf 2 _ rfl);have x8:∀x:ExtOf wr,x.val.cell? ⟨b,o+i*18+8,none⟩=some (.slice ra rrs.length rcp):=ExtOf.cell (kf 3 _ rfl);have x9:∀x:ExtOf wr,x.val.cell? ⟨b,o+i*18+9,none⟩=some (.int .i64 rlo):=ExtOf.cell (kf 4 _ rfl);have x10:∀x:ExtOf wr,x.val.cell? ⟨b,o+i*18+10,none⟩=some (.int .i64 rhi):=ExtOf.cell (kf 5 _ rfl);have x11:∀x:ExtOf wr,x.val.cell? ⟨b,o+i*18+11,none⟩=some (.bool rlz):=ExtOf.cell (kf 6 _ rfl);have x12:∀x:ExtOf wr,x.val.cell? ⟨b,o+i*18+12,none⟩=some (.slice rka rks.length rkc):=ExtOf.cell (kf 7 _ rfl);have x13:∀x:ExtOf wr,x.val.cell? ⟨b,o+i*18+13,none⟩=some (.slice fa yf.fs.length fcp):=ExtOf.cell (kf 8 _ rfl);have x14:∀x:ExtOf wr,x.val.cell? ⟨b,o+i*18+14,none⟩=some (.bool yf.fold):=ExtOf.cell (kf 9 _ rfl);have x15:∀x:ExtOf wr,x.val.cell? ⟨b,o+i*18+15,none⟩=some (.bool yf.all):=ExtOf.cell (kf 10 _ rfl);have hy2:(yo.length:Int)≤2000:=gj;clear hd HF HF2 hr h3 hyv hcc hA kf hih m2 m4 m6 hym hout hc hfce HFM0 hm2' hR2;go_upto_region 6 with fail
     refine kE gC gC ?_;repeat (go_big_quiet_step ((go_at_call 19;exact lA (HFM.out _))))
     refine wpQuiet_nil ?_;rintro _ ⟨xq,rfl⟩;clear x1 x5 x6 x7 x8 x9 x10 x11 x12 x13 x14 x15;have hb6:=xq.ext;generalize xq.val=w6 at *
     have hB6:=hb6.size;have hbw6:=hb.trans (hb6.mono hB);have k16:=lp hb6 _ _ K16.out;have k17:=lp hb6 _ _ K17.out;have K16':=ab k16;have K17':=ab k17;clear K1 K16 K17;obtain⟨wo,rfl⟩:∃wo:World,wo=wr:=⟨_,rfl⟩;go_wp2
     go_loopw [1,6] (fun s q wk=>SoLRel yo R2 w6 s q wk) (fun _ q _=>yo.length-(intOf q).toNat)
     case atStart=>exact⟨0,m2',by omega,rfl,rfl,f0,f1,Below.refl _ _,HO0⟩
     case round =>
      obtain⟨j,m3,hj,rfl,rfl,g0,g1,hbj,HG⟩:=hrel;clear HO0 k16 k17;have hBj:=hbj.size;have k16:=lp hbj _ _ K16'.out;have k17:=lp hbj _ _ K17'.out;have hbwj:=hbw6.trans (hbj.mono hbw6.size);cases hd2:yo.drop j with
      | nil =>
       have h4:yo.length≤j:=by simpa using hd2
       have HE2:Hid (R2=some m3):=ab (by rw [←HG.out,hd2];rfl);clear hd2 HG;by_cases hneg3:m3<0
       ·have HEQ:Hid (Sn.leftL (ks.drop (i+1)) m3=R):=ab (by
         have h:=HF3.out;rw [HE2.out,show finO ys (some m3)=m3 by simp only [finO];rw [Hu hneg3]] at h;exact h)
        have gm:decide (0≤m3)=false:=Ix gj;clear hneg3;go_wp2
        exact⟨⟨i+1,m3,by omega,by go_num,rfl,g0,g1,hbwj,HEQ⟩,by simp [intOf];omega⟩
       ·have HEQ:Hid (Sn.leftL (ks.drop (i+1)) (Sn.leftL ys m3)=R):=ab (by
         have h:=HF3.out;rw [HE2.out,show finO ys (some m3)=Sn.leftL ys m3 by simp only [finO];rw [Hx hneg3]] at h;exact h)
        have gm:decide (0≤m3)=true:=Iw gj;have hlb:=CY ys m3 g0 g1;have HC:=ab (HKC.out wr (hb6.trans (hbj.mono hB6)) m3 g0 g1);clear hneg3;go_wp2_with (go_at_call 8;refine HC.out.mono ?_)
        first|rintro e w2 rfl hb2|rintro e w2 ⟨rfl,hb2⟩
        go_wp2
        exact⟨⟨i+1,_,by omega,by go_num,rfl,hlb.1,hlb.2,hbwj.trans (hb2.mono hbwj.size),HEQ⟩,by simp [intOf];omega⟩
      | cons s r2 =>
       obtain⟨h4,h5,hr2⟩:=kV hd2;have hsl:=HM4.out s (In h5);obtain⟨ob,oo,rfl,hoB,c0⟩:=(HOV.out.keep (Kept.all (hb6.trans (hbj.mono hB6)))).sl.str h5;have HG2:Hid (rL (s::r2) m3=R2):=ab (by rw [←hd2];exact HG.out);have Hr2:=ab hr2;clear hd2 HG hr2 h5;by_cases hout2:m3≤s.length
       ·have HE:Hid (R=-1):=ab (by
         have h2:R2=none:=by rw [←HG2.out];simp only [rL];rw [Hu hout2]
         rw [←HF3.out,h2];exact sJ _ _ (by simp only [finO];omega))
        have gm:decide (m3≤(s.length:Int))=true:=Iw hout2;clear HG2;go_wp2
        go_ret
        exact⟨mX HE.out.symm,hbwj⟩
       ·have HG3:Hid (rL (yo.drop (j+1)) (m3-1-s.length)=R2):=ab (by
         rw [Hr2.out,←HG2.out];simp only [rL];rw [Hx hout2])
        have gm:decide (m3≤(s.length:Int))=false:=Ix hout2;have hs3:(s.length:Int)<m3:=gj;clear HG2 hout2;go_wp2
        go_roundw
        case rel=>exact⟨j+1,m3-1-s.length,by omega,by go_num,by go_num,by omega,by omega,hbj,HG3⟩
        case measure=>simp [intOf];omega
theorem mm:∀(N:Nat) (ks:List Sn),Sn.partsL ks<N→Sn.memL ks→ks.length≤maxLen→LsC ks
 | 0,ks,h,_,_=>by omega
 | N+1,ks,h,hm,hkl=>xx ks hm hkl (fun y hy=>by
   have h1:=Sn.parts_mem hy;have h2:=xH hm hy;obtain⟨yk,yt,yn,yh,yu,yf,yo,ys⟩:=y;simp only [Sn.mem] at h2;obtain⟨_,_,_,_,h5,h6⟩:=h2;simp only [Sn.parts] at h1;exact mm N ys gj h6 h5)
namespace Rx
end Rx
theorem CW:∀(rs:List (Str × Str)) (n m:Int),rZ rs n=some m→m=n-rwt rs
 | [],n,m,h=>by simp only [rZ] at h;injection h with h;subst h;simp [rwt]
 | r::rs,n,m,h=>by
  simp only [rZ] at h;split at h
  ·cases h
  ·have:=CW rs _ m h
   simp only [rwt];omega
theorem Gi:∀(N:Nat) (x:Rx) (n:Int),x.parts≤N→0≤x.left n→x.left n=n-x.wt
 | 0,x,_,h,_=>by have:=Rx.parts_pos x;omega
 | N+1,.mk k c ng rs lo hi lz ks,n,h,h0=>by
  simp only [Rx.parts] at h;have hk:∀(l:List Rx) (m:Int),Rx.partsL l≤N→0≤Rx.leftK l m→Rx.leftK l m=m-Rx.wtL l:=by
   intro l;induction l with
   | nil=>intro m _ _;simp [Rx.leftK,Rx.wtL]
   | cons x r ih =>
    intro m hm a;simp only [Rx.partsL] at hm;simp only [Rx.leftK] at a ⊢;split at a
    ·omega
    ·rename_i hneg
     rw [Hx hneg];have h1:=ih _ gj a;by_cases hx:0≤x.left m
     ·have:=Gi N x m gj hx
      simp only [Rx.wtL];omega
     ·exfalso
      cases r with
      | nil=>simp only [Rx.leftK] at a;omega
      | cons y r =>
       simp only [Rx.leftK] at a;rw [Hu gj] at a;omega
  simp only [Rx.left] at h0 ⊢;split at h0
  ·omega
  ·rename_i hc
   rw [Hx hc];split at h0
   ·omega
   ·rename_i m hm
    have h2:=CW rs _ m hm;have h3:=hk ks m gj h0;simp only [Rx.wt];show Rx.leftK ks m=_
    omega
namespace Sn
end Sn
theorem BY:∀(fs:List Fm) (m:Int),0≤pT fs m→pT fs m=m-fwt fs
 | [],m,_=>by simp [pT,fwt]
 | f::r,m,h=>by
  simp only [pT] at h ⊢;split at h
  ·omega
  ·rename_i hc
   rw [Hx hc];have:=BY r _ h
   simp only [fwt];omega
theorem formL_eq (f:Tf) (n:Int) (h:0≤vY f n):vY f n=n-BR f:=by
 unfold vY at h ⊢;split at h
 ·omega
 ·rename_i hc
  rw [Hx hc];have h1:=Gi _ f.rx n (Ia _) gj;have h2:=BY _ _ h;unfold BR;omega
theorem CI:∀(o:List Str) (n m:Int),rL o n=some m→m=n-owt o
 | [],n,m,h=>by simp only [rL] at h;injection h with h;subst h;simp [owt]
 | s::r,n,m,h=>by
  simp only [rL] at h;split at h
  ·cases h
  ·have:=CI r _ m h
   simp only [owt];omega
theorem Db:∀(N:Nat) (x:Sn) (n:Int),x.parts≤N→0≤x.left n→x.left n=n-x.wt
 | 0,x,_,h,_=>by have:=Sn.parts_pos x;omega
 | N+1,.mk k t n0 hh u f o ks,n,h,h0=>by
  simp only [Sn.parts] at h;have hk:∀(l:List Sn) (m:Int),Sn.partsL l≤N→0≤Sn.leftL l m→Sn.leftL l m=m-Sn.wtL l:=by
   intro l;induction l with
   | nil=>intro m _ _;simp [Sn.leftL,Sn.wtL]
   | cons x r ih =>
    intro m hm a;simp only [Sn.partsL] at hm;simp only [Sn.leftL] at a ⊢;split at a
    ·omega
    ·rename_i hneg
     rw [Hx hneg];have h1:=ih _ gj a;by_cases hx:0≤x.left m
     ·have:=Db N x m gj hx
      simp only [Sn.wtL];omega
     ·exfalso
      rw [sJ _ _ gj] at a;omega
  simp only [Sn.left] at h0 ⊢;split at h0
  ·omega
  ·rename_i hc
   rw [Hx hc];split at h0
   ·omega
   ·rename_i m hm
    split at h0
    ·omega
    ·rename_i hneg
     have h2:=CI o _ m hm;have h4:=formL_eq f (n-1-t.length) gj;have h3:=hk ks m gj h0;show (if m<0 then m else Sn.leftL ks m)=_
     rw [Hx hneg,h3];simp only [Sn.wt];omega
theorem pK (l:List Sn) (m:Int) (a:0≤Sn.leftL l m):Sn.leftL l m=m-Sn.wtL l:=by
 induction l generalizing m with
 | nil=>simp [Sn.leftL,Sn.wtL]
 | cons x r ih =>
  simp only [Sn.leftL] at a ⊢;split at a
  ·omega
  ·rename_i hneg
   rw [Hx hneg];have h1:=ih _ a;by_cases hx:0≤x.left m
   ·have:=Db _ x m (Ia _) hx
    simp only [Sn.wtL];omega
   ·exfalso
    rw [sJ _ _ gj] at a;omega
mutual
theorem FX:∀x:Sn,x.wt≤1000000→x.small
 | .mk k t n h u f o ks,hw=>by
  simp only [Sn.wt] at hw;have h1:=(AQ (o:=o)).1;have h2:=Sn.len_parts ks;have h3:=mN ks;exact⟨wj gj,by omega,by omega,by omega,m7 ks gj⟩
theorem m7:∀l:List Sn,Sn.wtL l≤1000000→Sn.smallL l
 | [],_=>trivial
 | x::r,hw=>by
  simp only [Sn.wtL] at hw;exact⟨FX x gj,m7 r gj⟩
end
theorem Di {x:Sn} (h:l6 x=true):0≤x.n∧x.n≤9999:=by
 unfold l6 r7 at h;split at h
 ·exact dc
 split at h
 ·exact dc
 split at h
 ·exact dc
 split at h
 ·exact dc
 ·cases h
theorem AC:∀o:List Str,pb o≤2*owt o
 | []=>by simp [pb,owt]
 | a::l=>by have:=AC l;simp only [pb,owt];omega
mutual
theorem Hb:∀x:Sn,x.wf=true→x.tell.length≤40*x.wt
 | .mk k t n h u f o ks,hw=>by
  rw [Sn.wf,Ie] at hw;have hwl:Sn.wfL ks=true:=by
   exact dq
  have h1:=no ks hwl;obtain⟨f1,f2⟩:=zC (vi hw.1);obtain⟨n0,n1⟩:=Di hw.1;have h3:=qL n0 n1;have h4:=nj three t;have h5:=vR o;have h6:=AC o;have h7:=zm f;have f1':f.rx.tell.length≤15*f.rx.wt:=f1;have f2':(mt f.fs).length≤22*fwt f.fs:=f2;have h3':(dec n).length≤4:=h3.2;have h8:(qg k t n).length≤t.length+4:=by unfold qg;split<;>omega
  have h9:(qK f).length≤5+15*f.rx.wt+22*fwt f.fs:=by unfold qK;simp;omega
  simp only [Sn.tell,Sn.wt];unfold BR;split
  ·omega
  ·split
   ·simp;omega
   ·have h10:((if h=true then 58::Sn.tellL ks else []):Str).length≤1+40*Sn.wtL ks:=by split<;>simp;omega
    have h11:((if u=true then qK f else []):Str).length≤5+15*f.rx.wt+22*fwt f.fs:=by
     split
     ·exact h9
     ·simp
    simp only [H7,Ig,IE];omega
theorem no:∀l:List Sn,Sn.wfL l=true→(Sn.tellL l).length≤40*Sn.wtL l
 | [],_=>by simp [Sn.tellL]
 | x::r,hw=>by
  simp only [Sn.wfL,Ie] at hw;have h1:=Hb x hw.1;have h2:=no r hw.2;simp only [Sn.tellL,Sn.wtL,Ig];omega
end
open Go.RowKit
theorem rp {l:List Sn} (h:oB l=true):Sn.wfL l=true:=by
 unfold oB at h;rw [Ie,Ie] at h;exact h.1.2
end Go.Proofs.YtdcnncgpomcaaaaGreatDoor
